/- Whatever text of single bytes, whatever another hand puts into it while it is taken away: that stays; taken back the text is around it again. -/
import Derived.Test.YtidbfmbocikkgaaGreatFunWholeInside
namespace Go.Pal
open Go
set_option linter.unusedVariables false
set_option linter.unusedSimpArgs false
set_option linter.unnecessarySimpa false
theorem w64 {n:Int} (h1 : -9223372036854775808≤n) (h2:n<9223372036854775808):IntKind.wrap .i64 n=n:=by
 simp only [IntKind.wrap,IntKind.bits,IntKind.signed]
 simp
 omega
theorem drop_cons {α:Type} {l:List α} {j:Nat} {g:α} {r:List α} (h:l.drop j=g :: r) (d:α):j<l.length∧l.getD j d=g∧l.drop (j+1)=r:=by
 have hj:j<l.length:=by
  rcases Nat.lt_or_ge j l.length with h' | h'
  ·exact h'
  ·rw [List.drop_eq_nil_of_le h'] at h; cases h
 rw [List.drop_eq_getElem_cons hj] at h
 obtain ⟨h1,h2⟩:=List.cons.inj h
 exact ⟨hj,by simp [List.getD,hj,h1],h2⟩
theorem drop_nil {α:Type} {l:List α} {j:Nat} (h:l.drop j=[]):l.length≤j:=List.drop_eq_nil_iff.1 h
theorem byte_all {P:Int→Prop} (h:∀ m:Fin 256,P ((m.val:Nat):Int)) {c:Int} (h0:0≤c) (h1:c≤255):P c:=by
 have:=h ⟨c.toNat,by omega⟩
 simpa [Int.toNat_of_nonneg h0] using this
theorem bt_ok {s:ByteArray} {i:Int}:0≤bt s i∧bt s i≤255:=by
 unfold bt
 have:=(s[i.toNat]?.getD 0).toNat_lt
 omega
def cont (b:Int):Prop:=128≤b∧b<192
instance (b:Int):Decidable (cont b):=inferInstanceAs (Decidable (_∧_))
theorem and_192 {b:Int} (h0:0≤b) (h1:b≤255):(IntKind.wrap .u8 (BitVec.toNat (BitVec.ofInt (IntKind.bits .u8) b&&& BitVec.ofInt (IntKind.bits .u8) (192:Int))) !=(128:Int)) = !decide (cont b):=
 byte_all (P:=fun b=>(IntKind.wrap .u8 (BitVec.toNat (BitVec.ofInt (IntKind.bits .u8) b&&& BitVec.ofInt (IntKind.bits .u8) (192:Int))) !=(128:Int)) = !decide (cont b)) (by decide +kernel) h0 h1
theorem not_192 {b:Int} (h0:0≤b) (h1:b≤255):IntKind.wrap .u8 (BitVec.toNat (BitVec.ofInt (IntKind.bits .u8) b&&& ~~~BitVec.ofInt (IntKind.bits .u8) (192:Int)))=b % 64:=
 byte_all (P:=fun b=>IntKind.wrap .u8 (BitVec.toNat (BitVec.ofInt (IntKind.bits .u8) b&&& ~~~BitVec.ofInt (IntKind.bits .u8) (192:Int)))=b % 64) (by decide +kernel) h0 h1
theorem not_128 {b:Int} (h0:0≤b) (h1:b≤255):IntKind.wrap .u8 (BitVec.toNat (BitVec.ofInt (IntKind.bits .u8) b&&& ~~~BitVec.ofInt (IntKind.bits .u8) (128:Int)))=b % 128:=
 byte_all (P:=fun b=>IntKind.wrap .u8 (BitVec.toNat (BitVec.ofInt (IntKind.bits .u8) b&&& ~~~BitVec.ofInt (IntKind.bits .u8) (128:Int)))=b % 128) (by decide +kernel) h0 h1
theorem not_224 {b:Int} (h0:0≤b) (h1:b≤255):IntKind.wrap .u8 (BitVec.toNat (BitVec.ofInt (IntKind.bits .u8) b&&& ~~~BitVec.ofInt (IntKind.bits .u8) (224:Int)))=b % 32:=
 byte_all (P:=fun b=>IntKind.wrap .u8 (BitVec.toNat (BitVec.ofInt (IntKind.bits .u8) b&&& ~~~BitVec.ofInt (IntKind.bits .u8) (224:Int)))=b % 32) (by decide +kernel) h0 h1
theorem not_240 {b:Int} (h0:0≤b) (h1:b≤255):IntKind.wrap .u8 (BitVec.toNat (BitVec.ofInt (IntKind.bits .u8) b&&& ~~~BitVec.ofInt (IntKind.bits .u8) (240:Int)))=b % 16:=
 byte_all (P:=fun b=>IntKind.wrap .u8 (BitVec.toNat (BitVec.ofInt (IntKind.bits .u8) b&&& ~~~BitVec.ofInt (IntKind.bits .u8) (240:Int)))=b % 16) (by decide +kernel) h0 h1
theorem not_248 {b:Int} (h0:0≤b) (h1:b≤255):IntKind.wrap .u8 (BitVec.toNat (BitVec.ofInt (IntKind.bits .u8) b&&& ~~~BitVec.ofInt (IntKind.bits .u8) (248:Int)))=b % 8:=
 byte_all (P:=fun b=>IntKind.wrap .u8 (BitVec.toNat (BitVec.ofInt (IntKind.bits .u8) b&&& ~~~BitVec.ofInt (IntKind.bits .u8) (248:Int)))=b % 8) (by decide +kernel) h0 h1
theorem is_128 {b:Int} (h0:0≤b) (h1:b≤255):(IntKind.wrap .u8 (BitVec.toNat (BitVec.ofInt (IntKind.bits .u8) b&&& BitVec.ofInt (IntKind.bits .u8) (128:Int)))==(0:Int))=decide (b<128):=
 byte_all (P:=fun b=>(IntKind.wrap .u8 (BitVec.toNat (BitVec.ofInt (IntKind.bits .u8) b&&& BitVec.ofInt (IntKind.bits .u8) (128:Int)))==(0:Int))=decide (b<128)) (by decide +kernel) h0 h1
theorem is_224 {b:Int} (h0:0≤b) (h1:b≤255):(IntKind.wrap .u8 (BitVec.toNat (BitVec.ofInt (IntKind.bits .u8) b&&& BitVec.ofInt (IntKind.bits .u8) (224:Int)))==(192:Int))=decide (192≤b∧b<224):=
 byte_all (P:=fun b=>(IntKind.wrap .u8 (BitVec.toNat (BitVec.ofInt (IntKind.bits .u8) b&&& BitVec.ofInt (IntKind.bits .u8) (224:Int)))==(192:Int))=decide (192≤b∧b<224)) (by decide +kernel) h0 h1
theorem is_240 {b:Int} (h0:0≤b) (h1:b≤255):(IntKind.wrap .u8 (BitVec.toNat (BitVec.ofInt (IntKind.bits .u8) b&&& BitVec.ofInt (IntKind.bits .u8) (240:Int)))==(224:Int))=decide (224≤b∧b<240):=
 byte_all (P:=fun b=>(IntKind.wrap .u8 (BitVec.toNat (BitVec.ofInt (IntKind.bits .u8) b&&& BitVec.ofInt (IntKind.bits .u8) (240:Int)))==(224:Int))=decide (224≤b∧b<240)) (by decide +kernel) h0 h1
theorem is_248 {b:Int} (h0:0≤b) (h1:b≤255):(IntKind.wrap .u8 (BitVec.toNat (BitVec.ofInt (IntKind.bits .u8) b&&& BitVec.ofInt (IntKind.bits .u8) (248:Int)))==(240:Int))=decide (240≤b∧b<248):=
 byte_all (P:=fun b=>(IntKind.wrap .u8 (BitVec.toNat (BitVec.ofInt (IntKind.bits .u8) b&&& BitVec.ofInt (IntKind.bits .u8) (248:Int)))==(240:Int))=decide (240≤b∧b<248)) (by decide +kernel) h0 h1
theorem or_lo {r x:Nat} (hx:x<64):(r * 64)||| x=r * 64+x:=by
 have:=Nat.two_pow_add_eq_or_of_lt (i:=6) hx r
 rw [Nat.mul_comm] at this
 exact this.symm
theorem w32 {n:Int} (h1 : -2147483648≤n) (h2:n<2147483648):IntKind.wrap .i32 n=n:=by
 simp only [IntKind.wrap,IntKind.bits,IntKind.signed]
 simp
 omega
theorem or_32 {r x:Int} (h0:0≤r) (h1:r<1048576) (h2:0≤x) (h3:x<64):IntKind.wrap .i32 (BitVec.toNat (BitVec.ofInt (IntKind.bits .i32) (IntKind.wrap .i32 (r * (64:Int)))||| BitVec.ofInt (IntKind.bits .i32) (IntKind.wrap .i32 x)))=r * 64+x:=by
 rw [w32 (n:=r * 64) (by omega) (by omega),w32 (n:=x) (by omega) (by omega)]
 obtain ⟨a,rfl⟩:∃ a:Nat,r=a:=⟨r.toNat,by omega⟩
 obtain ⟨b,rfl⟩:∃ b:Nat,x=b:=⟨x.toNat,by omega⟩
 have e1:(BitVec.ofInt (IntKind.bits .i32) ((a:Int) * 64)||| BitVec.ofInt (IntKind.bits .i32) (b:Int)).toNat=a * 64+b:=by
  rw [BitVec.toNat_or,BitVec.toNat_ofInt,BitVec.toNat_ofInt]
  have h4:((a:Int) * 64 % ((2 ^ IntKind.bits .i32:Nat):Int)).toNat=a * 64:=by
   have:IntKind.bits .i32=32:=rfl
   rw [this]; omega
  have h5:((b:Int) % ((2 ^ IntKind.bits .i32:Nat):Int)).toNat=b:=by
   have:IntKind.bits .i32=32:=rfl
   rw [this]; omega
  rw [h4,h5,or_lo (by omega)]
 rw [e1,w32 (by omega) (by omega)]
 omega
def uszB (n c d e f:Int):Int:=
 if c<128 then 1
 else if 192≤c∧c<224 then (if 2≤n∧cont d∧128≤c % 32 * 64+d % 64 then 2 else 0)
 else if 224≤c∧c<240 then (if 3≤n∧cont d∧cont e∧2048≤(c % 16 * 64+d % 64) * 64+e % 64∧¬ (55296≤(c % 16 * 64+d % 64) * 64+e % 64∧(c % 16 * 64+d % 64) * 64+e % 64<57344) then 3 else 0)
 else if 240≤c∧c<248 then (if 4≤n∧cont d∧cont e∧cont f∧65536≤((c % 8 * 64+d % 64) * 64+e % 64) * 64+f % 64∧((c % 8 * 64+d % 64) * 64+e % 64) * 64+f % 64≤1114111 then 4 else 0)
 else 0
theorem long_end {K:Nat} {s:ByteArray} {a:Int} {n r i:Int} {k:Nat} (h:¬ i<n):utf_long.l0 K n a s (k+1) r i=some (.inr r):=by
 rw [utf_long.l0,if_neg (by simpa using h)]
theorem long_bad {K:Nat} {s:ByteArray} {a:Int} (h0:0≤a) (hs:(s.size:Int)≤1000000000000) {n r i:Int} {k:Nat} (h:i<n) (hi:0≤i) (hr:a+i<s.size) (hc:¬ cont (bt s (a+i))):utf_long.l0 K n a s (k+1) r i=some (.inl (0,0)):=by
 rw [utf_long.l0,w64 (n:=a+i) (by omega) (by omega),if_pos (by simpa using h),if_pos ⟨by omega,by omega⟩,and_192 bt_ok.1 bt_ok.2,if_pos (by simpa using hc)]
theorem long_go {K:Nat} {s:ByteArray} {a:Int} (h0:0≤a) (hs:(s.size:Int)≤1000000000000) {n r i:Int} {k:Nat} (h:i<n) (hi:0≤i) (hr:a+i<s.size) (hc:cont (bt s (a+i))) (r0:0≤r) (r1:r<1048576):utf_long.l0 K n a s (k+1) r i=utf_long.l0 K n a s k (r * 64+bt s (a+i) % 64) (i+1):=by
 have hb:=bt_ok (s:=s) (i:=a+i)
 rw [utf_long.l0,w64 (n:=a+i) (by omega) (by omega),if_pos (by simpa using h),if_pos ⟨by omega,by omega⟩,and_192 hb.1 hb.2,if_neg (by simpa using hc),not_192 hb.1 hb.2,or_32 r0 r1 (by omega) (by omega),w64 (n:=i+1) (by omega) (by omega)]
def usz (s:ByteArray) (a:Int):Int:=if a<0∨a≥s.size then 0 else uszB (s.size - a) (bt s a) (bt s (a+1)) (bt s (a+2)) (bt s (a+3))
theorem uszB_ok {n c d e f:Int} (hn:1≤n):0≤uszB n c d e f∧uszB n c d e f≤4∧uszB n c d e f≤n:=by
 unfold uszB
 split
 ·omega
 ·split
  ·split <;> omega
  ·split
   ·split <;> omega
   ·split
    ·split <;> omega
    ·omega
theorem usz_ok {s:ByteArray} {a:Int}:0≤usz s a∧usz s a≤4∧(0≤a→a<s.size→a+usz s a≤s.size):=by
 unfold usz
 split
 ·rename_i h; exact ⟨by omega,by omega,fun h1 h2=>by omega⟩
 ·have:=uszB_ok (n:=s.size - a) (c:=bt s a) (d:=bt s (a+1)) (e:=bt s (a+2)) (f:=bt s (a+3)) (by omega)
  exact ⟨by omega,by omega,fun h1 h2=>by omega⟩
theorem point_is {K:Nat} {r:Int} (h0:0≤r):utf_isPoint K r=some (decide (r≤1114111∧¬ (55296≤r∧r<57344))):=by
 unfold utf_isPoint
 rw [if_pos (by simpa using h0)]
 by_cases h1:r≤1114111
 ·rw [if_pos (by simpa using h1)]
  by_cases h2:r<55296
  ·rw [if_pos (by simpa using h2)]
   congr 1; symm; simp; omega
  ·rw [if_neg (by simpa using h2)]
   congr 1
   by_cases h3:r > 57343
   ·simp [h3]; omega
   ·simp [h3]; omega
 ·rw [if_neg (by simpa using h1)]
  congr 1; symm; simp; omega
def tell (n v least:Int):Int×Int:=if least≤v∧v≤1114111∧¬ (55296≤v∧v<57344) then (v,n) else (0,0)
theorem long_tell {K:Nat} {n v least:Int} (h0:0≤v):((if decide (v<least)=true then some true else (utf_isPoint K v).bind fun r_28=>some (!r_28)).bind fun z_39=>if z_39=true then some ((0:Int),(0:Int)) else some (v,n))=some (tell n v least):=by
 unfold tell
 rw [point_is h0]
 by_cases h1:v<least
 ·rw [if_pos (by simpa using h1),Option.bind_some,if_pos rfl,if_neg (by omega)]
 ·rw [if_neg (by simpa using h1),Option.bind_some,Option.bind_some]
  by_cases h2:v≤1114111∧¬ (55296≤v∧v<57344)
  ·rw [if_neg (by simp; omega),if_pos (by omega)]
  ·rw [if_pos (by simp; omega),if_neg (by omega)]
theorem long1_is {K:Nat} {s:ByteArray} {a:Int} (hK:10≤K) (h0:0≤a) (hs:(s.size:Int)≤1000000000000) (ha:a<s.size) (hc:bt s a<128):utf_long K s a 1 128 0 0=some (bt s a,1):=by
 obtain ⟨k,rfl⟩:∃ k,K=k+5:=⟨K - 5,by omega⟩
 have hb:=bt_ok (s:=s) (i:=a)
 unfold utf_long
 rw [w64 (by omega) (by omega),if_neg (by simp; omega),if_pos ⟨h0,ha⟩,not_128 hb.1 hb.2,w32 (by omega) (by omega),long_end (by omega),Option.bind_some]
 simp only [Sum.elim_inr]
 rw [long_tell (by omega)]
 unfold tell
 rw [if_pos (by omega)]
 congr 2
 omega
theorem long2_is {K:Nat} {s:ByteArray} {a:Int} (hK:10≤K) (h0:0≤a) (hs:(s.size:Int)≤1000000000000) (ha:a<s.size):utf_long K s a 2 224 192 128 =
 some (if 2≤(s.size:Int) - a∧cont (bt s (a+1)) then tell 2 (bt s a % 32 * 64+bt s (a+1) % 64) 128 else (0,0)):=by
 obtain ⟨k,rfl⟩:∃ k,K=k+5:=⟨K - 5,by omega⟩
 have hb:=bt_ok (s:=s) (i:=a)
 have hb1:=bt_ok (s:=s) (i:=a+1)
 unfold utf_long
 rw [w64 (by omega) (by omega)]
 by_cases hn:(s.size:Int) - a<2
 ·rw [if_pos (by simpa using hn),if_neg (by omega)]
 ·rw [if_neg (by simpa using hn),if_pos ⟨h0,ha⟩,not_224 hb.1 hb.2,w32 (by omega) (by omega)]
  by_cases c1:cont (bt s (a+1))
  ·rw [long_go h0 hs (by omega) (by omega) (by omega) c1 (by omega) (by omega),long_end (by omega),Option.bind_some]
   simp only [Sum.elim_inr]
   rw [long_tell (by omega),if_pos ⟨by omega,c1⟩]
  ·rw [long_bad h0 hs (by omega) (by omega) (by omega) c1,Option.bind_some,if_neg (fun h=>c1 h.2)]
   rfl
theorem long3_is {K:Nat} {s:ByteArray} {a:Int} (hK:10≤K) (h0:0≤a) (hs:(s.size:Int)≤1000000000000) (ha:a<s.size):utf_long K s a 3 240 224 2048 =
 some (if 3≤(s.size:Int) - a∧cont (bt s (a+1))∧cont (bt s (a+2)) then tell 3 ((bt s a % 16 * 64+bt s (a+1) % 64) * 64+bt s (a+2) % 64) 2048 else (0,0)):=by
 obtain ⟨k,rfl⟩:∃ k,K=k+5:=⟨K - 5,by omega⟩
 have hb:=bt_ok (s:=s) (i:=a)
 have hb1:=bt_ok (s:=s) (i:=a+1)
 have hb2:=bt_ok (s:=s) (i:=a+2)
 unfold utf_long
 rw [w64 (by omega) (by omega)]
 by_cases hn:(s.size:Int) - a<3
 ·rw [if_pos (by simpa using hn),if_neg (by omega)]
 ·rw [if_neg (by simpa using hn),if_pos ⟨h0,ha⟩,not_240 hb.1 hb.2,w32 (by omega) (by omega)]
  by_cases c1:cont (bt s (a+1))
  ·rw [long_go h0 hs (by omega) (by omega) (by omega) c1 (by omega) (by omega)]
   by_cases c2:cont (bt s (a+2))
   ·rw [show (1:Int)+1=2 from rfl,long_go h0 hs (by omega) (by omega) (by omega) c2 (by omega) (by omega),long_end (by omega),Option.bind_some]
    simp only [Sum.elim_inr]
    rw [long_tell (by omega),if_pos ⟨by omega,c1,c2⟩]
   ·rw [show (1:Int)+1=2 from rfl,long_bad h0 hs (by omega) (by omega) (by omega) c2,Option.bind_some,if_neg (fun h=>c2 h.2.2)]
    rfl
  ·rw [long_bad h0 hs (by omega) (by omega) (by omega) c1,Option.bind_some,if_neg (fun h=>c1 h.2.1)]
   rfl
theorem long4_go {K k:Nat} {s:ByteArray} {a:Int} (h0:0≤a) (hs:(s.size:Int)≤1000000000000) (hn:¬ (s.size:Int) - a<4):utf_long.l0 K 4 a s (k+4) (bt s a % 8) 1 =
 some (if cont (bt s (a+1))∧cont (bt s (a+2))∧cont (bt s (a+3)) then .inr (((bt s a % 8 * 64+bt s (a+1) % 64) * 64+bt s (a+2) % 64) * 64+bt s (a+3) % 64) else .inl (0,0)):=by
 have hb:=bt_ok (s:=s) (i:=a)
 have hb1:=bt_ok (s:=s) (i:=a+1)
 have hb2:=bt_ok (s:=s) (i:=a+2)
 have hb3:=bt_ok (s:=s) (i:=a+3)
 have r1:0≤bt s a % 8∧bt s a % 8<8:=by omega
 have r2:0≤bt s (a+1) % 64∧bt s (a+1) % 64<64:=by omega
 have r3:0≤bt s (a+2) % 64∧bt s (a+2) % 64<64:=by omega
 by_cases c1:cont (bt s (a+1))
 ·have g1:=long_go (K:=K) h0 hs (n:=4) (r:=bt s a % 8) (i:=1) (k:=k+3) (by omega) (by omega) (by omega) c1 (by omega) (by omega)
  rw [g1,show (1:Int)+1=2 from rfl]
  by_cases c2:cont (bt s (a+2))
  ·have g2:=long_go (K:=K) h0 hs (n:=4) (r:=bt s a % 8 * 64+bt s (a+1) % 64) (i:=2) (k:=k+2) (by omega) (by omega) (by omega) c2 (by omega) (by omega)
   rw [g2,show (2:Int)+1=3 from rfl]
   by_cases c3:cont (bt s (a+3))
   ·have g3:=long_go (K:=K) h0 hs (n:=4) (r:=(bt s a % 8 * 64+bt s (a+1) % 64) * 64+bt s (a+2) % 64) (i:=3) (k:=k+1) (by omega) (by omega) (by omega) c3 (by omega) (by omega)
    rw [g3,long_end (by omega),if_pos ⟨c1,c2,c3⟩]
   ·have g3:=long_bad (K:=K) h0 hs (n:=4) (r:=(bt s a % 8 * 64+bt s (a+1) % 64) * 64+bt s (a+2) % 64) (i:=3) (k:=k+1) (by omega) (by omega) (by omega) c3
    rw [g3,if_neg (fun h=>c3 h.2.2)]
  ·have g2:=long_bad (K:=K) h0 hs (n:=4) (r:=bt s a % 8 * 64+bt s (a+1) % 64) (i:=2) (k:=k+2) (by omega) (by omega) (by omega) c2
   rw [g2,if_neg (fun h=>c2 h.2.1)]
 ·have g1:=long_bad (K:=K) h0 hs (n:=4) (r:=bt s a % 8) (i:=1) (k:=k+3) (by omega) (by omega) (by omega) c1
  rw [g1,if_neg (fun h=>c1 h.1)]
theorem long4_is {K:Nat} {s:ByteArray} {a least:Int} (hK:10≤K) (h0:0≤a) (hs:(s.size:Int)≤1000000000000) (ha:a<s.size):utf_long K s a 4 248 240 least =
 some (if 4≤(s.size:Int) - a∧cont (bt s (a+1))∧cont (bt s (a+2))∧cont (bt s (a+3)) then tell 4 (((bt s a % 8 * 64+bt s (a+1) % 64) * 64+bt s (a+2) % 64) * 64+bt s (a+3) % 64) least else (0,0)):=by
 obtain ⟨k,rfl⟩:∃ k,K=k+4:=⟨K - 4,by omega⟩
 have hb:=bt_ok (s:=s) (i:=a)
 have r0:0≤bt s a % 8∧bt s a % 8<8:=by omega
 have r1:0≤bt s (a+1) % 64:=by omega
 have r2:0≤bt s (a+2) % 64:=by omega
 have r3:0≤bt s (a+3) % 64:=by omega
 unfold utf_long
 rw [w64 (n:=(s.size:Int) - a) (by omega) (by omega)]
 by_cases hn:(s.size:Int) - a<4
 ·rw [if_pos (by simpa using hn),if_neg (by omega)]
 ·rw [if_neg (by simpa using hn),if_pos ⟨h0,ha⟩,not_248 hb.1 hb.2,w32 (n:=bt s a % 8) (by omega) (by omega),long4_go h0 hs hn]
  by_cases c:cont (bt s (a+1))∧cont (bt s (a+2))∧cont (bt s (a+3))
  ·rw [if_pos c,Option.bind_some,if_pos ⟨by omega,c⟩]
   simp only [Sum.elim_inr]
   generalize bt s a % 8=x0 at *
   generalize bt s (a+1) % 64=x1 at *
   generalize bt s (a+2) % 64=x2 at *
   generalize bt s (a+3) % 64=x3 at *
   rw [long_tell (by omega)]
  ·rw [if_neg c,Option.bind_some,if_neg (fun h=>c h.2)]
   simp only [Sum.elim_inl]
def upt (s:ByteArray) (a:Int):Int×Int:=
 if a<0∨a≥s.size then (0,0)
 else if bt s a<128 then (bt s a,1)
 else if 192≤bt s a∧bt s a<224 then (if 2≤(s.size:Int) - a∧cont (bt s (a+1)) then tell 2 (bt s a % 32 * 64+bt s (a+1) % 64) 128 else (0,0))
 else if 224≤bt s a∧bt s a<240 then (if 3≤(s.size:Int) - a∧cont (bt s (a+1))∧cont (bt s (a+2)) then tell 3 ((bt s a % 16 * 64+bt s (a+1) % 64) * 64+bt s (a+2) % 64) 2048 else (0,0))
 else if 240≤bt s a∧bt s a<248 then (if 4≤(s.size:Int) - a∧cont (bt s (a+1))∧cont (bt s (a+2))∧cont (bt s (a+3)) then tell 4 (((bt s a % 8 * 64+bt s (a+1) % 64) * 64+bt s (a+2) % 64) * 64+bt s (a+3) % 64) 65536 else (0,0))
 else (0,0)
theorem tell_snd {n v least:Int}:(tell n v least).2=if least≤v∧v≤1114111∧¬ (55296≤v∧v<57344) then n else 0:=by
 unfold tell; split <;> rfl
theorem upt_snd {s:ByteArray} {a:Int}:(upt s a).2=usz s a:=by
 unfold upt usz uszB
 have hb:=bt_ok (s:=s) (i:=a)
 have hb1:=bt_ok (s:=s) (i:=a+1)
 have hb2:=bt_ok (s:=s) (i:=a+2)
 have hb3:=bt_ok (s:=s) (i:=a+3)
 by_cases h:a<0∨a≥s.size
 ·rw [if_pos h,if_pos h]
 ·rw [if_neg h,if_neg h]
  by_cases h1:bt s a<128
  ·rw [if_pos h1,if_pos h1]
  ·rw [if_neg h1,if_neg h1]
   by_cases h2:192≤bt s a∧bt s a<224
   ·rw [if_pos h2,if_pos h2]
    by_cases c:2≤(s.size:Int) - a∧cont (bt s (a+1))
    ·rw [if_pos c,tell_snd]
     congr 1
     apply propext
     constructor
     ·intro h; exact ⟨c.1,c.2,h.1⟩
     ·intro h; exact ⟨h.2.2,by omega,by omega⟩
    ·rw [if_neg c,if_neg (fun h=>c ⟨h.1,h.2.1⟩)]
   ·rw [if_neg h2,if_neg h2]
    by_cases h3:224≤bt s a∧bt s a<240
    ·rw [if_pos h3,if_pos h3]
     by_cases c:3≤(s.size:Int) - a∧cont (bt s (a+1))∧cont (bt s (a+2))
     ·rw [if_pos c,tell_snd]
      congr 1
      apply propext
      constructor
      ·intro h; exact ⟨c.1,c.2.1,c.2.2,h.1,h.2.2⟩
      ·intro h; exact ⟨h.2.2.2.1,by omega,h.2.2.2.2⟩
     ·rw [if_neg c,if_neg (fun h=>c ⟨h.1,h.2.1,h.2.2.1⟩)]
    ·rw [if_neg h3,if_neg h3]
     by_cases h4:240≤bt s a∧bt s a<248
     ·rw [if_pos h4,if_pos h4]
      by_cases c:4≤(s.size:Int) - a∧cont (bt s (a+1))∧cont (bt s (a+2))∧cont (bt s (a+3))
      ·rw [if_pos c,tell_snd]
       congr 1
       apply propext
       constructor
       ·intro h; exact ⟨c.1,c.2.1,c.2.2.1,c.2.2.2,h.1,h.2.1⟩
       ·intro h; exact ⟨h.2.2.2.2.1,h.2.2.2.2.2,by omega⟩
      ·rw [if_neg c,if_neg (fun h=>c ⟨h.1,h.2.1,h.2.2.1,h.2.2.2.1⟩)]
     ·rw [if_neg h4,if_neg h4]
theorem upt_is {K:Nat} {s:ByteArray} {a:Int} (hK:10≤K) (hs:(s.size:Int)≤1000000000000):utf_point K s a=some (upt s a):=by
 obtain ⟨k,hk⟩:∃ k,K=k+5:=⟨K - 5,by omega⟩
 have hb:=bt_ok (s:=s) (i:=a)
 unfold utf_point upt
 by_cases h:a<0∨a≥s.size
 ·have:(if decide (a<0)=true then some true else some (decide (a≥((s.size:Nat):Int))))=some true:=by
   by_cases h1:a<0
   ·rw [if_pos (by simpa using h1)]
   ·rw [if_neg (by simpa using h1)]; simp; omega
  rw [this,Option.bind_some,if_pos rfl,if_pos h]
 ·have:(if decide (a<0)=true then some true else some (decide (a≥((s.size:Nat):Int))))=some false:=by
   rw [if_neg (by simp; omega)]; simp; omega
  rw [this,Option.bind_some,if_neg (by simp),if_neg h]
  unfold utf_forms
  rw [Option.bind_some]
  have hin:0≤a∧a<((s.size:Nat):Int):=⟨by omega,by omega⟩
  have hw0:IntKind.wrap .i64 ((0:Int)+1)=1:=by decide
  have hw1:IntKind.wrap .i64 ((1:Int)+1)=2:=by decide
  have hw2:IntKind.wrap .i64 ((2:Int)+1)=3:=by decide
  have hw3:IntKind.wrap .i64 ((3:Int)+1)=4:=by decide
  rw [hk]
  simp only [utf_point.l0,if_pos hin,hw0,hw1,hw2,hw3]
  simp only [show ((0:Int)).toNat=0 from rfl,show ((1:Int)).toNat=1 from rfl,show ((2:Int)).toNat=2 from rfl,show ((3:Int)).toNat=3 from rfl,List.getD_cons_zero,List.getD_cons_succ,is_128 hb.1 hb.2,is_224 hb.1 hb.2,is_240 hb.1 hb.2,is_248 hb.1 hb.2]
  rw [← hk]
  simp only [decide_eq_true_eq]
  by_cases h1:bt s a<128
  ·rw [if_pos (by omega),if_pos (by omega),if_pos h1,if_pos h1,long1_is hK (by omega) hs (by omega) h1]; rfl
  ·rw [if_pos (by omega),if_pos (by omega),if_neg h1,if_neg h1,if_pos (by omega),if_pos (by omega)]
   by_cases h2:192≤bt s a∧bt s a<224
   ·rw [if_pos h2,if_pos h2,long2_is hK (by omega) hs (by omega)]; rfl
   ·rw [if_neg h2,if_neg h2,if_pos (by omega),if_pos (by omega)]
    by_cases h3:224≤bt s a∧bt s a<240
    ·rw [if_pos h3,if_pos h3,long3_is hK (by omega) hs (by omega)]; rfl
    ·rw [if_neg h3,if_neg h3,if_pos (by omega),if_pos (by omega)]
     by_cases h4:240≤bt s a∧bt s a<248
     ·rw [if_pos h4,if_pos h4,long4_is hK (by omega) hs (by omega)]; rfl
     ·rw [if_neg h4,if_neg h4,if_neg (by omega)]
theorem usize_is {K:Nat} {s:ByteArray} {a:Int} (hK:10≤K) (hs:(s.size:Int)≤1000000000000):utf_Size K s a=some (usz s a):=by
 unfold utf_Size
 rw [upt_is hK hs,Option.bind_some,upt_snd]
def uval (s:ByteArray):Nat→Int→Bool
 | 0,_ => true
 | m+1,a => if a<s.size then (if usz s a=0 then false else uval s m (a+usz s a)) else true
def uvalid (s:ByteArray):Bool:=uval s s.size 0
theorem uvalid_loop {K:Nat} {s:ByteArray} (hK:10≤K) (hs:(s.size:Int)≤1000000000000):∀ (d k m:Nat) (a:Int),0≤a→(s.size:Int) - a≤d→a≤s.size→d<k→d≤m→utf_Valid.l0 K s k a=some (uval s m a):=by
 intro d
 induction d with
 | zero =>
   intro k m a h0 h1 h2 hk hm
   obtain ⟨k,rfl⟩:∃ l,k=l+1:=⟨k - 1,by omega⟩
   rw [utf_Valid.l0,if_neg (by simp; omega)]
   cases m with
   | zero => rfl
   | succ m => rw [uval,if_neg (by omega)]
 | succ d ih =>
   intro k m a h0 h1 h2 hk hm
   obtain ⟨k,rfl⟩:∃ l,k=l+1:=⟨k - 1,by omega⟩
   obtain ⟨m,rfl⟩:∃ l,m=l+1:=⟨m - 1,by omega⟩
   have hu:=usz_ok (s:=s) (a:=a)
   rw [utf_Valid.l0,uval]
   by_cases h:a<s.size
   ·have hu3:=hu.2.2 h0 h
    rw [if_pos (by simpa using h),if_pos h,usize_is hK hs,Option.bind_some]
    by_cases hz:usz s a=0
    ·rw [if_pos (by simpa using hz),if_pos hz]
    ·rw [if_neg (by simpa using hz),if_neg hz,w64 (by omega) (by omega)]
     exact ih k m _ (by omega) (by omega) (by omega) (by omega) (by omega)
   ·rw [if_neg (by simpa using h),if_neg h]
theorem uvalid_is {K:Nat} {s:ByteArray} (hK:s.size+10≤K) (hs:(s.size:Int)≤1000000000000):utf_Valid K s=some (uvalid s):=by
 unfold utf_Valid uvalid
 exact uvalid_loop (by omega) hs s.size K s.size 0 (by omega) (by omega) (by omega) (by omega) (by omega)
theorem bt_get {s:ByteArray} (i:Nat):bt s (i:Int)=((s.get! i).toNat:Int):=by
 unfold bt
 rw [Int.toNat_natCast]
 by_cases h:i<s.size
 ·rw [getElem?_pos s i h,Option.getD_some]
  congr 2
  show s.data[i]=s.data[i]!
  rw [getElem!_pos s.data i h]
 ·rw [getElem?_neg s i h,Option.getD_none]
  show ((0:UInt8).toNat:Int)=((s.data[i]!).toNat:Int)
  rw [getElem!_neg s.data i h]; rfl
theorem enc_size {c:Nat} (hc:c≤1114111∧¬ (55296≤c∧c<57344)):(Utf8.encode (c:Int)).size=if c<128 then 1 else if c<2048 then 2 else if c<65536 then 3 else 4:=by
 have hv:Utf8.valid (c:Int)=true:=by
  unfold Utf8.valid
  simp only [Bool.or_eq_true,Bool.and_eq_true,decide_eq_true_eq]; omega
 unfold Utf8.encode
 simp only [hv,if_true,Int.toNat_natCast]
 by_cases h1:c<128
 ·rw [if_pos h1,if_pos h1]; rfl
 ·rw [if_neg h1,if_neg h1]
  by_cases h2:c<2048
  ·rw [if_pos h2,if_pos h2]; rfl
  ·rw [if_neg h2,if_neg h2]
   by_cases h3:c<65536
   ·rw [if_pos h3,if_pos h3]; rfl
   ·rw [if_neg h3,if_neg h3]; rfl
theorem get_lt {s:ByteArray} {i:Nat}:(s.get! i).toNat<256:=(s.get! i).toNat_lt
def dcd (n t b0 b1 b2 b3:Nat):Nat×Nat:=
 if b0<128 then (b0,1)
 else if b0 / 32==6&&(decide (t+1<n)&&b1 / 64==2) then
  (if b0 % 32 * 64+b1 % 64≥128 then (b0 % 32 * 64+b1 % 64,2) else (65533,1))
 else if b0 / 16==14&&(decide (t+1<n)&&b1 / 64==2)&&(decide (t+2<n)&&b2 / 64==2) then
  (if decide (b0 % 16 * 4096+b1 % 64 * 64+b2 % 64≥2048)&&Utf8.valid (b0 % 16 * 4096+b1 % 64 * 64+b2 % 64:Nat) then (b0 % 16 * 4096+b1 % 64 * 64+b2 % 64,3) else (65533,1))
 else if b0 / 8==30&&(decide (t+1<n)&&b1 / 64==2)&&(decide (t+2<n)&&b2 / 64==2)&&(decide (t+3<n)&&b3 / 64==2) then
  (if decide (b0 % 8 * 262144+b1 % 64 * 4096+b2 % 64 * 64+b3 % 64≥65536)&&Utf8.valid (b0 % 8 * 262144+b1 % 64 * 4096+b2 % 64 * 64+b3 % 64:Nat) then (b0 % 8 * 262144+b1 % 64 * 4096+b2 % 64 * 64+b3 % 64,4) else (65533,1))
 else (65533,1)
theorem dcd_is {s:ByteArray} {t:Nat}:Utf8.decode s t=dcd s.size t (s.get! t).toNat (s.get! (t+1)).toNat (s.get! (t+2)).toNat (s.get! (t+3)).toNat:=rfl
theorem dcd_ok {n t b0 b1 b2 b3:Nat} (ht:t<n) (h0:b0<256) (hz:uszB ((n:Int) - t) b0 b1 b2 b3≠0) :
 ∃ c z:Nat,dcd n t b0 b1 b2 b3=(c,z)∧uszB ((n:Int) - t) b0 b1 b2 b3=z∧(Utf8.encode (c:Int)).size=z∧(c=10↔b0=10):=by
 unfold uszB cont at *
 unfold dcd
 by_cases h1:b0<128
 ·rw [if_pos h1,if_pos (show (b0:Int)<128 by omega)]
  refine ⟨b0,1,rfl,rfl,?_,Iff.rfl⟩
  rw [enc_size (by omega),if_pos h1]
 rw [if_neg (show ¬ (b0:Int)<128 by omega)] at hz ⊢
 rw [if_neg h1]
 by_cases h2:192≤b0∧b0<224
 ·rw [if_pos (show (192:Int)≤b0∧(b0:Int)<224 by omega)] at hz ⊢
  by_cases c:2≤(n:Int) - t∧((128:Int)≤b1∧(b1:Int)<192)∧(128:Int)≤b0 % 32 * 64+b1 % 64
  ·rw [if_pos c,if_pos (by simp; omega),if_pos (by omega)]
   refine ⟨_,2,rfl,rfl,?_,by omega⟩
   rw [enc_size (by omega),if_neg (by omega),if_pos (by omega)]
  ·rw [if_neg c] at hz; exact (hz rfl).elim
 rw [if_neg (show ¬ ((192:Int)≤b0∧(b0:Int)<224) by omega)] at hz ⊢
 rw [if_neg (by simp; omega)]
 by_cases h3:224≤b0∧b0<240
 ·rw [if_pos (show (224:Int)≤b0∧(b0:Int)<240 by omega)] at hz ⊢
  by_cases c:3≤(n:Int) - t∧((128:Int)≤b1∧(b1:Int)<192)∧((128:Int)≤b2∧(b2:Int)<192)∧(2048:Int)≤(b0 % 16 * 64+b1 % 64) * 64+b2 % 64∧¬ ((55296:Int)≤(b0 % 16 * 64+b1 % 64) * 64+b2 % 64∧((b0:Int) % 16 * 64+b1 % 64) * 64+b2 % 64<57344)
  ·have hc:b0 % 16 * 4096+b1 % 64 * 64+b2 % 64≤1114111∧¬ (55296≤b0 % 16 * 4096+b1 % 64 * 64+b2 % 64∧b0 % 16 * 4096+b1 % 64 * 64+b2 % 64<57344):=by omega
   have hv:Utf8.valid ((b0 % 16 * 4096+b1 % 64 * 64+b2 % 64:Nat):Int)=true:=by
    unfold Utf8.valid
    simp only [Bool.or_eq_true,Bool.and_eq_true,decide_eq_true_eq]; omega
   rw [if_pos c,if_pos (by simp; omega),hv,if_pos (by simp; omega)]
   refine ⟨_,3,rfl,rfl,?_,by omega⟩
   rw [enc_size hc,if_neg (by omega),if_neg (by omega),if_pos (by omega)]
  ·rw [if_neg c] at hz; exact (hz rfl).elim
 rw [if_neg (show ¬ ((224:Int)≤b0∧(b0:Int)<240) by omega)] at hz ⊢
 rw [if_neg (by simp; omega)]
 by_cases h4:240≤b0∧b0<248
 ·rw [if_pos (show (240:Int)≤b0∧(b0:Int)<248 by omega)] at hz ⊢
  by_cases c:4≤(n:Int) - t∧((128:Int)≤b1∧(b1:Int)<192)∧((128:Int)≤b2∧(b2:Int)<192)∧((128:Int)≤b3∧(b3:Int)<192)∧(65536:Int)≤((b0 % 8 * 64+b1 % 64) * 64+b2 % 64) * 64+b3 % 64∧(((b0:Int) % 8 * 64+b1 % 64) * 64+b2 % 64) * 64+b3 % 64≤1114111
  ·have hc:b0 % 8 * 262144+b1 % 64 * 4096+b2 % 64 * 64+b3 % 64≤1114111∧¬ (55296≤b0 % 8 * 262144+b1 % 64 * 4096+b2 % 64 * 64+b3 % 64∧b0 % 8 * 262144+b1 % 64 * 4096+b2 % 64 * 64+b3 % 64<57344):=by omega
   have hv:Utf8.valid ((b0 % 8 * 262144+b1 % 64 * 4096+b2 % 64 * 64+b3 % 64:Nat):Int)=true:=by
    unfold Utf8.valid
    simp only [Bool.or_eq_true,Bool.and_eq_true,decide_eq_true_eq]; omega
   rw [if_pos c,if_pos (by simp; omega),hv,if_pos (by simp; omega)]
   refine ⟨_,4,rfl,rfl,?_,by omega⟩
   rw [enc_size hc,if_neg (by omega),if_neg (by omega),if_neg (by omega)]
  ·rw [if_neg c] at hz; exact (hz rfl).elim
 rw [if_neg (show ¬ ((240:Int)≤b0∧(b0:Int)<248) by omega)] at hz
 exact (hz rfl).elim
theorem decode_is {s:ByteArray} {t:Nat} (ht:t<s.size) (hz:usz s t≠0) :
 ∃ c z:Nat,Utf8.decode s t=(c,z)∧usz s t=z∧(Utf8.encode (c:Int)).size=z∧(c=10↔bt s t=10):=by
 unfold usz at *
 rw [if_neg (by omega)] at hz ⊢
 rw [show (t:Int)+1=((t+1:Nat):Int) by omega,show (t:Int)+2=((t+2:Nat):Int) by omega,show (t:Int)+3=((t+3:Nat):Int) by omega,bt_get,bt_get,bt_get,bt_get] at hz
 rw [show (t:Int)+1=((t+1:Nat):Int) by omega,show (t:Int)+2=((t+2:Nat):Int) by omega,show (t:Int)+3=((t+3:Nat):Int) by omega,bt_get,bt_get,bt_get,bt_get,dcd_is]
 obtain ⟨c,z,h1,h2,h3,h4⟩:=dcd_ok ht get_lt hz
 exact ⟨c,z,h1,h2,h3,by rw [h4]; omega⟩
def isE (s:ByteArray) (p:Int):Bool:=decide (0≤p∧p≤s.size)&&(uvalid s&&(decide (p=s.size)||!decide (cont (bt s p))))
theorem uedge_is {K:Nat} {s:ByteArray} {p:Int} (hK:s.size+10≤K) (hs:s.size≤1000000):utf_IsEdge K s p=some (isE s p):=by
 unfold utf_IsEdge isE
 have hb:=bt_ok (s:=s) (i:=p)
 by_cases h0:0≤p
 ·rw [if_pos (by simpa using h0)]
  by_cases h1:p≤s.size
  ·rw [if_pos (by simpa using h1),decide_eq_true ⟨h0,h1⟩,Bool.true_and,uvalid_is hK (by omega)]
   by_cases h2:p=s.size
   ·rw [if_pos (by simpa using h2),Option.bind_some,decide_eq_true h2,Bool.true_or,Bool.and_true]
   ·rw [if_neg (by simpa using h2),and_192 hb.1 hb.2,decide_eq_false h2,Bool.false_or,Option.bind_some]
    have hr:0≤p∧p<(s.size:Int):=⟨h0,by omega⟩
    simp only [if_pos hr]
    by_cases hc:cont (bt s p)
    ·rw [decide_eq_true hc,if_neg (by simp)]; simp
    ·rw [decide_eq_false hc,if_pos (by simp)]; simp
  ·rw [if_neg (by simpa using h1),decide_eq_false (by omega),Bool.false_and]
 ·rw [if_neg (by simpa using h0),decide_eq_false (by omega),Bool.false_and]
theorem isE_of {s:ByteArray} {p:Int} (hv:uvalid s=true) (h0:0≤p) (h1:p≤s.size) (hc:p=s.size∨¬ cont (bt s p)):isE s p=true:=by
 unfold isE
 rw [decide_eq_true ⟨h0,h1⟩,hv,Bool.true_and,Bool.true_and]
 rcases hc with hc | hc
 ·rw [decide_eq_true hc,Bool.true_or]
 ·rw [decide_eq_false hc]; simp
theorem known_is (n:Nat):palinodetop_known (n+40)=some true:=by kernel_rfl
abbrev Atm:=ByteArray×(Int×(Int×(Int×List (Int×Int))))
abbrev zA:Atm:=(ByteArray.empty,((0:Int),((0:Int),((0:Int),([]:List (Int×Int))))))
abbrev Chg:=Int×(Int×ByteArray)
abbrev zC:Chg:=((0:Int),((0:Int),ByteArray.empty))
theorem up1 {j:Nat} (h:j<1000000):IntKind.wrap .i64 ((j:Int)+1)=((j+1:Nat):Int):=by
 rw [w64 (by omega) (by omega)]; omega
theorem idx_loop {K:Nat} {l:List Int} {v:Int} (hl:l.length≤50000):∀ (r:List Int) (j k:Nat),l.drop j=r→r.length<k→∃ n,slices_Index_rg.l0 K l v k (j:Int)=some n∧decide (n≥0)=r.contains v
 | [],j,k+1,h,_ => by
   have:=drop_nil h
   refine ⟨-1,?_,rfl⟩
   rw [slices_Index_rg.l0,if_neg (by simp; omega)]
 | g :: r,j,k+1,h,hk => by
   obtain ⟨h1,h2,h3⟩:=drop_cons h (0:Int)
   rw [slices_Index_rg.l0,if_pos (by simp; omega),if_pos ⟨by omega,by omega⟩,Int.toNat_natCast,h2]
   by_cases e:v=g
   ·exact ⟨j,by rw [if_pos (by simpa using e)],by simp [e]⟩
   ·obtain ⟨n,h4,h5⟩:=idx_loop hl r (j+1) k h3 (by simpa using hk)
    refine ⟨n,by rw [if_neg (by simpa using e),up1 (by omega)]; exact h4,by rw [h5]; simp [e]⟩
theorem contains_is {K:Nat} {l:List Int} {v:Int} (hK:100000≤K) (hl:l.length≤50000):slices_Contains_rg K l v=some (l.contains v):=by
 obtain ⟨n,h1,h2⟩:=idx_loop (K:=K) (v:=v) hl l 0 K rfl (by omega)
 have h1:slices_Index_rg.l0 K l v K 0=some n:=h1
 rw [slices_Contains_rg,slices_Index_rg,h1,Option.bind_some,← h2]
def holds (g:Int) (u:List Int):Bool:=g==-1||!u.contains g
theorem holds_is {K:Nat} {u:List Int} {g:Int} (hK:100000≤K) (hu:u.length≤50000):atom_holds_gr K g u=some (holds g u):=by
 rw [atom_holds_gr,contains_is hK hu,Option.bind_some]
 unfold holds
 by_cases h:g = -1 <;> simp [h]
def cutv (rev:Int) (u:List Int) (c:Int×Int):Bool:=decide (c.1≤rev)&&holds c.2 u
theorem cutv_is {K:Nat} {u:List Int} {c d rev:Int} (hK:100000≤K) (hu:u.length≤50000):atom_Visible_1_sggbb_19750 K c d rev u=some (cutv rev u (c,d)):=by
 rw [atom_Visible_1_sggbb_19750,holds_is hK hu,Option.bind_some]
 unfold cutv
 by_cases h:c≤rev <;> simp [h]
theorem cuts_loop {K:Nat} {l:List (Int×Int)} {u:List Int} {rev:Int} (hK:100000≤K) (hu:u.length≤50000) (hl:l.length≤50000):∀ (r:List (Int×Int)) (j k:Nat),l.drop j=r→r.length<k→∃ n,slices_IndexFunc_gcatomVisible1_2a370.l0 K l rev u k (j:Int)=some n∧decide (n≥0)=r.any (cutv rev u)
 | [],j,k+1,h,_ => by
   have:=drop_nil h
   refine ⟨-1,?_,rfl⟩
   rw [slices_IndexFunc_gcatomVisible1_2a370.l0,if_neg (by simp; omega)]
 | g :: r,j,k+1,h,hk => by
   obtain ⟨h1,h2,h3⟩:=drop_cons h ((0:Int),(0:Int))
   rw [slices_IndexFunc_gcatomVisible1_2a370.l0,if_pos (by simp; omega),Int.toNat_natCast,h2,cutv_is hK hu,Option.bind_some,if_pos ⟨by omega,by omega⟩]
   cases e:cutv rev u g with
   | true => exact ⟨j,by rw [if_pos rfl],by simp [e]⟩
   | false =>
     obtain ⟨n,h4,h5⟩:=cuts_loop hK hu hl r (j+1) k h3 (by simpa using hk)
     refine ⟨n,by rw [if_neg (by simp [e]),up1 (by omega)]; exact h4,by rw [h5]; simp [e]⟩
def vis (rev:Int) (u:List Int) (a:Atm):Bool:=decide (a.2.1≤rev)&&holds a.2.2.1 u&&!a.2.2.2.2.any (cutv rev u)
theorem vis_is {K:Nat} {a:Atm} {u:List Int} {rev:Int} (hK:100000≤K) (hu:u.length≤50000) (hl:a.2.2.2.2.length≤50000):atom_Visible_sggggggr K a.1 a.2.1 a.2.2.1 a.2.2.2.1 a.2.2.2.2 rev u=some (vis rev u a):=by
 obtain ⟨n,h1,h2⟩:=cuts_loop (rev:=rev) hK hu hl a.2.2.2.2 0 K rfl (by omega)
 rw [atom_Visible_sggggggr,holds_is hK hu,slices_ContainsFunc_gcatomVisible1_2a370,slices_IndexFunc_gcatomVisible1_2a370,show (0:Int)=((0:Nat):Int) from rfl,h1]
 simp only [Option.bind_some]
 unfold vis
 rw [← h2]
 by_cases h:a.2.1≤rev
 ·have:¬ a.2.1 > rev:=by omega
  cases hh:holds a.2.2.1 u <;> simp [h,this]
 ·have:a.2.1 > rev:=by omega
  simp [h,this]
def Aok (l:List Atm):Prop:=l.length≤20000∧∀ a∈l,a.1.size≤10∧a.2.2.2.2.length≤1000
theorem Aok.tl {a:Atm} {l:List Atm} (h:Aok (a :: l)):Aok l:=⟨by have:=h.1; simp at this; omega,fun b hb=>h.2 b (List.mem_cons_of_mem _ hb)⟩
theorem bytesL_length {s:ByteArray}:(bytesL s).length=s.size:=by simp [bytesL]
def vtx (rev:Int) (u:List Int):List Atm→List Int
 | [] => []
 | a :: l => if vis rev u a then bytesL a.1 ++ vtx rev u l else vtx rev u l
theorem text_loop {K:Nat} {l:List Atm} {u:List Int} {rev:Int} (hK:100000≤K) (hu:u.length≤50000) (hl:Aok l):∀ (r:List Atm) (j k:Nat) (x:List Int),l.drop j=r→r.length<k→x.length+10 * r.length≤1000000→
 atom_Text_ggr.l0 K l rev u k x (j:Int)=some (x++vtx rev u r)
 | [],j,k+1,x,h,_,_ => by
   have:=drop_nil h
   rw [atom_Text_ggr.l0,if_neg (by simp; omega)]
   simp [vtx]
 | g :: r,j,k+1,x,h,hk,hx => by
   obtain ⟨h1,h2,h3⟩:=drop_cons h zA
   have hlen:=hl.1
   have hg:=hl.2 g (by have:g∈l.drop j:=by rw [h]; exact List.mem_cons_self
                       exact List.mem_of_mem_drop this)
   simp only [List.length_cons] at hx
   rw [atom_Text_ggr.l0,if_pos (by simp; omega),if_pos ⟨by omega,by omega⟩,Int.toNat_natCast,h2,vis_is hK hu (by omega),Option.bind_some,up1 (by omega)]
   cases hv:vis rev u g with
   | true =>
     rw [if_pos rfl,strings_Builder_WriteString_bg_d055a,strings_Builder_copyCheck,Option.bind_some,if_pos (by rw [bytesL_length]; omega),Option.bind_some,text_loop hK hu hl r (j+1) k _ h3 (by simpa using hk) (by simp [bytesL_length]; omega)]
     simp [vtx,hv]
   | false =>
     rw [if_neg (by simp),text_loop hK hu hl r (j+1) k _ h3 (by simpa using hk) (by omega)]
     simp [vtx,hv]
theorem inB_bytesL {s:ByteArray}:inB (bytesL s)=true:=by
 unfold inB bytesL
 rw [List.all_eq_true]
 intro x hx
 obtain ⟨b,_,rfl⟩:=List.mem_map.1 hx
 have:=b.toNat_lt
 simp
 omega
theorem inB_append {x y:List Int}:inB (x++y)=(inB x&&inB y):=by simp [inB]
theorem inB_vtx {rev:Int} {u:List Int}:∀ {l:List Atm},inB (vtx rev u l)=true
 | [] => rfl
 | a :: l => by
   simp only [vtx]
   split
   ·rw [inB_append,inB_bytesL,inB_vtx]; rfl
   ·exact inB_vtx
theorem text_is {K:Nat} {l:List Atm} {u:List Int} {rev:Int} (hK:100000≤K) (hu:u.length≤50000) (hl:Aok l):atom_Text_ggr K l rev u=some (ofBytes (vtx rev u l)):=by
 have hlen:=hl.1
 rw [atom_Text_ggr,show (0:Int)=((0:Nat):Int) from rfl,text_loop hK hu hl l 0 K [] rfl (by omega) (by simp; omega),Option.bind_some,List.nil_append,strings_Builder_String,if_pos inB_vtx,Option.bind_some]
def plc (rev:Int) (u:List Int):Int→List Atm→List Int
 | p,[] => [p]
 | p,a :: l => p :: plc rev u (if vis rev u a then p+a.1.size else p) l
theorem plc_len {rev:Int} {u:List Int}:∀ {l:List Atm} {p:Int},(plc rev u p l).length=l.length+1
 | [],_ => rfl
 | a :: l,p => by simp [plc,plc_len]
theorem plc_loop {K:Nat} {l:List Atm} {u:List Int} {rev:Int} (hK:100000≤K) (hu:u.length≤50000) (hl:Aok l):∀ (r:List Atm) (j k:Nat) (x:List Int) (p:Int),l.drop j=r→r.length<k→x.length+r.length≤1000000→0≤p→p+10 * r.length≤1000000→
 atom_Places_ggr.l0 K l rev u k x p (j:Int)=some (x++plc rev u p r)
 | [],j,k+1,x,p,h,_,hx,_,_ => by
   have:=drop_nil h
   rw [atom_Places_ggr.l0,if_neg (by simp; omega),if_pos (by simp at hx ⊢; omega)]
   simp [plc]
 | g :: r,j,k+1,x,p,h,hk,hx,h0,hp => by
   obtain ⟨h1,h2,h3⟩:=drop_cons h zA
   have hlen:=hl.1
   have hg:=hl.2 g (by have:g∈l.drop j:=by rw [h]; exact List.mem_cons_self
                       exact List.mem_of_mem_drop this)
   simp only [List.length_cons] at hx hp
   rw [atom_Places_ggr.l0,if_pos (by simp; omega),if_pos ⟨by omega,by omega,by simp; omega⟩,Int.toNat_natCast,h2,vis_is hK hu (by omega),Option.bind_some,up1 (by omega)]
   cases hv:vis rev u g with
   | true =>
     rw [if_pos rfl,w64 (by omega) (by omega),plc_loop hK hu hl r (j+1) k _ _ h3 (by simpa using hk) (by simp; omega) (by omega) (by omega)]
     simp [plc,hv]
   | false =>
     rw [if_neg (by simp),plc_loop hK hu hl r (j+1) k _ _ h3 (by simpa using hk) (by simp; omega) (by omega) (by omega)]
     simp [plc,hv]
theorem plcs_is {K:Nat} {l:List Atm} {u:List Int} {rev:Int} (hK:100000≤K) (hu:u.length≤50000) (hl:Aok l):atom_Places_ggr K l rev u=some (plc rev u 0 l):=by
 have hlen:=hl.1
 rw [atom_Places_ggr,w64 (by omega) (by omega),if_pos ⟨by omega,by omega,by omega⟩]
 have:=plc_loop (rev:=rev) hK hu hl l 0 K [] 0 rfl (by omega) (by simp; omega) (by omega) (by omega)
 simpa using this
theorem clone_is {K:Nat} {c:List (Int×Int)} (h:c.length≤1000):slices_Clone K c=some c:=by
 rw [slices_Clone,if_pos (by simp; omega),List.nil_append]
theorem setCut_self {l:List Atm} {j:Nat}:setCut l j (l.getD j zA).2.2.2.2=l:=by
 unfold setCut
 rcases Nat.lt_or_ge j l.length with h | h
 ·rw [List.getD_eq_getElem?_getD,List.getElem?_eq_getElem h,Option.getD_some]
  exact List.set_getElem_self h
 ·exact List.set_eq_of_length_le h
theorem putAt_all {α:Type} {xs ys:List α} (h:ys.length=xs.length):putAt xs ys 0=ys:=by
 simp [putAt,h]
theorem copy_loop {K:Nat} {l:List Atm} (hK:100000≤K) (hl:Aok l):∀ (d j k:Nat),j+d=l.length→d<k→atom_Copy.l0 K l k j l (j:Int)=some l
 | 0,j,k+1,h,_ => by
   rw [atom_Copy.l0,putAt_all (by simp),if_neg (by simp; omega),if_pos (by omega)]
 | d+1,j,k+1,h,hk => by
   have hlen:=hl.1
   have hj:j<l.length:=by omega
   have hg:=hl.2 (l.getD j zA) (by rw [List.getD_eq_getElem?_getD,List.getElem?_eq_getElem hj]; simp)
   rw [atom_Copy.l0,putAt_all (by simp),if_pos (by simp; omega),Int.toNat_natCast,clone_is hg.2,Option.bind_some,if_pos ⟨by omega,by omega,by omega,rfl⟩,up1 (by omega),setCut_self]
   exact copy_loop hK hl d (j+1) k (by omega) (by omega)
theorem copyA_is {K:Nat} {l:List Atm} (hK:100000≤K) (hl:Aok l):atom_Copy K l=some l:=by
 have hlen:=hl.1
 rw [atom_Copy,if_pos ⟨by omega,by omega,by omega,by omega⟩,putAt_all (by simp)]
 have:=copy_loop hK hl l.length 0 K (by omega) (by omega)
 simpa using this
theorem copyz_is {K:Nat} (hK:100000≤K):atom_Copy_zx K=some []:=by
 obtain ⟨k,rfl⟩:∃ k,K=k+1:=⟨K - 1,by omega⟩
 rfl
theorem copyzp_is {K:Nat} (hK:100000≤K):atom_Copy_zx_p K=some []:=by
 obtain ⟨k,rfl⟩:∃ k,K=k+1:=⟨K - 1,by omega⟩
 rfl
structure Rok (us:List (List Int)) (f:Int) (g o:List Int):Prop where
 ne:0<us.length
 len:us.length≤1000
 lo:0≤f
 hi:f≤1000
 u:∀ u∈us,u.length≤100
 g:g.length≤100
 o:o.length≤100
def hdR (us:List (List Int)) (f:Int):Int:=f+us.length - 1
def lvR (us:List (List Int)) (f r:Int):Bool:=decide (f≤r)&&decide (r≤hdR us f)
def unR (us:List (List Int)) (f r:Int):List Int:=if lvR us f r=true then us.getD (r - f).toNat [] else []
def lsR (us:List (List Int)):List Int:=us.getD (us.length - 1) []
theorem getD_mem {α:Type} {l:List α} {i:Nat} {d:α} (h:i<l.length):l.getD i d∈l:=by
 rw [List.getD_eq_getElem?_getD,List.getElem?_eq_getElem h]; simp
theorem unR_len {us:List (List Int)} {f:Int} {g:List Int} {o:List Int} (h:Rok us f g o) {r:Int}:(unR us f r).length≤100:=by
 unfold unR
 split
 ·rename_i hl
  simp only [lvR,Bool.and_eq_true,decide_eq_true_eq] at hl
  unfold hdR at hl
  have hi:(r - f).toNat<us.length:=by omega
  exact h.u _ (getD_mem hi)
 ·simp
theorem lsR_len {us:List (List Int)} {f:Int} {g:List Int} {o:List Int} (h:Rok us f g o):(lsR us).length≤100:=by
 have:=h.ne
 have hi:us.length - 1<us.length:=by omega
 exact h.u _ (getD_mem hi)
theorem head_is {K:Nat} {us:List (List Int)} {f:Int} {g:List Int} {o:List Int} (h:Rok us f g o):rev_Revs_Head_b_3cfb0 K us f g o=some (hdR us f):=by
 have:=h.len; have:=h.lo; have:=h.hi; have:=h.ne
 rw [rev_Revs_Head_b_3cfb0,w64 (n:=f+_) (by omega) (by omega),w64 (by omega) (by omega)]
 rfl
theorem live_is {K:Nat} {us:List (List Int)} {f:Int} {g:List Int} {o:List Int} (h:Rok us f g o) {r:Int}:rev_Revs_Live_bg_43267 K us f g o r=some (lvR us f r):=by
 rw [rev_Revs_Live_bg_43267,head_is h,Option.bind_some]
 unfold lvR
 by_cases h1:f≤r
 ·rw [if_pos (by simpa using h1)]; simp [h1]
 ·rw [if_neg (by simpa using h1)]; simp [h1]
theorem sorted_i {K:Nat} {us:List (List Int)} {i:Nat} (hi:i<us.length) (hu:(us.getD i []).length≤1000):rev_set_sorted_i_ac1ed K us i=some (us.getD i []):=by
 rw [rev_set_sorted_i_ac1ed,if_pos ⟨hi,by omega,by omega,by omega,by omega⟩,maps_Keys_e,if_pos hi,Option.bind_some,slices_Sorted_e,if_pos ⟨hi,by omega⟩,Option.bind_some]
 congr 1
 generalize us.getD i []=x
 rw [show (List.replicate (Int.toNat ((x.length:Nat):Int)) (0:Int)).length=x.length by simp,List.take_length]
 exact putAt_all (by simp)
theorem undone_is {K:Nat} {us:List (List Int)} {f:Int} {g:List Int} {o:List Int} (h:Rok us f g o) {r:Int}:rev_Revs_Undone_bg_43267 K us f g o r=some (unR us f r):=by
 rw [rev_Revs_Undone_bg_43267,live_is h,Option.bind_some]
 unfold unR
 cases hl:lvR us f r with
 | false => rfl
 | true =>
   simp only [lvR,Bool.and_eq_true,decide_eq_true_eq] at hl
   unfold hdR at hl
   have:=h.len; have:=h.lo; have:=h.hi
   have hi:(r - f).toNat<us.length:=by omega
   have:=h.u _ (getD_mem (d:=[]) hi)
   rw [if_neg (by simp),w64 (n:=r - f) (by omega) (by omega),sorted_i hi (by omega),Option.bind_some,if_pos ⟨by omega,by omega⟩,if_pos rfl]
theorem rcopy_loop {K:Nat} {us:List (List Int)} {g:List Int} {o:List Int} (h:us.length≤1000):∀ (r:List (List Int)) (j k:Nat) (x:List (List Int)),us.drop j=r→r.length<k→x.length+r.length≤10000→rev_Revs_Copy_b_3cfb0.l0 K us g o k x (j:Int)=some (x++r,g,o)
 | [],j,k+1,x,e,_,_ => by
   have:=drop_nil e
   rw [rev_Revs_Copy_b_3cfb0.l0,if_neg (by simp; omega)]
   simp
 | a :: r,j,k+1,x,e,hk,hx => by
   obtain ⟨h1,h2,h3⟩:=drop_cons e []
   simp only [List.length_cons] at hx
   rw [rev_Revs_Copy_b_3cfb0.l0,if_pos (by simp; omega),if_pos ⟨by omega,by omega⟩,Int.toNat_natCast,maps_Clone_e,if_pos h1,Option.bind_some,if_pos (by omega),up1 (by omega),h2,rcopy_loop h r (j+1) k _ h3 (by simpa using hk) (by simp; omega)]
   simp
theorem rcopy_is {K:Nat} {us:List (List Int)} {f:Int} {g:List Int} {o:List Int} (hK:100000≤K) (h:Rok us f g o):rev_Revs_Copy_b_3cfb0 K us f g o=some (us,g,o):=by
 have:=h.len
 rw [rev_Revs_Copy_b_3cfb0,maps_Clone_m,maps_Clone_m,Option.bind_some,Option.bind_some]
 have:=rcopy_loop (K:=K) (g:=g) (o:=o) h.len us 0 K [] rfl (by omega) (by simp; omega)
 simpa using this
theorem next0_is {K:Nat} {us:List (List Int)} {f:Int} {g:List Int} {o:List Int} (h:Rok us f g o):rev_Revs_next_b_3cfb0_m0 K us f g o=if 200≤hdR us f then some () else none:=by
 have:=h.len; have:=h.ne
 rw [rev_Revs_next_b_3cfb0_m0,head_is h,Option.bind_some]
 by_cases hh:200≤hdR us f
 ·rw [if_pos (by simpa using hh),if_pos hh]
 ·rw [if_neg (by simpa using hh),if_neg hh,w64 (by omega) (by omega),maps_Clone_e,if_pos (by omega),Option.bind_some]
  repeat' split
  all_goals rfl
theorem next1_is {K:Nat} {us:List (List Int)} {f:Int} {g:List Int} {o:List Int} (h:Rok us f g o) (hh:¬ 200≤hdR us f):rev_Revs_next_b_3cfb0_m1 K us f g o=some (lsR us,us):=by
 have:=h.len; have:=h.ne
 rw [rev_Revs_next_b_3cfb0_m1,head_is h,Option.bind_some,if_neg (by simpa using hh),w64 (by omega) (by omega),maps_Clone_e,if_pos (by omega),Option.bind_some,if_pos ⟨by omega,by omega⟩,if_pos (by omega)]
 unfold lsR
 rw [show Int.toNat ((us.length:Int) - 1)=us.length - 1 by omega]
def adR (us:List (List Int)) (f:Int) (g o:List Int) (x:Int):Int×Int×List (List Int)×List Int:=
 if o.contains x=true∨x<0∨60≤x then (0,210,us,g) else if 200≤hdR us f then (0,70,us,g) else (hdR us f+1,0,us++[lsR us],insS x g)
theorem addR_is {K:Nat} {us:List (List Int)} {f:Int} {g:List Int} {o:List Int} (h:Rok us f g o) {x:Int}:rev_Revs_Add_bg_43267 K us f g o x=some (adR us f g o x):=by
 have:=h.len; have:=h.lo; have:=h.hi
 rw [rev_Revs_Add_bg_43267]
 unfold adR
 by_cases hx:o.contains x=true∨x<0∨60≤x
 ·have:(if o.contains x=true then some true else if decide (x<0)=true then some true else some (decide (x≥60)))=some true:=by
   rcases hx with h | h | h
   ·rw [if_pos h]
   ·split <;> simp [h]
   ·split
    ·rfl
    ·split
     ·rfl
     ·simpa using h
  rw [this,Option.bind_some,if_pos rfl,if_pos hx]
 ·have:(if o.contains x=true then some true else if decide (x<0)=true then some true else some (decide (x≥60)))=some false:=by
   rw [if_neg (fun h=>hx (.inl h)),if_neg (fun h=>hx (.inr (.inl (by simpa using h))))]
   simp; omega
  rw [this,Option.bind_some,if_neg (by simp),if_neg hx,next0_is h]
  by_cases hh:200≤hdR us f
  ·rw [if_pos hh,Option.isSome_some,if_pos rfl,Option.bind_some,if_pos hh]
  ·rw [if_neg hh,if_neg (by simp),if_neg hh,next1_is h hh,Option.bind_some,if_pos ⟨by omega,by omega⟩,rev_Revs_Head_b_beff4,Option.bind_some]
   dsimp only
   rw [w64 (n:=f+_) (by omega) (by omega),w64 (by omega) (by omega)]
   unfold hdR
   congr 2
   omega
def tgS (x:Int) (l:List Int):List Int:=if l.contains x=true then delS x l else insS x l
def tgR (us:List (List Int)) (f:Int) (g:List Int) (x:Int):Int×Int×List (List Int):=
 if g.contains x=true then if 200≤hdR us f then (0,70,us) else (hdR us f+1,0,us++[tgS x (lsR us)]) else (0,210,us)
theorem toggle_is {K:Nat} {us:List (List Int)} {f:Int} {g:List Int} {o:List Int} (h:Rok us f g o) (hg:∀ x∈g,0≤x∧x<60) {x:Int}:rev_Revs_Toggle_bg_43267 K us f g o x=some (tgR us f g x):=by
 have:=h.len; have:=h.lo; have:=h.hi
 rw [rev_Revs_Toggle_bg_43267,rev_Revs_has_bg_43267,Option.bind_some]
 unfold tgR
 cases hx:g.contains x with
 | false => rfl
 | true =>
   have hxg:=hg x (by simpa using hx)
   rw [if_neg (by simp),if_pos rfl,next0_is h]
   by_cases hh:200≤hdR us f
   ·rw [if_pos hh,Option.isSome_some,if_pos rfl,Option.bind_some,if_pos hh]
   ·rw [if_neg hh,if_neg (by simp),if_neg hh,next1_is h hh,Option.bind_some]
    have key:∀ z,(if (lsR us).contains x=true then some (us++[delS x (lsR us)]) else if (-9223372036854775808:Int)≤x∧x≤9223372036854775807 then some (us++[insS x (lsR us)]) else none)=some z→z=us++[tgS x (lsR us)]:=by
     intro z hz
     unfold tgS
     split at hz
     ·rename_i hc; rw [if_pos hc]; exact (Option.some.inj hz).symm
     ·rename_i hc
      rw [if_neg hc]
      split at hz
      ·exact (Option.some.inj hz).symm
      ·cases hz
    have:(if (lsR us).contains x=true then some (us++[delS x (lsR us)]) else if (-9223372036854775808:Int)≤x∧x≤9223372036854775807 then some (us++[insS x (lsR us)]) else none)=some (us++[tgS x (lsR us)]):=by
     unfold tgS
     split
     ·rfl
     ·rw [if_pos ⟨by omega,by omega⟩]
    dsimp only
    rw [this,Option.bind_some,rev_Revs_Head_b_3cfb0,Option.bind_some,List.length_append,List.length_singleton,w64 (n:=f+_) (by omega) (by omega),w64 (by omega) (by omega)]
    unfold hdR
    congr 2
    omega
def bdC (s:ByteArray) (c:Chg):Bool:=decide (c.1<0)||(decide (c.1 > c.2.1)||decide (c.2.1 > s.size))
def egC (s:ByteArray) (c:Chg):Bool:=!isE s c.1||!isE s c.2.1
def orC:List Chg→Bool
 | [] => false
 | a :: l => (match l with | [] => false | b :: _ => decide (b.1<a.2.1) || (a.1 == b.1 && a.2.1 == b.1)) || orC l
def lgA (n:Int) (l:List Chg):Int:=l.foldr (fun c r=>mn2 (mx2 (IntKind.wrap .i64 (c.2.1 - c.1)) 0) n+r) 0
def lgB:Int→List Chg→Int
 | left,[] => if left<0 then 13 else 0
 | left,c :: l => if (c.2.2.size:Int) > left then 13 else lgB (left - c.2.2.size) l
def f5:List Int→Int
 | [] => 0
 | x :: l => if x=0 then f5 l else x
def chkE (s:ByteArray) (c:List Chg):Int:=
 if uvalid s=false then 12 else if 8<c.length then 70 else f5 [if c.any (bdC s) then 10 else 0,if c.any (egC s) then 11 else 0,if orC c then 180 else 0,if c.any (fun x=>!uvalid x.2.2) then 12 else 0,lgB (20000 - s.size+lgA s.size c) c]
def Cok (c:List Chg):Prop:=c.length≤1000∧∀ x∈c,x.2.2.size≤30000
theorem bdC_is {K:Nat} {s:ByteArray} {a b:Int} {t:ByteArray}:edit_Check_2_sgggb_cdd28 K a b t s=some (bdC s (a,b,t)):=by
 unfold edit_Check_2_sgggb_cdd28 bdC
 by_cases h1:a<0
 ·rw [if_pos (by simpa using h1)]; simp [h1]
 ·rw [if_neg (by simpa using h1)]
  by_cases h2:a > b
  ·rw [if_pos (by simpa using h2)]; simp [h2]
  ·rw [if_neg (by simpa using h2)]; simp [h1,h2]
theorem egC_is {K:Nat} {s:ByteArray} {a b:Int} {t:ByteArray} (hK:100000≤K) (hs:s.size≤50000):edit_Check_3_sgggb_91e54 K a b t s=some (egC s (a,b,t)):=by
 unfold edit_Check_3_sgggb_91e54 edit_Check_1_gb_a458d egC
 rw [uedge_is (by omega) (by omega),uedge_is (by omega) (by omega)]
 simp only [Option.bind_some]
 cases isE s a <;> simp
theorem first2_loop {K:Nat} {s:ByteArray} {c:List Chg} {e:Int} (hl:c.length≤1000):∀ (r:List Chg) (j k:Nat),c.drop j=r→r.length<k→edit_first_ngceditCheck2_618ba.l0 K c s e k (j:Int)=some (if r.any (bdC s)=true then e else 0)
 | [],j,k+1,h,_ => by
   have:=drop_nil h
   rw [edit_first_ngceditCheck2_618ba.l0,if_neg (by simp; omega)]
   rfl
 | x :: r,j,k+1,h,hk => by
   obtain ⟨h1,h2,h3⟩:=drop_cons h zC
   rw [edit_first_ngceditCheck2_618ba.l0,if_pos (by simp; omega),if_pos ⟨by omega,by omega⟩,Int.toNat_natCast,h2,bdC_is,Option.bind_some,up1 (by omega)]
   cases hb:bdC s x with
   | true => rw [if_pos rfl]; simp [hb]
   | false => rw [if_neg (by simp),first2_loop hl r (j+1) k h3 (by simpa using hk),List.any_cons,hb]; rfl
theorem first3_loop {K:Nat} {s:ByteArray} {c:List Chg} {e:Int} (hK:100000≤K) (hs:s.size≤50000) (hl:c.length≤1000):∀ (r:List Chg) (j k:Nat),c.drop j=r→r.length<k→edit_first_ngceditCheck3_a8d5c.l0 K c s e k (j:Int)=some (if r.any (egC s)=true then e else 0)
 | [],j,k+1,h,_ => by
   have:=drop_nil h
   rw [edit_first_ngceditCheck3_a8d5c.l0,if_neg (by simp; omega)]
   rfl
 | x :: r,j,k+1,h,hk => by
   obtain ⟨h1,h2,h3⟩:=drop_cons h zC
   rw [edit_first_ngceditCheck3_a8d5c.l0,if_pos (by simp; omega),if_pos ⟨by omega,by omega⟩,Int.toNat_natCast,h2,egC_is hK hs,Option.bind_some,up1 (by omega)]
   cases hb:egC s x with
   | true => rw [if_pos rfl]; simp [hb]
   | false => rw [if_neg (by simp),first3_loop hK hs hl r (j+1) k h3 (by simpa using hk),List.any_cons,hb]; rfl
theorem first4_loop {K:Nat} {c:List Chg} {e:Int} (hK:100000≤K) (hc:Cok c):∀ (r:List Chg) (j k:Nat),c.drop j=r→r.length<k→edit_first_ngceditCheck4.l0 K c e k (j:Int)=some (if r.any (fun x=>!uvalid x.2.2)=true then e else 0)
 | [],j,k+1,h,_ => by
   have:=drop_nil h
   rw [edit_first_ngceditCheck4.l0,if_neg (by simp; omega)]
   rfl
 | x :: r,j,k+1,h,hk => by
   obtain ⟨h1,h2,h3⟩:=drop_cons h zC
   have hl:=hc.1
   have hx:=hc.2 x (by have:x∈c.drop j:=by rw [h]; exact List.mem_cons_self
                       exact List.mem_of_mem_drop this)
   rw [edit_first_ngceditCheck4.l0,if_pos (by simp; omega),if_pos ⟨by omega,by omega⟩,Int.toNat_natCast,h2,edit_Check_4,uvalid_is (by omega) (by omega),Option.bind_some,Option.bind_some,up1 (by omega)]
   cases hb:uvalid x.2.2 with
   | false => rw [if_pos (by simp)]; simp [hb]
   | true => rw [if_neg (by simp),first4_loop hK hc r (j+1) k h3 (by simpa using hk),List.any_cons,hb]; rfl
theorem ordE_loop {K:Nat} {c:List Chg} (hl:c.length≤1000):∀ (r:List Chg) (j k:Nat) (a:Chg),c.drop j=a :: r→r.length<k→edit_order_n.l0 K c k ((j+1:Nat):Int)=some (if orC (a :: r)=true then 180 else 0)
 | [],j,k+1,a,h,_ => by
   obtain ⟨h1,h2,h3⟩:=drop_cons h zC
   have:=drop_nil h3
   rw [edit_order_n.l0,if_neg (by simp; omega)]
   rfl
 | b :: r,j,k+1,a,h,hk => by
   obtain ⟨h1,h2,h3⟩:=drop_cons h zC
   obtain ⟨h4,h5,h6⟩:=drop_cons h3 zC
   rw [edit_order_n.l0,w64 (n:=((j+1:Nat):Int) - 1) (by omega) (by omega),show ((j+1:Nat):Int) - 1=(j:Int) by omega,if_pos (by simp; omega),if_pos ⟨by omega,by omega,by omega,by omega⟩,Int.toNat_natCast,Int.toNat_natCast,h2,h5,up1 (by omega)]
   have ih:=ordE_loop (K:=K) hl r (j+1) k b h3 (by simpa using hk)
   rw [ih]
   simp only [orC]
   by_cases e1:b.1<a.2.1
   ·simp [e1]
   ·by_cases e2:a.1=b.1
    ·by_cases e3:a.2.1=b.1 <;> simp [e1,e2,e3]
    ·simp [e1,e2]
theorem order_is {K:Nat} {c:List Chg} (hK:100000≤K) (hl:c.length≤1000):edit_order_n K c=some (if orC c=true then 180 else 0):=by
 unfold edit_order_n
 cases c with
 | nil =>
   obtain ⟨k,rfl⟩:∃ k,K=k+1:=⟨K - 1,by omega⟩
   rw [edit_order_n.l0,if_neg (by simp)]
   rfl
 | cons a r => exact ordE_loop hl r 0 K a rfl (by simp at hl; omega)
theorem mnx_ok {x n:Int} (h:0≤n):0≤mn2 (mx2 x 0) n∧mn2 (mx2 x 0) n≤n:=by
 unfold mn2 mx2
 split <;> split <;> omega
theorem lgA_ok {n:Int} (h:0≤n):∀ {r:List Chg},0≤lgA n r∧lgA n r≤r.length * n
 | [] => by simp [lgA]
 | x :: r => by
   have:=lgA_ok h (r:=r)
   have:=mnx_ok (x:=IntKind.wrap .i64 (x.2.1 - x.1)) h
   simp only [lgA,List.foldr_cons,List.length_cons] at *
   have:((r.length+1:Nat):Int) * n=r.length * n+n:=by rw [Int.natCast_add,Int.add_mul]; simp
   omega
theorem longA_loop {K:Nat} {s:ByteArray} {c:List Chg} (hs:s.size≤50000) (hl:c.length≤1000):∀ (r:List Chg) (j k:Nat) (left:Int),c.drop j=r→r.length<k→-1000000≤left→left+r.length * (s.size:Int)≤1000000000→
 edit_long_gn.l0 K c s k left (j:Int)=some (left+lgA s.size r)
 | [],j,k+1,left,h,_,_,_ => by
   have:=drop_nil h
   rw [edit_long_gn.l0,if_neg (by simp; omega)]
   simp [lgA]
 | x :: r,j,k+1,left,h,hk,h4,h5 => by
   obtain ⟨h1,h2,h3⟩:=drop_cons h zC
   have hm:=mnx_ok (x:=IntKind.wrap .i64 (x.2.1 - x.1)) (n:=s.size) (by omega)
   have e:((r.length+1:Nat):Int) * (s.size:Int)=r.length * (s.size:Int)+s.size:=by rw [Int.natCast_add,Int.add_mul]; simp
   have e0:0≤(r.length:Int) * (s.size:Int):=Int.mul_nonneg (by omega) (by omega)
   simp only [List.length_cons,e] at h5
   rw [edit_long_gn.l0,if_pos (by simp; omega),if_pos ⟨by omega,by omega⟩,Int.toNat_natCast,h2,up1 (by omega),w64 (n:=left+_) (by omega) (by omega),longA_loop hs hl r (j+1) k _ h3 (by simpa using hk) (by omega) (by omega)]
   simp only [lgA,List.foldr_cons]
   congr 1
   omega
theorem longB_loop {K:Nat} {c:List Chg} (hc:Cok c):∀ (r:List Chg) (j k:Nat) (left:Int),c.drop j=r→r.length<k→-100000000≤left - r.length * 30000→left≤1000000000→
 (edit_long_gn.l1 K c k left (j:Int)).bind (Sum.elim (fun z=>some z) (fun z=>if (decide (z<(0:Int)))=true then some (13:Int) else some (0:Int)))=some (lgB left r)
 | [],j,k+1,left,h,_,_,_ => by
   have:=drop_nil h
   rw [edit_long_gn.l1,if_neg (by simp; omega),Option.bind_some]
   simp only [Sum.elim_inr,lgB]
   by_cases h:left<0 <;> simp [h]
 | x :: r,j,k+1,left,h,hk,h4,h5 => by
   obtain ⟨h1,h2,h3⟩:=drop_cons h zC
   have hl:=hc.1
   have hx:=hc.2 x (by have:x∈c.drop j:=by rw [h]; exact List.mem_cons_self
                       exact List.mem_of_mem_drop this)
   simp only [List.length_cons] at h4
   rw [edit_long_gn.l1,if_pos (by simp; omega),if_pos ⟨by omega,by omega⟩,Int.toNat_natCast,h2,up1 (by omega)]
   unfold lgB
   by_cases e:(x.2.2.size:Int) > left
   ·rw [if_pos (by simpa using e),if_pos e]; rfl
   ·rw [if_neg (by simpa using e),if_neg e,w64 (by omega) (by omega)]
    exact longB_loop hc r (j+1) k _ h3 (by simpa using hk) (by omega) (by omega)
theorem f5_loop {K:Nat} (a b x d e:Int) (hK:100000≤K):edit_Check_gn.l0 K a b x d e K 0=some (f5 [a,b,x,d,e]):=by
 obtain ⟨k,rfl⟩:∃ k,K=k+6:=⟨K - 6,by omega⟩
 have key:∀ (K:Nat) (r:List Int) (j k:Nat),[a,b,x,d,e].drop j=r→r.length<k→edit_Check_gn.l0 K a b x d e k (j:Int)=some (f5 r):=by
  intro K r
  induction r with
  | nil =>
    intro j k h hk
    obtain ⟨k,rfl⟩:∃ k',k=k'+1:=⟨k - 1,by simp at hk; omega⟩
    have:=drop_nil h
    rw [edit_Check_gn.l0,if_neg (by simp at this ⊢; omega)]
    rfl
  | cons y r ih =>
    intro j k h hk
    obtain ⟨k,rfl⟩:∃ k',k=k'+1:=⟨k - 1,by simp at hk; omega⟩
    obtain ⟨h1,h2,h3⟩:=drop_cons h (0:Int)
    simp only [List.length_cons,List.length_nil] at h1
    rw [edit_Check_gn.l0,if_pos (by simp; omega),if_pos ⟨by omega,by simp; omega⟩,Int.toNat_natCast,h2,up1 (by omega),ih (j+1) k h3 (by simpa using hk)]
    unfold f5
    by_cases e:y=0
    ·rw [if_neg (by simpa using e),if_pos e]
     cases r <;> rfl
    ·rw [if_pos (by simpa using e),if_neg e]
 exact key _ _ 0 (k+6) rfl (by simp)
theorem chk_is {K:Nat} {s:ByteArray} {c:List Chg} (hK:100000≤K) (hs:s.size≤50000) (hc:Cok c):edit_Check_gn K s c=some (chkE s c):=by
 have hl:=hc.1
 rw [edit_Check_gn,uvalid_is (by omega) (by omega),Option.bind_some]
 unfold chkE
 cases hv:uvalid s with
 | false => rfl
 | true =>
   rw [if_neg (by simp),if_neg (show ¬ (true=false) by simp)]
   by_cases h8:8<c.length
   ·rw [if_pos (by simp; omega)]; simp [h8]
   ·have e2:=first2_loop (K:=K) (s:=s) (e:=10) hl c 0 K rfl (by omega)
    have e3:=first3_loop (K:=K) (s:=s) (e:=11) hK hs hl c 0 K rfl (by omega)
    have e4:=first4_loop (K:=K) (e:=12) hK hc c 0 K rfl (by omega)
    have hn:((c.length:Nat):Int) * (s.size:Int)≤8 * 50000:=Int.mul_le_mul (by omega) (by omega) (by omega) (by omega)
    have hn0:0≤((c.length:Nat):Int) * (s.size:Int):=Int.mul_nonneg (by omega) (by omega)
    have ha:=lgA_ok (n:=s.size) (by omega) (r:=c)
    have e5:=longA_loop (K:=K) hs hl c 0 K (20000 - s.size) rfl (by omega) (by omega) (by omega)
    have e6:=longB_loop (K:=K) hc c 0 K (20000 - s.size+lgA s.size c) rfl (by omega) (by omega) (by omega)
    have e5:edit_long_gn.l0 K c s K (20000 - s.size) 0=_:=e5
    have e7:edit_long_gn K s c=some (lgB (20000 - s.size+lgA s.size c) c):=by
     rw [edit_long_gn,w64 (by omega) (by omega),e5,Option.bind_some]
     exact e6
    rw [if_neg (by simp; omega),edit_first_ngceditCheck2_618ba,edit_first_ngceditCheck3_a8d5c,edit_first_ngceditCheck4,order_is hK hl,e7]
    have e2:edit_first_ngceditCheck2_618ba.l0 K c s 10 K 0=_:=e2
    have e3:edit_first_ngceditCheck3_a8d5c.l0 K c s 11 K 0=_:=e3
    have e4:edit_first_ngceditCheck4.l0 K c 12 K 0=_:=e4
    rw [e2,e3,e4]
    simp only [Option.bind_some,h8,if_false]
    exact f5_loop _ _ _ _ _ hK
def ptL (s:ByteArray) (w g r:Int):Nat→Nat→List Atm
 | 0,_ => []
 | m+1,t => if t<s.size then (Utf8.encode (((Utf8.decode s t).1:Nat):Int),(w,(g,(r,[])))) :: ptL s w g r m (t+(Utf8.decode s t).2) else []
def putL (s:ByteArray) (w g r:Int):List Atm:=ptL s w g r s.size 0
theorem putE_loop {K:Nat} {s:ByteArray} {w g r:Int} (hs:s.size≤30000):∀ (m t k:Nat) (x:List Atm),uval s m t=true→s.size≤t+m→m<k→x.length+m≤100000→atom_Put_nggggg.l0 K s w g r k x t=some (x++ptL s w g r m t)
 | 0,t,k+1,x,_,h,_,_ => by
   rw [atom_Put_nggggg.l0,if_neg (by simp; omega)]
   simp [ptL]
 | m+1,t,k+1,x,hu,h,hk,hx => by
   rw [atom_Put_nggggg.l0]
   by_cases ht:t<s.size
   ·have hz:usz s t≠0:=fun hz=>by
     rw [uval,if_pos (by omega),if_pos hz] at hu; cases hu
    have hu2:uval s m (t+usz s t)=true:=by
     rw [uval,if_pos (by omega),if_neg hz] at hu; exact hu
    obtain ⟨c,z,h1,h2,h3,_⟩:=decode_is ht hz
    rw [if_pos (by simpa using ht),if_pos (by simp; omega),putE_loop hs m _ k _ (by rw [h1]; simp only; rw [show ((t+z:Nat):Int)=t+usz s t by omega]; exact hu2) (by rw [h1]; simp only; omega) (by omega) (by simp; omega)]
    simp [ptL,ht]
   ·rw [if_neg (by simpa using ht)]
    simp [ptL,ht]
theorem ptL_len {s:ByteArray} {w g r:Int}:∀ {m t:Nat},(ptL s w g r m t).length≤m
 | 0,_ => by simp [ptL]
 | m+1,t => by
   simp only [ptL]
   split
   ·have:=ptL_len (s:=s) (w:=w) (g:=g) (r:=r) (m:=m) (t:=t+(Utf8.decode s t).2)
    simp; omega
   ·simp
theorem ptL_ok {s:ByteArray} {w g r:Int}:∀ {m t:Nat},uval s m t=true→∀ a∈ptL s w g r m t,1≤a.1.size∧a.1.size≤4∧a.2=(w,(g,(r,[])))
 | 0,_,_,a,ha => by simp [ptL] at ha
 | m+1,t,hu,a,ha => by
   simp only [ptL] at ha
   split at ha
   ·rename_i ht
    have hz:usz s t≠0:=fun hz=>by
     rw [uval,if_pos (by omega),if_pos hz] at hu; cases hu
    have hu2:uval s m (t+usz s t)=true:=by
     rw [uval,if_pos (by omega),if_neg hz] at hu; exact hu
    obtain ⟨c,z,h1,h2,h3,_⟩:=decode_is ht hz
    have hok:=usz_ok (s:=s) (a:=t)
    rcases List.mem_cons.1 ha with rfl | ha
    ·refine ⟨?_,?_,rfl⟩
     ·rw [h1]; simp only; rw [h3]; omega
     ·rw [h1]; simp only; rw [h3]; omega
    ·refine ptL_ok (m:=m) ?_ a ha
     rw [h1]; simp only; rw [show ((t+z:Nat):Int)=t+usz s t by omega]; exact hu2
   ·simp at ha
theorem clean_is {K:Nat} {s:ByteArray} (hK:100000≤K) (hs:s.size≤30000) (hv:uvalid s=true):utf_Clean K s=some s:=by
 rw [utf_Clean,uvalid_is (by omega) (by omega),Option.bind_some,hv,if_pos rfl]
theorem put_is {K:Nat} {s:ByteArray} {w g r:Int} (hK:100000≤K) (hs:s.size≤30000) (hv:uvalid s=true):atom_Put_nggggg K [] 0 s w g r=some (putL s w g r):=by
 have hl:=ptL_len (s:=s) (w:=w) (g:=g) (r:=r) (m:=s.size) (t:=0)
 rw [atom_Put_nggggg,copyz_is hK,Option.bind_some,if_pos (by decide),clean_is hK hs hv,Option.bind_some,putE_loop hs s.size 0 K [] hv (by omega) (by omega) (by simp; omega),Option.bind_some,copyzp_is hK,Option.bind_some,List.nil_append,if_pos (by simp; omega),List.append_nil]
 rfl
def cvr (p:Int) (c:List Chg):Bool:=c.any fun x=>decide (p≥x.1)&&decide (p<x.2.1)
def ctB (rev:Int) (u:List Int) (c:List Chg):Int→List Atm→List Bool
 | _,[] => []
 | p,a :: l => if vis rev u a then cvr p c :: ctB rev u c (p+a.1.size) l else false :: ctB rev u c p l
def trues:Nat→List Bool→List Int
 | _,[] => []
 | i,b :: l => if b then (i:Int) :: trues (i+1) l else trues (i+1) l
theorem ctB_len {rev:Int} {u:List Int} {c:List Chg}:∀ {l:List Atm} {p:Int},(ctB rev u c p l).length=l.length
 | [],_ => rfl
 | a :: l,p => by simp only [ctB]; split <;> simp [ctB_len]
theorem cuts1_loop {K:Nat} {c:List Chg} {ps:List Int} {t:Int} {x:List Int} {p:Int} (hc:c.length≤1000) (hp:ps.getD t.toNat 0=p) (ht:t<ps.length) (hx:x.length≤100000):∀ (r:List Chg) (j k:Nat),c.drop j=r→r.length<k→
 edit_Cuts_ggrn.l1 K c ps t x k (j:Int)=some (if cvr p r=true then x++[t] else x)
 | [],j,k+1,h,_ => by
   have:=drop_nil h
   rw [edit_Cuts_ggrn.l1,if_neg (by simp; omega)]
   rfl
 | y :: r,j,k+1,h,hk => by
   obtain ⟨h1,h2,h3⟩:=drop_cons h zC
   rw [edit_Cuts_ggrn.l1,if_pos (by simp; omega),if_pos ⟨by omega,by omega⟩,Int.toNat_natCast,h2,hp,if_pos ht,if_pos ht,up1 (by omega),cuts1_loop hc hp ht hx r (j+1) k h3 (by simpa using hk)]
   by_cases e1:p≥y.1
   ·by_cases e2:p<y.2.1
    ·rw [if_pos (by simpa using e1),Option.bind_some,if_pos (by simpa using e2),if_pos (by simp; omega),if_pos (by simp [cvr,e1,e2])]
    ·have hn:cvr p (y :: r)=cvr p r:=by simp [cvr,e2]
     rw [if_pos (by simpa using e1),Option.bind_some,if_neg (by simpa using e2),hn]
   ·have hn:cvr p (y :: r)=cvr p r:=by simp [cvr,e1]
    rw [if_neg (by simpa using e1),Option.bind_some,if_neg (by simp),hn]
theorem cuts_loop2 {K:Nat} {l:List Atm} {u:List Int} {rev:Int} {c:List Chg} {ps:List Int} (hK:100000≤K) (hu:u.length≤50000) (hl:Aok l) (hc:c.length≤1000) (hps:ps.length≤30000):∀ (r:List Atm) (j k:Nat) (x:List Int) (p:Int),l.drop j=r→ps.drop j=plc rev u p r→r.length<k→x.length+r.length≤100000→
 edit_Cuts_ggrn.l0 K l rev u c ps k x (j:Int)=some (x++trues j (ctB rev u c p r))
 | [],j,k+1,x,p,h,_,_,_ => by
   have:=drop_nil h
   rw [edit_Cuts_ggrn.l0,if_neg (by simp; omega)]
   simp [ctB,trues]
 | a :: r,j,k+1,x,p,h,hp,hk,hx => by
   obtain ⟨h1,h2,h3⟩:=drop_cons h zA
   have hg:=hl.2 a (by have:a∈l.drop j:=by rw [h]; exact List.mem_cons_self
                       exact List.mem_of_mem_drop this)
   obtain ⟨h4,h5,h6⟩:=drop_cons hp (0:Int)
   simp only [List.length_cons] at hx
   have hlen:=hl.1
   rw [edit_Cuts_ggrn.l0,if_pos (by simp; omega),if_pos ⟨by omega,by omega⟩,Int.toNat_natCast,h2,vis_is hK hu (by omega),Option.bind_some,up1 (by omega)]
   have e1:=cuts1_loop (K:=K) (ps:=ps) (t:=(j:Int)) (x:=x) (p:=p) hc (by rw [Int.toNat_natCast]; exact h5) (by omega) (by omega) c 0 K rfl (by omega)
   have e1:edit_Cuts_ggrn.l1 K c ps j x K 0=_:=e1
   rw [e1]
   cases hv:vis rev u a with
   | false =>
     rw [if_pos (by simp),Option.bind_some,cuts_loop2 hK hu hl hc hps r (j+1) k x p h3 (by rw [h6,hv]; simp) (by simpa using hk) (by omega)]
     simp [ctB,hv,trues]
   | true =>
     have hx2:(if cvr p c=true then x++[(j:Int)] else x).length+r.length≤100000:=by
      split
      ·simp; omega
      ·omega
     rw [if_neg (by simp),Option.bind_some,cuts_loop2 hK hu hl hc hps r (j+1) k _ (p+a.1.size) h3 (by rw [h6,hv]; simp) (by simpa using hk) hx2]
     simp only [ctB,hv,if_true,trues]
     cases cvr p c <;> simp
theorem cuts_is {K:Nat} {l:List Atm} {u:List Int} {rev:Int} {c:List Chg} (hK:100000≤K) (hu:u.length≤50000) (hl:Aok l) (hc:Cok c) (ht:(vtx rev u l).length≤50000) (h0:chkE (ofBytes (vtx rev u l)) c=0):edit_Cuts_ggrn K l rev u c=some (trues 0 (ctB rev u c 0 l)):=by
 have hlen:=hl.1
 rw [edit_Cuts_ggrn,text_is hK hu hl,Option.bind_some,chk_is hK (by simpa [ofBytes,ByteArray.size] using ht) hc,Option.bind_some,h0,if_neg (by simp),plcs_is hK hu hl,Option.bind_some]
 have:=cuts_loop2 (K:=K) (rev:=rev) hK hu hl hc.1 (ps:=plc rev u 0 l) (by rw [plc_len]; omega) l 0 K [] 0 rfl rfl (by omega) (by simp; omega)
 simpa using this
def spA (rev:Int) (u:List Int) (f:Int):Int→List Atm→Nat
 | _,[] => 0
 | p,a :: l =>
   let n:=spA rev u f (if vis rev u a then p+a.1.size else p) l
   if n=0 then (if decide (p<f)&&vis rev u a then 1 else 0) else n+1
def skp (rev rank:Int) (l:List Atm):Nat:=(l.takeWhile fun a=>decide (a.2.1 > rev)&&decide (a.2.2.2.1≤rank)).length
def spt (rev:Int) (u:List Int) (rank f:Int) (l:List Atm):Nat:=spA rev u f 0 l+skp rev rank (l.drop (spA rev u f 0 l))
theorem spA_cons {rev:Int} {u:List Int} {f p:Int} {a:Atm} {l:List Atm}:spA rev u f p (a :: l)=if spA rev u f (if vis rev u a=true then p+(a.1.size:Int) else p) l=0 then (if (decide (p<f)&&vis rev u a)=true then 1 else 0) else spA rev u f (if vis rev u a=true then p+(a.1.size:Int) else p) l+1:=rfl
theorem spA_le {rev:Int} {u:List Int} {f:Int}:∀ {l:List Atm} {p:Int},spA rev u f p l≤l.length
 | [],_ => Nat.le_refl _
 | a :: l,p => by
   have:=spA_le (rev:=rev) (u:=u) (f:=f) (l:=l) (p:=if vis rev u a then p+a.1.size else p)
   rw [spA_cons,List.length_cons]
   generalize spA rev u f (if vis rev u a=true then p+(a.1.size:Int) else p) l=n at *
   repeat' split
   all_goals omega
theorem takeWhile_len {α:Type} {q:α→Bool}:∀ {l:List α},(l.takeWhile q).length≤l.length
 | [] => Nat.le_refl _
 | a :: l => by
   have:=takeWhile_len (q:=q) (l:=l)
   simp only [List.takeWhile_cons]
   split <;> simp <;> omega
theorem spt_le {rev:Int} {u:List Int} {rank f:Int} {l:List Atm}:spt rev u rank f l≤l.length:=by
 have:=spA_le (rev:=rev) (u:=u) (f:=f) (l:=l) (p:=0)
 have:=takeWhile_len (q:=fun a:Atm=>decide (a.2.1 > rev)&&decide (a.2.2.2.1≤rank)) (l:=l.drop (spA rev u f 0 l))
 unfold spt skp
 simp only [List.length_drop] at this
 omega
theorem spot0_loop {K:Nat} {l:List Atm} {u:List Int} {rev f:Int} {ps:List Int} (hK:100000≤K) (hu:u.length≤50000) (hl:Aok l) (hps:ps.length≤30000):∀ (r:List Atm) (j k:Nat) (x p:Int),l.drop j=r→ps.drop j=plc rev u p r→r.length<k→
 edit_spot_grgrgg.l0 K l ps f rev u k x (j:Int)=some (if spA rev u f p r=0 then x else ((j+spA rev u f p r:Nat):Int))
 | [],j,k+1,x,p,h,_,_ => by
   have:=drop_nil h
   rw [edit_spot_grgrgg.l0,if_neg (by simp; omega)]
   rfl
 | a :: r,j,k+1,x,p,h,hp,hk => by
   obtain ⟨h1,h2,h3⟩:=drop_cons h zA
   have hg:=hl.2 a (by have:a∈l.drop j:=by rw [h]; exact List.mem_cons_self
                       exact List.mem_of_mem_drop this)
   obtain ⟨h4,h5,h6⟩:=drop_cons hp (0:Int)
   have hlen:=hl.1
   rw [edit_spot_grgrgg.l0,if_pos (by simp; omega),if_pos ⟨by omega,by omega⟩,Int.toNat_natCast,h2,h5,vis_is hK hu (by omega),Option.bind_some,up1 (by omega)]
   have hj:(j:Int)<ps.length:=by omega
   simp only [if_pos hj]
   have ih:=fun x=>spot0_loop (f:=f) hK hu hl hps r (j+1) k x _ h3 h6 (by simpa using hk)
   rw [ih,ih]
   rw [spA_cons]
   generalize spA rev u f (if vis rev u a=true then p+(a.1.size:Int) else p) r=n
   have e:(if decide (p<f)=true then some (vis rev u a) else some false)=some (decide (p<f)&&vis rev u a):=by
    by_cases h:p<f <;> simp [h]
   rw [e,Option.bind_some]
   cases (decide (p<f)&&vis rev u a) <;> by_cases hn:n=0 <;> simp [hn] <;> omega
theorem spot1_loop {K:Nat} {l:List Atm} {rev rank:Int} (hl:Aok l):∀ (r:List Atm) (j k:Nat),l.drop j=r→j≤l.length→r.length<k→edit_spot_grgrgg.l1 K l rev rank k (j:Int)=some ((j+skp rev rank r:Nat):Int)
 | [],j,k+1,h,hj,_ => by
   have:=drop_nil h
   rw [edit_spot_grgrgg.l1,if_neg (by simp; omega),Option.bind_some,if_neg (by simp)]
   rfl
 | a :: r,j,k+1,h,hj,hk => by
   obtain ⟨h1,h2,h3⟩:=drop_cons h zA
   have hlen:=hl.1
   have hb:0≤(j:Int)∧(j:Int)<l.length:=⟨by omega,by omega⟩
   rw [edit_spot_grgrgg.l1,if_pos (by simp; omega),Int.toNat_natCast,h2,up1 (by omega),spot1_loop hl r (j+1) k h3 (by omega) (by simpa using hk)]
   simp only [if_pos hb]
   by_cases e1:a.2.1 > rev
   ·by_cases e2:a.2.2.2.1≤rank
    ·rw [if_pos (by simpa using e1),Option.bind_some,if_pos (by simpa using e2)]
     simp only [skp,List.takeWhile_cons,decide_eq_true e1,decide_eq_true e2]
     simp; omega
    ·rw [if_pos (by simpa using e1),Option.bind_some,if_neg (by simpa using e2)]
     simp only [skp,List.takeWhile_cons,decide_eq_false e2]
     simp
   ·rw [if_neg (by simpa using e1),Option.bind_some,if_neg (by simp)]
    simp only [skp,List.takeWhile_cons,decide_eq_false e1]
    simp
theorem spot_is {K:Nat} {l:List Atm} {u:List Int} {rev f rank:Int} (hK:100000≤K) (hu:u.length≤50000) (hl:Aok l):edit_spot_grgrgg K l (plc rev u 0 l) rev u f rank=some ((spt rev u rank f l:Nat):Int):=by
 have hlen:=hl.1
 have e:=spot0_loop (K:=K) (rev:=rev) (f:=f) hK hu hl (ps:=plc rev u 0 l) (by rw [plc_len]; omega) l 0 K 0 0 rfl rfl (by omega)
 have e:edit_spot_grgrgg.l0 K l (plc rev u 0 l) f rev u K 0 0=_:=e
 rw [edit_spot_grgrgg,e,Option.bind_some]
 have hle:=spA_le (rev:=rev) (u:=u) (f:=f) (l:=l) (p:=0)
 have e2:(if spA rev u f 0 l=0 then (0:Int) else ((0+spA rev u f 0 l:Nat):Int))=((spA rev u f 0 l:Nat):Int):=by
  split <;> omega
 rw [e2,spot1_loop hl _ _ K rfl hle (by simp; omega)]
 rfl
theorem spots_loop {K:Nat} {l:List Atm} {u:List Int} {rev rank:Int} {c:List Chg} (hK:100000≤K) (hu:u.length≤50000) (hl:Aok l) (hc:c.length≤1000):∀ (r:List Chg) (j k:Nat) (x:List Int),c.drop j=r→r.length<k→x.length+r.length≤100000→
 edit_Spots_ggrng.l0 K c l (plc rev u 0 l) rev u rank k x (j:Int)=some (x++r.map fun y=>((spt rev u rank y.1 l:Nat):Int))
 | [],j,k+1,x,h,_,_ => by
   have:=drop_nil h
   rw [edit_Spots_ggrng.l0,if_neg (by simp; omega)]
   simp
 | y :: r,j,k+1,x,h,hk,hx => by
   obtain ⟨h1,h2,h3⟩:=drop_cons h zC
   simp only [List.length_cons] at hx
   rw [edit_Spots_ggrng.l0,if_pos (by simp; omega),if_pos ⟨by omega,by omega⟩,Int.toNat_natCast,h2,spot_is hK hu hl,Option.bind_some,if_pos (by simp; omega),up1 (by omega),spots_loop hK hu hl hc r (j+1) k _ h3 (by simpa using hk) (by simp; omega)]
   simp
theorem spots_is {K:Nat} {l:List Atm} {u:List Int} {rev rank:Int} {c:List Chg} (hK:100000≤K) (hu:u.length≤50000) (hl:Aok l) (hc:Cok c) (ht:(vtx rev u l).length≤50000) (h0:chkE (ofBytes (vtx rev u l)) c=0):edit_Spots_ggrng K l rev u c rank=some (c.map fun y=>((spt rev u rank y.1 l:Nat):Int)):=by
 have hlen:=hl.1
 have hcl:=hc.1
 rw [edit_Spots_ggrng,text_is hK hu hl,Option.bind_some,chk_is hK (by simpa [ofBytes,ByteArray.size] using ht) hc,Option.bind_some,h0,if_neg (by simp),plcs_is hK hu hl,Option.bind_some]
 have:=spots_loop (K:=K) (rev:=rev) (rank:=rank) hK hu hl hc.1 c 0 K [] rfl (by omega) (by simp; omega)
 simpa using this
def addC (a:Atm) (c:Int×Int):Atm:=(a.1,(a.2.1,(a.2.2.1,(a.2.2.2.1,a.2.2.2.2++[c]))))
def ctA (c:Int×Int):List Bool→List Atm→List Atm
 | b :: bs,a :: l => (if b then addC a c else a) :: ctA c bs l
 | _,l => l
def spl (old:List Atm):Nat→List (Nat×List Atm)→List Atm
 | p,[] => old.drop p
 | p,(s,x) :: r => (old.drop p).take (s - p) ++ (x ++ spl old s r)
def upS (rev:Int) (u:List Int) (c:List Chg) (w g rank:Int) (l:List Atm):List Atm:=
 spl (ctA (w,g) (ctB rev u c 0 l) l) 0 (c.map fun y=>(spt rev u rank y.1 l,putL y.2.2 w g rank))
theorem ctA_len {c:Int×Int}:∀ {bs:List Bool} {l:List Atm},(ctA c bs l).length=l.length
 | [],l => by simp [ctA]
 | b :: bs,[] => by simp [ctA]
 | b :: bs,a :: l => by simp [ctA,ctA_len]
theorem set_foldl:∀ {bs:List Bool} {pre:List Bool} {i:Nat},pre.length=i→(trues i bs).foldl (fun acc (x:Int)=>acc.set x.toNat true) (pre++List.replicate bs.length false)=pre++bs
 | [],pre,i,h => by simp [trues]
 | b :: bs,pre,i,h => by
   have e:pre++List.replicate (b :: bs).length false=(pre++[false])++List.replicate bs.length false:=by
    simp [List.replicate_succ]
   cases b with
   | false =>
     have:=set_foldl (bs:=bs) (pre:=pre++[false]) (i:=i+1) (by simp [h])
     simp only [trues,Bool.false_eq_true,if_false]
     rw [e,this]
     simp
   | true =>
     have:=set_foldl (bs:=bs) (pre:=pre++[true]) (i:=i+1) (by simp [h])
     simp only [trues,if_true,List.foldl_cons,Int.toNat_natCast]
     have e2:(pre++List.replicate (true :: bs).length false).set i true=(pre++[true])++List.replicate bs.length false:=by
      rw [e,← h]
      simp
     rw [e2,this]
     simp
theorem trues_mem:∀ {bs:List Bool} {i:Nat} {x:Int},x∈trues i bs→(i:Int)≤x∧x<i+bs.length
 | [],_,_,h => by simp [trues] at h
 | b :: bs,i,x,h => by
   have ih:=fun h=>trues_mem (bs:=bs) (i:=i+1) (x:=x) h
   simp only [trues] at h
   split at h
   ·rcases List.mem_cons.1 h with rfl | h
    ·simp; omega
    ·have:=ih h
     simp only [List.length_cons]; omega
   ·have:=ih h
    simp only [List.length_cons]; omega
theorem trues_len:∀ {bs:List Bool} {i:Nat},(trues i bs).length≤bs.length
 | [],_ => by simp [trues]
 | b :: bs,i => by
   have:=trues_len (bs:=bs) (i:=i+1)
   simp only [trues]
   split <;> simp <;> omega
theorem upon0_loop {K:Nat} {ts:List Int} (hts:ts.length≤50000):∀ (r:List Int) (j k:Nat) (acc:List Bool),ts.drop j=r→r.length<k→(∀ x∈r,0≤x∧x<acc.length)→
 edit_Upon_ggrnggg.l0 K ts k acc (j:Int)=some (r.foldl (fun acc (x:Int)=>acc.set x.toNat true) acc)
 | [],j,k+1,acc,h,_,_ => by
   have:=drop_nil h
   rw [edit_Upon_ggrnggg.l0,if_neg (by simp; omega)]
   rfl
 | x :: r,j,k+1,acc,h,hk,hb => by
   obtain ⟨h1,h2,h3⟩:=drop_cons h (0:Int)
   have hx:=hb x List.mem_cons_self
   rw [edit_Upon_ggrnggg.l0,if_pos (by simp; omega),Int.toNat_natCast,h2,if_pos ⟨by omega,by omega,hx.1,hx.2⟩,up1 (by omega),upon0_loop hts r (j+1) k _ h3 (by simpa using hk) (fun y hy=>by rw [List.length_set]; exact hb y (List.mem_cons_of_mem _ hy))]
   rfl
theorem upon1_loop {K:Nat} {l:List Atm} {cut:List Bool} {w g:Int} (hl:l.length≤20000) (hcl:cut.length=l.length):∀ (r:List Atm) (j k:Nat) (pre:List Atm) (bs:List Bool),cut.drop j=bs→pre.length=j→j+r.length=l.length→r.length<k→(∀ a∈r,a.2.2.2.2.length≤1000)→
 edit_Upon_ggrnggg.l1 K l cut w g k (pre++r) (j:Int)=some (pre++ctA (w,g) bs r)
 | [],j,k+1,pre,bs,hb,hp,h,_,_ => by
   rw [edit_Upon_ggrnggg.l1,if_neg (by simp at h ⊢; omega)]
   cases bs <;> simp [ctA]
 | a :: r,j,k+1,pre,[],hb,hp,h,hk,_ => by
   have:=drop_nil hb
   simp at h
   omega
 | a :: r,j,k+1,pre,b :: bs,hb,hp,h,hk,ha => by
   obtain ⟨h1,h2,h3⟩:=drop_cons hb false
   simp only [List.length_cons] at h
   have hga:(pre++a :: r).getD j zA=a:=by
    rw [List.getD_eq_getElem?_getD,List.getElem?_append_right (by omega),hp]; simp
   have hcu:=ha a List.mem_cons_self
   rw [edit_Upon_ggrnggg.l1,if_pos (by simp; omega),if_pos ⟨by omega,by omega⟩,Int.toNat_natCast,h2,hga,up1 (by omega)]
   have e:∀ y:Atm,pre++y :: r=(pre++[y])++r:=fun y=>by simp
   cases b with
   | false =>
     rw [if_neg (by simp),e,upon1_loop hl hcl r (j+1) k (pre++[a]) bs h3 (by simp [hp]) (by omega) (by simpa using hk) (fun x hx=>ha x (List.mem_cons_of_mem _ hx))]
     simp [ctA]
   | true =>
     have es:setCut (pre++a :: r) j (a.2.2.2.2++[(w,g)])=(pre++[addC a (w,g)])++r:=by
      unfold setCut
      rw [hga,List.set_append_right _ _ (by omega),hp]
      simp [addC]
     rw [if_pos rfl,if_pos ⟨by simp; omega,by simp; omega,by simp; omega,rfl⟩,es,upon1_loop hl hcl r (j+1) k (pre++[addC a (w,g)]) bs h3 (by simp [hp]) (by omega) (by simpa using hk) (fun x hx=>ha x (List.mem_cons_of_mem _ hx))]
     simp [ctA]
theorem spA_mono {rev:Int} {u:List Int} {f f':Int} (h:f≤f'):∀ {l:List Atm} {p:Int},spA rev u f p l≤spA rev u f' p l
 | [],_ => Nat.le_refl _
 | a :: l,p => by
   have:=spA_mono h (rev:=rev) (u:=u) (l:=l) (p:=if vis rev u a=true then p+(a.1.size:Int) else p)
   rw [spA_cons,spA_cons]
   generalize spA rev u f (if vis rev u a=true then p+(a.1.size:Int) else p) l=n at *
   generalize spA rev u f' (if vis rev u a=true then p+(a.1.size:Int) else p) l=n' at *
   by_cases e:n'=0
   ·rw [if_pos e,if_pos (by omega)]
    by_cases e2:p<f
    ·have:p<f':=by omega
     rw [decide_eq_true e2,decide_eq_true this]
     exact Nat.le_refl _
    ·rw [decide_eq_false e2,Bool.false_and,if_neg (by simp)]
     omega
   ·rw [if_neg e]
    repeat' split
    all_goals omega
theorem spA_vis {rev:Int} {u:List Int} {f:Int}:∀ {l:List Atm} {p:Int} {n:Nat},spA rev u f p l=n+1→∃ a,l[n]? = some a∧vis rev u a=true
 | [],_,_,h => by simp [spA] at h
 | a :: l,p,n,h => by
   rw [spA_cons] at h
   generalize (if vis rev u a=true then p+(a.1.size:Int) else p)=q at h
   by_cases e:spA rev u f q l=0
   ·rw [if_pos e] at h
    by_cases hv:(decide (p<f)&&vis rev u a)=true
    ·rw [if_pos hv] at h
     have:n=0:=by omega
     subst this
     exact ⟨a,rfl,by simp only [Bool.and_eq_true] at hv; exact hv.2⟩
    ·rw [if_neg hv] at h; omega
   ·rw [if_neg e] at h
    obtain ⟨m,hm⟩:∃ m,n=m+1:=⟨n - 1,by omega⟩
    subst hm
    have h3:spA rev u f q l=m+1:=by omega
    obtain ⟨b,h1,h2⟩:=spA_vis h3
    exact ⟨b,by simpa using h1,h2⟩
theorem skp_le {rev rank:Int}:∀ {l:List Atm} {i:Nat} {a:Atm},l[i]? = some a→a.2.1≤rev→skp rev rank l≤i
 | [],_,_,h,_ => by simp at h
 | b :: l,0,a,h,ha => by
   simp at h
   subst h
   simp only [skp,List.takeWhile_cons]
   rw [decide_eq_false (by omega)]
   simp
 | b :: l,i+1,a,h,ha => by
   have:=skp_le (rank:=rank) (l:=l) (i:=i) (a:=a) (by simpa using h) ha
   simp only [skp,List.takeWhile_cons] at *
   split
   ·simp; omega
   ·simp
theorem vis_rev {rev:Int} {u:List Int} {a:Atm} (h:vis rev u a=true):a.2.1≤rev:=by
 simp only [vis,Bool.and_eq_true,decide_eq_true_eq] at h
 exact h.1.1
theorem spt_mono {rev:Int} {u:List Int} {rank f f':Int} {l:List Atm} (h:f≤f'):spt rev u rank f l≤spt rev u rank f' l:=by
 have hm:=spA_mono (rev:=rev) (u:=u) (l:=l) (p:=0) h
 unfold spt
 by_cases e:spA rev u f 0 l=spA rev u f' 0 l
 ·rw [e]; exact Nat.le_refl _
 ·obtain ⟨n,hn⟩:∃ n,spA rev u f' 0 l=n+1:=⟨spA rev u f' 0 l - 1,by omega⟩
  obtain ⟨a,h1,h2⟩:=spA_vis hn
  have:=skp_le (rank:=rank) (l:=l.drop (spA rev u f 0 l)) (i:=n - spA rev u f 0 l) (a:=a) (by rw [List.getElem?_drop,show spA rev u f 0 l+(n - spA rev u f 0 l)=n by omega]; exact h1) (vis_rev h2)
  omega
theorem f5_zero {l:List Int} (h:f5 l=0):∀ x∈l,x=0:=by
 induction l with
 | nil => simp
 | cons y l ih =>
   unfold f5 at h
   split at h
   ·rename_i e
    intro x hx
    rcases List.mem_cons.1 hx with rfl | hx
    ·exact e
    ·exact ih h x hx
   ·rename_i e; exact absurd h e
structure Gok (s:ByteArray) (c:List Chg):Prop where
 v:uvalid s=true
 len:c.length≤8
 bd:∀ x∈c,0≤x.1∧x.1≤x.2.1∧x.2.1≤s.size
 eg:∀ x∈c,isE s x.1=true∧isE s x.2.1=true
 od:orC c=false
 vt:∀ x∈c,uvalid x.2.2=true
theorem chk_ok {s:ByteArray} {c:List Chg} (h:chkE s c=0):Gok s c:=by
 unfold chkE at h
 split at h
 ·omega
 ·rename_i h1
  split at h
  ·omega
  ·rename_i h2
   have h3:=f5_zero h
   have a1:=h3 _ (List.mem_cons_self)
   have a2:=h3 _ (List.mem_cons_of_mem _ List.mem_cons_self)
   have a3:=h3 _ (List.mem_cons_of_mem _ (List.mem_cons_of_mem _ List.mem_cons_self))
   have a4:=h3 _ (List.mem_cons_of_mem _ (List.mem_cons_of_mem _ (List.mem_cons_of_mem _ List.mem_cons_self)))
   refine ⟨by simpa using h1,by omega,fun x hx=>?_,fun x hx=>?_,?_,fun x hx=>?_⟩
   ·split at a1
    ·omega
    ·rename_i e
     have:bdC s x=false:=by
      cases hb:bdC s x with
      | false => rfl
      | true => exact absurd (List.any_eq_true.2 ⟨x,hx,hb⟩) e
     simp only [bdC,Bool.or_eq_false_iff,decide_eq_false_iff_not] at this
     omega
   ·split at a2
    ·omega
    ·rename_i e
     have:egC s x=false:=by
      cases hb:egC s x with
      | false => rfl
      | true => exact absurd (List.any_eq_true.2 ⟨x,hx,hb⟩) e
     simpa [egC] using this
   ·split at a3
    ·omega
    ·rename_i e; simpa using e
   ·split at a4
    ·omega
    ·rename_i e
     cases hb:uvalid x.2.2 with
     | true => rfl
     | false => exact absurd (List.any_eq_true.2 ⟨x,hx,by simp [hb]⟩) e
theorem orC_cons {a b:Chg} {l:List Chg} (h:orC (a :: b :: l)=false):a.2.1≤b.1∧orC (b :: l)=false:=by
 rw [orC] at h
 simp only [Bool.or_eq_false_iff,decide_eq_false_iff_not] at h
 exact ⟨by omega,h.2⟩
theorem upon2_loop {K:Nat} {l old:List Atm} {u:List Int} {rev rank w g:Int} {c:List Chg} (hK:100000≤K) (hl:l.length≤20000) (ho:old.length=l.length) (hc:c.length≤8) (hv:∀ x∈c,uvalid x.2.2=true) (hz:∀ x∈c,x.2.2.size≤30000) (hb:∀ x∈c,x.1≤x.2.1) :
 ∀ (r:List Chg) (j k p:Nat) (out:List Atm),c.drop j=r→r.length<k→p≤l.length→(∀ y,r.head? = some y→p≤spt rev u rank y.1 l)→orC r=false→out.length+r.length * 60000+20000≤10000000→
 edit_Upon_ggrnggg.l2 K c (c.map fun y=>((spt rev u rank y.1 l:Nat):Int)) old w g rank k out (p:Int) (j:Int)=some (out++spl old p (r.map fun y=>(spt rev u rank y.1 l,putL y.2.2 w g rank)))
 | [],j,k+1,p,out,h,_,hp,_,_,hout => by
   have:=drop_nil h
   rw [edit_Upon_ggrnggg.l2,if_neg (by simp; omega),if_pos ⟨by omega,by omega,by simp; omega⟩]
   simp only [List.map_nil,spl,Int.toNat_natCast]
   rw [← List.length_drop,List.take_length]
 | y :: r,j,k+1,p,out,h,hk,hp,hh,hod,hout => by
   obtain ⟨h1,h2,h3⟩:=drop_cons h zC
   have hy:y∈c:=by have:y∈c.drop j:=by rw [h]; exact List.mem_cons_self
                   exact List.mem_of_mem_drop this
   have hs:=hh y rfl
   have hle:=spt_le (rev:=rev) (u:=u) (rank:=rank) (f:=y.1) (l:=l)
   have hg:(c.map fun y=>((spt rev u rank y.1 l:Nat):Int)).getD j 0=((spt rev u rank y.1 l:Nat):Int):=by
    rw [List.getD_eq_getElem?_getD,List.getElem?_map]
    have:c[j]? = some y:=by rw [← h2,List.getD_eq_getElem?_getD,List.getElem?_eq_getElem h1]; rfl
    rw [this]; rfl
   simp only [List.length_cons] at hout
   have hpl:=ptL_len (s:=y.2.2) (w:=w) (g:=g) (r:=rank) (m:=y.2.2.size) (t:=0)
   have hpl:(putL y.2.2 w g rank).length≤y.2.2.size:=hpl
   have hzy:=hz y hy
   have htl:(List.take ((spt rev u rank y.1 l) - p) (List.drop p old)).length≤20000:=by simp; omega
   rw [edit_Upon_ggrnggg.l2,if_pos (by simp; omega),Int.toNat_natCast,h2,hg,Int.toNat_natCast,Int.toNat_natCast,if_pos ⟨by omega,by omega,by simp; omega,by omega,by omega,by omega,by omega⟩,put_is hK hzy (hv y hy),Option.bind_some,if_pos (by rw [List.length_append]; omega),up1 (by omega),
    upon2_loop hK hl ho hc hv hz hb r (j+1) k _ _ h3 (by simpa using hk) hle (fun z hz'=>by
     cases r with
     | nil => simp at hz'
     | cons z' r =>
       simp at hz'
       subst hz'
       have:=orC_cons hod
       exact spt_mono (Int.le_trans (hb y hy) this.1)) (by
     cases r with
     | nil => rfl
     | cons z' r => exact (orC_cons hod).2) (by rw [List.length_append,List.length_append]; omega)]
   simp [spl]
theorem upon_is {K:Nat} {l:List Atm} {u:List Int} {rev rank w g:Int} {c:List Chg} (hK:100000≤K) (hu:u.length≤50000) (hl:Aok l) (hc:Cok c) (ht:(vtx rev u l).length≤50000) (h0:chkE (ofBytes (vtx rev u l)) c=0):edit_Upon_ggrnggg K l rev u c w g rank=some (upS rev u c w g rank l):=by
 have hlen:=hl.1
 have G:=chk_ok h0
 have hbl:=ctB_len (rev:=rev) (u:=u) (c:=c) (l:=l) (p:=0)
 rw [edit_Upon_ggrnggg,spots_is hK hu hl hc ht h0,Option.bind_some,text_is hK hu hl,Option.bind_some,chk_is hK (by simpa [ofBytes,ByteArray.size] using ht) hc,Option.bind_some,h0,if_neg (by simp),if_pos ⟨by omega,by omega,by omega,by omega,by omega⟩,cuts_is hK hu hl hc ht h0,Option.bind_some]
 have htl:=trues_len (bs:=ctB rev u c 0 l) (i:=0)
 have e0:=upon0_loop (K:=K) (ts:=trues 0 (ctB rev u c 0 l)) (by omega) (trues 0 (ctB rev u c 0 l)) 0 K (List.replicate l.length false) rfl (by omega) (fun x hx=>by
  have:=trues_mem hx
  simp; omega)
 have e0:edit_Upon_ggrnggg.l0 K (trues 0 (ctB rev u c 0 l)) K (List.replicate l.length false) 0=_:=e0
 have e1:=set_foldl (bs:=ctB rev u c 0 l) (pre:=[]) (i:=0) rfl
 rw [List.nil_append,List.nil_append,hbl] at e1
 rw [Int.toNat_natCast,e0,e1,Option.bind_some,copyA_is hK hl,Option.bind_some,if_pos (by simp)]
 have e2:=upon1_loop (K:=K) (l:=l) (cut:=ctB rev u c 0 l) (w:=w) (g:=g) hlen hbl l 0 K [] _ rfl rfl (by omega) (by omega) (fun a ha=>(hl.2 a ha).2)
 have e2:edit_Upon_ggrnggg.l1 K l (ctB rev u c 0 l) w g K l 0=_:=e2
 rw [e2,Option.bind_some,List.nil_append]
 have e3:=upon2_loop (K:=K) (l:=l) (old:=ctA (w,g) (ctB rev u c 0 l) l) (u:=u) (rev:=rev) (rank:=rank) (w:=w) (g:=g) (c:=c) hK hlen ctA_len G.len G.vt hc.2 (fun x hx=>(G.bd x hx).2.1) c 0 K 0 [] rfl (by have:=G.len; omega) (by omega) (fun _ _=>by omega) G.od (by have:=G.len; simp; omega)
 have e3:edit_Upon_ggrnggg.l2 K c _ _ w g rank K [] 0 0=_:=e3
 exact e3
def Grp (g:List Int):Prop:=g.Pairwise (·< ·)∧∀ x∈g,0≤x∧x<60
theorem sorted_len:∀ {l:List Int} {lo hi:Int},l.Pairwise (·< ·)→(∀ x∈l,lo≤x∧x<hi)→lo≤hi→(l.length:Int)≤hi - lo
 | [],lo,hi,_,_,h => by simp; omega
 | a :: l,lo,hi,hp,hb,h => by
   obtain ⟨h1,h2⟩:=List.pairwise_cons.1 hp
   have ha:=hb a List.mem_cons_self
   have:=sorted_len (l:=l) (lo:=a+1) (hi:=hi) h2 (fun x hx=>⟨by have:=h1 x hx; omega,(hb x (List.mem_cons_of_mem _ hx)).2⟩) (by omega)
   simp only [List.length_cons]
   omega
theorem Grp.len {g:List Int} (h:Grp g):g.length≤60:=by
 have:=sorted_len h.1 h.2 (by omega)
 omega
theorem Grp.ins {g:List Int} {x:Int} (h:Grp g) (hx:0≤x∧x<60):Grp (insS x g):=⟨insS_sorted h.1,fun y hy=>by
 rcases mem_insS.1 hy with rfl | hy
 ·exact hx
 ·exact h.2 y hy⟩
theorem Grp.filter {g:List Int} {q:Int→Bool} (h:Grp g):Grp (g.filter q):=⟨h.1.filter q,fun y hy=>h.2 y (List.mem_filter.1 hy).1⟩
theorem Grp.del {g:List Int} {x:Int} (h:Grp g):Grp (delS x g):=h.filter
structure Atk (h:Int) (a:Atm):Prop where
 s1:1≤a.1.size
 s4:a.1.size≤4
 r0:0≤a.2.1
 r1:a.2.1≤h
 g0 : -1≤a.2.2.1
 g1:a.2.2.1<60
 n:(a.2.2.2.2.length:Int)≤h
 c:∀ c∈a.2.2.2.2,0≤c.1∧c.1≤h∧-1≤c.2∧c.2<60
structure Ivt (l:List Atm) (us:List (List Int)) (f:Int) (g o:List Int):Prop where
 ne:0<us.length
 lo:0≤f
 hi:hdR us f≤200
 gg:Grp g
 oo:Grp o
 uu:∀ u∈us,u.Pairwise (·< ·)∧∀ x∈u,x∈g
 len:l.length≤4000
 aa:∀ a∈l,Atk (hdR us f) a
theorem Ivt.rok {l:List Atm} {us:List (List Int)} {f:Int} {g o:List Int} (h:Ivt l us f g o):Rok us f g o:=by
 have h1:=h.ne; have h2:=h.lo; have h3:=h.hi
 unfold hdR at h3
 refine ⟨h1,by omega,h2,by omega,fun u hu=>?_,by have:=h.gg.len; omega,by have:=h.oo.len; omega⟩
 have:Grp u:=⟨(h.uu u hu).1,fun x hx=>h.gg.2 x ((h.uu u hu).2 x hx)⟩
 have:=this.len
 omega
theorem Ivt.aok {l:List Atm} {us:List (List Int)} {f:Int} {g o:List Int} (h:Ivt l us f g o):Aok l:=by
 refine ⟨by have:=h.len; omega,fun a ha=>?_⟩
 have:=h.aa a ha
 have h1:=this.s4; have h2:=this.n; have h3:=h.hi
 exact ⟨by omega,by omega⟩
theorem vtx_len4 {rev:Int} {u:List Int}:∀ {l:List Atm},(∀ a∈l,a.1.size≤4)→(vtx rev u l).length≤4 * l.length
 | [],_ => by simp [vtx]
 | a :: l,h => by
   have:=vtx_len4 (rev:=rev) (u:=u) (l:=l) fun b hb=>h b (List.mem_cons_of_mem _ hb)
   have:=h a List.mem_cons_self
   simp only [vtx]
   split <;> simp [bytesL_length] <;> omega
theorem size_ofBytes {x:List Int}:(ofBytes x).size=x.length:=by simp [ofBytes,ByteArray.size]
theorem Ivt.vtx {l:List Atm} {us:List (List Int)} {f:Int} {g o:List Int} (h:Ivt l us f g o) {rev:Int} {u:List Int}:(vtx rev u l).length≤16000:=by
 have:=vtx_len4 (rev:=rev) (u:=u) (l:=l) fun a ha=>(h.aa a ha).s4
 have:=h.len
 omega
theorem engHead_is {K:Nat} {l:List Atm} {us:List (List Int)} {f:Int} {g o:List Int} (h:Rok us f g o):engine_Engine_Head_b_0db29 K l us f g o=some (hdR us f):=by
 rw [engine_Engine_Head_b_0db29,head_is h,Option.bind_some]
def txtR (l:List Atm) (us:List (List Int)) (f r:Int):ByteArray×Int:=if lvR us f r=true then (ofBytes (vtx r (unR us f r) l),0) else (ByteArray.mk #[],190)
theorem engText_is {K:Nat} {l:List Atm} {us:List (List Int)} {f:Int} {g o:List Int} {r:Int} (hK:100000≤K) (h:Rok us f g o) (hl:Aok l):engine_Engine_Text_bg_d34b6 K l us f g o r=some (txtR l us f r):=by
 have:=unR_len h (r:=r)
 rw [engine_Engine_Text_bg_d34b6,engine_Engine_Live_bg_d34b6,live_is h,Option.bind_some,Option.bind_some,engine_Engine_UndoneAt_bg_d34b6,undone_is h,Option.bind_some,Option.bind_some,text_is hK (by omega) hl,Option.bind_some]
 unfold txtR
 cases lvR us f r <;> rfl
theorem lv_head {us:List (List Int)} {f:Int} (h:0<us.length):lvR us f (hdR us f)=true:=by
 unfold lvR hdR
 simp
 omega
theorem un_head {us:List (List Int)} {f:Int} (h:0<us.length):unR us f (hdR us f)=lsR us:=by
 unfold unR
 rw [if_pos (lv_head h)]
 unfold lsR hdR
 rw [show (f+(us.length:Int) - 1 - f).toNat=us.length - 1 by omega]
def nowT (l:List Atm) (us:List (List Int)) (f:Int):List Int:=vtx (hdR us f) (lsR us) l
theorem now_is {K:Nat} {l:List Atm} {us:List (List Int)} {f:Int} {g o:List Int} (hK:100000≤K) (h:Rok us f g o) (hl:Aok l):palinodetop_now_b_0db29 K l us f g o=some (ofBytes (nowT l us f)):=by
 rw [palinodetop_now_b_0db29,engHead_is h,Option.bind_some,engText_is hK h hl,Option.bind_some]
 unfold txtR nowT
 rw [if_pos (lv_head h.ne),un_head h.ne]
theorem engCopy_is {K:Nat} {l:List Atm} {us:List (List Int)} {f:Int} {g o:List Int} (hK:100000≤K) (h:Rok us f g o) (hl:Aok l):engine_Engine_Copy_b_0db29 K l us f g o=some (l,us,g,o):=by
 rw [engine_Engine_Copy_b_0db29,copyA_is hK hl,Option.bind_some,rcopy_is hK h,Option.bind_some]
theorem fits_is {K:Nat} {l:List Atm} {us:List (List Int)} {f:Int} {g o:List Int} (hK:100000≤K) (h:Rok us f g o) (hl:Aok l):engine_Engine_fits_b_0db29 K l us f g o=some (decide ((nowT l us f).length≤20000)):=by
 rw [engine_Engine_fits_b_0db29,engHead_is h,Option.bind_some,engText_is hK h hl,Option.bind_some]
 unfold txtR nowT
 rw [if_pos (lv_head h.ne),un_head h.ne,size_ofBytes]
 congr 1
 rw [decide_eq_decide]
 omega
def edtR (l:List Atm) (us:List (List Int)) (f:Int) (g o:List Int) (base grp rank:Int) (c:List Chg):Int×Int×List Atm×List (List Int)×List Int×List Int:=
 if lvR us f base=false then (0,190,l,us,g,o)
 else if chkE (ofBytes (vtx base (unR us f base) l)) c≠0 then (0,chkE (ofBytes (vtx base (unR us f base) l)) c,l,us,g,o)
 else if (adR us f g o grp).2.1≠0 then (0,(adR us f g o grp).2.1,l,us,g,o)
 else if rank<0∨1000000<rank then (0,10,l,us,g,o)
 else if 4000<(upS base (unR us f base) c (hdR us f+1) grp rank l).length then (0,70,l,us,g,o)
 else (hdR us f+1,0,upS base (unR us f base) c (hdR us f+1) grp rank l,us++[lsR us],insS grp g,o)
theorem adR_ok {us:List (List Int)} {f:Int} {g o:List Int} {x:Int} (h:(adR us f g o x).2.1=0):adR us f g o x=(hdR us f+1,0,us++[lsR us],insS x g)∧o.contains x=false∧0≤x∧x<60∧hdR us f<200:=by
 unfold adR at *
 split at h
 ·simp at h
 ·rename_i h1
  split at h
  ·simp at h
  ·rename_i h2
   rw [if_neg h1,if_neg h2]
   refine ⟨rfl,?_,?_,?_,by omega⟩
   ·cases e:o.contains x with
    | false => rfl
    | true => exact absurd (.inl e) h1
   ·omega
   ·omega
theorem hdR_app {us:List (List Int)} {u:List Int} {f:Int}:hdR (us++[u]) f=hdR us f+1:=by
 unfold hdR
 simp
 omega
theorem ls_mem {us:List (List Int)} (h:0<us.length):lsR us∈us:=by
 have hi:us.length - 1<us.length:=by omega
 exact getD_mem hi
theorem mem_ctA {c:Int×Int}:∀ {bs:List Bool} {l:List Atm} {a:Atm},a∈ctA c bs l→∃ b∈l,a=b∨a=addC b c
 | [],l,a,h => ⟨a,by simpa [ctA] using h,.inl rfl⟩
 | _ :: _,[],a,h => by simp [ctA] at h
 | b :: bs,x :: l,a,h => by
   simp only [ctA] at h
   rcases List.mem_cons.1 h with rfl | h
   ·refine ⟨x,List.mem_cons_self,?_⟩
    split
    ·exact .inr rfl
    ·exact .inl rfl
   ·obtain ⟨y,h1,h2⟩:=mem_ctA h
    exact ⟨y,List.mem_cons_of_mem _ h1,h2⟩
theorem mem_spl {old:List Atm}:∀ {r:List (Nat×List Atm)} {p:Nat} {a:Atm},a∈spl old p r→a∈old∨∃ q∈r,a∈q.2
 | [],p,a,h => .inl (List.mem_of_mem_drop h)
 | (s,x) :: r,p,a,h => by
   simp only [spl] at h
   rcases List.mem_append.1 h with h | h
   ·exact .inl (List.mem_of_mem_drop (List.mem_of_mem_take h))
   ·rcases List.mem_append.1 h with h | h
    ·exact .inr ⟨_,List.mem_cons_self,h⟩
    ·rcases mem_spl h with h | ⟨q,h1,h2⟩
     ·exact .inl h
     ·exact .inr ⟨q,List.mem_cons_of_mem _ h1,h2⟩
theorem upS_atk {rev:Int} {u:List Int} {c:List Chg} {w g rank h:Int} {l:List Atm} (hl:∀ a∈l,Atk h a) (hw:w=h+1) (h0:0≤h) (hg:0≤g∧g<60) (hv:∀ x∈c,uvalid x.2.2=true):∀ a∈upS rev u c w g rank l,Atk w a:=by
 intro a ha
 rcases mem_spl ha with h1 | ⟨q,h1,h2⟩
 ·obtain ⟨b,hb,e⟩:=mem_ctA h1
  have A:=hl b hb
  have t1:=A.s1; have t2:=A.s4; have t3:=A.r0; have t4:=A.r1; have t5:=A.g0; have t6:=A.g1; have t7:=A.n
  rcases e with rfl | rfl
  ·exact ⟨t1,t2,t3,by omega,t5,t6,by omega,fun c hc=>by have:=A.c c hc; omega⟩
  ·refine ⟨t1,t2,t3,by simp only [addC]; omega,t5,t6,by simp [addC]; omega,fun c hc=>?_⟩
   rcases List.mem_append.1 (show c∈b.2.2.2.2++[(w,g)] from hc) with hc | hc
   ·have:=A.c c hc; omega
   ·simp at hc
    subst hc
    exact ⟨by omega,by omega,by omega,by omega⟩
 ·obtain ⟨x,hx,rfl⟩:=List.mem_map.1 h1
  obtain ⟨k1,k2,k3⟩:=ptL_ok (hv x hx) a h2
  refine ⟨k1,k2,?_,?_,?_,?_,?_,fun c hc=>?_⟩
  ·rw [k3]; simp only; omega
  ·rw [k3]; simp only; omega
  ·rw [k3]; simp only; omega
  ·rw [k3]; simp only; omega
  ·rw [k3]; simp; omega
  ·rw [k3] at hc; simp at hc
theorem edit_is {K:Nat} {l:List Atm} {us:List (List Int)} {f:Int} {g o:List Int} {base grp rank:Int} {c:List Chg} (hK:100000≤K) (h:Ivt l us f g o) (hc:Cok c) :
 engine_Engine_Edit_bgggn_7db40 K l us f g o base grp rank c=some (edtR l us f g o base grp rank c):=by
 have R:=h.rok
 have A:=h.aok
 have hul:=unR_len R (r:=base)
 have htl:=h.vtx (rev:=base) (u:=unR us f base)
 rw [engine_Engine_Edit_bgggn_7db40,engText_is hK R A,Option.bind_some]
 unfold edtR txtR
 cases hlv:lvR us f base with
 | false => rfl
 | true =>
   rw [if_pos rfl]
   simp only [bne_self_eq_false,Bool.false_eq_true,if_false,Bool.true_eq_false]
   rw [chk_is hK (by rw [size_ofBytes]; omega) hc,Option.bind_some]
   by_cases hch:chkE (ofBytes (vtx base (unR us f base) l)) c=0
   ·have n1:¬ (chkE (ofBytes (vtx base (unR us f base) l)) c≠0):=by simpa using hch
    rw [if_neg n1,if_neg (by simpa using hch),engCopy_is hK R A,Option.bind_some]
    simp only
    rw [addR_is R,Option.bind_some]
    by_cases had:(adR us f g o grp).2.1=0
    ·have n2:¬ ((adR us f g o grp).2.1≠0):=by simpa using had
     rw [if_neg n2,if_neg (by simpa using had)]
     obtain ⟨ead,h1,h2,h3,h4⟩:=adR_ok had
     by_cases hrk:rank<0∨1000000<rank
     ·have:(if decide (rank<0)=true then some true else some (decide (rank > 1000000)))=some true:=by
       rcases hrk with h | h
       ·rw [if_pos (by simpa using h)]
       ·split
        ·rfl
        ·simpa using h
      rw [this,Option.bind_some,if_pos rfl,if_pos hrk]
     ·have:(if decide (rank<0)=true then some true else some (decide (rank > 1000000)))=some false:=by
       rw [if_neg (by simp; omega)]
       simp; omega
      have G:=chk_ok hch
      have haT:=upS_atk (rev:=base) (u:=unR us f base) (c:=c) (w:=hdR us f+1) (g:=grp) (rank:=rank) h.aa rfl (by have:=h.lo; have:=h.ne; unfold hdR; omega) ⟨h2,h3⟩ G.vt
      rw [this,Option.bind_some,if_neg (by simp),if_neg hrk,engine_Engine_UndoneAt_bg_d34b6,undone_is R,Option.bind_some,Option.bind_some,ead]
      simp only
      rw [upon_is hK (by omega) A hc (by omega) hch,Option.bind_some]
      by_cases hln:4000<(upS base (unR us f base) c (hdR us f+1) grp rank l).length
      ·rw [if_pos (by simp; omega),if_pos hln]
      ·have R2:Rok (us++[lsR us]) f (insS grp g) o:=by
        refine ⟨by simp,?_,R.lo,R.hi,fun u hu=>?_,by have:=(h.gg.ins ⟨h2,h3⟩).len; omega,R.o⟩
        ·have:=h.hi; have:=h.lo; have:=h.ne
         unfold hdR at *
         simp; omega
        ·rcases List.mem_append.1 hu with hu | hu
         ·exact R.u u hu
         ·simp at hu; subst hu; exact lsR_len R
       have A2:Aok (upS base (unR us f base) c (hdR us f+1) grp rank l):=by
        refine ⟨by omega,fun a ha=>?_⟩
        have T:=haT a ha
        have:=T.s4; have:=T.n
        exact ⟨by omega,by omega⟩
       have hfit:(nowT (upS base (unR us f base) c (hdR us f+1) grp rank l) (us++[lsR us]) f).length≤20000:=by
        have:=vtx_len4 (rev:=hdR (us++[lsR us]) f) (u:=lsR (us++[lsR us])) (l:=upS base (unR us f base) c (hdR us f+1) grp rank l) fun a ha=>(haT a ha).s4
        unfold nowT
        omega
       rw [if_neg (by simp; omega),if_neg hln,fits_is hK R2 A2,Option.bind_some,if_neg (by simp; omega)]
    ·rw [if_pos had,if_pos (by simpa using had)]
   ·rw [if_pos hch,if_pos (by simpa using hch)]
def tggR (l:List Atm) (us:List (List Int)) (f:Int) (g o:List Int) (x:Int):Int×Int×List Atm×List (List Int)×List Int×List Int:=
 if (tgR us f g x).2.1≠0 then (0,(tgR us f g x).2.1,l,us,g,o) else (hdR us f+1,0,l,us++[tgS x (lsR us)],g,o)
theorem tgR_ok {us:List (List Int)} {f:Int} {g:List Int} {x:Int} (h:(tgR us f g x).2.1=0):tgR us f g x=(hdR us f+1,0,us++[tgS x (lsR us)])∧x∈g∧hdR us f<200:=by
 unfold tgR at *
 split at h
 ·rename_i h1
  split at h
  ·simp at h
  ·rename_i h2
   rw [if_pos h1,if_neg h2]
   exact ⟨rfl,by simpa using h1,by omega⟩
 ·simp at h
theorem tgS_ok {x:Int} {u g:List Int} (h:u.Pairwise (·< ·)) (hu:∀ y∈u,y∈g) (hx:x∈g):(tgS x u).Pairwise (·< ·)∧∀ y∈tgS x u,y∈g:=by
 unfold tgS
 split
 ·exact ⟨h.filter _,fun y hy=>hu y (List.mem_filter.1 hy).1⟩
 ·exact ⟨insS_sorted h,fun y hy=>by
   rcases mem_insS.1 hy with rfl | hy
   ·exact hx
   ·exact hu y hy⟩
theorem Atk.up {h h':Int} {a:Atm} (A:Atk h a) (hh:h≤h'):Atk h' a:=
 ⟨A.s1,A.s4,A.r0,by have:=A.r1; omega,A.g0,A.g1,by have:=A.n; omega,fun c hc=>by have:=A.c c hc; omega⟩
theorem toggle_inv {l:List Atm} {us:List (List Int)} {f:Int} {g o:List Int} {x:Int} (h:Ivt l us f g o) (hx:x∈g) (hh:hdR us f<200):Ivt l (us++[tgS x (lsR us)]) f g o:=by
 refine ⟨by simp,h.lo,by rw [hdR_app]; omega,h.gg,h.oo,fun u hu=>?_,h.len,fun a ha=>(h.aa a ha).up (by rw [hdR_app]; omega)⟩
 rcases List.mem_append.1 hu with hu | hu
 ·exact h.uu u hu
 ·simp at hu
  subst hu
  have:=h.uu _ (ls_mem h.ne)
  exact tgS_ok this.1 this.2 hx
theorem etoggle_is {K:Nat} {l:List Atm} {us:List (List Int)} {f:Int} {g o:List Int} {x:Int} (hK:100000≤K) (h:Ivt l us f g o):engine_Engine_Toggle_bg_d34b6 K l us f g o x=some (tggR l us f g o x):=by
 have R:=h.rok
 have A:=h.aok
 rw [engine_Engine_Toggle_bg_d34b6,engCopy_is hK R A,Option.bind_some]
 simp only
 rw [toggle_is R h.gg.2,Option.bind_some]
 unfold tggR
 by_cases ht:(tgR us f g x).2.1=0
 ·obtain ⟨e,hx,hh⟩:=tgR_ok ht
  have I2:=toggle_inv h hx hh
  have hfit:=I2.vtx (rev:=hdR (us++[tgS x (lsR us)]) f) (u:=lsR (us++[tgS x (lsR us)]))
  rw [if_neg (by simpa using ht),if_neg (by simpa using ht),e]
  simp only
  rw [fits_is hK I2.rok A,Option.bind_some,if_neg (by unfold nowT; simp; omega)]
 ·rw [if_pos (by simpa using ht),if_pos (by simpa using ht)]
theorem edit_inv {l:List Atm} {us:List (List Int)} {f:Int} {g o:List Int} {base grp rank:Int} {c:List Chg} (h:Ivt l us f g o) :
 Ivt (edtR l us f g o base grp rank c).2.2.1 (edtR l us f g o base grp rank c).2.2.2.1 f (edtR l us f g o base grp rank c).2.2.2.2.1 (edtR l us f g o base grp rank c).2.2.2.2.2:=by
 unfold edtR
 repeat' split
 all_goals first | exact h | skip
 rename_i h1 h2 h3 h4 h5
 obtain ⟨ead,k1,k2,k3,k4⟩:=adR_ok (show (adR us f g o grp).2.1=0 by simpa using h3)
 have G:=chk_ok (show chkE (ofBytes (vtx base (unR us f base) l)) c=0 by simpa using h2)
 have haT:=upS_atk (rev:=base) (u:=unR us f base) (c:=c) (w:=hdR us f+1) (g:=grp) (rank:=rank) h.aa rfl (by have:=h.lo; have:=h.ne; unfold hdR; omega) ⟨k2,k3⟩ G.vt
 refine ⟨by simp,h.lo,by rw [hdR_app]; omega,h.gg.ins ⟨k2,k3⟩,h.oo,fun u hu=>?_,by simp only; omega,fun a ha=>by rw [hdR_app]; exact haT a ha⟩
 have hsub:∀ u∈us,u.Pairwise (·< ·)∧∀ x∈u,x∈insS grp g:=fun u hu=>⟨(h.uu u hu).1,fun x hx=>mem_insS.2 (.inr ((h.uu u hu).2 x hx))⟩
 rcases List.mem_append.1 hu with hu | hu
 ·exact hsub u hu
 ·simp at hu
  subst hu
  exact hsub _ (ls_mem h.ne)
theorem tggR_inv {l:List Atm} {us:List (List Int)} {f:Int} {g o:List Int} {x:Int} (h:Ivt l us f g o):Ivt (tggR l us f g o x).2.2.1 (tggR l us f g o x).2.2.2.1 f (tggR l us f g o x).2.2.2.2.1 (tggR l us f g o x).2.2.2.2.2:=by
 unfold tggR
 split
 ·exact h
 ·rename_i ht
  obtain ⟨e,hx,hh⟩:=tgR_ok (show (tgR us f g x).2.1=0 by simpa using ht)
  exact toggle_inv h hx hh
abbrev Eng:=List Atm×List (List Int)×Int×List Int×List Int
def Iv (e:Eng):Prop:=Ivt e.1 e.2.1 e.2.2.1 e.2.2.2.1 e.2.2.2.2
def newE:Eng:=([],[[]],0,[],[])
theorem new_inv:Iv newE:=by
 refine ⟨by decide,by decide,by decide,⟨List.Pairwise.nil,fun x hx=>(List.not_mem_nil hx).elim⟩,⟨List.Pairwise.nil,fun x hx=>(List.not_mem_nil hx).elim⟩,fun u hu=>?_,by decide,fun x hx=>(List.not_mem_nil hx).elim⟩
 simp only [newE,List.mem_singleton] at hu
 subst hu
 exact ⟨List.Pairwise.nil,by simp⟩
theorem engNew_is {K:Nat}:engine_New K=some ([[]],[],[]):=rfl
theorem Iv.r {e:Eng} (h:Iv e):Rok e.2.1 e.2.2.1 e.2.2.2.1 e.2.2.2.2:=Ivt.rok h
theorem Iv.k {e:Eng} (h:Iv e):Aok e.1:=Ivt.aok h
theorem known_K {K:Nat} (hK:100000≤K):palinodetop_known K=some true:=by
 obtain ⟨n,rfl⟩:∃ n,K=n+40:=⟨K - 40,by omega⟩
 exact known_is n
theorem bytesL_app2 {s t:ByteArray}:bytesL (s++t)=bytesL s++bytesL t:=by
 simp [bytesL]
theorem ofB_bytesL {s:ByteArray}:ofBytes (bytesL s)=s:=by
 unfold ofBytes bytesL
 rw [List.map_map]
 have:(fun n:Int=>UInt8.ofNat n.toNat) ∘ (fun b:UInt8=>(b.toNat:Int))=id:=by
  funext b
  simp
 rw [this]
 simp
theorem bytesL_extract {s:ByteArray} {i j:Nat}:bytesL (s.extract i j)=((bytesL s).drop i).take (j - i):=by
 unfold bytesL
 rw [ByteArray.data_extract,Array.toList_extract,List.map_take.symm.symm]
 simp [List.extract_eq_take_drop,List.map_drop]
theorem bytesL_bt {s:ByteArray} {i:Nat} (h:i<s.size):(bytesL s)[i]? = some (bt s (i:Int)):=by
 unfold bytesL bt
 rw [List.getElem?_map,Int.toNat_natCast,getElem?_pos s i h]
 have:s.data.toList[i]? = some s[i]:=by
  rw [Array.getElem?_toList]
  exact getElem?_pos s.data i h
 rw [this]
 rfl
def Asc (s:ByteArray):Prop:=∀ i:Nat,i<s.size→bt s (i:Int)<128
theorem asc_loop {K:Nat} {s:ByteArray} (hs:s.size≤100000):∀ (d j k:Nat),j+d=s.size→d<k→∃ b,palinodetop_ascii.l0 K s k (j:Int)=some b∧(b=true→∀ i:Nat,j≤i→i<s.size→bt s (i:Int)<128)
 | 0,j,k+1,h,_ => by
   refine ⟨true,?_,fun _ i h1 h2=>by omega⟩
   rw [palinodetop_ascii.l0,if_neg (by simp; omega)]
 | d+1,j,k+1,h,hk => by
   obtain ⟨b,h1,h2⟩:=asc_loop hs d (j+1) k (by omega) (by omega)
   rw [palinodetop_ascii.l0,if_pos (by simp; omega),if_pos ⟨by omega,by omega⟩,up1 (by omega),h1]
   by_cases e:bt s j≥128
   ·exact ⟨false,by rw [if_pos (by simpa using e)],fun h=>by cases h⟩
   ·refine ⟨b,by rw [if_neg (by simpa using e)],fun hb i hi1 hi2=>?_⟩
    by_cases ei:i=j
    ·subst ei; omega
    ·exact h2 hb i (by omega) hi2
theorem asc_is {K:Nat} {s:ByteArray} (hK:100000≤K) (hs:s.size≤10000):∃ b,palinodetop_ascii K s=some b∧(b=true→Asc s):=by
 obtain ⟨b,h1,h2⟩:=asc_loop (K:=K) (s:=s) (by omega) s.size 0 K (by omega) (by omega)
 have h1:palinodetop_ascii.l0 K s K 0=some b:=h1
 exact ⟨b,h1,fun hb i hi=>h2 hb i (Nat.zero_le _) hi⟩
theorem asc_usz {s:ByteArray} (h:Asc s) {i:Nat} (hi:i<s.size):usz s i=1:=by
 have:=h i hi
 unfold usz uszB
 rw [if_neg (by omega),if_pos (by omega)]
theorem asc_uval {s:ByteArray} (h:Asc s):∀ (m i:Nat),uval s m i=true
 | 0,_ => rfl
 | m+1,i => by
   rw [uval]
   split
   ·rename_i hi
    rw [asc_usz h (by omega),if_neg (by decide)]
    exact asc_uval h m (i+1)
   ·rfl
theorem asc_valid {s:ByteArray} (h:Asc s):uvalid s=true:=asc_uval h _ 0
theorem asc_edge {s:ByteArray} (h:Asc s) {i:Nat} (hi:i≤s.size):isE s (i:Int)=true:=by
 refine isE_of (asc_valid h) (by omega) (by omega) ?_
 by_cases e:i=s.size
 ·exact .inl (by omega)
 ·refine .inr ?_
  have:=h i (by omega)
  unfold cont
  omega
theorem asc_decode {s:ByteArray} (h:Asc s) {i:Nat} (hi:i<s.size):Utf8.decode s i=((bt s i).toNat,1):=by
 have h1:=h i hi
 have h2:=bt_get (s:=s) i
 rw [dcd_is]
 unfold dcd
 rw [if_pos (by omega)]
 congr 1
 omega
theorem asc_encode {n:Nat} (h:n<128):bytesL (Utf8.encode (n:Int))=[(n:Int)]:=by
 have:∀ m:Fin 128,bytesL (Utf8.encode ((m.val:Nat):Int))=[((m.val:Nat):Int)]:=by decide +kernel
 exact this ⟨n,h⟩
theorem asc_ptL {s:ByteArray} {w g r:Int} (h:Asc s):∀ (m i:Nat),s.size≤i+m→(ptL s w g r m i).map (fun a=>(bytesL a.1,a.2))=((bytesL s).drop i).map fun x=>([x],(w,(g,(r,[]))))
 | 0,i,hm => by
   rw [List.drop_eq_nil_of_le (by rw [bytesL_length]; omega)]
   rfl
 | m+1,i,hm => by
   simp only [ptL]
   by_cases hi:i<s.size
   ·have hb:=h i hi
    have hb0:=(bt_ok (s:=s) (i:=i)).1
    have hx:(bytesL s).drop i=bt s i :: (bytesL s).drop (i+1):=by
     have hlt:i<(bytesL s).length:=by rw [bytesL_length]; exact hi
     rw [List.drop_eq_getElem_cons hlt]
     congr 1
     have:=bytesL_bt hi
     rw [List.getElem?_eq_getElem hlt] at this
     exact Option.some.inj this
    rw [if_pos hi,asc_decode h hi,hx,List.map_cons,List.map_cons,asc_ptL h m (i+1) (by omega)]
    have he:=asc_encode (n:=(bt s i).toNat) (by omega)
    have e2:(((bt s i).toNat:Nat):Int)=bt s i:=by omega
    rw [e2] at he
    simp only [e2,he]
   ·rw [if_neg hi,List.drop_eq_nil_of_le (by rw [bytesL_length]; omega)]
    rfl
def vsz (rev:Int) (u:List Int) (l:List Atm):Int:=((vtx rev u l).length:Nat)
theorem vsz_nil {rev:Int} {u:List Int}:vsz rev u []=0:=rfl
theorem vsz_cons {rev:Int} {u:List Int} {a:Atm} {l:List Atm}:vsz rev u (a :: l)=(if vis rev u a=true then (a.1.size:Int) else 0)+vsz rev u l:=by
 unfold vsz
 simp only [vtx]
 split
 ·rw [List.length_append,bytesL_length]; omega
 ·omega
theorem vtx_app {rev:Int} {u:List Int}:∀ {l m:List Atm},vtx rev u (l++m)=vtx rev u l++vtx rev u m
 | [],_ => rfl
 | a :: l,m => by
   simp only [List.cons_append,vtx]
   split
   ·rw [vtx_app,List.append_assoc]
   ·exact vtx_app
theorem vsz_app {rev:Int} {u:List Int} {l m:List Atm}:vsz rev u (l++m)=vsz rev u l+vsz rev u m:=by
 unfold vsz
 rw [vtx_app,List.length_append]
 omega
theorem vsz_pos {rev:Int} {u:List Int} {l:List Atm}:0≤vsz rev u l:=by unfold vsz; omega
theorem ctB_app {rev:Int} {u:List Int} {c:List Chg}:∀ {l m:List Atm} {p:Int},ctB rev u c p (l++m)=ctB rev u c p l++ctB rev u c (p+vsz rev u l) m
 | [],m,p => by rw [vsz_nil,Int.add_zero]; rfl
 | a :: l,m,p => by
   rw [vsz_cons]
   simp only [List.cons_append,ctB]
   split
   ·rw [ctB_app,Int.add_assoc]; rfl
   ·rw [ctB_app,Int.zero_add]; rfl
def cutV (rev:Int) (u:List Int) (c:Int×Int) (l:List Atm):List Atm:=l.map fun a=>if vis rev u a=true then addC a c else a
def Vp (rev:Int) (u:List Int) (l:List Atm):Prop:=∀ a∈l,vis rev u a=true→0<a.1.size
theorem ctA_none {rev:Int} {u:List Int} {f t:Int} {s:ByteArray} {c:Int×Int}:∀ {l:List Atm} {p:Int},(p+vsz rev u l≤f∨t≤p)→Vp rev u l→ctA c (ctB rev u [(f,(t,s))] p l) l=l
 | [],_,_,_ => by simp [ctB,ctA]
 | a :: l,p,h,hp => by
   have hp':Vp rev u l:=fun b hb=>hp b (List.mem_cons_of_mem _ hb)
   rw [vsz_cons] at h
   have h0:=vsz_pos (rev:=rev) (u:=u) (l:=l)
   simp only [ctB]
   split
   ·rename_i hv
    have hs:=hp a List.mem_cons_self hv
    rw [if_pos hv] at h
    have:cvr p [(f,(t,s))]=false:=by
     simp only [cvr,List.any_cons,List.any_nil,Bool.or_false]
     rcases h with h | h
     ·rw [decide_eq_false (show ¬ p≥f by omega),Bool.false_and]
     ·rw [decide_eq_false (show ¬ p<t by omega),Bool.and_false]
    rw [this]
    simp only [ctA,Bool.false_eq_true,if_false]
    rw [ctA_none (by rcases h with h | h; exact .inl (by omega); exact .inr (by omega)) hp']
   ·rename_i hv
    rw [if_neg hv] at h
    simp only [ctA,Bool.false_eq_true,if_false]
    rw [ctA_none (by rcases h with h | h; exact .inl (by omega); exact .inr (by omega)) hp']
theorem ctA_all {rev:Int} {u:List Int} {f t:Int} {s:ByteArray} {c:Int×Int}:∀ {l:List Atm} {p:Int},f≤p→p+vsz rev u l≤t→Vp rev u l→ctA c (ctB rev u [(f,(t,s))] p l) l=cutV rev u c l
 | [],_,_,_,_ => by simp [ctB,ctA,cutV]
 | a :: l,p,h1,h2,hp => by
   have hp':Vp rev u l:=fun b hb=>hp b (List.mem_cons_of_mem _ hb)
   rw [vsz_cons] at h2
   have h0:=vsz_pos (rev:=rev) (u:=u) (l:=l)
   unfold cutV
   simp only [ctB,List.map_cons]
   split
   ·rename_i hv
    have hs:=hp a List.mem_cons_self hv
    rw [if_pos hv] at h2
    have:cvr p [(f,(t,s))]=true:=by
     simp only [cvr,List.any_cons,List.any_nil,Bool.or_false]
     rw [decide_eq_true (show p≥f by omega),decide_eq_true (show p<t by omega)]
     rfl
    rw [this]
    simp only [ctA,if_true]
    rw [ctA_all (by omega) (by omega) hp']
    rfl
   ·rename_i hv
    rw [if_neg hv] at h2
    simp only [ctA,Bool.false_eq_true,if_false]
    rw [ctA_all (by omega) (by omega) hp']
    rfl
theorem ctA_app {c:Int×Int}:∀ {bs bs':List Bool} {l m:List Atm},bs.length=l.length→ctA c (bs++bs') (l++m)=ctA c bs l++ctA c bs' m
 | [],bs',[],m,_ => by cases bs' <;> simp [ctA]
 | b :: bs,bs',a :: l,m,h => by
   simp only [List.cons_append,ctA]
   rw [ctA_app (by simpa using h)]
 | [],_,_ :: _,_,h => by simp at h
 | _ :: _,_,[],_,h => by simp at h
theorem spA_zero {rev:Int} {u:List Int} {f:Int}:∀ {l:List Atm} {p:Int},f≤p→spA rev u f p l=0
 | [],_,_ => rfl
 | a :: l,p,h => by
   rw [spA_cons,spA_zero (by split <;> omega),if_pos rfl,decide_eq_false (show ¬ p<f by omega)]
   rfl
theorem spA_at {rev:Int} {u:List Int} {f:Int}:∀ {P m:List Atm} {p:Int},p+vsz rev u P=f→Vp rev u P→(P=[]∨∃ P' a,P=P'++[a]∧vis rev u a=true)→spA rev u f p (P++m)=P.length
 | [],m,p,h,_,_ => by
   rw [vsz_nil] at h
   exact spA_zero (by omega)
 | a :: P,m,p,h,hp,he => by
   have hp':Vp rev u P:=fun b hb=>hp b (List.mem_cons_of_mem _ hb)
   rw [vsz_cons] at h
   rw [List.cons_append,spA_cons]
   have hn:p+(if vis rev u a=true then (a.1.size:Int) else 0)=if vis rev u a=true then p+(a.1.size:Int) else p:=by split <;> omega
   cases P with
   | nil =>
     rcases he with he | ⟨P',b,he,hv⟩
     ·cases he
     ·have:P'=[]∧b=a:=by
       cases P' with
       | nil => simp at he; exact ⟨rfl,he.symm⟩
       | cons x P' => simp at he
      obtain ⟨rfl,rfl⟩:=this
      have hs:=hp b List.mem_cons_self hv
      rw [vsz_nil,if_pos hv] at h
      rw [if_pos hv,List.nil_append,spA_zero (by omega),if_pos rfl,hv,decide_eq_true (show p<f by omega)]
      rfl
   | cons b P =>
     have he':b :: P=[]∨∃ P' a,b :: P=P'++[a]∧vis rev u a=true:=by
      rcases he with he | ⟨P',x,he,hv⟩
      ·cases he
      ·cases P' with
       | nil => simp at he
       | cons y P' =>
         simp only [List.cons_append,List.cons.injEq] at he
         exact .inr ⟨P',x,he.2,hv⟩
     rw [spA_at (P:=b :: P) (by rw [← hn]; omega) hp' he',if_neg (by simp)]
     simp
theorem up_one {rev:Int} {u:List Int} {f t:Int} {s:ByteArray} {w g rank:Int} {P M Q:List Atm} (hp:Vp rev u (P++M++Q)) (h1:vsz rev u P=f) (h2:f+vsz rev u M=t)
 (he:P=[]∨∃ P' a,P=P'++[a]∧vis rev u a=true) (hh:∀ a,(M++Q).head? = some a→a.2.1≤rev) :
 upS rev u [(f,(t,s))] w g rank (P++M++Q)=P++(putL s w g rank++(cutV rev u (w,g) M++Q)):=by
 have hpP:Vp rev u P:=fun a ha=>hp a (by simp [ha])
 have hpM:Vp rev u M:=fun a ha=>hp a (by simp [ha])
 have hpQ:Vp rev u Q:=fun a ha=>hp a (by simp [ha])
 have hm0:=vsz_pos (rev:=rev) (u:=u) (l:=M)
 have e1:ctA (w,g) (ctB rev u [(f,(t,s))] 0 (P++M++Q)) (P++M++Q)=P++(cutV rev u (w,g) M++Q):=by
  rw [ctB_app,ctB_app,List.append_assoc,List.append_assoc,ctA_app ctB_len,ctA_app ctB_len,ctA_none (.inl (by omega)) hpP,ctA_all (by omega) (by omega) hpM,ctA_none (.inr (by rw [vsz_app]; omega)) hpQ]
 have e2:spt rev u rank f (P++M++Q)=P.length:=by
  unfold spt
  rw [List.append_assoc,spA_at (by omega) hpP he]
  have:skp rev rank ((P++(M++Q)).drop P.length)=0:=by
   rw [List.drop_left]
   cases hx:M++Q with
   | nil => rfl
   | cons a r =>
     have:=hh a (by rw [hx]; rfl)
     simp only [skp,List.takeWhile_cons]
     rw [decide_eq_false (by omega)]
     rfl
  omega
 unfold upS
 rw [e1]
 simp only [List.map_cons,List.map_nil,e2,spl]
 simp
theorem chk_asc {s t:ByteArray} {f e:Nat} (hs:Asc s) (ht:Asc t) (hfe:f≤e) (hes:e≤s.size) (hsz:s.size≤1000) (htz:t.size≤1000):chkE s [((f:Int),((e:Int),t))]=0:=by
 unfold chkE
 rw [asc_valid hs,if_neg (by simp),if_neg (by simp)]
 have e1:bdC s ((f:Int),((e:Int),t))=false:=by
  simp only [bdC]
  rw [decide_eq_false (by omega),decide_eq_false (by omega),decide_eq_false (by omega)]
  rfl
 have e2:egC s ((f:Int),((e:Int),t))=false:=by
  simp only [egC]
  rw [asc_edge hs (by omega),asc_edge hs hes]
  rfl
 have e3:lgB (20000 - s.size+lgA s.size [((f:Int),((e:Int),t))]) [((f:Int),((e:Int),t))]=0:=by
  have:=lgA_ok (n:=s.size) (by omega) (r:=[((f:Int),((e:Int),t))])
  simp only [lgB]
  rw [if_neg (by omega),if_neg (by omega)]
 simp [e1,e2,e3,orC,asc_valid ht,f5]
def Blk (w g:Int) (cs:List (Int×Int)) (xs:List Int):List Atm:=xs.map fun x=>(ofBytes [x],(w,(g,(0,cs))))
def visB (rev:Int) (u:List Int) (w g:Int) (cs:List (Int×Int)):Bool:=decide (w≤rev)&&holds g u&&!cs.any (cutv rev u)
theorem bytesL_one {x:Int} (h:0≤x∧x<256):bytesL (ofBytes [x])=[x]:=by
 unfold bytesL ofBytes
 simp
 omega
theorem size_one {x:Int}:(ofBytes [x]).size=1:=by simp [ofBytes,ByteArray.size]
def Byt (xs:List Int):Prop:=∀ x∈xs,0≤x∧x<256
theorem byt_bytesL {s:ByteArray}:Byt (bytesL s):=fun x hx=>by
 have:=List.all_eq_true.1 (inB_bytesL (s:=s)) x hx
 simp at this
 omega
theorem Byt.sub {xs ys:List Int} (h:Byt ys) (hs:∀ x∈xs,x∈ys):Byt xs:=fun x hx=>h x (hs x hx)
theorem Byt.take {xs:List Int} {n:Nat} (h:Byt xs):Byt (xs.take n):=h.sub fun _ hx=>List.mem_of_mem_take hx
theorem Byt.drop {xs:List Int} {n:Nat} (h:Byt xs):Byt (xs.drop n):=h.sub fun _ hx=>List.mem_of_mem_drop hx
theorem blk_vis {rev:Int} {u:List Int} {w g:Int} {cs:List (Int×Int)} {xs:List Int} {a:Atm} (h:a∈Blk w g cs xs):vis rev u a=visB rev u w g cs∧a.1.size=1:=by
 obtain ⟨x,_,rfl⟩:=List.mem_map.1 h
 exact ⟨rfl,size_one⟩
theorem blk_vtx {rev:Int} {u:List Int} {w g:Int} {cs:List (Int×Int)}:∀ {xs:List Int},Byt xs→vtx rev u (Blk w g cs xs)=if visB rev u w g cs=true then xs else []
 | [],_ => by simp [Blk,vtx]
 | x :: xs,h => by
   have ih:=blk_vtx (rev:=rev) (u:=u) (w:=w) (g:=g) (cs:=cs) (xs:=xs) fun y hy=>h y (List.mem_cons_of_mem _ hy)
   have e:vis rev u (ofBytes [x],(w,(g,((0:Int),cs))))=visB rev u w g cs:=rfl
   show vtx rev u ((ofBytes [x],(w,(g,(0,cs)))) :: Blk w g cs xs)=_
   simp only [vtx,e,ih,bytesL_one (h x List.mem_cons_self)]
   split <;> simp
theorem blk_vsz {rev:Int} {u:List Int} {w g:Int} {cs:List (Int×Int)} {xs:List Int} (h:Byt xs):vsz rev u (Blk w g cs xs)=if visB rev u w g cs=true then (xs.length:Int) else 0:=by
 unfold vsz
 rw [blk_vtx h]
 split <;> rfl
theorem blk_cutV {rev:Int} {u:List Int} {w g:Int} {cs:List (Int×Int)} {c:Int×Int} {xs:List Int} (hv:visB rev u w g cs=true):cutV rev u c (Blk w g cs xs)=Blk w g (cs++[c]) xs:=by
 unfold cutV Blk
 rw [List.map_map]
 refine List.map_congr_left fun x _=>?_
 have e:vis rev u (ofBytes [x],(w,(g,((0:Int),cs))))=visB rev u w g cs:=rfl
 simp only [Function.comp,e,hv,if_true]
 rfl
theorem blk_vp {rev:Int} {u:List Int} {w g:Int} {cs:List (Int×Int)} {xs:List Int}:Vp rev u (Blk w g cs xs):=fun a ha _=>by
 rw [(blk_vis (rev:=rev) (u:=u) ha).2]
 decide
theorem blk_app {w g:Int} {cs:List (Int×Int)} {xs ys:List Int}:Blk w g cs (xs++ys)=Blk w g cs xs++Blk w g cs ys:=by
 simp [Blk]
theorem blk_len {w g:Int} {cs:List (Int×Int)} {xs:List Int}:(Blk w g cs xs).length=xs.length:=by simp [Blk]
theorem asc_putL {s:ByteArray} {w g:Int} (h:Asc s):putL s w g 0=Blk w g [] (bytesL s):=by
 have e:=asc_ptL (w:=w) (g:=g) (r:=0) h s.size 0 (by omega)
 rw [List.drop_zero] at e
 have e2:=congrArg (List.map fun q:List Int×(Int×(Int×(Int×List (Int×Int))))=>((ofBytes q.1,q.2):Atm)) e
 rw [List.map_map,List.map_map] at e2
 have e3:((fun q:List Int×(Int×(Int×(Int×List (Int×Int))))=>((ofBytes q.1,q.2):Atm)) ∘ fun a:Atm=>(bytesL a.1,a.2))=id:=by
  funext a
  simp [ofB_bytesL]
 rw [e3,List.map_id] at e2
 unfold putL
 rw [e2]
 rfl
theorem ed_one {us:List (List Int)} {f:Int} {g o:List Int} {base grp:Int} {u:List Int} {s0 t:ByteArray} {a b:Nat} {P M Q:List Atm}
 (hlv:lvR us f base=true) (hu:unR us f base=u) (hs:ofBytes (vtx base u (P++M++Q))=s0) (ha:Asc s0) (ht:Asc t) (hab:a≤b) (hb:b≤s0.size) (hsz:s0.size≤1000) (htz:t.size≤1000)
 (ho:o.contains grp=false) (hg:0≤grp∧grp<60) (hh:hdR us f<200) (hlen:(P++M++Q).length+t.size≤4000)
 (hp:Vp base u (P++M++Q)) (h1:vsz base u P=a) (h2:(a:Int)+vsz base u M=b) (he:P=[]∨∃ P' x,P=P'++[x]∧vis base u x=true) (hd:∀ x,(M++Q).head? = some x→x.2.1≤base) :
 edtR (P++M++Q) us f g o base grp 0 [((a:Int),((b:Int),t))]=(hdR us f+1,0,P++(Blk (hdR us f+1) grp [] (bytesL t)++(cutV base u (hdR us f+1,grp) M++Q)),us++[lsR us],insS grp g,o):=by
 have hU:=up_one (s:=t) (w:=hdR us f+1) (g:=grp) (rank:=0) hp h1 h2 he hd
 rw [asc_putL ht] at hU
 have hl:(P++(Blk (hdR us f+1) grp [] (bytesL t)++(cutV base u (hdR us f+1,grp) M++Q))).length≤4000:=by
  simp only [List.length_append,blk_len,bytesL_length,cutV,List.length_map] at hlen ⊢
  omega
 have hc:=chk_asc (s:=s0) (t:=t) (f:=a) (e:=b) ha ht hab hb hsz htz
 have had:adR us f g o grp=(hdR us f+1,0,us++[lsR us],insS grp g):=by
  unfold adR
  rw [if_neg (by rw [ho]; simp; omega),if_neg (by omega)]
 unfold edtR
 rw [hlv,hu,hs,hc,had,hU]
 rw [if_neg (by simp),if_neg (by simp),if_neg (by simp),if_neg (by omega),if_neg (by omega)]
theorem ed_first {s:ByteArray} {grp:Int} (hs:Asc s) (hsz:s.size≤1000) (hg:0≤grp∧grp<60):edtR [] [[]] 0 [] [] 0 grp 0 [((0:Int),((0:Int),s))]=(1,0,Blk 1 grp [] (bytesL s),[[],[]],[grp],[]):=by
 have h:=ed_one (us:=[[]]) (f:=0) (g:=[]) (o:=[]) (base:=0) (grp:=grp) (u:=[]) (s0:=ofBytes []) (t:=s) (a:=0) (b:=0) (P:=[]) (M:=[]) (Q:=[]) (by decide) (by decide) rfl (fun i hi=>by
  have:(ofBytes []).size=0:=rfl
  omega) hs (Nat.le_refl _) (Nat.zero_le _) (by decide) hsz rfl hg (by decide) (by simp; omega) (fun a ha=>by simp at ha) rfl rfl (.inl rfl) (fun x hx=>by simp at hx)
 simp only [List.append_nil,List.nil_append,cutV,List.map_nil] at h
 have e1:hdR [[]] 0+1=1:=by decide
 have e2:insS grp []=[grp]:=rfl
 rw [e1,e2] at h
 exact h
theorem ed_run {K:Nat} {l l':List Atm} {us us':List (List Int)} {f:Int} {g g' o o':List Int} {base grp rank x y:Int} {c:List Chg} (hK:100000≤K) (h:Ivt l us f g o) (hc:Cok c) (e:edtR l us f g o base grp rank c=(x,y,l',us',g',o')) :
 engine_Engine_Edit_bgggn_7db40 K l us f g o base grp rank c=some (x,y,l',us',g',o')∧Ivt l' us' f g' o':=by
 have i:=edit_inv (base:=base) (grp:=grp) (rank:=rank) (c:=c) h
 rw [e] at i
 exact ⟨by rw [edit_is hK h hc,e],i⟩
theorem tg_run {K:Nat} {l:List Atm} {us us':List (List Int)} {f n:Int} {g o:List Int} {x:Int} (hK:100000≤K) (h:Ivt l us f g o) (hx:g.contains x=true) (hh:hdR us f<200) (hn:hdR us f+1=n) (hu:us++[tgS x (lsR us)]=us') :
 engine_Engine_Toggle_bg_d34b6 K l us f g o x=some (n,0,l,us',g,o)∧Ivt l us' f g o:=by
 have e:tggR l us f g o x=(n,0,l,us',g,o):=by
  have:tgR us f g x=(hdR us f+1,0,us++[tgS x (lsR us)]):=by
   unfold tgR
   rw [if_pos hx,if_neg (by omega)]
  unfold tggR
  rw [this,if_neg (by simp),hn,hu]
 have i:=tggR_inv (x:=x) h
 rw [e] at i
 exact ⟨by rw [etoggle_is hK h,e],i⟩
theorem place_ok {x n:Int} (hx:0≤x∧x<256) (hn:1≤n) (hn2:n≤1000):∃ p:Nat,IntKind.wrap .i64 (Int.tmod (IntKind.wrap .i64 x) (IntKind.wrap .i64 n)+1)=p∧1≤p∧(p:Int)≤n:=by
 rw [w64 (n:=x) (by omega) (by omega),w64 (n:=n) (by omega) (by omega),Int.tmod_eq_emod_of_nonneg (by omega)]
 have h1:=Int.emod_nonneg x (b:=n) (by omega)
 have h2:=Int.emod_lt_of_pos x (b:=n) (by omega)
 exact ⟨(x % n+1).toNat,by rw [w64 (by omega) (by omega)]; omega,by omega,by omega⟩
theorem u8_ok {x:Int} (h:Kd.ok (.int .u8) x):0≤x∧x<256:=by
 have h8:(Lit.int .u8 x).wf=true:=h
 simp [Lit.wf] at h8
 have e1:IntKind.u8.min=0:=by decide
 have e2:IntKind.u8.max=255:=by decide
 omega
theorem lst {s:ByteArray} {xs:List Int} (h:xs=bytesL s):ofBytes xs=s:=by rw [h,ofB_bytesL]
theorem blk_end {rev:Int} {u:List Int} {w g:Int} {cs:List (Int×Int)} {xs:List Int} (hv:visB rev u w g cs=true) (P:List Atm) (hx:0<xs.length):∃ P' x,P++Blk w g cs xs=P'++[x]∧vis rev u x=true:=by
 obtain ⟨ys,y,rfl⟩:∃ ys y,xs=ys++[y]:=⟨xs.dropLast,xs.getLast (by intro e; simp [e] at hx),(List.dropLast_concat_getLast _).symm⟩
 exact ⟨P++Blk w g cs ys,(ofBytes [y],(w,(g,((0:Int),cs)))),by rw [blk_app,← List.append_assoc]; rfl,hv⟩
theorem blk_head {w g:Int} {cs:List (Int×Int)} {xs:List Int} {Q:List Atm} {x:Atm} (hx:0<xs.length) (h:(Blk w g cs xs++Q).head? = some x):x.2.1=w:=by
 cases xs with
 | nil => simp at hx
 | cons y ys =>
   simp [Blk] at h
   subst h
   rfl
theorem blk_nil {w g:Int} {cs:List (Int×Int)}:Blk w g cs []=[]:=rfl
theorem cok_one {a b:Int} {t:ByteArray} (h:t.size≤1000):Cok [(a,(b,t))]:=⟨by simp,fun x hx=>by simp at hx; subst hx; simp; omega⟩
theorem ins_two {s:ByteArray} (hs:Asc s) (h1:1≤s.size) (h2:s.size≤60):edtR (Blk 1 1 [] (bytesL s)) [[],[]] 0 [1] [] 1 2 0 [((0:Int),((s.size:Int),ByteArray.empty))]=(2,0,Blk 1 1 [(2,2)] (bytesL s),[[],[],[]],[1,2],[]):=by
 have v1:visB 1 [] 1 1 []=true:=by decide
 have h:=ed_one (us:=[[],[]]) (f:=0) (g:=[1]) (o:=[]) (base:=1) (grp:=2) (u:=[]) (s0:=s) (t:=ByteArray.empty) (a:=0) (b:=s.size) (P:=[]) (M:=Blk 1 1 [] (bytesL s)) (Q:=[]) (by decide) (by decide)
  (by rw [List.append_nil,List.nil_append,blk_vtx byt_bytesL,if_pos v1,ofB_bytesL]) hs (fun i hi=>by simp at hi) (by omega) (Nat.le_refl _) (by omega) (by decide) rfl (by omega) (by decide)
  (by simp [blk_len,bytesL_length]; omega) (by simp only [List.append_nil,List.nil_append]; exact blk_vp) rfl (by rw [blk_vsz byt_bytesL,if_pos v1,bytesL_length]; simp) (.inl rfl)
  (fun x hx=>by rw [blk_head (by rw [bytesL_length]; omega) hx]; decide)
 have e0:bytesL ByteArray.empty=[]:=rfl
 rw [List.nil_append,List.append_nil,List.nil_append,blk_cutV v1,e0,blk_nil,List.nil_append,List.append_nil] at h
 exact h
theorem ins_three {s a:ByteArray} {p:Nat} (hs:Asc s) (ha:Asc a) (h1:1≤p) (h2:p<s.size) (h3:s.size≤60) (h4:a.size≤20) :
 edtR (Blk 1 1 [(2,2)] (bytesL s)) [[],[],[]] 0 [1,2] [] 1 3 0 [((p:Int),((p:Int),a))]=(3,0,Blk 1 1 [(2,2)] ((bytesL s).take p)++(Blk 3 3 [] (bytesL a)++Blk 1 1 [(2,2)] ((bytesL s).drop p)),[[],[],[],[]],[1,2,3],[]):=by
 have v1:visB 1 [] 1 1 [(2,2)]=true:=by decide
 have hb:=byt_bytesL (s:=s)
 have hlx:(bytesL s).length=s.size:=bytesL_length
 have hl:Blk 1 1 [(2,2)] (bytesL s)=Blk 1 1 [(2,2)] ((bytesL s).take p)++[]++Blk 1 1 [(2,2)] ((bytesL s).drop p):=by
  rw [List.append_nil,← blk_app,List.take_append_drop]
 have h:=ed_one (us:=[[],[],[]]) (f:=0) (g:=[1,2]) (o:=[]) (base:=1) (grp:=3) (u:=[]) (s0:=s) (t:=a) (a:=p) (b:=p) (P:=Blk 1 1 [(2,2)] ((bytesL s).take p)) (M:=[]) (Q:=Blk 1 1 [(2,2)] ((bytesL s).drop p)) (by decide) (by decide)
  (by rw [← hl,blk_vtx hb,if_pos v1,ofB_bytesL]) hs ha (Nat.le_refl _) (by omega) (by omega) (by omega) rfl (by omega) (by decide) (by rw [← hl,blk_len]; omega) (by rw [← hl]; exact blk_vp)
  (by rw [blk_vsz hb.take,if_pos v1,List.length_take]; omega) (by rw [vsz_nil]; omega) (.inr (blk_end v1 [] (by rw [List.length_take]; omega)))
  (fun x hx=>by
   rw [List.nil_append,← List.append_nil (Blk 1 1 [(2,2)] ((bytesL s).drop p))] at hx
   rw [blk_head (by rw [List.length_drop]; omega) hx]; decide)
 rw [← hl] at h
 exact h
theorem now_three {r:Int} {u:List Int} {s a:ByteArray} {p:Nat}:vtx r u (Blk 1 1 [(2,2)] ((bytesL s).take p)++(Blk 3 3 [] (bytesL a)++Blk 1 1 [(2,2)] ((bytesL s).drop p))) =
 (if visB r u 1 1 [(2,2)]=true then (bytesL s).take p else [])++((if visB r u 3 3 []=true then bytesL a else [])++if visB r u 1 1 [(2,2)]=true then (bytesL s).drop p else []):=by
 have hb:=byt_bytesL (s:=s)
 rw [vtx_app,vtx_app,blk_vtx hb.take,blk_vtx byt_bytesL,blk_vtx hb.drop]
theorem WholeInside_pure (s:ByteArray) (x:Int) (a:ByteArray) (o0:Kd.ok .str s) (o1:Kd.ok (.int .u8) x) (o2:Kd.ok .str a):∃ K,palinodetop_WholeInside K s x a=some true:=by
 refine ⟨100000,?_⟩
 generalize hKK:100000=K
 have hK:100000≤K:=by omega
 unfold palinodetop_WholeInside
 rw [known_K hK,Option.bind_some,if_neg (by simp)]
 by_cases c1:s.size<2
 ·rw [if_pos (by simp; omega)]; rfl
 rw [if_neg (by simp; omega)]
 by_cases c2:s.size > 60
 ·rw [if_pos (by simp; omega)]; rfl
 rw [if_neg (by simp; omega)]
 by_cases c3:a.size > 20
 ·rw [if_pos (by simp; omega)]; rfl
 rw [if_neg (by simp; omega)]
 obtain ⟨b1,k1,k2⟩:=asc_is (K:=K) (s:=s) hK (by omega)
 rw [k1,Option.bind_some]
 cases b1 with
 | false => rfl
 | true =>
   have hs:=k2 rfl
   obtain ⟨b2,k3,k4⟩:=asc_is (K:=K) (s:=a) hK (by omega)
   rw [if_neg (by simp),k3,Option.bind_some]
   cases b2 with
   | false => rfl
   | true =>
     have ha:=k4 rfl
     rw [Option.bind_some,if_neg (by simp)]
     obtain ⟨p,hp,hp1,hp2⟩:=place_ok (n:=(s.size:Int) - 1) (u8_ok o1) (by omega) (by omega)
     have h0:∀ {t:ByteArray} {n m:Int},t.size≤60→Cok [(n,(m,t))]:=fun h=>cok_one (by omega)
     have e1:=ed_run hK new_inv (h0 (by omega)) (ed_first (grp:=1) hs (by omega) (by omega))
     have e1:engine_Engine_Edit_bgggn_7db40 K [] [[]] 0 [] [] 0 1 0 [((0:Int),((0:Int),s))]=some (1,0,Blk 1 1 [] (bytesL s),[[],[]],[1],[])∧Ivt (Blk 1 1 [] (bytesL s)) [[],[]] 0 [1] []:=e1
     have e2:=ed_run hK e1.2 (h0 (by decide)) (ins_two hs (by omega) (by omega))
     have e3:=ed_run hK e2.2 (h0 (by omega)) (ins_three (a:=a) hs ha hp1 (by omega) (by omega) (by omega))
     have t1:=tg_run (x:=2) (n:=4) (us':=[[],[],[],[],[2]]) hK e3.2 (by decide) (by decide) (by decide) (by decide)
     have t2:=tg_run (x:=2) (n:=5) (us':=[[],[],[],[],[2],[]]) hK t1.2 (by decide) (by decide) (by decide) (by decide)
     have t3:=tg_run (x:=3) (n:=6) (us':=[[],[],[],[],[2],[],[3]]) hK t2.2 (by decide) (by decide) (by decide) (by decide)
     have n1:nowT (Blk 1 1 [(2,2)] ((bytesL s).take p)++(Blk 3 3 [] (bytesL a)++Blk 1 1 [(2,2)] ((bytesL s).drop p))) [[],[],[],[]] 0=bytesL a:=by
      show vtx 3 [] _=_
      rw [now_three,if_neg (by decide),if_pos (by decide),if_neg (by decide)]
      simp
     have n2:nowT (Blk 1 1 [(2,2)] ((bytesL s).take p)++(Blk 3 3 [] (bytesL a)++Blk 1 1 [(2,2)] ((bytesL s).drop p))) [[],[],[],[],[2]] 0=(bytesL s).take p++(bytesL a++(bytesL s).drop p):=by
      show vtx 4 [2] _=_
      rw [now_three,if_pos (by decide),if_pos (by decide),if_pos (by decide)]
     have n3:nowT (Blk 1 1 [(2,2)] ((bytesL s).take p)++(Blk 3 3 [] (bytesL a)++Blk 1 1 [(2,2)] ((bytesL s).drop p))) [[],[],[],[],[2],[],[3]] 0=[]:=by
      show vtx 6 [3] _=_
      rw [now_three,if_neg (by decide),if_neg (by decide),if_neg (by decide)]
      rfl
     have hx:ofBytes ((bytesL s).take p++(bytesL a++(bytesL s).drop p))=s.extract 0 p++a++s.extract p s.size:=by
      refine lst ?_
      rw [bytesL_app2,bytesL_app2,bytesL_extract,bytesL_extract,List.drop_zero,Nat.sub_zero,List.append_assoc]
      congr 2
      rw [List.take_of_length_le (by rw [List.length_drop,bytesL_length]; omega)]
     have z1:(s.extract 0 p).size≤60:=by simp; omega
     have z2:(s.extract p s.size).size≤60:=by simp; omega
     have z3:(s.extract 0 p++a).size≤80:=by simp; omega
     rw [hp,if_pos (by rw [w64 (by omega) (by omega)]; omega),engNew_is,Option.bind_some]
     simp only
     rw [e1.1,Option.bind_some]
     dsimp only
     rw [e2.1,Option.bind_some]
     dsimp only
     rw [e3.1,Option.bind_some]
     dsimp only
     rw [now_is hK e3.2.rok e3.2.aok,Option.bind_some,t1.1,Option.bind_some]
     dsimp only
     rw [now_is hK t1.2.rok t1.2.aok,Option.bind_some,t2.1,Option.bind_some]
     dsimp only
     rw [t3.1,Option.bind_some]
     dsimp only
     rw [n1,n2,lst rfl,hx,Int.toNat_natCast]
     rw [if_pos (by simp),if_pos (by simp),if_pos (by simp),if_pos (by simp),now_is hK t3.2.rok t3.2.aok,Option.bind_some,n3,if_pos ⟨by omega,by omega,by omega,by omega⟩,show ofBytes []=ByteArray.mk #[] from rfl]
     simp
end Go.Pal
