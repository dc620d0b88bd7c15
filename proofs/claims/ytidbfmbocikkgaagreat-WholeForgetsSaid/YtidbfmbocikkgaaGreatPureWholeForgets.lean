/- Groups forgotten anywhere in a script: later answers are the same. -/
import Derived.Test.YtidbfmbocikkgaaGreatFunWholeForgets
namespace Go.Pal
open Go
set_option linter.unusedVariables false
set_option linter.unusedSimpArgs false
set_option linter.unnecessarySimpa false
theorem w64 {n:Int} (h1 : -9223372036854775808≤n) (h2:n<9223372036854775808):IntKind.wrap .i64 n=n:=by
 simp only [IntKind.wrap,IntKind.bits,IntKind.signed]
 simp
 omega
theorem drop_cons {α:Type} {l:List α} {j:Nat} {g:α} {r:List α} (h:l.drop j=g :: r) (d:α):j<l.length∧l.getD j d=g∧l.drop (j+1)=r:=by
 have hj:j<l.length:=by
  rcases Nat.lt_or_ge j l.length with h' | h'
  ·exact h'
  ·rw [List.drop_eq_nil_of_le h'] at h; cases h
 rw [List.drop_eq_getElem_cons hj] at h
 obtain ⟨h1,h2⟩:=List.cons.inj h
 exact ⟨hj,by simp [List.getD,hj,h1],h2⟩
theorem drop_nil {α:Type} {l:List α} {j:Nat} (h:l.drop j=[]):l.length≤j:=List.drop_eq_nil_iff.1 h
theorem byte_all {P:Int→Prop} (h:∀ m:Fin 256,P ((m.val:Nat):Int)) {c:Int} (h0:0≤c) (h1:c≤255):P c:=by
 have:=h ⟨c.toNat,by omega⟩
 simpa [Int.toNat_of_nonneg h0] using this
theorem bt_ok {s:ByteArray} {i:Int}:0≤bt s i∧bt s i≤255:=by
 unfold bt
 have:=(s[i.toNat]?.getD 0).toNat_lt
 omega
def cont (b:Int):Prop:=128≤b∧b<192
instance (b:Int):Decidable (cont b):=inferInstanceAs (Decidable (_∧_))
theorem and_192 {b:Int} (h0:0≤b) (h1:b≤255):(IntKind.wrap .u8 (BitVec.toNat (BitVec.ofInt (IntKind.bits .u8) b&&& BitVec.ofInt (IntKind.bits .u8) (192:Int))) !=(128:Int)) = !decide (cont b):=
 byte_all (P:=fun b=>(IntKind.wrap .u8 (BitVec.toNat (BitVec.ofInt (IntKind.bits .u8) b&&& BitVec.ofInt (IntKind.bits .u8) (192:Int))) !=(128:Int)) = !decide (cont b)) (by decide +kernel) h0 h1
theorem not_192 {b:Int} (h0:0≤b) (h1:b≤255):IntKind.wrap .u8 (BitVec.toNat (BitVec.ofInt (IntKind.bits .u8) b&&& ~~~BitVec.ofInt (IntKind.bits .u8) (192:Int)))=b % 64:=
 byte_all (P:=fun b=>IntKind.wrap .u8 (BitVec.toNat (BitVec.ofInt (IntKind.bits .u8) b&&& ~~~BitVec.ofInt (IntKind.bits .u8) (192:Int)))=b % 64) (by decide +kernel) h0 h1
theorem not_128 {b:Int} (h0:0≤b) (h1:b≤255):IntKind.wrap .u8 (BitVec.toNat (BitVec.ofInt (IntKind.bits .u8) b&&& ~~~BitVec.ofInt (IntKind.bits .u8) (128:Int)))=b % 128:=
 byte_all (P:=fun b=>IntKind.wrap .u8 (BitVec.toNat (BitVec.ofInt (IntKind.bits .u8) b&&& ~~~BitVec.ofInt (IntKind.bits .u8) (128:Int)))=b % 128) (by decide +kernel) h0 h1
theorem not_224 {b:Int} (h0:0≤b) (h1:b≤255):IntKind.wrap .u8 (BitVec.toNat (BitVec.ofInt (IntKind.bits .u8) b&&& ~~~BitVec.ofInt (IntKind.bits .u8) (224:Int)))=b % 32:=
 byte_all (P:=fun b=>IntKind.wrap .u8 (BitVec.toNat (BitVec.ofInt (IntKind.bits .u8) b&&& ~~~BitVec.ofInt (IntKind.bits .u8) (224:Int)))=b % 32) (by decide +kernel) h0 h1
theorem not_240 {b:Int} (h0:0≤b) (h1:b≤255):IntKind.wrap .u8 (BitVec.toNat (BitVec.ofInt (IntKind.bits .u8) b&&& ~~~BitVec.ofInt (IntKind.bits .u8) (240:Int)))=b % 16:=
 byte_all (P:=fun b=>IntKind.wrap .u8 (BitVec.toNat (BitVec.ofInt (IntKind.bits .u8) b&&& ~~~BitVec.ofInt (IntKind.bits .u8) (240:Int)))=b % 16) (by decide +kernel) h0 h1
theorem not_248 {b:Int} (h0:0≤b) (h1:b≤255):IntKind.wrap .u8 (BitVec.toNat (BitVec.ofInt (IntKind.bits .u8) b&&& ~~~BitVec.ofInt (IntKind.bits .u8) (248:Int)))=b % 8:=
 byte_all (P:=fun b=>IntKind.wrap .u8 (BitVec.toNat (BitVec.ofInt (IntKind.bits .u8) b&&& ~~~BitVec.ofInt (IntKind.bits .u8) (248:Int)))=b % 8) (by decide +kernel) h0 h1
theorem is_128 {b:Int} (h0:0≤b) (h1:b≤255):(IntKind.wrap .u8 (BitVec.toNat (BitVec.ofInt (IntKind.bits .u8) b&&& BitVec.ofInt (IntKind.bits .u8) (128:Int)))==(0:Int))=decide (b<128):=
 byte_all (P:=fun b=>(IntKind.wrap .u8 (BitVec.toNat (BitVec.ofInt (IntKind.bits .u8) b&&& BitVec.ofInt (IntKind.bits .u8) (128:Int)))==(0:Int))=decide (b<128)) (by decide +kernel) h0 h1
theorem is_224 {b:Int} (h0:0≤b) (h1:b≤255):(IntKind.wrap .u8 (BitVec.toNat (BitVec.ofInt (IntKind.bits .u8) b&&& BitVec.ofInt (IntKind.bits .u8) (224:Int)))==(192:Int))=decide (192≤b∧b<224):=
 byte_all (P:=fun b=>(IntKind.wrap .u8 (BitVec.toNat (BitVec.ofInt (IntKind.bits .u8) b&&& BitVec.ofInt (IntKind.bits .u8) (224:Int)))==(192:Int))=decide (192≤b∧b<224)) (by decide +kernel) h0 h1
theorem is_240 {b:Int} (h0:0≤b) (h1:b≤255):(IntKind.wrap .u8 (BitVec.toNat (BitVec.ofInt (IntKind.bits .u8) b&&& BitVec.ofInt (IntKind.bits .u8) (240:Int)))==(224:Int))=decide (224≤b∧b<240):=
 byte_all (P:=fun b=>(IntKind.wrap .u8 (BitVec.toNat (BitVec.ofInt (IntKind.bits .u8) b&&& BitVec.ofInt (IntKind.bits .u8) (240:Int)))==(224:Int))=decide (224≤b∧b<240)) (by decide +kernel) h0 h1
theorem is_248 {b:Int} (h0:0≤b) (h1:b≤255):(IntKind.wrap .u8 (BitVec.toNat (BitVec.ofInt (IntKind.bits .u8) b&&& BitVec.ofInt (IntKind.bits .u8) (248:Int)))==(240:Int))=decide (240≤b∧b<248):=
 byte_all (P:=fun b=>(IntKind.wrap .u8 (BitVec.toNat (BitVec.ofInt (IntKind.bits .u8) b&&& BitVec.ofInt (IntKind.bits .u8) (248:Int)))==(240:Int))=decide (240≤b∧b<248)) (by decide +kernel) h0 h1
theorem or_lo {r x:Nat} (hx:x<64):(r * 64)||| x=r * 64+x:=by
 have:=Nat.two_pow_add_eq_or_of_lt (i:=6) hx r
 rw [Nat.mul_comm] at this
 exact this.symm
theorem w32 {n:Int} (h1 : -2147483648≤n) (h2:n<2147483648):IntKind.wrap .i32 n=n:=by
 simp only [IntKind.wrap,IntKind.bits,IntKind.signed]
 simp
 omega
theorem or_32 {r x:Int} (h0:0≤r) (h1:r<1048576) (h2:0≤x) (h3:x<64):IntKind.wrap .i32 (BitVec.toNat (BitVec.ofInt (IntKind.bits .i32) (IntKind.wrap .i32 (r * (64:Int)))||| BitVec.ofInt (IntKind.bits .i32) (IntKind.wrap .i32 x)))=r * 64+x:=by
 rw [w32 (n:=r * 64) (by omega) (by omega),w32 (n:=x) (by omega) (by omega)]
 obtain ⟨a,rfl⟩:∃ a:Nat,r=a:=⟨r.toNat,by omega⟩
 obtain ⟨b,rfl⟩:∃ b:Nat,x=b:=⟨x.toNat,by omega⟩
 have e1:(BitVec.ofInt (IntKind.bits .i32) ((a:Int) * 64)||| BitVec.ofInt (IntKind.bits .i32) (b:Int)).toNat=a * 64+b:=by
  rw [BitVec.toNat_or,BitVec.toNat_ofInt,BitVec.toNat_ofInt]
  have h4:((a:Int) * 64 % ((2 ^ IntKind.bits .i32:Nat):Int)).toNat=a * 64:=by
   have:IntKind.bits .i32=32:=rfl
   rw [this]; omega
  have h5:((b:Int) % ((2 ^ IntKind.bits .i32:Nat):Int)).toNat=b:=by
   have:IntKind.bits .i32=32:=rfl
   rw [this]; omega
  rw [h4,h5,or_lo (by omega)]
 rw [e1,w32 (by omega) (by omega)]
 omega
def uszB (n c d e f:Int):Int:=
 if c<128 then 1
 else if 192≤c∧c<224 then (if 2≤n∧cont d∧128≤c % 32 * 64+d % 64 then 2 else 0)
 else if 224≤c∧c<240 then (if 3≤n∧cont d∧cont e∧2048≤(c % 16 * 64+d % 64) * 64+e % 64∧¬ (55296≤(c % 16 * 64+d % 64) * 64+e % 64∧(c % 16 * 64+d % 64) * 64+e % 64<57344) then 3 else 0)
 else if 240≤c∧c<248 then (if 4≤n∧cont d∧cont e∧cont f∧65536≤((c % 8 * 64+d % 64) * 64+e % 64) * 64+f % 64∧((c % 8 * 64+d % 64) * 64+e % 64) * 64+f % 64≤1114111 then 4 else 0)
 else 0
theorem long_end {K:Nat} {s:ByteArray} {a:Int} {n r i:Int} {k:Nat} (h:¬ i<n):utf_long.l0 K n a s (k+1) r i=some (.inr r):=by
 rw [utf_long.l0,if_neg (by simpa using h)]
theorem long_bad {K:Nat} {s:ByteArray} {a:Int} (h0:0≤a) (hs:(s.size:Int)≤1000000000000) {n r i:Int} {k:Nat} (h:i<n) (hi:0≤i) (hr:a+i<s.size) (hc:¬ cont (bt s (a+i))):utf_long.l0 K n a s (k+1) r i=some (.inl (0,0)):=by
 rw [utf_long.l0,w64 (n:=a+i) (by omega) (by omega),if_pos (by simpa using h),if_pos ⟨by omega,by omega⟩,and_192 bt_ok.1 bt_ok.2,if_pos (by simpa using hc)]
theorem long_go {K:Nat} {s:ByteArray} {a:Int} (h0:0≤a) (hs:(s.size:Int)≤1000000000000) {n r i:Int} {k:Nat} (h:i<n) (hi:0≤i) (hr:a+i<s.size) (hc:cont (bt s (a+i))) (r0:0≤r) (r1:r<1048576):utf_long.l0 K n a s (k+1) r i=utf_long.l0 K n a s k (r * 64+bt s (a+i) % 64) (i+1):=by
 have hb:=bt_ok (s:=s) (i:=a+i)
 rw [utf_long.l0,w64 (n:=a+i) (by omega) (by omega),if_pos (by simpa using h),if_pos ⟨by omega,by omega⟩,and_192 hb.1 hb.2,if_neg (by simpa using hc),not_192 hb.1 hb.2,or_32 r0 r1 (by omega) (by omega),w64 (n:=i+1) (by omega) (by omega)]
def usz (s:ByteArray) (a:Int):Int:=if a<0∨a≥s.size then 0 else uszB (s.size - a) (bt s a) (bt s (a+1)) (bt s (a+2)) (bt s (a+3))
theorem uszB_ok {n c d e f:Int} (hn:1≤n):0≤uszB n c d e f∧uszB n c d e f≤4∧uszB n c d e f≤n:=by
 unfold uszB
 split
 ·omega
 ·split
  ·split <;> omega
  ·split
   ·split <;> omega
   ·split
    ·split <;> omega
    ·omega
theorem usz_ok {s:ByteArray} {a:Int}:0≤usz s a∧usz s a≤4∧(0≤a→a<s.size→a+usz s a≤s.size):=by
 unfold usz
 split
 ·rename_i h; exact ⟨by omega,by omega,fun h1 h2=>by omega⟩
 ·have:=uszB_ok (n:=s.size - a) (c:=bt s a) (d:=bt s (a+1)) (e:=bt s (a+2)) (f:=bt s (a+3)) (by omega)
  exact ⟨by omega,by omega,fun h1 h2=>by omega⟩
theorem point_is {K:Nat} {r:Int} (h0:0≤r):utf_isPoint K r=some (decide (r≤1114111∧¬ (55296≤r∧r<57344))):=by
 unfold utf_isPoint
 rw [if_pos (by simpa using h0)]
 by_cases h1:r≤1114111
 ·rw [if_pos (by simpa using h1)]
  by_cases h2:r<55296
  ·rw [if_pos (by simpa using h2)]
   congr 1; symm; simp; omega
  ·rw [if_neg (by simpa using h2)]
   congr 1
   by_cases h3:r > 57343
   ·simp [h3]; omega
   ·simp [h3]; omega
 ·rw [if_neg (by simpa using h1)]
  congr 1; symm; simp; omega
def tell (n v least:Int):Int×Int:=if least≤v∧v≤1114111∧¬ (55296≤v∧v<57344) then (v,n) else (0,0)
theorem long_tell {K:Nat} {n v least:Int} (h0:0≤v):((if decide (v<least)=true then some true else (utf_isPoint K v).bind fun r_28=>some (!r_28)).bind fun z_39=>if z_39=true then some ((0:Int),(0:Int)) else some (v,n))=some (tell n v least):=by
 unfold tell
 rw [point_is h0]
 by_cases h1:v<least
 ·rw [if_pos (by simpa using h1),Option.bind_some,if_pos rfl,if_neg (by omega)]
 ·rw [if_neg (by simpa using h1),Option.bind_some,Option.bind_some]
  by_cases h2:v≤1114111∧¬ (55296≤v∧v<57344)
  ·rw [if_neg (by simp; omega),if_pos (by omega)]
  ·rw [if_pos (by simp; omega),if_neg (by omega)]
theorem long1_is {K:Nat} {s:ByteArray} {a:Int} (hK:10≤K) (h0:0≤a) (hs:(s.size:Int)≤1000000000000) (ha:a<s.size) (hc:bt s a<128):utf_long K s a 1 128 0 0=some (bt s a,1):=by
 obtain ⟨k,rfl⟩:∃ k,K=k+5:=⟨K - 5,by omega⟩
 have hb:=bt_ok (s:=s) (i:=a)
 unfold utf_long
 rw [w64 (by omega) (by omega),if_neg (by simp; omega),if_pos ⟨h0,ha⟩,not_128 hb.1 hb.2,w32 (by omega) (by omega),long_end (by omega),Option.bind_some]
 simp only [Sum.elim_inr]
 rw [long_tell (by omega)]
 unfold tell
 rw [if_pos (by omega)]
 congr 2
 omega
theorem long2_is {K:Nat} {s:ByteArray} {a:Int} (hK:10≤K) (h0:0≤a) (hs:(s.size:Int)≤1000000000000) (ha:a<s.size):utf_long K s a 2 224 192 128 =
 some (if 2≤(s.size:Int) - a∧cont (bt s (a+1)) then tell 2 (bt s a % 32 * 64+bt s (a+1) % 64) 128 else (0,0)):=by
 obtain ⟨k,rfl⟩:∃ k,K=k+5:=⟨K - 5,by omega⟩
 have hb:=bt_ok (s:=s) (i:=a)
 have hb1:=bt_ok (s:=s) (i:=a+1)
 unfold utf_long
 rw [w64 (by omega) (by omega)]
 by_cases hn:(s.size:Int) - a<2
 ·rw [if_pos (by simpa using hn),if_neg (by omega)]
 ·rw [if_neg (by simpa using hn),if_pos ⟨h0,ha⟩,not_224 hb.1 hb.2,w32 (by omega) (by omega)]
  by_cases c1:cont (bt s (a+1))
  ·rw [long_go h0 hs (by omega) (by omega) (by omega) c1 (by omega) (by omega),long_end (by omega),Option.bind_some]
   simp only [Sum.elim_inr]
   rw [long_tell (by omega),if_pos ⟨by omega,c1⟩]
  ·rw [long_bad h0 hs (by omega) (by omega) (by omega) c1,Option.bind_some,if_neg (fun h=>c1 h.2)]
   rfl
theorem long3_is {K:Nat} {s:ByteArray} {a:Int} (hK:10≤K) (h0:0≤a) (hs:(s.size:Int)≤1000000000000) (ha:a<s.size):utf_long K s a 3 240 224 2048 =
 some (if 3≤(s.size:Int) - a∧cont (bt s (a+1))∧cont (bt s (a+2)) then tell 3 ((bt s a % 16 * 64+bt s (a+1) % 64) * 64+bt s (a+2) % 64) 2048 else (0,0)):=by
 obtain ⟨k,rfl⟩:∃ k,K=k+5:=⟨K - 5,by omega⟩
 have hb:=bt_ok (s:=s) (i:=a)
 have hb1:=bt_ok (s:=s) (i:=a+1)
 have hb2:=bt_ok (s:=s) (i:=a+2)
 unfold utf_long
 rw [w64 (by omega) (by omega)]
 by_cases hn:(s.size:Int) - a<3
 ·rw [if_pos (by simpa using hn),if_neg (by omega)]
 ·rw [if_neg (by simpa using hn),if_pos ⟨h0,ha⟩,not_240 hb.1 hb.2,w32 (by omega) (by omega)]
  by_cases c1:cont (bt s (a+1))
  ·rw [long_go h0 hs (by omega) (by omega) (by omega) c1 (by omega) (by omega)]
   by_cases c2:cont (bt s (a+2))
   ·rw [show (1:Int)+1=2 from rfl,long_go h0 hs (by omega) (by omega) (by omega) c2 (by omega) (by omega),long_end (by omega),Option.bind_some]
    simp only [Sum.elim_inr]
    rw [long_tell (by omega),if_pos ⟨by omega,c1,c2⟩]
   ·rw [show (1:Int)+1=2 from rfl,long_bad h0 hs (by omega) (by omega) (by omega) c2,Option.bind_some,if_neg (fun h=>c2 h.2.2)]
    rfl
  ·rw [long_bad h0 hs (by omega) (by omega) (by omega) c1,Option.bind_some,if_neg (fun h=>c1 h.2.1)]
   rfl
theorem long4_go {K k:Nat} {s:ByteArray} {a:Int} (h0:0≤a) (hs:(s.size:Int)≤1000000000000) (hn:¬ (s.size:Int) - a<4):utf_long.l0 K 4 a s (k+4) (bt s a % 8) 1 =
 some (if cont (bt s (a+1))∧cont (bt s (a+2))∧cont (bt s (a+3)) then .inr (((bt s a % 8 * 64+bt s (a+1) % 64) * 64+bt s (a+2) % 64) * 64+bt s (a+3) % 64) else .inl (0,0)):=by
 have hb:=bt_ok (s:=s) (i:=a)
 have hb1:=bt_ok (s:=s) (i:=a+1)
 have hb2:=bt_ok (s:=s) (i:=a+2)
 have hb3:=bt_ok (s:=s) (i:=a+3)
 have r1:0≤bt s a % 8∧bt s a % 8<8:=by omega
 have r2:0≤bt s (a+1) % 64∧bt s (a+1) % 64<64:=by omega
 have r3:0≤bt s (a+2) % 64∧bt s (a+2) % 64<64:=by omega
 by_cases c1:cont (bt s (a+1))
 ·have g1:=long_go (K:=K) h0 hs (n:=4) (r:=bt s a % 8) (i:=1) (k:=k+3) (by omega) (by omega) (by omega) c1 (by omega) (by omega)
  rw [g1,show (1:Int)+1=2 from rfl]
  by_cases c2:cont (bt s (a+2))
  ·have g2:=long_go (K:=K) h0 hs (n:=4) (r:=bt s a % 8 * 64+bt s (a+1) % 64) (i:=2) (k:=k+2) (by omega) (by omega) (by omega) c2 (by omega) (by omega)
   rw [g2,show (2:Int)+1=3 from rfl]
   by_cases c3:cont (bt s (a+3))
   ·have g3:=long_go (K:=K) h0 hs (n:=4) (r:=(bt s a % 8 * 64+bt s (a+1) % 64) * 64+bt s (a+2) % 64) (i:=3) (k:=k+1) (by omega) (by omega) (by omega) c3 (by omega) (by omega)
    rw [g3,long_end (by omega),if_pos ⟨c1,c2,c3⟩]
   ·have g3:=long_bad (K:=K) h0 hs (n:=4) (r:=(bt s a % 8 * 64+bt s (a+1) % 64) * 64+bt s (a+2) % 64) (i:=3) (k:=k+1) (by omega) (by omega) (by omega) c3
    rw [g3,if_neg (fun h=>c3 h.2.2)]
  ·have g2:=long_bad (K:=K) h0 hs (n:=4) (r:=bt s a % 8 * 64+bt s (a+1) % 64) (i:=2) (k:=k+2) (by omega) (by omega) (by omega) c2
   rw [g2,if_neg (fun h=>c2 h.2.1)]
 ·have g1:=long_bad (K:=K) h0 hs (n:=4) (r:=bt s a % 8) (i:=1) (k:=k+3) (by omega) (by omega) (by omega) c1
  rw [g1,if_neg (fun h=>c1 h.1)]
theorem long4_is {K:Nat} {s:ByteArray} {a least:Int} (hK:10≤K) (h0:0≤a) (hs:(s.size:Int)≤1000000000000) (ha:a<s.size):utf_long K s a 4 248 240 least =
 some (if 4≤(s.size:Int) - a∧cont (bt s (a+1))∧cont (bt s (a+2))∧cont (bt s (a+3)) then tell 4 (((bt s a % 8 * 64+bt s (a+1) % 64) * 64+bt s (a+2) % 64) * 64+bt s (a+3) % 64) least else (0,0)):=by
 obtain ⟨k,rfl⟩:∃ k,K=k+4:=⟨K - 4,by omega⟩
 have hb:=bt_ok (s:=s) (i:=a)
 have r0:0≤bt s a % 8∧bt s a % 8<8:=by omega
 have r1:0≤bt s (a+1) % 64:=by omega
 have r2:0≤bt s (a+2) % 64:=by omega
 have r3:0≤bt s (a+3) % 64:=by omega
 unfold utf_long
 rw [w64 (n:=(s.size:Int) - a) (by omega) (by omega)]
 by_cases hn:(s.size:Int) - a<4
 ·rw [if_pos (by simpa using hn),if_neg (by omega)]
 ·rw [if_neg (by simpa using hn),if_pos ⟨h0,ha⟩,not_248 hb.1 hb.2,w32 (n:=bt s a % 8) (by omega) (by omega),long4_go h0 hs hn]
  by_cases c:cont (bt s (a+1))∧cont (bt s (a+2))∧cont (bt s (a+3))
  ·rw [if_pos c,Option.bind_some,if_pos ⟨by omega,c⟩]
   simp only [Sum.elim_inr]
   generalize bt s a % 8=x0 at *
   generalize bt s (a+1) % 64=x1 at *
   generalize bt s (a+2) % 64=x2 at *
   generalize bt s (a+3) % 64=x3 at *
   rw [long_tell (by omega)]
  ·rw [if_neg c,Option.bind_some,if_neg (fun h=>c h.2)]
   simp only [Sum.elim_inl]
def upt (s:ByteArray) (a:Int):Int×Int:=
 if a<0∨a≥s.size then (0,0)
 else if bt s a<128 then (bt s a,1)
 else if 192≤bt s a∧bt s a<224 then (if 2≤(s.size:Int) - a∧cont (bt s (a+1)) then tell 2 (bt s a % 32 * 64+bt s (a+1) % 64) 128 else (0,0))
 else if 224≤bt s a∧bt s a<240 then (if 3≤(s.size:Int) - a∧cont (bt s (a+1))∧cont (bt s (a+2)) then tell 3 ((bt s a % 16 * 64+bt s (a+1) % 64) * 64+bt s (a+2) % 64) 2048 else (0,0))
 else if 240≤bt s a∧bt s a<248 then (if 4≤(s.size:Int) - a∧cont (bt s (a+1))∧cont (bt s (a+2))∧cont (bt s (a+3)) then tell 4 (((bt s a % 8 * 64+bt s (a+1) % 64) * 64+bt s (a+2) % 64) * 64+bt s (a+3) % 64) 65536 else (0,0))
 else (0,0)
theorem tell_snd {n v least:Int}:(tell n v least).2=if least≤v∧v≤1114111∧¬ (55296≤v∧v<57344) then n else 0:=by
 unfold tell; split <;> rfl
theorem upt_snd {s:ByteArray} {a:Int}:(upt s a).2=usz s a:=by
 unfold upt usz uszB
 have hb:=bt_ok (s:=s) (i:=a)
 have hb1:=bt_ok (s:=s) (i:=a+1)
 have hb2:=bt_ok (s:=s) (i:=a+2)
 have hb3:=bt_ok (s:=s) (i:=a+3)
 by_cases h:a<0∨a≥s.size
 ·rw [if_pos h,if_pos h]
 ·rw [if_neg h,if_neg h]
  by_cases h1:bt s a<128
  ·rw [if_pos h1,if_pos h1]
  ·rw [if_neg h1,if_neg h1]
   by_cases h2:192≤bt s a∧bt s a<224
   ·rw [if_pos h2,if_pos h2]
    by_cases c:2≤(s.size:Int) - a∧cont (bt s (a+1))
    ·rw [if_pos c,tell_snd]
     congr 1
     apply propext
     constructor
     ·intro h; exact ⟨c.1,c.2,h.1⟩
     ·intro h; exact ⟨h.2.2,by omega,by omega⟩
    ·rw [if_neg c,if_neg (fun h=>c ⟨h.1,h.2.1⟩)]
   ·rw [if_neg h2,if_neg h2]
    by_cases h3:224≤bt s a∧bt s a<240
    ·rw [if_pos h3,if_pos h3]
     by_cases c:3≤(s.size:Int) - a∧cont (bt s (a+1))∧cont (bt s (a+2))
     ·rw [if_pos c,tell_snd]
      congr 1
      apply propext
      constructor
      ·intro h; exact ⟨c.1,c.2.1,c.2.2,h.1,h.2.2⟩
      ·intro h; exact ⟨h.2.2.2.1,by omega,h.2.2.2.2⟩
     ·rw [if_neg c,if_neg (fun h=>c ⟨h.1,h.2.1,h.2.2.1⟩)]
    ·rw [if_neg h3,if_neg h3]
     by_cases h4:240≤bt s a∧bt s a<248
     ·rw [if_pos h4,if_pos h4]
      by_cases c:4≤(s.size:Int) - a∧cont (bt s (a+1))∧cont (bt s (a+2))∧cont (bt s (a+3))
      ·rw [if_pos c,tell_snd]
       congr 1
       apply propext
       constructor
       ·intro h; exact ⟨c.1,c.2.1,c.2.2.1,c.2.2.2,h.1,h.2.1⟩
       ·intro h; exact ⟨h.2.2.2.2.1,h.2.2.2.2.2,by omega⟩
      ·rw [if_neg c,if_neg (fun h=>c ⟨h.1,h.2.1,h.2.2.1,h.2.2.2.1⟩)]
     ·rw [if_neg h4,if_neg h4]
theorem upt_is {K:Nat} {s:ByteArray} {a:Int} (hK:10≤K) (hs:(s.size:Int)≤1000000000000):utf_point K s a=some (upt s a):=by
 obtain ⟨k,hk⟩:∃ k,K=k+5:=⟨K - 5,by omega⟩
 have hb:=bt_ok (s:=s) (i:=a)
 unfold utf_point upt
 by_cases h:a<0∨a≥s.size
 ·have:(if decide (a<0)=true then some true else some (decide (a≥((s.size:Nat):Int))))=some true:=by
   by_cases h1:a<0
   ·rw [if_pos (by simpa using h1)]
   ·rw [if_neg (by simpa using h1)]; simp; omega
  rw [this,Option.bind_some,if_pos rfl,if_pos h]
 ·have:(if decide (a<0)=true then some true else some (decide (a≥((s.size:Nat):Int))))=some false:=by
   rw [if_neg (by simp; omega)]; simp; omega
  rw [this,Option.bind_some,if_neg (by simp),if_neg h]
  unfold utf_forms
  rw [Option.bind_some]
  have hin:0≤a∧a<((s.size:Nat):Int):=⟨by omega,by omega⟩
  have hw0:IntKind.wrap .i64 ((0:Int)+1)=1:=by decide
  have hw1:IntKind.wrap .i64 ((1:Int)+1)=2:=by decide
  have hw2:IntKind.wrap .i64 ((2:Int)+1)=3:=by decide
  have hw3:IntKind.wrap .i64 ((3:Int)+1)=4:=by decide
  rw [hk]
  simp only [utf_point.l0,if_pos hin,hw0,hw1,hw2,hw3]
  simp only [show ((0:Int)).toNat=0 from rfl,show ((1:Int)).toNat=1 from rfl,show ((2:Int)).toNat=2 from rfl,show ((3:Int)).toNat=3 from rfl,List.getD_cons_zero,List.getD_cons_succ,is_128 hb.1 hb.2,is_224 hb.1 hb.2,is_240 hb.1 hb.2,is_248 hb.1 hb.2]
  rw [← hk]
  simp only [decide_eq_true_eq]
  by_cases h1:bt s a<128
  ·rw [if_pos (by omega),if_pos (by omega),if_pos h1,if_pos h1,long1_is hK (by omega) hs (by omega) h1]; rfl
  ·rw [if_pos (by omega),if_pos (by omega),if_neg h1,if_neg h1,if_pos (by omega),if_pos (by omega)]
   by_cases h2:192≤bt s a∧bt s a<224
   ·rw [if_pos h2,if_pos h2,long2_is hK (by omega) hs (by omega)]; rfl
   ·rw [if_neg h2,if_neg h2,if_pos (by omega),if_pos (by omega)]
    by_cases h3:224≤bt s a∧bt s a<240
    ·rw [if_pos h3,if_pos h3,long3_is hK (by omega) hs (by omega)]; rfl
    ·rw [if_neg h3,if_neg h3,if_pos (by omega),if_pos (by omega)]
     by_cases h4:240≤bt s a∧bt s a<248
     ·rw [if_pos h4,if_pos h4,long4_is hK (by omega) hs (by omega)]; rfl
     ·rw [if_neg h4,if_neg h4,if_neg (by omega)]
theorem usize_is {K:Nat} {s:ByteArray} {a:Int} (hK:10≤K) (hs:(s.size:Int)≤1000000000000):utf_Size K s a=some (usz s a):=by
 unfold utf_Size
 rw [upt_is hK hs,Option.bind_some,upt_snd]
def uval (s:ByteArray):Nat→Int→Bool
 | 0,_ => true
 | m+1,a => if a<s.size then (if usz s a=0 then false else uval s m (a+usz s a)) else true
def uvalid (s:ByteArray):Bool:=uval s s.size 0
theorem uvalid_loop {K:Nat} {s:ByteArray} (hK:10≤K) (hs:(s.size:Int)≤1000000000000):∀ (d k m:Nat) (a:Int),0≤a→(s.size:Int) - a≤d→a≤s.size→d<k→d≤m→utf_Valid.l0 K s k a=some (uval s m a):=by
 intro d
 induction d with
 | zero =>
   intro k m a h0 h1 h2 hk hm
   obtain ⟨k,rfl⟩:∃ l,k=l+1:=⟨k - 1,by omega⟩
   rw [utf_Valid.l0,if_neg (by simp; omega)]
   cases m with
   | zero => rfl
   | succ m => rw [uval,if_neg (by omega)]
 | succ d ih =>
   intro k m a h0 h1 h2 hk hm
   obtain ⟨k,rfl⟩:∃ l,k=l+1:=⟨k - 1,by omega⟩
   obtain ⟨m,rfl⟩:∃ l,m=l+1:=⟨m - 1,by omega⟩
   have hu:=usz_ok (s:=s) (a:=a)
   rw [utf_Valid.l0,uval]
   by_cases h:a<s.size
   ·have hu3:=hu.2.2 h0 h
    rw [if_pos (by simpa using h),if_pos h,usize_is hK hs,Option.bind_some]
    by_cases hz:usz s a=0
    ·rw [if_pos (by simpa using hz),if_pos hz]
    ·rw [if_neg (by simpa using hz),if_neg hz,w64 (by omega) (by omega)]
     exact ih k m _ (by omega) (by omega) (by omega) (by omega) (by omega)
   ·rw [if_neg (by simpa using h),if_neg h]
theorem uvalid_is {K:Nat} {s:ByteArray} (hK:s.size+10≤K) (hs:(s.size:Int)≤1000000000000):utf_Valid K s=some (uvalid s):=by
 unfold utf_Valid uvalid
 exact uvalid_loop (by omega) hs s.size K s.size 0 (by omega) (by omega) (by omega) (by omega) (by omega)
theorem bt_get {s:ByteArray} (i:Nat):bt s (i:Int)=((s.get! i).toNat:Int):=by
 unfold bt
 rw [Int.toNat_natCast]
 by_cases h:i<s.size
 ·rw [getElem?_pos s i h,Option.getD_some]
  congr 2
  show s.data[i]=s.data[i]!
  rw [getElem!_pos s.data i h]
 ·rw [getElem?_neg s i h,Option.getD_none]
  show ((0:UInt8).toNat:Int)=((s.data[i]!).toNat:Int)
  rw [getElem!_neg s.data i h]; rfl
theorem enc_size {c:Nat} (hc:c≤1114111∧¬ (55296≤c∧c<57344)):(Utf8.encode (c:Int)).size=if c<128 then 1 else if c<2048 then 2 else if c<65536 then 3 else 4:=by
 have hv:Utf8.valid (c:Int)=true:=by
  unfold Utf8.valid
  simp only [Bool.or_eq_true,Bool.and_eq_true,decide_eq_true_eq]; omega
 unfold Utf8.encode
 simp only [hv,if_true,Int.toNat_natCast]
 by_cases h1:c<128
 ·rw [if_pos h1,if_pos h1]; rfl
 ·rw [if_neg h1,if_neg h1]
  by_cases h2:c<2048
  ·rw [if_pos h2,if_pos h2]; rfl
  ·rw [if_neg h2,if_neg h2]
   by_cases h3:c<65536
   ·rw [if_pos h3,if_pos h3]; rfl
   ·rw [if_neg h3,if_neg h3]; rfl
theorem get_lt {s:ByteArray} {i:Nat}:(s.get! i).toNat<256:=(s.get! i).toNat_lt
def dcd (n t b0 b1 b2 b3:Nat):Nat×Nat:=
 if b0<128 then (b0,1)
 else if b0 / 32==6&&(decide (t+1<n)&&b1 / 64==2) then
  (if b0 % 32 * 64+b1 % 64≥128 then (b0 % 32 * 64+b1 % 64,2) else (65533,1))
 else if b0 / 16==14&&(decide (t+1<n)&&b1 / 64==2)&&(decide (t+2<n)&&b2 / 64==2) then
  (if decide (b0 % 16 * 4096+b1 % 64 * 64+b2 % 64≥2048)&&Utf8.valid (b0 % 16 * 4096+b1 % 64 * 64+b2 % 64:Nat) then (b0 % 16 * 4096+b1 % 64 * 64+b2 % 64,3) else (65533,1))
 else if b0 / 8==30&&(decide (t+1<n)&&b1 / 64==2)&&(decide (t+2<n)&&b2 / 64==2)&&(decide (t+3<n)&&b3 / 64==2) then
  (if decide (b0 % 8 * 262144+b1 % 64 * 4096+b2 % 64 * 64+b3 % 64≥65536)&&Utf8.valid (b0 % 8 * 262144+b1 % 64 * 4096+b2 % 64 * 64+b3 % 64:Nat) then (b0 % 8 * 262144+b1 % 64 * 4096+b2 % 64 * 64+b3 % 64,4) else (65533,1))
 else (65533,1)
theorem dcd_is {s:ByteArray} {t:Nat}:Utf8.decode s t=dcd s.size t (s.get! t).toNat (s.get! (t+1)).toNat (s.get! (t+2)).toNat (s.get! (t+3)).toNat:=rfl
theorem dcd_ok {n t b0 b1 b2 b3:Nat} (ht:t<n) (h0:b0<256) (hz:uszB ((n:Int) - t) b0 b1 b2 b3≠0) :
 ∃ c z:Nat,dcd n t b0 b1 b2 b3=(c,z)∧uszB ((n:Int) - t) b0 b1 b2 b3=z∧(Utf8.encode (c:Int)).size=z∧(c=10↔b0=10):=by
 unfold uszB cont at *
 unfold dcd
 by_cases h1:b0<128
 ·rw [if_pos h1,if_pos (show (b0:Int)<128 by omega)]
  refine ⟨b0,1,rfl,rfl,?_,Iff.rfl⟩
  rw [enc_size (by omega),if_pos h1]
 rw [if_neg (show ¬ (b0:Int)<128 by omega)] at hz ⊢
 rw [if_neg h1]
 by_cases h2:192≤b0∧b0<224
 ·rw [if_pos (show (192:Int)≤b0∧(b0:Int)<224 by omega)] at hz ⊢
  by_cases c:2≤(n:Int) - t∧((128:Int)≤b1∧(b1:Int)<192)∧(128:Int)≤b0 % 32 * 64+b1 % 64
  ·rw [if_pos c,if_pos (by simp; omega),if_pos (by omega)]
   refine ⟨_,2,rfl,rfl,?_,by omega⟩
   rw [enc_size (by omega),if_neg (by omega),if_pos (by omega)]
  ·rw [if_neg c] at hz; exact (hz rfl).elim
 rw [if_neg (show ¬ ((192:Int)≤b0∧(b0:Int)<224) by omega)] at hz ⊢
 rw [if_neg (by simp; omega)]
 by_cases h3:224≤b0∧b0<240
 ·rw [if_pos (show (224:Int)≤b0∧(b0:Int)<240 by omega)] at hz ⊢
  by_cases c:3≤(n:Int) - t∧((128:Int)≤b1∧(b1:Int)<192)∧((128:Int)≤b2∧(b2:Int)<192)∧(2048:Int)≤(b0 % 16 * 64+b1 % 64) * 64+b2 % 64∧¬ ((55296:Int)≤(b0 % 16 * 64+b1 % 64) * 64+b2 % 64∧((b0:Int) % 16 * 64+b1 % 64) * 64+b2 % 64<57344)
  ·have hc:b0 % 16 * 4096+b1 % 64 * 64+b2 % 64≤1114111∧¬ (55296≤b0 % 16 * 4096+b1 % 64 * 64+b2 % 64∧b0 % 16 * 4096+b1 % 64 * 64+b2 % 64<57344):=by omega
   have hv:Utf8.valid ((b0 % 16 * 4096+b1 % 64 * 64+b2 % 64:Nat):Int)=true:=by
    unfold Utf8.valid
    simp only [Bool.or_eq_true,Bool.and_eq_true,decide_eq_true_eq]; omega
   rw [if_pos c,if_pos (by simp; omega),hv,if_pos (by simp; omega)]
   refine ⟨_,3,rfl,rfl,?_,by omega⟩
   rw [enc_size hc,if_neg (by omega),if_neg (by omega),if_pos (by omega)]
  ·rw [if_neg c] at hz; exact (hz rfl).elim
 rw [if_neg (show ¬ ((224:Int)≤b0∧(b0:Int)<240) by omega)] at hz ⊢
 rw [if_neg (by simp; omega)]
 by_cases h4:240≤b0∧b0<248
 ·rw [if_pos (show (240:Int)≤b0∧(b0:Int)<248 by omega)] at hz ⊢
  by_cases c:4≤(n:Int) - t∧((128:Int)≤b1∧(b1:Int)<192)∧((128:Int)≤b2∧(b2:Int)<192)∧((128:Int)≤b3∧(b3:Int)<192)∧(65536:Int)≤((b0 % 8 * 64+b1 % 64) * 64+b2 % 64) * 64+b3 % 64∧(((b0:Int) % 8 * 64+b1 % 64) * 64+b2 % 64) * 64+b3 % 64≤1114111
  ·have hc:b0 % 8 * 262144+b1 % 64 * 4096+b2 % 64 * 64+b3 % 64≤1114111∧¬ (55296≤b0 % 8 * 262144+b1 % 64 * 4096+b2 % 64 * 64+b3 % 64∧b0 % 8 * 262144+b1 % 64 * 4096+b2 % 64 * 64+b3 % 64<57344):=by omega
   have hv:Utf8.valid ((b0 % 8 * 262144+b1 % 64 * 4096+b2 % 64 * 64+b3 % 64:Nat):Int)=true:=by
    unfold Utf8.valid
    simp only [Bool.or_eq_true,Bool.and_eq_true,decide_eq_true_eq]; omega
   rw [if_pos c,if_pos (by simp; omega),hv,if_pos (by simp; omega)]
   refine ⟨_,4,rfl,rfl,?_,by omega⟩
   rw [enc_size hc,if_neg (by omega),if_neg (by omega),if_neg (by omega)]
  ·rw [if_neg c] at hz; exact (hz rfl).elim
 rw [if_neg (show ¬ ((240:Int)≤b0∧(b0:Int)<248) by omega)] at hz
 exact (hz rfl).elim
theorem decode_is {s:ByteArray} {t:Nat} (ht:t<s.size) (hz:usz s t≠0) :
 ∃ c z:Nat,Utf8.decode s t=(c,z)∧usz s t=z∧(Utf8.encode (c:Int)).size=z∧(c=10↔bt s t=10):=by
 unfold usz at *
 rw [if_neg (by omega)] at hz ⊢
 rw [show (t:Int)+1=((t+1:Nat):Int) by omega,show (t:Int)+2=((t+2:Nat):Int) by omega,show (t:Int)+3=((t+3:Nat):Int) by omega,bt_get,bt_get,bt_get,bt_get] at hz
 rw [show (t:Int)+1=((t+1:Nat):Int) by omega,show (t:Int)+2=((t+2:Nat):Int) by omega,show (t:Int)+3=((t+3:Nat):Int) by omega,bt_get,bt_get,bt_get,bt_get,dcd_is]
 obtain ⟨c,z,h1,h2,h3,h4⟩:=dcd_ok ht get_lt hz
 exact ⟨c,z,h1,h2,h3,by rw [h4]; omega⟩
def isE (s:ByteArray) (p:Int):Bool:=decide (0≤p∧p≤s.size)&&(uvalid s&&(decide (p=s.size)||!decide (cont (bt s p))))
theorem uedge_is {K:Nat} {s:ByteArray} {p:Int} (hK:s.size+10≤K) (hs:s.size≤1000000):utf_IsEdge K s p=some (isE s p):=by
 unfold utf_IsEdge isE
 have hb:=bt_ok (s:=s) (i:=p)
 by_cases h0:0≤p
 ·rw [if_pos (by simpa using h0)]
  by_cases h1:p≤s.size
  ·rw [if_pos (by simpa using h1),decide_eq_true ⟨h0,h1⟩,Bool.true_and,uvalid_is hK (by omega)]
   by_cases h2:p=s.size
   ·rw [if_pos (by simpa using h2),Option.bind_some,decide_eq_true h2,Bool.true_or,Bool.and_true]
   ·rw [if_neg (by simpa using h2),and_192 hb.1 hb.2,decide_eq_false h2,Bool.false_or,Option.bind_some]
    have hr:0≤p∧p<(s.size:Int):=⟨h0,by omega⟩
    simp only [if_pos hr]
    by_cases hc:cont (bt s p)
    ·rw [decide_eq_true hc,if_neg (by simp)]; simp
    ·rw [decide_eq_false hc,if_pos (by simp)]; simp
  ·rw [if_neg (by simpa using h1),decide_eq_false (by omega),Bool.false_and]
 ·rw [if_neg (by simpa using h0),decide_eq_false (by omega),Bool.false_and]
theorem known_is (n:Nat):palinodetop_known (n+40)=some true:=by kernel_rfl
abbrev Atm:=ByteArray×(Int×(Int×(Int×List (Int×Int))))
abbrev zA:Atm:=(ByteArray.empty,((0:Int),((0:Int),((0:Int),([]:List (Int×Int))))))
abbrev Chg:=Int×(Int×ByteArray)
abbrev zC:Chg:=((0:Int),((0:Int),ByteArray.empty))
theorem up1 {j:Nat} (h:j<1000000):IntKind.wrap .i64 ((j:Int)+1)=((j+1:Nat):Int):=by
 rw [w64 (by omega) (by omega)]; omega
theorem idx_loop {K:Nat} {l:List Int} {v:Int} (hl:l.length≤50000):∀ (r:List Int) (j k:Nat),l.drop j=r→r.length<k→∃ n,slices_Index_rg.l0 K l v k (j:Int)=some n∧decide (n≥0)=r.contains v
 | [],j,k+1,h,_ => by
   have:=drop_nil h
   refine ⟨-1,?_,rfl⟩
   rw [slices_Index_rg.l0,if_neg (by simp; omega)]
 | g :: r,j,k+1,h,hk => by
   obtain ⟨h1,h2,h3⟩:=drop_cons h (0:Int)
   rw [slices_Index_rg.l0,if_pos (by simp; omega),if_pos ⟨by omega,by omega⟩,Int.toNat_natCast,h2]
   by_cases e:v=g
   ·exact ⟨j,by rw [if_pos (by simpa using e)],by simp [e]⟩
   ·obtain ⟨n,h4,h5⟩:=idx_loop hl r (j+1) k h3 (by simpa using hk)
    refine ⟨n,by rw [if_neg (by simpa using e),up1 (by omega)]; exact h4,by rw [h5]; simp [e]⟩
theorem contains_is {K:Nat} {l:List Int} {v:Int} (hK:100000≤K) (hl:l.length≤50000):slices_Contains_rg K l v=some (l.contains v):=by
 obtain ⟨n,h1,h2⟩:=idx_loop (K:=K) (v:=v) hl l 0 K rfl (by omega)
 have h1:slices_Index_rg.l0 K l v K 0=some n:=h1
 rw [slices_Contains_rg,slices_Index_rg,h1,Option.bind_some,← h2]
def holds (g:Int) (u:List Int):Bool:=g==-1||!u.contains g
theorem holds_is {K:Nat} {u:List Int} {g:Int} (hK:100000≤K) (hu:u.length≤50000):atom_holds_gr K g u=some (holds g u):=by
 rw [atom_holds_gr,contains_is hK hu,Option.bind_some]
 unfold holds
 by_cases h:g = -1 <;> simp [h]
def cutv (rev:Int) (u:List Int) (c:Int×Int):Bool:=decide (c.1≤rev)&&holds c.2 u
theorem cutv_is {K:Nat} {u:List Int} {c d rev:Int} (hK:100000≤K) (hu:u.length≤50000):atom_Visible_1_sggbb_19750 K c d rev u=some (cutv rev u (c,d)):=by
 rw [atom_Visible_1_sggbb_19750,holds_is hK hu,Option.bind_some]
 unfold cutv
 by_cases h:c≤rev <;> simp [h]
theorem cuts_loop {K:Nat} {l:List (Int×Int)} {u:List Int} {rev:Int} (hK:100000≤K) (hu:u.length≤50000) (hl:l.length≤50000):∀ (r:List (Int×Int)) (j k:Nat),l.drop j=r→r.length<k→∃ n,slices_IndexFunc_gcatomVisible1_2a370.l0 K l rev u k (j:Int)=some n∧decide (n≥0)=r.any (cutv rev u)
 | [],j,k+1,h,_ => by
   have:=drop_nil h
   refine ⟨-1,?_,rfl⟩
   rw [slices_IndexFunc_gcatomVisible1_2a370.l0,if_neg (by simp; omega)]
 | g :: r,j,k+1,h,hk => by
   obtain ⟨h1,h2,h3⟩:=drop_cons h ((0:Int),(0:Int))
   rw [slices_IndexFunc_gcatomVisible1_2a370.l0,if_pos (by simp; omega),Int.toNat_natCast,h2,cutv_is hK hu,Option.bind_some,if_pos ⟨by omega,by omega⟩]
   cases e:cutv rev u g with
   | true => exact ⟨j,by rw [if_pos rfl],by simp [e]⟩
   | false =>
     obtain ⟨n,h4,h5⟩:=cuts_loop hK hu hl r (j+1) k h3 (by simpa using hk)
     refine ⟨n,by rw [if_neg (by simp [e]),up1 (by omega)]; exact h4,by rw [h5]; simp [e]⟩
def vis (rev:Int) (u:List Int) (a:Atm):Bool:=decide (a.2.1≤rev)&&holds a.2.2.1 u&&!a.2.2.2.2.any (cutv rev u)
theorem vis_is {K:Nat} {a:Atm} {u:List Int} {rev:Int} (hK:100000≤K) (hu:u.length≤50000) (hl:a.2.2.2.2.length≤50000):atom_Visible_sggggggr K a.1 a.2.1 a.2.2.1 a.2.2.2.1 a.2.2.2.2 rev u=some (vis rev u a):=by
 obtain ⟨n,h1,h2⟩:=cuts_loop (rev:=rev) hK hu hl a.2.2.2.2 0 K rfl (by omega)
 rw [atom_Visible_sggggggr,holds_is hK hu,slices_ContainsFunc_gcatomVisible1_2a370,slices_IndexFunc_gcatomVisible1_2a370,show (0:Int)=((0:Nat):Int) from rfl,h1]
 simp only [Option.bind_some]
 unfold vis
 rw [← h2]
 by_cases h:a.2.1≤rev
 ·have:¬ a.2.1 > rev:=by omega
  cases hh:holds a.2.2.1 u <;> simp [h,this]
 ·have:a.2.1 > rev:=by omega
  simp [h,this]
def Aok (l:List Atm):Prop:=l.length≤20000∧∀ a∈l,a.1.size≤10∧a.2.2.2.2.length≤1000
theorem Aok.tl {a:Atm} {l:List Atm} (h:Aok (a :: l)):Aok l:=⟨by have:=h.1; simp at this; omega,fun b hb=>h.2 b (List.mem_cons_of_mem _ hb)⟩
theorem bytesL_length {s:ByteArray}:(bytesL s).length=s.size:=by simp [bytesL]
def vtx (rev:Int) (u:List Int):List Atm→List Int
 | [] => []
 | a :: l => if vis rev u a then bytesL a.1 ++ vtx rev u l else vtx rev u l
theorem text_loop {K:Nat} {l:List Atm} {u:List Int} {rev:Int} (hK:100000≤K) (hu:u.length≤50000) (hl:Aok l):∀ (r:List Atm) (j k:Nat) (x:List Int),l.drop j=r→r.length<k→x.length+10 * r.length≤1000000→
 atom_Text_ggr.l0 K l rev u k x (j:Int)=some (x++vtx rev u r)
 | [],j,k+1,x,h,_,_ => by
   have:=drop_nil h
   rw [atom_Text_ggr.l0,if_neg (by simp; omega)]
   simp [vtx]
 | g :: r,j,k+1,x,h,hk,hx => by
   obtain ⟨h1,h2,h3⟩:=drop_cons h zA
   have hlen:=hl.1
   have hg:=hl.2 g (by have:g∈l.drop j:=by rw [h]; exact List.mem_cons_self
                       exact List.mem_of_mem_drop this)
   simp only [List.length_cons] at hx
   rw [atom_Text_ggr.l0,if_pos (by simp; omega),if_pos ⟨by omega,by omega⟩,Int.toNat_natCast,h2,vis_is hK hu (by omega),Option.bind_some,up1 (by omega)]
   cases hv:vis rev u g with
   | true =>
     rw [if_pos rfl,strings_Builder_WriteString_bg_d055a,strings_Builder_copyCheck,Option.bind_some,if_pos (by rw [bytesL_length]; omega),Option.bind_some,text_loop hK hu hl r (j+1) k _ h3 (by simpa using hk) (by simp [bytesL_length]; omega)]
     simp [vtx,hv]
   | false =>
     rw [if_neg (by simp),text_loop hK hu hl r (j+1) k _ h3 (by simpa using hk) (by omega)]
     simp [vtx,hv]
theorem inB_bytesL {s:ByteArray}:inB (bytesL s)=true:=by
 unfold inB bytesL
 rw [List.all_eq_true]
 intro x hx
 obtain ⟨b,_,rfl⟩:=List.mem_map.1 hx
 have:=b.toNat_lt
 simp
 omega
theorem inB_append {x y:List Int}:inB (x++y)=(inB x&&inB y):=by simp [inB]
theorem inB_vtx {rev:Int} {u:List Int}:∀ {l:List Atm},inB (vtx rev u l)=true
 | [] => rfl
 | a :: l => by
   simp only [vtx]
   split
   ·rw [inB_append,inB_bytesL,inB_vtx]; rfl
   ·exact inB_vtx
theorem text_is {K:Nat} {l:List Atm} {u:List Int} {rev:Int} (hK:100000≤K) (hu:u.length≤50000) (hl:Aok l):atom_Text_ggr K l rev u=some (ofBytes (vtx rev u l)):=by
 have hlen:=hl.1
 rw [atom_Text_ggr,show (0:Int)=((0:Nat):Int) from rfl,text_loop hK hu hl l 0 K [] rfl (by omega) (by simp; omega),Option.bind_some,List.nil_append,strings_Builder_String,if_pos inB_vtx,Option.bind_some]
def plc (rev:Int) (u:List Int):Int→List Atm→List Int
 | p,[] => [p]
 | p,a :: l => p :: plc rev u (if vis rev u a then p+a.1.size else p) l
theorem plc_len {rev:Int} {u:List Int}:∀ {l:List Atm} {p:Int},(plc rev u p l).length=l.length+1
 | [],_ => rfl
 | a :: l,p => by simp [plc,plc_len]
theorem plc_loop {K:Nat} {l:List Atm} {u:List Int} {rev:Int} (hK:100000≤K) (hu:u.length≤50000) (hl:Aok l):∀ (r:List Atm) (j k:Nat) (x:List Int) (p:Int),l.drop j=r→r.length<k→x.length+r.length≤1000000→0≤p→p+10 * r.length≤1000000→
 atom_Places_ggr.l0 K l rev u k x p (j:Int)=some (x++plc rev u p r)
 | [],j,k+1,x,p,h,_,hx,_,_ => by
   have:=drop_nil h
   rw [atom_Places_ggr.l0,if_neg (by simp; omega),if_pos (by simp at hx ⊢; omega)]
   simp [plc]
 | g :: r,j,k+1,x,p,h,hk,hx,h0,hp => by
   obtain ⟨h1,h2,h3⟩:=drop_cons h zA
   have hlen:=hl.1
   have hg:=hl.2 g (by have:g∈l.drop j:=by rw [h]; exact List.mem_cons_self
                       exact List.mem_of_mem_drop this)
   simp only [List.length_cons] at hx hp
   rw [atom_Places_ggr.l0,if_pos (by simp; omega),if_pos ⟨by omega,by omega,by simp; omega⟩,Int.toNat_natCast,h2,vis_is hK hu (by omega),Option.bind_some,up1 (by omega)]
   cases hv:vis rev u g with
   | true =>
     rw [if_pos rfl,w64 (by omega) (by omega),plc_loop hK hu hl r (j+1) k _ _ h3 (by simpa using hk) (by simp; omega) (by omega) (by omega)]
     simp [plc,hv]
   | false =>
     rw [if_neg (by simp),plc_loop hK hu hl r (j+1) k _ _ h3 (by simpa using hk) (by simp; omega) (by omega) (by omega)]
     simp [plc,hv]
theorem plcs_is {K:Nat} {l:List Atm} {u:List Int} {rev:Int} (hK:100000≤K) (hu:u.length≤50000) (hl:Aok l):atom_Places_ggr K l rev u=some (plc rev u 0 l):=by
 have hlen:=hl.1
 rw [atom_Places_ggr,w64 (by omega) (by omega),if_pos ⟨by omega,by omega,by omega⟩]
 have:=plc_loop (rev:=rev) hK hu hl l 0 K [] 0 rfl (by omega) (by simp; omega) (by omega) (by omega)
 simpa using this
theorem clone_is {K:Nat} {c:List (Int×Int)} (h:c.length≤1000):slices_Clone K c=some c:=by
 rw [slices_Clone,if_pos (by simp; omega),List.nil_append]
theorem setCut_self {l:List Atm} {j:Nat}:setCut l j (l.getD j zA).2.2.2.2=l:=by
 unfold setCut
 rcases Nat.lt_or_ge j l.length with h | h
 ·rw [List.getD_eq_getElem?_getD,List.getElem?_eq_getElem h,Option.getD_some]
  exact List.set_getElem_self h
 ·exact List.set_eq_of_length_le h
theorem putAt_all {α:Type} {xs ys:List α} (h:ys.length=xs.length):putAt xs ys 0=ys:=by
 simp [putAt,h]
theorem copy_loop {K:Nat} {l:List Atm} (hK:100000≤K) (hl:Aok l):∀ (d j k:Nat),j+d=l.length→d<k→atom_Copy.l0 K l k j l (j:Int)=some l
 | 0,j,k+1,h,_ => by
   rw [atom_Copy.l0,putAt_all (by simp),if_neg (by simp; omega),if_pos (by omega)]
 | d+1,j,k+1,h,hk => by
   have hlen:=hl.1
   have hj:j<l.length:=by omega
   have hg:=hl.2 (l.getD j zA) (by rw [List.getD_eq_getElem?_getD,List.getElem?_eq_getElem hj]; simp)
   rw [atom_Copy.l0,putAt_all (by simp),if_pos (by simp; omega),Int.toNat_natCast,clone_is hg.2,Option.bind_some,if_pos ⟨by omega,by omega,by omega,rfl⟩,up1 (by omega),setCut_self]
   exact copy_loop hK hl d (j+1) k (by omega) (by omega)
theorem copyA_is {K:Nat} {l:List Atm} (hK:100000≤K) (hl:Aok l):atom_Copy K l=some l:=by
 have hlen:=hl.1
 rw [atom_Copy,if_pos ⟨by omega,by omega,by omega,by omega⟩,putAt_all (by simp)]
 have:=copy_loop hK hl l.length 0 K (by omega) (by omega)
 simpa using this
theorem copyz_is {K:Nat} (hK:100000≤K):atom_Copy_zx K=some []:=by
 obtain ⟨k,rfl⟩:∃ k,K=k+1:=⟨K - 1,by omega⟩
 rfl
theorem copyzp_is {K:Nat} (hK:100000≤K):atom_Copy_zx_p K=some []:=by
 obtain ⟨k,rfl⟩:∃ k,K=k+1:=⟨K - 1,by omega⟩
 rfl
structure Rok (us:List (List Int)) (f:Int) (g o:List Int):Prop where
 ne:0<us.length
 len:us.length≤1000
 lo:0≤f
 hi:f≤1000
 u:∀ u∈us,u.length≤100
 g:g.length≤100
 o:o.length≤100
def hdR (us:List (List Int)) (f:Int):Int:=f+us.length - 1
def lvR (us:List (List Int)) (f r:Int):Bool:=decide (f≤r)&&decide (r≤hdR us f)
def unR (us:List (List Int)) (f r:Int):List Int:=if lvR us f r=true then us.getD (r - f).toNat [] else []
def lsR (us:List (List Int)):List Int:=us.getD (us.length - 1) []
theorem getD_mem {α:Type} {l:List α} {i:Nat} {d:α} (h:i<l.length):l.getD i d∈l:=by
 rw [List.getD_eq_getElem?_getD,List.getElem?_eq_getElem h]; simp
theorem unR_len {us:List (List Int)} {f:Int} {g:List Int} {o:List Int} (h:Rok us f g o) {r:Int}:(unR us f r).length≤100:=by
 unfold unR
 split
 ·rename_i hl
  simp only [lvR,Bool.and_eq_true,decide_eq_true_eq] at hl
  unfold hdR at hl
  have hi:(r - f).toNat<us.length:=by omega
  exact h.u _ (getD_mem hi)
 ·simp
theorem lsR_len {us:List (List Int)} {f:Int} {g:List Int} {o:List Int} (h:Rok us f g o):(lsR us).length≤100:=by
 have:=h.ne
 have hi:us.length - 1<us.length:=by omega
 exact h.u _ (getD_mem hi)
theorem head_is {K:Nat} {us:List (List Int)} {f:Int} {g:List Int} {o:List Int} (h:Rok us f g o):rev_Revs_Head_b_3cfb0 K us f g o=some (hdR us f):=by
 have:=h.len; have:=h.lo; have:=h.hi; have:=h.ne
 rw [rev_Revs_Head_b_3cfb0,w64 (n:=f+_) (by omega) (by omega),w64 (by omega) (by omega)]
 rfl
theorem live_is {K:Nat} {us:List (List Int)} {f:Int} {g:List Int} {o:List Int} (h:Rok us f g o) {r:Int}:rev_Revs_Live_bg_43267 K us f g o r=some (lvR us f r):=by
 rw [rev_Revs_Live_bg_43267,head_is h,Option.bind_some]
 unfold lvR
 by_cases h1:f≤r
 ·rw [if_pos (by simpa using h1)]; simp [h1]
 ·rw [if_neg (by simpa using h1)]; simp [h1]
theorem sorted_i {K:Nat} {us:List (List Int)} {i:Nat} (hi:i<us.length) (hu:(us.getD i []).length≤1000):rev_set_sorted_i_ac1ed K us i=some (us.getD i []):=by
 rw [rev_set_sorted_i_ac1ed,if_pos ⟨hi,by omega,by omega,by omega,by omega⟩,maps_Keys_e,if_pos hi,Option.bind_some,slices_Sorted_e,if_pos ⟨hi,by omega⟩,Option.bind_some]
 congr 1
 generalize us.getD i []=x
 rw [show (List.replicate (Int.toNat ((x.length:Nat):Int)) (0:Int)).length=x.length by simp,List.take_length]
 exact putAt_all (by simp)
theorem undone_is {K:Nat} {us:List (List Int)} {f:Int} {g:List Int} {o:List Int} (h:Rok us f g o) {r:Int}:rev_Revs_Undone_bg_43267 K us f g o r=some (unR us f r):=by
 rw [rev_Revs_Undone_bg_43267,live_is h,Option.bind_some]
 unfold unR
 cases hl:lvR us f r with
 | false => rfl
 | true =>
   simp only [lvR,Bool.and_eq_true,decide_eq_true_eq] at hl
   unfold hdR at hl
   have:=h.len; have:=h.lo; have:=h.hi
   have hi:(r - f).toNat<us.length:=by omega
   have:=h.u _ (getD_mem (d:=[]) hi)
   rw [if_neg (by simp),w64 (n:=r - f) (by omega) (by omega),sorted_i hi (by omega),Option.bind_some,if_pos ⟨by omega,by omega⟩,if_pos rfl]
theorem groups_is {K:Nat} {us:List (List Int)} {f:Int} {g:List Int} {o:List Int} (h:Rok us f g o):rev_Revs_Groups_b_3cfb0 K us f g o=some g:=by
 have:=h.g
 rw [rev_Revs_Groups_b_3cfb0,rev_set_sorted_b_b7351,if_pos ⟨by omega,by omega,by omega,by omega⟩,maps_Keys_m,Option.bind_some,slices_Sorted_m,if_pos (by omega),Option.bind_some,Option.bind_some]
 congr 1
 rw [show (List.replicate (Int.toNat ((g.length:Nat):Int)) (0:Int)).length=g.length by simp,List.take_length]
 exact putAt_all (by simp)
theorem rcopy_loop {K:Nat} {us:List (List Int)} {g:List Int} {o:List Int} (h:us.length≤1000):∀ (r:List (List Int)) (j k:Nat) (x:List (List Int)),us.drop j=r→r.length<k→x.length+r.length≤10000→rev_Revs_Copy_b_3cfb0.l0 K us g o k x (j:Int)=some (x++r,g,o)
 | [],j,k+1,x,e,_,_ => by
   have:=drop_nil e
   rw [rev_Revs_Copy_b_3cfb0.l0,if_neg (by simp; omega)]
   simp
 | a :: r,j,k+1,x,e,hk,hx => by
   obtain ⟨h1,h2,h3⟩:=drop_cons e []
   simp only [List.length_cons] at hx
   rw [rev_Revs_Copy_b_3cfb0.l0,if_pos (by simp; omega),if_pos ⟨by omega,by omega⟩,Int.toNat_natCast,maps_Clone_e,if_pos h1,Option.bind_some,if_pos (by omega),up1 (by omega),h2,rcopy_loop h r (j+1) k _ h3 (by simpa using hk) (by simp; omega)]
   simp
theorem rcopy_is {K:Nat} {us:List (List Int)} {f:Int} {g:List Int} {o:List Int} (hK:100000≤K) (h:Rok us f g o):rev_Revs_Copy_b_3cfb0 K us f g o=some (us,g,o):=by
 have:=h.len
 rw [rev_Revs_Copy_b_3cfb0,maps_Clone_m,maps_Clone_m,Option.bind_some,Option.bind_some]
 have:=rcopy_loop (K:=K) (g:=g) (o:=o) h.len us 0 K [] rfl (by omega) (by simp; omega)
 simpa using this
theorem next0_is {K:Nat} {us:List (List Int)} {f:Int} {g:List Int} {o:List Int} (h:Rok us f g o):rev_Revs_next_b_3cfb0_m0 K us f g o=if 200≤hdR us f then some () else none:=by
 have:=h.len; have:=h.ne
 rw [rev_Revs_next_b_3cfb0_m0,head_is h,Option.bind_some]
 by_cases hh:200≤hdR us f
 ·rw [if_pos (by simpa using hh),if_pos hh]
 ·rw [if_neg (by simpa using hh),if_neg hh,w64 (by omega) (by omega),maps_Clone_e,if_pos (by omega),Option.bind_some]
  repeat' split
  all_goals rfl
theorem next1_is {K:Nat} {us:List (List Int)} {f:Int} {g:List Int} {o:List Int} (h:Rok us f g o) (hh:¬ 200≤hdR us f):rev_Revs_next_b_3cfb0_m1 K us f g o=some (lsR us,us):=by
 have:=h.len; have:=h.ne
 rw [rev_Revs_next_b_3cfb0_m1,head_is h,Option.bind_some,if_neg (by simpa using hh),w64 (by omega) (by omega),maps_Clone_e,if_pos (by omega),Option.bind_some,if_pos ⟨by omega,by omega⟩,if_pos (by omega)]
 unfold lsR
 rw [show Int.toNat ((us.length:Int) - 1)=us.length - 1 by omega]
def adR (us:List (List Int)) (f:Int) (g o:List Int) (x:Int):Int×Int×List (List Int)×List Int:=
 if o.contains x=true∨x<0∨60≤x then (0,210,us,g) else if 200≤hdR us f then (0,70,us,g) else (hdR us f+1,0,us++[lsR us],insS x g)
theorem addR_is {K:Nat} {us:List (List Int)} {f:Int} {g:List Int} {o:List Int} (h:Rok us f g o) {x:Int}:rev_Revs_Add_bg_43267 K us f g o x=some (adR us f g o x):=by
 have:=h.len; have:=h.lo; have:=h.hi
 rw [rev_Revs_Add_bg_43267]
 unfold adR
 by_cases hx:o.contains x=true∨x<0∨60≤x
 ·have:(if o.contains x=true then some true else if decide (x<0)=true then some true else some (decide (x≥60)))=some true:=by
   rcases hx with h | h | h
   ·rw [if_pos h]
   ·split <;> simp [h]
   ·split
    ·rfl
    ·split
     ·rfl
     ·simpa using h
  rw [this,Option.bind_some,if_pos rfl,if_pos hx]
 ·have:(if o.contains x=true then some true else if decide (x<0)=true then some true else some (decide (x≥60)))=some false:=by
   rw [if_neg (fun h=>hx (.inl h)),if_neg (fun h=>hx (.inr (.inl (by simpa using h))))]
   simp; omega
  rw [this,Option.bind_some,if_neg (by simp),if_neg hx,next0_is h]
  by_cases hh:200≤hdR us f
  ·rw [if_pos hh,Option.isSome_some,if_pos rfl,Option.bind_some,if_pos hh]
  ·rw [if_neg hh,if_neg (by simp),if_neg hh,next1_is h hh,Option.bind_some,if_pos ⟨by omega,by omega⟩,rev_Revs_Head_b_beff4,Option.bind_some]
   dsimp only
   rw [w64 (n:=f+_) (by omega) (by omega),w64 (by omega) (by omega)]
   unfold hdR
   congr 2
   omega
def tgS (x:Int) (l:List Int):List Int:=if l.contains x=true then delS x l else insS x l
def tgR (us:List (List Int)) (f:Int) (g:List Int) (x:Int):Int×Int×List (List Int):=
 if g.contains x=true then if 200≤hdR us f then (0,70,us) else (hdR us f+1,0,us++[tgS x (lsR us)]) else (0,210,us)
theorem toggle_is {K:Nat} {us:List (List Int)} {f:Int} {g:List Int} {o:List Int} (h:Rok us f g o) (hg:∀ x∈g,0≤x∧x<60) {x:Int}:rev_Revs_Toggle_bg_43267 K us f g o x=some (tgR us f g x):=by
 have:=h.len; have:=h.lo; have:=h.hi
 rw [rev_Revs_Toggle_bg_43267,rev_Revs_has_bg_43267,Option.bind_some]
 unfold tgR
 cases hx:g.contains x with
 | false => rfl
 | true =>
   have hxg:=hg x (by simpa using hx)
   rw [if_neg (by simp),if_pos rfl,next0_is h]
   by_cases hh:200≤hdR us f
   ·rw [if_pos hh,Option.isSome_some,if_pos rfl,Option.bind_some,if_pos hh]
   ·rw [if_neg hh,if_neg (by simp),if_neg hh,next1_is h hh,Option.bind_some]
    have key:∀ z,(if (lsR us).contains x=true then some (us++[delS x (lsR us)]) else if (-9223372036854775808:Int)≤x∧x≤9223372036854775807 then some (us++[insS x (lsR us)]) else none)=some z→z=us++[tgS x (lsR us)]:=by
     intro z hz
     unfold tgS
     split at hz
     ·rename_i hc; rw [if_pos hc]; exact (Option.some.inj hz).symm
     ·rename_i hc
      rw [if_neg hc]
      split at hz
      ·exact (Option.some.inj hz).symm
      ·cases hz
    have:(if (lsR us).contains x=true then some (us++[delS x (lsR us)]) else if (-9223372036854775808:Int)≤x∧x≤9223372036854775807 then some (us++[insS x (lsR us)]) else none)=some (us++[tgS x (lsR us)]):=by
     unfold tgS
     split
     ·rfl
     ·rw [if_pos ⟨by omega,by omega⟩]
    dsimp only
    rw [this,Option.bind_some,rev_Revs_Head_b_3cfb0,Option.bind_some,List.length_append,List.length_singleton,w64 (n:=f+_) (by omega) (by omega),w64 (by omega) (by omega)]
    unfold hdR
    congr 2
    omega
def okF (g:List Int):List Int→List Int→Bool
 | _,[] => true
 | seen,x :: r => !seen.contains x && (g.contains x && okF g (insS x seen) r)
def fgL (gs seen:List Int):List Int:=gs.foldl (fun l x=>insS x l) seen
def foR (us:List (List Int)) (f:Int) (g o gs:List Int):Int×List (List Int)×Int×List Int×List Int:=
 if okF g [] gs=true then fgR (hdR us f) (fgL gs []) (lsR us) g o else (210,us,f,g,o)
theorem forget_loop {K:Nat} {us:List (List Int)} {f:Int} {g:List Int} {o:List Int} {gs:List Int} (hg:∀ x∈g,0≤x∧x<60) (hl:gs.length≤1000):∀ (r:List Int) (j k:Nat) (seen:List Int),gs.drop j=r→r.length<k→
 rev_Revs_Forget.l0 K gs us f g o k seen (j:Int)=some (if okF g seen r=true then .inr (fgL r seen) else .inl 210)
 | [],j,k+1,seen,h,_ => by
   have:=drop_nil h
   rw [rev_Revs_Forget.l0,if_neg (by simp; omega)]
   rfl
 | x :: r,j,k+1,seen,h,hk => by
   obtain ⟨h1,h2,h3⟩:=drop_cons h (0:Int)
   rw [rev_Revs_Forget.l0,if_pos (by simp; omega),if_pos ⟨by omega,by omega⟩,Int.toNat_natCast,h2,rev_Revs_has_bg_43267,Option.bind_some,up1 (by omega)]
   cases hs:seen.contains x with
   | true =>
     rw [if_pos rfl,Option.bind_some,if_pos rfl,if_neg (by simp only [okF,hs]; simp)]
   | false =>
     rw [if_neg (by simp),Option.bind_some]
     cases hx:g.contains x with
     | false => rw [if_pos (by simp),if_neg (by simp only [okF,hs,hx]; simp)]
     | true =>
       have:=hg x (by simpa using hx)
       rw [if_neg (by simp),if_pos ⟨by omega,by omega⟩,forget_loop hg hl r (j+1) k _ h3 (by simpa using hk)]
       simp only [okF,hs,hx,Bool.not_false,Bool.true_and,fgL,List.foldl_cons]
theorem mem_fgL:∀ {gs seen:List Int} {x:Int},x∈fgL gs seen↔x∈gs∨x∈seen
 | [],_,_ => by simp [fgL]
 | y :: gs,seen,x => by
   have:=mem_fgL (gs:=gs) (seen:=insS y seen) (x:=x)
   simp only [fgL,List.foldl_cons] at this ⊢
   rw [this,mem_insS,List.mem_cons]
   constructor
   ·rintro (h | h | h)
    ·exact .inl (.inr h)
    ·exact .inl (.inl h)
    ·exact .inr h
   ·rintro ((h | h) | h)
    ·exact .inr (.inl h)
    ·exact .inl h
    ·exact .inr (.inr h)
theorem okF_sub {g:List Int}:∀ {gs seen:List Int},okF g seen gs=true→(∀ x∈gs,x∈g∧x∉seen)∧gs.Nodup
 | [],_,_ => ⟨by simp,List.nodup_nil⟩
 | y :: gs,seen,h => by
   simp only [okF,Bool.and_eq_true,Bool.not_eq_true'] at h
   obtain ⟨h1,h2,h3⟩:=h
   obtain ⟨h4,h5⟩:=okF_sub h3
   have h1':y∉seen:=by simpa using h1
   refine ⟨fun x hx=>?_,List.nodup_cons.2 ⟨fun hy=>?_,h5⟩⟩
   ·rcases List.mem_cons.1 hx with rfl | hx
    ·exact ⟨by simpa using h2,h1'⟩
    ·exact ⟨(h4 x hx).1,fun hs=>(h4 x hx).2 (mem_insS.2 (.inr hs))⟩
   ·exact (h4 y hy).2 (mem_insS.2 (.inl rfl))
theorem forget_is {K:Nat} {us:List (List Int)} {f:Int} {g:List Int} {o:List Int} {gs:List Int} (hK:100000≤K) (h:Rok us f g o) (hg:∀ x∈g,0≤x∧x<60) (hl:gs.length≤1000):rev_Revs_Forget K us f g o gs=some (foR us f g o gs):=by
 have:=h.len; have:=h.ne
 have e:=forget_loop (K:=K) (us:=us) (f:=f) (o:=o) hg hl gs 0 K [] rfl (by omega)
 have e:rev_Revs_Forget.l0 K gs us f g o K [] 0=some (if okF g [] gs=true then .inr (fgL gs []) else .inl 210):=e
 rw [rev_Revs_Forget,e,Option.bind_some]
 unfold foR
 cases hok:okF g [] gs with
 | false => rfl
 | true =>
   have hw:inW (fgL gs [])=true:=by
    refine List.all_eq_true.2 fun x hx=>?_
    have hx:x∈gs:=by have:=mem_fgL.1 hx; simpa using this
    have:=hg x ((okF_sub hok).1 x hx).1
    simp
    omega
   simp only [if_true,Sum.elim_inr]
   rw [w64 (n:=(us.length:Int) - 1) (by omega) (by omega),if_pos ⟨by omega,by omega⟩,head_is h,Option.bind_some,if_pos (by omega),if_pos ⟨by omega,hw⟩]
   unfold lsR
   rw [show Int.toNat ((us.length:Int) - 1)=us.length - 1 by omega]
def bdC (s:ByteArray) (c:Chg):Bool:=decide (c.1<0)||(decide (c.1 > c.2.1)||decide (c.2.1 > s.size))
def egC (s:ByteArray) (c:Chg):Bool:=!isE s c.1||!isE s c.2.1
def orC:List Chg→Bool
 | [] => false
 | a :: l => (match l with | [] => false | b :: _ => decide (b.1<a.2.1) || (a.1 == b.1 && a.2.1 == b.1)) || orC l
def lgA (n:Int) (l:List Chg):Int:=l.foldr (fun c r=>mn2 (mx2 (IntKind.wrap .i64 (c.2.1 - c.1)) 0) n+r) 0
def lgB:Int→List Chg→Int
 | left,[] => if left<0 then 13 else 0
 | left,c :: l => if (c.2.2.size:Int) > left then 13 else lgB (left - c.2.2.size) l
def f5:List Int→Int
 | [] => 0
 | x :: l => if x=0 then f5 l else x
def chkE (s:ByteArray) (c:List Chg):Int:=
 if uvalid s=false then 12 else if 8<c.length then 70 else f5 [if c.any (bdC s) then 10 else 0,if c.any (egC s) then 11 else 0,if orC c then 180 else 0,if c.any (fun x=>!uvalid x.2.2) then 12 else 0,lgB (20000 - s.size+lgA s.size c) c]
def Cok (c:List Chg):Prop:=c.length≤1000∧∀ x∈c,x.2.2.size≤30000
theorem bdC_is {K:Nat} {s:ByteArray} {a b:Int} {t:ByteArray}:edit_Check_2_sgggb_cdd28 K a b t s=some (bdC s (a,b,t)):=by
 unfold edit_Check_2_sgggb_cdd28 bdC
 by_cases h1:a<0
 ·rw [if_pos (by simpa using h1)]; simp [h1]
 ·rw [if_neg (by simpa using h1)]
  by_cases h2:a > b
  ·rw [if_pos (by simpa using h2)]; simp [h2]
  ·rw [if_neg (by simpa using h2)]; simp [h1,h2]
theorem egC_is {K:Nat} {s:ByteArray} {a b:Int} {t:ByteArray} (hK:100000≤K) (hs:s.size≤50000):edit_Check_3_sgggb_91e54 K a b t s=some (egC s (a,b,t)):=by
 unfold edit_Check_3_sgggb_91e54 edit_Check_1_gb_a458d egC
 rw [uedge_is (by omega) (by omega),uedge_is (by omega) (by omega)]
 simp only [Option.bind_some]
 cases isE s a <;> simp
theorem first2_loop {K:Nat} {s:ByteArray} {c:List Chg} {e:Int} (hl:c.length≤1000):∀ (r:List Chg) (j k:Nat),c.drop j=r→r.length<k→edit_first_ngceditCheck2_618ba.l0 K c s e k (j:Int)=some (if r.any (bdC s)=true then e else 0)
 | [],j,k+1,h,_ => by
   have:=drop_nil h
   rw [edit_first_ngceditCheck2_618ba.l0,if_neg (by simp; omega)]
   rfl
 | x :: r,j,k+1,h,hk => by
   obtain ⟨h1,h2,h3⟩:=drop_cons h zC
   rw [edit_first_ngceditCheck2_618ba.l0,if_pos (by simp; omega),if_pos ⟨by omega,by omega⟩,Int.toNat_natCast,h2,bdC_is,Option.bind_some,up1 (by omega)]
   cases hb:bdC s x with
   | true => rw [if_pos rfl]; simp [hb]
   | false => rw [if_neg (by simp),first2_loop hl r (j+1) k h3 (by simpa using hk),List.any_cons,hb]; rfl
theorem first3_loop {K:Nat} {s:ByteArray} {c:List Chg} {e:Int} (hK:100000≤K) (hs:s.size≤50000) (hl:c.length≤1000):∀ (r:List Chg) (j k:Nat),c.drop j=r→r.length<k→edit_first_ngceditCheck3_a8d5c.l0 K c s e k (j:Int)=some (if r.any (egC s)=true then e else 0)
 | [],j,k+1,h,_ => by
   have:=drop_nil h
   rw [edit_first_ngceditCheck3_a8d5c.l0,if_neg (by simp; omega)]
   rfl
 | x :: r,j,k+1,h,hk => by
   obtain ⟨h1,h2,h3⟩:=drop_cons h zC
   rw [edit_first_ngceditCheck3_a8d5c.l0,if_pos (by simp; omega),if_pos ⟨by omega,by omega⟩,Int.toNat_natCast,h2,egC_is hK hs,Option.bind_some,up1 (by omega)]
   cases hb:egC s x with
   | true => rw [if_pos rfl]; simp [hb]
   | false => rw [if_neg (by simp),first3_loop hK hs hl r (j+1) k h3 (by simpa using hk),List.any_cons,hb]; rfl
theorem first4_loop {K:Nat} {c:List Chg} {e:Int} (hK:100000≤K) (hc:Cok c):∀ (r:List Chg) (j k:Nat),c.drop j=r→r.length<k→edit_first_ngceditCheck4.l0 K c e k (j:Int)=some (if r.any (fun x=>!uvalid x.2.2)=true then e else 0)
 | [],j,k+1,h,_ => by
   have:=drop_nil h
   rw [edit_first_ngceditCheck4.l0,if_neg (by simp; omega)]
   rfl
 | x :: r,j,k+1,h,hk => by
   obtain ⟨h1,h2,h3⟩:=drop_cons h zC
   have hl:=hc.1
   have hx:=hc.2 x (by have:x∈c.drop j:=by rw [h]; exact List.mem_cons_self
                       exact List.mem_of_mem_drop this)
   rw [edit_first_ngceditCheck4.l0,if_pos (by simp; omega),if_pos ⟨by omega,by omega⟩,Int.toNat_natCast,h2,edit_Check_4,uvalid_is (by omega) (by omega),Option.bind_some,Option.bind_some,up1 (by omega)]
   cases hb:uvalid x.2.2 with
   | false => rw [if_pos (by simp)]; simp [hb]
   | true => rw [if_neg (by simp),first4_loop hK hc r (j+1) k h3 (by simpa using hk),List.any_cons,hb]; rfl
theorem ordE_loop {K:Nat} {c:List Chg} (hl:c.length≤1000):∀ (r:List Chg) (j k:Nat) (a:Chg),c.drop j=a :: r→r.length<k→edit_order_n.l0 K c k ((j+1:Nat):Int)=some (if orC (a :: r)=true then 180 else 0)
 | [],j,k+1,a,h,_ => by
   obtain ⟨h1,h2,h3⟩:=drop_cons h zC
   have:=drop_nil h3
   rw [edit_order_n.l0,if_neg (by simp; omega)]
   rfl
 | b :: r,j,k+1,a,h,hk => by
   obtain ⟨h1,h2,h3⟩:=drop_cons h zC
   obtain ⟨h4,h5,h6⟩:=drop_cons h3 zC
   rw [edit_order_n.l0,w64 (n:=((j+1:Nat):Int) - 1) (by omega) (by omega),show ((j+1:Nat):Int) - 1=(j:Int) by omega,if_pos (by simp; omega),if_pos ⟨by omega,by omega,by omega,by omega⟩,Int.toNat_natCast,Int.toNat_natCast,h2,h5,up1 (by omega)]
   have ih:=ordE_loop (K:=K) hl r (j+1) k b h3 (by simpa using hk)
   rw [ih]
   simp only [orC]
   by_cases e1:b.1<a.2.1
   ·simp [e1]
   ·by_cases e2:a.1=b.1
    ·by_cases e3:a.2.1=b.1 <;> simp [e1,e2,e3]
    ·simp [e1,e2]
theorem order_is {K:Nat} {c:List Chg} (hK:100000≤K) (hl:c.length≤1000):edit_order_n K c=some (if orC c=true then 180 else 0):=by
 unfold edit_order_n
 cases c with
 | nil =>
   obtain ⟨k,rfl⟩:∃ k,K=k+1:=⟨K - 1,by omega⟩
   rw [edit_order_n.l0,if_neg (by simp)]
   rfl
 | cons a r => exact ordE_loop hl r 0 K a rfl (by simp at hl; omega)
theorem mnx_ok {x n:Int} (h:0≤n):0≤mn2 (mx2 x 0) n∧mn2 (mx2 x 0) n≤n:=by
 unfold mn2 mx2
 split <;> split <;> omega
theorem lgA_ok {n:Int} (h:0≤n):∀ {r:List Chg},0≤lgA n r∧lgA n r≤r.length * n
 | [] => by simp [lgA]
 | x :: r => by
   have:=lgA_ok h (r:=r)
   have:=mnx_ok (x:=IntKind.wrap .i64 (x.2.1 - x.1)) h
   simp only [lgA,List.foldr_cons,List.length_cons] at *
   have:((r.length+1:Nat):Int) * n=r.length * n+n:=by rw [Int.natCast_add,Int.add_mul]; simp
   omega
theorem longA_loop {K:Nat} {s:ByteArray} {c:List Chg} (hs:s.size≤50000) (hl:c.length≤1000):∀ (r:List Chg) (j k:Nat) (left:Int),c.drop j=r→r.length<k→-1000000≤left→left+r.length * (s.size:Int)≤1000000000→
 edit_long_gn.l0 K c s k left (j:Int)=some (left+lgA s.size r)
 | [],j,k+1,left,h,_,_,_ => by
   have:=drop_nil h
   rw [edit_long_gn.l0,if_neg (by simp; omega)]
   simp [lgA]
 | x :: r,j,k+1,left,h,hk,h4,h5 => by
   obtain ⟨h1,h2,h3⟩:=drop_cons h zC
   have hm:=mnx_ok (x:=IntKind.wrap .i64 (x.2.1 - x.1)) (n:=s.size) (by omega)
   have e:((r.length+1:Nat):Int) * (s.size:Int)=r.length * (s.size:Int)+s.size:=by rw [Int.natCast_add,Int.add_mul]; simp
   have e0:0≤(r.length:Int) * (s.size:Int):=Int.mul_nonneg (by omega) (by omega)
   simp only [List.length_cons,e] at h5
   rw [edit_long_gn.l0,if_pos (by simp; omega),if_pos ⟨by omega,by omega⟩,Int.toNat_natCast,h2,up1 (by omega),w64 (n:=left+_) (by omega) (by omega),longA_loop hs hl r (j+1) k _ h3 (by simpa using hk) (by omega) (by omega)]
   simp only [lgA,List.foldr_cons]
   congr 1
   omega
theorem longB_loop {K:Nat} {c:List Chg} (hc:Cok c):∀ (r:List Chg) (j k:Nat) (left:Int),c.drop j=r→r.length<k→-100000000≤left - r.length * 30000→left≤1000000000→
 (edit_long_gn.l1 K c k left (j:Int)).bind (Sum.elim (fun z=>some z) (fun z=>if (decide (z<(0:Int)))=true then some (13:Int) else some (0:Int)))=some (lgB left r)
 | [],j,k+1,left,h,_,_,_ => by
   have:=drop_nil h
   rw [edit_long_gn.l1,if_neg (by simp; omega),Option.bind_some]
   simp only [Sum.elim_inr,lgB]
   by_cases h:left<0 <;> simp [h]
 | x :: r,j,k+1,left,h,hk,h4,h5 => by
   obtain ⟨h1,h2,h3⟩:=drop_cons h zC
   have hl:=hc.1
   have hx:=hc.2 x (by have:x∈c.drop j:=by rw [h]; exact List.mem_cons_self
                       exact List.mem_of_mem_drop this)
   simp only [List.length_cons] at h4
   rw [edit_long_gn.l1,if_pos (by simp; omega),if_pos ⟨by omega,by omega⟩,Int.toNat_natCast,h2,up1 (by omega)]
   unfold lgB
   by_cases e:(x.2.2.size:Int) > left
   ·rw [if_pos (by simpa using e),if_pos e]; rfl
   ·rw [if_neg (by simpa using e),if_neg e,w64 (by omega) (by omega)]
    exact longB_loop hc r (j+1) k _ h3 (by simpa using hk) (by omega) (by omega)
theorem f5_loop {K:Nat} (a b x d e:Int) (hK:100000≤K):edit_Check_gn.l0 K a b x d e K 0=some (f5 [a,b,x,d,e]):=by
 obtain ⟨k,rfl⟩:∃ k,K=k+6:=⟨K - 6,by omega⟩
 have key:∀ (K:Nat) (r:List Int) (j k:Nat),[a,b,x,d,e].drop j=r→r.length<k→edit_Check_gn.l0 K a b x d e k (j:Int)=some (f5 r):=by
  intro K r
  induction r with
  | nil =>
    intro j k h hk
    obtain ⟨k,rfl⟩:∃ k',k=k'+1:=⟨k - 1,by simp at hk; omega⟩
    have:=drop_nil h
    rw [edit_Check_gn.l0,if_neg (by simp at this ⊢; omega)]
    rfl
  | cons y r ih =>
    intro j k h hk
    obtain ⟨k,rfl⟩:∃ k',k=k'+1:=⟨k - 1,by simp at hk; omega⟩
    obtain ⟨h1,h2,h3⟩:=drop_cons h (0:Int)
    simp only [List.length_cons,List.length_nil] at h1
    rw [edit_Check_gn.l0,if_pos (by simp; omega),if_pos ⟨by omega,by simp; omega⟩,Int.toNat_natCast,h2,up1 (by omega),ih (j+1) k h3 (by simpa using hk)]
    unfold f5
    by_cases e:y=0
    ·rw [if_neg (by simpa using e),if_pos e]
     cases r <;> rfl
    ·rw [if_pos (by simpa using e),if_neg e]
 exact key _ _ 0 (k+6) rfl (by simp)
theorem chk_is {K:Nat} {s:ByteArray} {c:List Chg} (hK:100000≤K) (hs:s.size≤50000) (hc:Cok c):edit_Check_gn K s c=some (chkE s c):=by
 have hl:=hc.1
 rw [edit_Check_gn,uvalid_is (by omega) (by omega),Option.bind_some]
 unfold chkE
 cases hv:uvalid s with
 | false => rfl
 | true =>
   rw [if_neg (by simp),if_neg (show ¬ (true=false) by simp)]
   by_cases h8:8<c.length
   ·rw [if_pos (by simp; omega)]; simp [h8]
   ·have e2:=first2_loop (K:=K) (s:=s) (e:=10) hl c 0 K rfl (by omega)
    have e3:=first3_loop (K:=K) (s:=s) (e:=11) hK hs hl c 0 K rfl (by omega)
    have e4:=first4_loop (K:=K) (e:=12) hK hc c 0 K rfl (by omega)
    have hn:((c.length:Nat):Int) * (s.size:Int)≤8 * 50000:=Int.mul_le_mul (by omega) (by omega) (by omega) (by omega)
    have hn0:0≤((c.length:Nat):Int) * (s.size:Int):=Int.mul_nonneg (by omega) (by omega)
    have ha:=lgA_ok (n:=s.size) (by omega) (r:=c)
    have e5:=longA_loop (K:=K) hs hl c 0 K (20000 - s.size) rfl (by omega) (by omega) (by omega)
    have e6:=longB_loop (K:=K) hc c 0 K (20000 - s.size+lgA s.size c) rfl (by omega) (by omega) (by omega)
    have e5:edit_long_gn.l0 K c s K (20000 - s.size) 0=_:=e5
    have e7:edit_long_gn K s c=some (lgB (20000 - s.size+lgA s.size c) c):=by
     rw [edit_long_gn,w64 (by omega) (by omega),e5,Option.bind_some]
     exact e6
    rw [if_neg (by simp; omega),edit_first_ngceditCheck2_618ba,edit_first_ngceditCheck3_a8d5c,edit_first_ngceditCheck4,order_is hK hl,e7]
    have e2:edit_first_ngceditCheck2_618ba.l0 K c s 10 K 0=_:=e2
    have e3:edit_first_ngceditCheck3_a8d5c.l0 K c s 11 K 0=_:=e3
    have e4:edit_first_ngceditCheck4.l0 K c 12 K 0=_:=e4
    rw [e2,e3,e4]
    simp only [Option.bind_some,h8,if_false]
    exact f5_loop _ _ _ _ _ hK
def ptL (s:ByteArray) (w g r:Int):Nat→Nat→List Atm
 | 0,_ => []
 | m+1,t => if t<s.size then (Utf8.encode (((Utf8.decode s t).1:Nat):Int),(w,(g,(r,[])))) :: ptL s w g r m (t+(Utf8.decode s t).2) else []
def putL (s:ByteArray) (w g r:Int):List Atm:=ptL s w g r s.size 0
theorem putE_loop {K:Nat} {s:ByteArray} {w g r:Int} (hs:s.size≤30000):∀ (m t k:Nat) (x:List Atm),uval s m t=true→s.size≤t+m→m<k→x.length+m≤100000→atom_Put_nggggg.l0 K s w g r k x t=some (x++ptL s w g r m t)
 | 0,t,k+1,x,_,h,_,_ => by
   rw [atom_Put_nggggg.l0,if_neg (by simp; omega)]
   simp [ptL]
 | m+1,t,k+1,x,hu,h,hk,hx => by
   rw [atom_Put_nggggg.l0]
   by_cases ht:t<s.size
   ·have hz:usz s t≠0:=fun hz=>by
     rw [uval,if_pos (by omega),if_pos hz] at hu; cases hu
    have hu2:uval s m (t+usz s t)=true:=by
     rw [uval,if_pos (by omega),if_neg hz] at hu; exact hu
    obtain ⟨c,z,h1,h2,h3,_⟩:=decode_is ht hz
    rw [if_pos (by simpa using ht),if_pos (by simp; omega),putE_loop hs m _ k _ (by rw [h1]; simp only; rw [show ((t+z:Nat):Int)=t+usz s t by omega]; exact hu2) (by rw [h1]; simp only; omega) (by omega) (by simp; omega)]
    simp [ptL,ht]
   ·rw [if_neg (by simpa using ht)]
    simp [ptL,ht]
theorem ptL_len {s:ByteArray} {w g r:Int}:∀ {m t:Nat},(ptL s w g r m t).length≤m
 | 0,_ => by simp [ptL]
 | m+1,t => by
   simp only [ptL]
   split
   ·have:=ptL_len (s:=s) (w:=w) (g:=g) (r:=r) (m:=m) (t:=t+(Utf8.decode s t).2)
    simp; omega
   ·simp
theorem ptL_ok {s:ByteArray} {w g r:Int}:∀ {m t:Nat},uval s m t=true→∀ a∈ptL s w g r m t,1≤a.1.size∧a.1.size≤4∧a.2=(w,(g,(r,[])))
 | 0,_,_,a,ha => by simp [ptL] at ha
 | m+1,t,hu,a,ha => by
   simp only [ptL] at ha
   split at ha
   ·rename_i ht
    have hz:usz s t≠0:=fun hz=>by
     rw [uval,if_pos (by omega),if_pos hz] at hu; cases hu
    have hu2:uval s m (t+usz s t)=true:=by
     rw [uval,if_pos (by omega),if_neg hz] at hu; exact hu
    obtain ⟨c,z,h1,h2,h3,_⟩:=decode_is ht hz
    have hok:=usz_ok (s:=s) (a:=t)
    rcases List.mem_cons.1 ha with rfl | ha
    ·refine ⟨?_,?_,rfl⟩
     ·rw [h1]; simp only; rw [h3]; omega
     ·rw [h1]; simp only; rw [h3]; omega
    ·refine ptL_ok (m:=m) ?_ a ha
     rw [h1]; simp only; rw [show ((t+z:Nat):Int)=t+usz s t by omega]; exact hu2
   ·simp at ha
theorem clean_is {K:Nat} {s:ByteArray} (hK:100000≤K) (hs:s.size≤30000) (hv:uvalid s=true):utf_Clean K s=some s:=by
 rw [utf_Clean,uvalid_is (by omega) (by omega),Option.bind_some,hv,if_pos rfl]
theorem put_is {K:Nat} {s:ByteArray} {w g r:Int} (hK:100000≤K) (hs:s.size≤30000) (hv:uvalid s=true):atom_Put_nggggg K [] 0 s w g r=some (putL s w g r):=by
 have hl:=ptL_len (s:=s) (w:=w) (g:=g) (r:=r) (m:=s.size) (t:=0)
 rw [atom_Put_nggggg,copyz_is hK,Option.bind_some,if_pos (by decide),clean_is hK hs hv,Option.bind_some,putE_loop hs s.size 0 K [] hv (by omega) (by omega) (by simp; omega),Option.bind_some,copyzp_is hK,Option.bind_some,List.nil_append,if_pos (by simp; omega),List.append_nil]
 rfl
def cvr (p:Int) (c:List Chg):Bool:=c.any fun x=>decide (p≥x.1)&&decide (p<x.2.1)
def ctB (rev:Int) (u:List Int) (c:List Chg):Int→List Atm→List Bool
 | _,[] => []
 | p,a :: l => if vis rev u a then cvr p c :: ctB rev u c (p+a.1.size) l else false :: ctB rev u c p l
def trues:Nat→List Bool→List Int
 | _,[] => []
 | i,b :: l => if b then (i:Int) :: trues (i+1) l else trues (i+1) l
theorem ctB_len {rev:Int} {u:List Int} {c:List Chg}:∀ {l:List Atm} {p:Int},(ctB rev u c p l).length=l.length
 | [],_ => rfl
 | a :: l,p => by simp only [ctB]; split <;> simp [ctB_len]
theorem cuts1_loop {K:Nat} {c:List Chg} {ps:List Int} {t:Int} {x:List Int} {p:Int} (hc:c.length≤1000) (hp:ps.getD t.toNat 0=p) (ht:t<ps.length) (hx:x.length≤100000):∀ (r:List Chg) (j k:Nat),c.drop j=r→r.length<k→
 edit_Cuts_ggrn.l1 K c ps t x k (j:Int)=some (if cvr p r=true then x++[t] else x)
 | [],j,k+1,h,_ => by
   have:=drop_nil h
   rw [edit_Cuts_ggrn.l1,if_neg (by simp; omega)]
   rfl
 | y :: r,j,k+1,h,hk => by
   obtain ⟨h1,h2,h3⟩:=drop_cons h zC
   rw [edit_Cuts_ggrn.l1,if_pos (by simp; omega),if_pos ⟨by omega,by omega⟩,Int.toNat_natCast,h2,hp,if_pos ht,if_pos ht,up1 (by omega),cuts1_loop hc hp ht hx r (j+1) k h3 (by simpa using hk)]
   by_cases e1:p≥y.1
   ·by_cases e2:p<y.2.1
    ·rw [if_pos (by simpa using e1),Option.bind_some,if_pos (by simpa using e2),if_pos (by simp; omega),if_pos (by simp [cvr,e1,e2])]
    ·have hn:cvr p (y :: r)=cvr p r:=by simp [cvr,e2]
     rw [if_pos (by simpa using e1),Option.bind_some,if_neg (by simpa using e2),hn]
   ·have hn:cvr p (y :: r)=cvr p r:=by simp [cvr,e1]
    rw [if_neg (by simpa using e1),Option.bind_some,if_neg (by simp),hn]
theorem cuts_loop2 {K:Nat} {l:List Atm} {u:List Int} {rev:Int} {c:List Chg} {ps:List Int} (hK:100000≤K) (hu:u.length≤50000) (hl:Aok l) (hc:c.length≤1000) (hps:ps.length≤30000):∀ (r:List Atm) (j k:Nat) (x:List Int) (p:Int),l.drop j=r→ps.drop j=plc rev u p r→r.length<k→x.length+r.length≤100000→
 edit_Cuts_ggrn.l0 K l rev u c ps k x (j:Int)=some (x++trues j (ctB rev u c p r))
 | [],j,k+1,x,p,h,_,_,_ => by
   have:=drop_nil h
   rw [edit_Cuts_ggrn.l0,if_neg (by simp; omega)]
   simp [ctB,trues]
 | a :: r,j,k+1,x,p,h,hp,hk,hx => by
   obtain ⟨h1,h2,h3⟩:=drop_cons h zA
   have hg:=hl.2 a (by have:a∈l.drop j:=by rw [h]; exact List.mem_cons_self
                       exact List.mem_of_mem_drop this)
   obtain ⟨h4,h5,h6⟩:=drop_cons hp (0:Int)
   simp only [List.length_cons] at hx
   have hlen:=hl.1
   rw [edit_Cuts_ggrn.l0,if_pos (by simp; omega),if_pos ⟨by omega,by omega⟩,Int.toNat_natCast,h2,vis_is hK hu (by omega),Option.bind_some,up1 (by omega)]
   have e1:=cuts1_loop (K:=K) (ps:=ps) (t:=(j:Int)) (x:=x) (p:=p) hc (by rw [Int.toNat_natCast]; exact h5) (by omega) (by omega) c 0 K rfl (by omega)
   have e1:edit_Cuts_ggrn.l1 K c ps j x K 0=_:=e1
   rw [e1]
   cases hv:vis rev u a with
   | false =>
     rw [if_pos (by simp),Option.bind_some,cuts_loop2 hK hu hl hc hps r (j+1) k x p h3 (by rw [h6,hv]; simp) (by simpa using hk) (by omega)]
     simp [ctB,hv,trues]
   | true =>
     have hx2:(if cvr p c=true then x++[(j:Int)] else x).length+r.length≤100000:=by
      split
      ·simp; omega
      ·omega
     rw [if_neg (by simp),Option.bind_some,cuts_loop2 hK hu hl hc hps r (j+1) k _ (p+a.1.size) h3 (by rw [h6,hv]; simp) (by simpa using hk) hx2]
     simp only [ctB,hv,if_true,trues]
     cases cvr p c <;> simp
theorem cuts_is {K:Nat} {l:List Atm} {u:List Int} {rev:Int} {c:List Chg} (hK:100000≤K) (hu:u.length≤50000) (hl:Aok l) (hc:Cok c) (ht:(vtx rev u l).length≤50000) (h0:chkE (ofBytes (vtx rev u l)) c=0):edit_Cuts_ggrn K l rev u c=some (trues 0 (ctB rev u c 0 l)):=by
 have hlen:=hl.1
 rw [edit_Cuts_ggrn,text_is hK hu hl,Option.bind_some,chk_is hK (by simpa [ofBytes,ByteArray.size] using ht) hc,Option.bind_some,h0,if_neg (by simp),plcs_is hK hu hl,Option.bind_some]
 have:=cuts_loop2 (K:=K) (rev:=rev) hK hu hl hc.1 (ps:=plc rev u 0 l) (by rw [plc_len]; omega) l 0 K [] 0 rfl rfl (by omega) (by simp; omega)
 simpa using this
def spA (rev:Int) (u:List Int) (f:Int):Int→List Atm→Nat
 | _,[] => 0
 | p,a :: l =>
   let n:=spA rev u f (if vis rev u a then p+a.1.size else p) l
   if n=0 then (if decide (p<f)&&vis rev u a then 1 else 0) else n+1
def skp (rev rank:Int) (l:List Atm):Nat:=(l.takeWhile fun a=>decide (a.2.1 > rev)&&decide (a.2.2.2.1≤rank)).length
def spt (rev:Int) (u:List Int) (rank f:Int) (l:List Atm):Nat:=spA rev u f 0 l+skp rev rank (l.drop (spA rev u f 0 l))
theorem spA_cons {rev:Int} {u:List Int} {f p:Int} {a:Atm} {l:List Atm}:spA rev u f p (a :: l)=if spA rev u f (if vis rev u a=true then p+(a.1.size:Int) else p) l=0 then (if (decide (p<f)&&vis rev u a)=true then 1 else 0) else spA rev u f (if vis rev u a=true then p+(a.1.size:Int) else p) l+1:=rfl
theorem spA_le {rev:Int} {u:List Int} {f:Int}:∀ {l:List Atm} {p:Int},spA rev u f p l≤l.length
 | [],_ => Nat.le_refl _
 | a :: l,p => by
   have:=spA_le (rev:=rev) (u:=u) (f:=f) (l:=l) (p:=if vis rev u a then p+a.1.size else p)
   rw [spA_cons,List.length_cons]
   generalize spA rev u f (if vis rev u a=true then p+(a.1.size:Int) else p) l=n at *
   repeat' split
   all_goals omega
theorem takeWhile_len {α:Type} {q:α→Bool}:∀ {l:List α},(l.takeWhile q).length≤l.length
 | [] => Nat.le_refl _
 | a :: l => by
   have:=takeWhile_len (q:=q) (l:=l)
   simp only [List.takeWhile_cons]
   split <;> simp <;> omega
theorem spt_le {rev:Int} {u:List Int} {rank f:Int} {l:List Atm}:spt rev u rank f l≤l.length:=by
 have:=spA_le (rev:=rev) (u:=u) (f:=f) (l:=l) (p:=0)
 have:=takeWhile_len (q:=fun a:Atm=>decide (a.2.1 > rev)&&decide (a.2.2.2.1≤rank)) (l:=l.drop (spA rev u f 0 l))
 unfold spt skp
 simp only [List.length_drop] at this
 omega
theorem spot0_loop {K:Nat} {l:List Atm} {u:List Int} {rev f:Int} {ps:List Int} (hK:100000≤K) (hu:u.length≤50000) (hl:Aok l) (hps:ps.length≤30000):∀ (r:List Atm) (j k:Nat) (x p:Int),l.drop j=r→ps.drop j=plc rev u p r→r.length<k→
 edit_spot_grgrgg.l0 K l ps f rev u k x (j:Int)=some (if spA rev u f p r=0 then x else ((j+spA rev u f p r:Nat):Int))
 | [],j,k+1,x,p,h,_,_ => by
   have:=drop_nil h
   rw [edit_spot_grgrgg.l0,if_neg (by simp; omega)]
   rfl
 | a :: r,j,k+1,x,p,h,hp,hk => by
   obtain ⟨h1,h2,h3⟩:=drop_cons h zA
   have hg:=hl.2 a (by have:a∈l.drop j:=by rw [h]; exact List.mem_cons_self
                       exact List.mem_of_mem_drop this)
   obtain ⟨h4,h5,h6⟩:=drop_cons hp (0:Int)
   have hlen:=hl.1
   rw [edit_spot_grgrgg.l0,if_pos (by simp; omega),if_pos ⟨by omega,by omega⟩,Int.toNat_natCast,h2,h5,vis_is hK hu (by omega),Option.bind_some,up1 (by omega)]
   have hj:(j:Int)<ps.length:=by omega
   simp only [if_pos hj]
   have ih:=fun x=>spot0_loop (f:=f) hK hu hl hps r (j+1) k x _ h3 h6 (by simpa using hk)
   rw [ih,ih]
   rw [spA_cons]
   generalize spA rev u f (if vis rev u a=true then p+(a.1.size:Int) else p) r=n
   have e:(if decide (p<f)=true then some (vis rev u a) else some false)=some (decide (p<f)&&vis rev u a):=by
    by_cases h:p<f <;> simp [h]
   rw [e,Option.bind_some]
   cases (decide (p<f)&&vis rev u a) <;> by_cases hn:n=0 <;> simp [hn] <;> omega
theorem spot1_loop {K:Nat} {l:List Atm} {rev rank:Int} (hl:Aok l):∀ (r:List Atm) (j k:Nat),l.drop j=r→j≤l.length→r.length<k→edit_spot_grgrgg.l1 K l rev rank k (j:Int)=some ((j+skp rev rank r:Nat):Int)
 | [],j,k+1,h,hj,_ => by
   have:=drop_nil h
   rw [edit_spot_grgrgg.l1,if_neg (by simp; omega),Option.bind_some,if_neg (by simp)]
   rfl
 | a :: r,j,k+1,h,hj,hk => by
   obtain ⟨h1,h2,h3⟩:=drop_cons h zA
   have hlen:=hl.1
   have hb:0≤(j:Int)∧(j:Int)<l.length:=⟨by omega,by omega⟩
   rw [edit_spot_grgrgg.l1,if_pos (by simp; omega),Int.toNat_natCast,h2,up1 (by omega),spot1_loop hl r (j+1) k h3 (by omega) (by simpa using hk)]
   simp only [if_pos hb]
   by_cases e1:a.2.1 > rev
   ·by_cases e2:a.2.2.2.1≤rank
    ·rw [if_pos (by simpa using e1),Option.bind_some,if_pos (by simpa using e2)]
     simp only [skp,List.takeWhile_cons,decide_eq_true e1,decide_eq_true e2]
     simp; omega
    ·rw [if_pos (by simpa using e1),Option.bind_some,if_neg (by simpa using e2)]
     simp only [skp,List.takeWhile_cons,decide_eq_false e2]
     simp
   ·rw [if_neg (by simpa using e1),Option.bind_some,if_neg (by simp)]
    simp only [skp,List.takeWhile_cons,decide_eq_false e1]
    simp
theorem spot_is {K:Nat} {l:List Atm} {u:List Int} {rev f rank:Int} (hK:100000≤K) (hu:u.length≤50000) (hl:Aok l):edit_spot_grgrgg K l (plc rev u 0 l) rev u f rank=some ((spt rev u rank f l:Nat):Int):=by
 have hlen:=hl.1
 have e:=spot0_loop (K:=K) (rev:=rev) (f:=f) hK hu hl (ps:=plc rev u 0 l) (by rw [plc_len]; omega) l 0 K 0 0 rfl rfl (by omega)
 have e:edit_spot_grgrgg.l0 K l (plc rev u 0 l) f rev u K 0 0=_:=e
 rw [edit_spot_grgrgg,e,Option.bind_some]
 have hle:=spA_le (rev:=rev) (u:=u) (f:=f) (l:=l) (p:=0)
 have e2:(if spA rev u f 0 l=0 then (0:Int) else ((0+spA rev u f 0 l:Nat):Int))=((spA rev u f 0 l:Nat):Int):=by
  split <;> omega
 rw [e2,spot1_loop hl _ _ K rfl hle (by simp; omega)]
 rfl
theorem spots_loop {K:Nat} {l:List Atm} {u:List Int} {rev rank:Int} {c:List Chg} (hK:100000≤K) (hu:u.length≤50000) (hl:Aok l) (hc:c.length≤1000):∀ (r:List Chg) (j k:Nat) (x:List Int),c.drop j=r→r.length<k→x.length+r.length≤100000→
 edit_Spots_ggrng.l0 K c l (plc rev u 0 l) rev u rank k x (j:Int)=some (x++r.map fun y=>((spt rev u rank y.1 l:Nat):Int))
 | [],j,k+1,x,h,_,_ => by
   have:=drop_nil h
   rw [edit_Spots_ggrng.l0,if_neg (by simp; omega)]
   simp
 | y :: r,j,k+1,x,h,hk,hx => by
   obtain ⟨h1,h2,h3⟩:=drop_cons h zC
   simp only [List.length_cons] at hx
   rw [edit_Spots_ggrng.l0,if_pos (by simp; omega),if_pos ⟨by omega,by omega⟩,Int.toNat_natCast,h2,spot_is hK hu hl,Option.bind_some,if_pos (by simp; omega),up1 (by omega),spots_loop hK hu hl hc r (j+1) k _ h3 (by simpa using hk) (by simp; omega)]
   simp
theorem spots_is {K:Nat} {l:List Atm} {u:List Int} {rev rank:Int} {c:List Chg} (hK:100000≤K) (hu:u.length≤50000) (hl:Aok l) (hc:Cok c) (ht:(vtx rev u l).length≤50000) (h0:chkE (ofBytes (vtx rev u l)) c=0):edit_Spots_ggrng K l rev u c rank=some (c.map fun y=>((spt rev u rank y.1 l:Nat):Int)):=by
 have hlen:=hl.1
 have hcl:=hc.1
 rw [edit_Spots_ggrng,text_is hK hu hl,Option.bind_some,chk_is hK (by simpa [ofBytes,ByteArray.size] using ht) hc,Option.bind_some,h0,if_neg (by simp),plcs_is hK hu hl,Option.bind_some]
 have:=spots_loop (K:=K) (rev:=rev) (rank:=rank) hK hu hl hc.1 c 0 K [] rfl (by omega) (by simp; omega)
 simpa using this
def addC (a:Atm) (c:Int×Int):Atm:=(a.1,(a.2.1,(a.2.2.1,(a.2.2.2.1,a.2.2.2.2++[c]))))
def ctA (c:Int×Int):List Bool→List Atm→List Atm
 | b :: bs,a :: l => (if b then addC a c else a) :: ctA c bs l
 | _,l => l
def spl (old:List Atm):Nat→List (Nat×List Atm)→List Atm
 | p,[] => old.drop p
 | p,(s,x) :: r => (old.drop p).take (s - p) ++ (x ++ spl old s r)
def upS (rev:Int) (u:List Int) (c:List Chg) (w g rank:Int) (l:List Atm):List Atm:=
 spl (ctA (w,g) (ctB rev u c 0 l) l) 0 (c.map fun y=>(spt rev u rank y.1 l,putL y.2.2 w g rank))
theorem ctA_len {c:Int×Int}:∀ {bs:List Bool} {l:List Atm},(ctA c bs l).length=l.length
 | [],l => by simp [ctA]
 | b :: bs,[] => by simp [ctA]
 | b :: bs,a :: l => by simp [ctA,ctA_len]
theorem set_foldl:∀ {bs:List Bool} {pre:List Bool} {i:Nat},pre.length=i→(trues i bs).foldl (fun acc (x:Int)=>acc.set x.toNat true) (pre++List.replicate bs.length false)=pre++bs
 | [],pre,i,h => by simp [trues]
 | b :: bs,pre,i,h => by
   have e:pre++List.replicate (b :: bs).length false=(pre++[false])++List.replicate bs.length false:=by
    simp [List.replicate_succ]
   cases b with
   | false =>
     have:=set_foldl (bs:=bs) (pre:=pre++[false]) (i:=i+1) (by simp [h])
     simp only [trues,Bool.false_eq_true,if_false]
     rw [e,this]
     simp
   | true =>
     have:=set_foldl (bs:=bs) (pre:=pre++[true]) (i:=i+1) (by simp [h])
     simp only [trues,if_true,List.foldl_cons,Int.toNat_natCast]
     have e2:(pre++List.replicate (true :: bs).length false).set i true=(pre++[true])++List.replicate bs.length false:=by
      rw [e,← h]
      simp
     rw [e2,this]
     simp
theorem trues_mem:∀ {bs:List Bool} {i:Nat} {x:Int},x∈trues i bs→(i:Int)≤x∧x<i+bs.length
 | [],_,_,h => by simp [trues] at h
 | b :: bs,i,x,h => by
   have ih:=fun h=>trues_mem (bs:=bs) (i:=i+1) (x:=x) h
   simp only [trues] at h
   split at h
   ·rcases List.mem_cons.1 h with rfl | h
    ·simp; omega
    ·have:=ih h
     simp only [List.length_cons]; omega
   ·have:=ih h
    simp only [List.length_cons]; omega
theorem trues_len:∀ {bs:List Bool} {i:Nat},(trues i bs).length≤bs.length
 | [],_ => by simp [trues]
 | b :: bs,i => by
   have:=trues_len (bs:=bs) (i:=i+1)
   simp only [trues]
   split <;> simp <;> omega
theorem upon0_loop {K:Nat} {ts:List Int} (hts:ts.length≤50000):∀ (r:List Int) (j k:Nat) (acc:List Bool),ts.drop j=r→r.length<k→(∀ x∈r,0≤x∧x<acc.length)→
 edit_Upon_ggrnggg.l0 K ts k acc (j:Int)=some (r.foldl (fun acc (x:Int)=>acc.set x.toNat true) acc)
 | [],j,k+1,acc,h,_,_ => by
   have:=drop_nil h
   rw [edit_Upon_ggrnggg.l0,if_neg (by simp; omega)]
   rfl
 | x :: r,j,k+1,acc,h,hk,hb => by
   obtain ⟨h1,h2,h3⟩:=drop_cons h (0:Int)
   have hx:=hb x List.mem_cons_self
   rw [edit_Upon_ggrnggg.l0,if_pos (by simp; omega),Int.toNat_natCast,h2,if_pos ⟨by omega,by omega,hx.1,hx.2⟩,up1 (by omega),upon0_loop hts r (j+1) k _ h3 (by simpa using hk) (fun y hy=>by rw [List.length_set]; exact hb y (List.mem_cons_of_mem _ hy))]
   rfl
theorem upon1_loop {K:Nat} {l:List Atm} {cut:List Bool} {w g:Int} (hl:l.length≤20000) (hcl:cut.length=l.length):∀ (r:List Atm) (j k:Nat) (pre:List Atm) (bs:List Bool),cut.drop j=bs→pre.length=j→j+r.length=l.length→r.length<k→(∀ a∈r,a.2.2.2.2.length≤1000)→
 edit_Upon_ggrnggg.l1 K l cut w g k (pre++r) (j:Int)=some (pre++ctA (w,g) bs r)
 | [],j,k+1,pre,bs,hb,hp,h,_,_ => by
   rw [edit_Upon_ggrnggg.l1,if_neg (by simp at h ⊢; omega)]
   cases bs <;> simp [ctA]
 | a :: r,j,k+1,pre,[],hb,hp,h,hk,_ => by
   have:=drop_nil hb
   simp at h
   omega
 | a :: r,j,k+1,pre,b :: bs,hb,hp,h,hk,ha => by
   obtain ⟨h1,h2,h3⟩:=drop_cons hb false
   simp only [List.length_cons] at h
   have hga:(pre++a :: r).getD j zA=a:=by
    rw [List.getD_eq_getElem?_getD,List.getElem?_append_right (by omega),hp]; simp
   have hcu:=ha a List.mem_cons_self
   rw [edit_Upon_ggrnggg.l1,if_pos (by simp; omega),if_pos ⟨by omega,by omega⟩,Int.toNat_natCast,h2,hga,up1 (by omega)]
   have e:∀ y:Atm,pre++y :: r=(pre++[y])++r:=fun y=>by simp
   cases b with
   | false =>
     rw [if_neg (by simp),e,upon1_loop hl hcl r (j+1) k (pre++[a]) bs h3 (by simp [hp]) (by omega) (by simpa using hk) (fun x hx=>ha x (List.mem_cons_of_mem _ hx))]
     simp [ctA]
   | true =>
     have es:setCut (pre++a :: r) j (a.2.2.2.2++[(w,g)])=(pre++[addC a (w,g)])++r:=by
      unfold setCut
      rw [hga,List.set_append_right _ _ (by omega),hp]
      simp [addC]
     rw [if_pos rfl,if_pos ⟨by simp; omega,by simp; omega,by simp; omega,rfl⟩,es,upon1_loop hl hcl r (j+1) k (pre++[addC a (w,g)]) bs h3 (by simp [hp]) (by omega) (by simpa using hk) (fun x hx=>ha x (List.mem_cons_of_mem _ hx))]
     simp [ctA]
theorem spA_mono {rev:Int} {u:List Int} {f f':Int} (h:f≤f'):∀ {l:List Atm} {p:Int},spA rev u f p l≤spA rev u f' p l
 | [],_ => Nat.le_refl _
 | a :: l,p => by
   have:=spA_mono h (rev:=rev) (u:=u) (l:=l) (p:=if vis rev u a=true then p+(a.1.size:Int) else p)
   rw [spA_cons,spA_cons]
   generalize spA rev u f (if vis rev u a=true then p+(a.1.size:Int) else p) l=n at *
   generalize spA rev u f' (if vis rev u a=true then p+(a.1.size:Int) else p) l=n' at *
   by_cases e:n'=0
   ·rw [if_pos e,if_pos (by omega)]
    by_cases e2:p<f
    ·have:p<f':=by omega
     rw [decide_eq_true e2,decide_eq_true this]
     exact Nat.le_refl _
    ·rw [decide_eq_false e2,Bool.false_and,if_neg (by simp)]
     omega
   ·rw [if_neg e]
    repeat' split
    all_goals omega
theorem spA_vis {rev:Int} {u:List Int} {f:Int}:∀ {l:List Atm} {p:Int} {n:Nat},spA rev u f p l=n+1→∃ a,l[n]? = some a∧vis rev u a=true
 | [],_,_,h => by simp [spA] at h
 | a :: l,p,n,h => by
   rw [spA_cons] at h
   generalize (if vis rev u a=true then p+(a.1.size:Int) else p)=q at h
   by_cases e:spA rev u f q l=0
   ·rw [if_pos e] at h
    by_cases hv:(decide (p<f)&&vis rev u a)=true
    ·rw [if_pos hv] at h
     have:n=0:=by omega
     subst this
     exact ⟨a,rfl,by simp only [Bool.and_eq_true] at hv; exact hv.2⟩
    ·rw [if_neg hv] at h; omega
   ·rw [if_neg e] at h
    obtain ⟨m,hm⟩:∃ m,n=m+1:=⟨n - 1,by omega⟩
    subst hm
    have h3:spA rev u f q l=m+1:=by omega
    obtain ⟨b,h1,h2⟩:=spA_vis h3
    exact ⟨b,by simpa using h1,h2⟩
theorem skp_le {rev rank:Int}:∀ {l:List Atm} {i:Nat} {a:Atm},l[i]? = some a→a.2.1≤rev→skp rev rank l≤i
 | [],_,_,h,_ => by simp at h
 | b :: l,0,a,h,ha => by
   simp at h
   subst h
   simp only [skp,List.takeWhile_cons]
   rw [decide_eq_false (by omega)]
   simp
 | b :: l,i+1,a,h,ha => by
   have:=skp_le (rank:=rank) (l:=l) (i:=i) (a:=a) (by simpa using h) ha
   simp only [skp,List.takeWhile_cons] at *
   split
   ·simp; omega
   ·simp
theorem vis_rev {rev:Int} {u:List Int} {a:Atm} (h:vis rev u a=true):a.2.1≤rev:=by
 simp only [vis,Bool.and_eq_true,decide_eq_true_eq] at h
 exact h.1.1
theorem spt_mono {rev:Int} {u:List Int} {rank f f':Int} {l:List Atm} (h:f≤f'):spt rev u rank f l≤spt rev u rank f' l:=by
 have hm:=spA_mono (rev:=rev) (u:=u) (l:=l) (p:=0) h
 unfold spt
 by_cases e:spA rev u f 0 l=spA rev u f' 0 l
 ·rw [e]; exact Nat.le_refl _
 ·obtain ⟨n,hn⟩:∃ n,spA rev u f' 0 l=n+1:=⟨spA rev u f' 0 l - 1,by omega⟩
  obtain ⟨a,h1,h2⟩:=spA_vis hn
  have:=skp_le (rank:=rank) (l:=l.drop (spA rev u f 0 l)) (i:=n - spA rev u f 0 l) (a:=a) (by rw [List.getElem?_drop,show spA rev u f 0 l+(n - spA rev u f 0 l)=n by omega]; exact h1) (vis_rev h2)
  omega
theorem f5_zero {l:List Int} (h:f5 l=0):∀ x∈l,x=0:=by
 induction l with
 | nil => simp
 | cons y l ih =>
   unfold f5 at h
   split at h
   ·rename_i e
    intro x hx
    rcases List.mem_cons.1 hx with rfl | hx
    ·exact e
    ·exact ih h x hx
   ·rename_i e; exact absurd h e
structure Gok (s:ByteArray) (c:List Chg):Prop where
 v:uvalid s=true
 len:c.length≤8
 bd:∀ x∈c,0≤x.1∧x.1≤x.2.1∧x.2.1≤s.size
 eg:∀ x∈c,isE s x.1=true∧isE s x.2.1=true
 od:orC c=false
 vt:∀ x∈c,uvalid x.2.2=true
theorem chk_ok {s:ByteArray} {c:List Chg} (h:chkE s c=0):Gok s c:=by
 unfold chkE at h
 split at h
 ·omega
 ·rename_i h1
  split at h
  ·omega
  ·rename_i h2
   have h3:=f5_zero h
   have a1:=h3 _ (List.mem_cons_self)
   have a2:=h3 _ (List.mem_cons_of_mem _ List.mem_cons_self)
   have a3:=h3 _ (List.mem_cons_of_mem _ (List.mem_cons_of_mem _ List.mem_cons_self))
   have a4:=h3 _ (List.mem_cons_of_mem _ (List.mem_cons_of_mem _ (List.mem_cons_of_mem _ List.mem_cons_self)))
   refine ⟨by simpa using h1,by omega,fun x hx=>?_,fun x hx=>?_,?_,fun x hx=>?_⟩
   ·split at a1
    ·omega
    ·rename_i e
     have:bdC s x=false:=by
      cases hb:bdC s x with
      | false => rfl
      | true => exact absurd (List.any_eq_true.2 ⟨x,hx,hb⟩) e
     simp only [bdC,Bool.or_eq_false_iff,decide_eq_false_iff_not] at this
     omega
   ·split at a2
    ·omega
    ·rename_i e
     have:egC s x=false:=by
      cases hb:egC s x with
      | false => rfl
      | true => exact absurd (List.any_eq_true.2 ⟨x,hx,hb⟩) e
     simpa [egC] using this
   ·split at a3
    ·omega
    ·rename_i e; simpa using e
   ·split at a4
    ·omega
    ·rename_i e
     cases hb:uvalid x.2.2 with
     | true => rfl
     | false => exact absurd (List.any_eq_true.2 ⟨x,hx,by simp [hb]⟩) e
theorem orC_cons {a b:Chg} {l:List Chg} (h:orC (a :: b :: l)=false):a.2.1≤b.1∧orC (b :: l)=false:=by
 rw [orC] at h
 simp only [Bool.or_eq_false_iff,decide_eq_false_iff_not] at h
 exact ⟨by omega,h.2⟩
theorem upon2_loop {K:Nat} {l old:List Atm} {u:List Int} {rev rank w g:Int} {c:List Chg} (hK:100000≤K) (hl:l.length≤20000) (ho:old.length=l.length) (hc:c.length≤8) (hv:∀ x∈c,uvalid x.2.2=true) (hz:∀ x∈c,x.2.2.size≤30000) (hb:∀ x∈c,x.1≤x.2.1) :
 ∀ (r:List Chg) (j k p:Nat) (out:List Atm),c.drop j=r→r.length<k→p≤l.length→(∀ y,r.head? = some y→p≤spt rev u rank y.1 l)→orC r=false→out.length+r.length * 60000+20000≤10000000→
 edit_Upon_ggrnggg.l2 K c (c.map fun y=>((spt rev u rank y.1 l:Nat):Int)) old w g rank k out (p:Int) (j:Int)=some (out++spl old p (r.map fun y=>(spt rev u rank y.1 l,putL y.2.2 w g rank)))
 | [],j,k+1,p,out,h,_,hp,_,_,hout => by
   have:=drop_nil h
   rw [edit_Upon_ggrnggg.l2,if_neg (by simp; omega),if_pos ⟨by omega,by omega,by simp; omega⟩]
   simp only [List.map_nil,spl,Int.toNat_natCast]
   rw [← List.length_drop,List.take_length]
 | y :: r,j,k+1,p,out,h,hk,hp,hh,hod,hout => by
   obtain ⟨h1,h2,h3⟩:=drop_cons h zC
   have hy:y∈c:=by have:y∈c.drop j:=by rw [h]; exact List.mem_cons_self
                   exact List.mem_of_mem_drop this
   have hs:=hh y rfl
   have hle:=spt_le (rev:=rev) (u:=u) (rank:=rank) (f:=y.1) (l:=l)
   have hg:(c.map fun y=>((spt rev u rank y.1 l:Nat):Int)).getD j 0=((spt rev u rank y.1 l:Nat):Int):=by
    rw [List.getD_eq_getElem?_getD,List.getElem?_map]
    have:c[j]? = some y:=by rw [← h2,List.getD_eq_getElem?_getD,List.getElem?_eq_getElem h1]; rfl
    rw [this]; rfl
   simp only [List.length_cons] at hout
   have hpl:=ptL_len (s:=y.2.2) (w:=w) (g:=g) (r:=rank) (m:=y.2.2.size) (t:=0)
   have hpl:(putL y.2.2 w g rank).length≤y.2.2.size:=hpl
   have hzy:=hz y hy
   have htl:(List.take ((spt rev u rank y.1 l) - p) (List.drop p old)).length≤20000:=by simp; omega
   rw [edit_Upon_ggrnggg.l2,if_pos (by simp; omega),Int.toNat_natCast,h2,hg,Int.toNat_natCast,Int.toNat_natCast,if_pos ⟨by omega,by omega,by simp; omega,by omega,by omega,by omega,by omega⟩,put_is hK hzy (hv y hy),Option.bind_some,if_pos (by rw [List.length_append]; omega),up1 (by omega),
    upon2_loop hK hl ho hc hv hz hb r (j+1) k _ _ h3 (by simpa using hk) hle (fun z hz'=>by
     cases r with
     | nil => simp at hz'
     | cons z' r =>
       simp at hz'
       subst hz'
       have:=orC_cons hod
       exact spt_mono (Int.le_trans (hb y hy) this.1)) (by
     cases r with
     | nil => rfl
     | cons z' r => exact (orC_cons hod).2) (by rw [List.length_append,List.length_append]; omega)]
   simp [spl]
theorem upon_is {K:Nat} {l:List Atm} {u:List Int} {rev rank w g:Int} {c:List Chg} (hK:100000≤K) (hu:u.length≤50000) (hl:Aok l) (hc:Cok c) (ht:(vtx rev u l).length≤50000) (h0:chkE (ofBytes (vtx rev u l)) c=0):edit_Upon_ggrnggg K l rev u c w g rank=some (upS rev u c w g rank l):=by
 have hlen:=hl.1
 have G:=chk_ok h0
 have hbl:=ctB_len (rev:=rev) (u:=u) (c:=c) (l:=l) (p:=0)
 rw [edit_Upon_ggrnggg,spots_is hK hu hl hc ht h0,Option.bind_some,text_is hK hu hl,Option.bind_some,chk_is hK (by simpa [ofBytes,ByteArray.size] using ht) hc,Option.bind_some,h0,if_neg (by simp),if_pos ⟨by omega,by omega,by omega,by omega,by omega⟩,cuts_is hK hu hl hc ht h0,Option.bind_some]
 have htl:=trues_len (bs:=ctB rev u c 0 l) (i:=0)
 have e0:=upon0_loop (K:=K) (ts:=trues 0 (ctB rev u c 0 l)) (by omega) (trues 0 (ctB rev u c 0 l)) 0 K (List.replicate l.length false) rfl (by omega) (fun x hx=>by
  have:=trues_mem hx
  simp; omega)
 have e0:edit_Upon_ggrnggg.l0 K (trues 0 (ctB rev u c 0 l)) K (List.replicate l.length false) 0=_:=e0
 have e1:=set_foldl (bs:=ctB rev u c 0 l) (pre:=[]) (i:=0) rfl
 rw [List.nil_append,List.nil_append,hbl] at e1
 rw [Int.toNat_natCast,e0,e1,Option.bind_some,copyA_is hK hl,Option.bind_some,if_pos (by simp)]
 have e2:=upon1_loop (K:=K) (l:=l) (cut:=ctB rev u c 0 l) (w:=w) (g:=g) hlen hbl l 0 K [] _ rfl rfl (by omega) (by omega) (fun a ha=>(hl.2 a ha).2)
 have e2:edit_Upon_ggrnggg.l1 K l (ctB rev u c 0 l) w g K l 0=_:=e2
 rw [e2,Option.bind_some,List.nil_append]
 have e3:=upon2_loop (K:=K) (l:=l) (old:=ctA (w,g) (ctB rev u c 0 l) l) (u:=u) (rev:=rev) (rank:=rank) (w:=w) (g:=g) (c:=c) hK hlen ctA_len G.len G.vt hc.2 (fun x hx=>(G.bd x hx).2.1) c 0 K 0 [] rfl (by have:=G.len; omega) (by omega) (fun _ _=>by omega) G.od (by have:=G.len; simp; omega)
 have e3:edit_Upon_ggrnggg.l2 K c _ _ w g rank K [] 0 0=_:=e3
 exact e3
def Grp (g:List Int):Prop:=g.Pairwise (·< ·)∧∀ x∈g,0≤x∧x<60
theorem sorted_len:∀ {l:List Int} {lo hi:Int},l.Pairwise (·< ·)→(∀ x∈l,lo≤x∧x<hi)→lo≤hi→(l.length:Int)≤hi - lo
 | [],lo,hi,_,_,h => by simp; omega
 | a :: l,lo,hi,hp,hb,h => by
   obtain ⟨h1,h2⟩:=List.pairwise_cons.1 hp
   have ha:=hb a List.mem_cons_self
   have:=sorted_len (l:=l) (lo:=a+1) (hi:=hi) h2 (fun x hx=>⟨by have:=h1 x hx; omega,(hb x (List.mem_cons_of_mem _ hx)).2⟩) (by omega)
   simp only [List.length_cons]
   omega
theorem Grp.len {g:List Int} (h:Grp g):g.length≤60:=by
 have:=sorted_len h.1 h.2 (by omega)
 omega
theorem Grp.ins {g:List Int} {x:Int} (h:Grp g) (hx:0≤x∧x<60):Grp (insS x g):=⟨insS_sorted h.1,fun y hy=>by
 rcases mem_insS.1 hy with rfl | hy
 ·exact hx
 ·exact h.2 y hy⟩
theorem Grp.filter {g:List Int} {q:Int→Bool} (h:Grp g):Grp (g.filter q):=⟨h.1.filter q,fun y hy=>h.2 y (List.mem_filter.1 hy).1⟩
theorem Grp.del {g:List Int} {x:Int} (h:Grp g):Grp (delS x g):=h.filter
structure Atk (h:Int) (a:Atm):Prop where
 s1:1≤a.1.size
 s4:a.1.size≤4
 r0:0≤a.2.1
 r1:a.2.1≤h
 g0 : -1≤a.2.2.1
 g1:a.2.2.1<60
 n:(a.2.2.2.2.length:Int)≤h
 c:∀ c∈a.2.2.2.2,0≤c.1∧c.1≤h∧-1≤c.2∧c.2<60
structure Ivt (l:List Atm) (us:List (List Int)) (f:Int) (g o:List Int):Prop where
 ne:0<us.length
 lo:0≤f
 hi:hdR us f≤200
 gg:Grp g
 oo:Grp o
 uu:∀ u∈us,u.Pairwise (·< ·)∧∀ x∈u,x∈g
 len:l.length≤4000
 aa:∀ a∈l,Atk (hdR us f) a
theorem Ivt.rok {l:List Atm} {us:List (List Int)} {f:Int} {g o:List Int} (h:Ivt l us f g o):Rok us f g o:=by
 have h1:=h.ne; have h2:=h.lo; have h3:=h.hi
 unfold hdR at h3
 refine ⟨h1,by omega,h2,by omega,fun u hu=>?_,by have:=h.gg.len; omega,by have:=h.oo.len; omega⟩
 have:Grp u:=⟨(h.uu u hu).1,fun x hx=>h.gg.2 x ((h.uu u hu).2 x hx)⟩
 have:=this.len
 omega
theorem Ivt.aok {l:List Atm} {us:List (List Int)} {f:Int} {g o:List Int} (h:Ivt l us f g o):Aok l:=by
 refine ⟨by have:=h.len; omega,fun a ha=>?_⟩
 have:=h.aa a ha
 have h1:=this.s4; have h2:=this.n; have h3:=h.hi
 exact ⟨by omega,by omega⟩
theorem vtx_len4 {rev:Int} {u:List Int}:∀ {l:List Atm},(∀ a∈l,a.1.size≤4)→(vtx rev u l).length≤4 * l.length
 | [],_ => by simp [vtx]
 | a :: l,h => by
   have:=vtx_len4 (rev:=rev) (u:=u) (l:=l) fun b hb=>h b (List.mem_cons_of_mem _ hb)
   have:=h a List.mem_cons_self
   simp only [vtx]
   split <;> simp [bytesL_length] <;> omega
theorem size_ofBytes {x:List Int}:(ofBytes x).size=x.length:=by simp [ofBytes,ByteArray.size]
theorem Ivt.vtx {l:List Atm} {us:List (List Int)} {f:Int} {g o:List Int} (h:Ivt l us f g o) {rev:Int} {u:List Int}:(vtx rev u l).length≤16000:=by
 have:=vtx_len4 (rev:=rev) (u:=u) (l:=l) fun a ha=>(h.aa a ha).s4
 have:=h.len
 omega
theorem engHead_is {K:Nat} {l:List Atm} {us:List (List Int)} {f:Int} {g o:List Int} (h:Rok us f g o):engine_Engine_Head_b_0db29 K l us f g o=some (hdR us f):=by
 rw [engine_Engine_Head_b_0db29,head_is h,Option.bind_some]
def txtR (l:List Atm) (us:List (List Int)) (f r:Int):ByteArray×Int:=if lvR us f r=true then (ofBytes (vtx r (unR us f r) l),0) else (ByteArray.mk #[],190)
theorem engText_is {K:Nat} {l:List Atm} {us:List (List Int)} {f:Int} {g o:List Int} {r:Int} (hK:100000≤K) (h:Rok us f g o) (hl:Aok l):engine_Engine_Text_bg_d34b6 K l us f g o r=some (txtR l us f r):=by
 have:=unR_len h (r:=r)
 rw [engine_Engine_Text_bg_d34b6,engine_Engine_Live_bg_d34b6,live_is h,Option.bind_some,Option.bind_some,engine_Engine_UndoneAt_bg_d34b6,undone_is h,Option.bind_some,Option.bind_some,text_is hK (by omega) hl,Option.bind_some]
 unfold txtR
 cases lvR us f r <;> rfl
theorem lv_head {us:List (List Int)} {f:Int} (h:0<us.length):lvR us f (hdR us f)=true:=by
 unfold lvR hdR
 simp
 omega
theorem un_head {us:List (List Int)} {f:Int} (h:0<us.length):unR us f (hdR us f)=lsR us:=by
 unfold unR
 rw [if_pos (lv_head h)]
 unfold lsR hdR
 rw [show (f+(us.length:Int) - 1 - f).toNat=us.length - 1 by omega]
def nowT (l:List Atm) (us:List (List Int)) (f:Int):List Int:=vtx (hdR us f) (lsR us) l
theorem now_is {K:Nat} {l:List Atm} {us:List (List Int)} {f:Int} {g o:List Int} (hK:100000≤K) (h:Rok us f g o) (hl:Aok l):palinodetop_now_b_0db29 K l us f g o=some (ofBytes (nowT l us f)):=by
 rw [palinodetop_now_b_0db29,engHead_is h,Option.bind_some,engText_is hK h hl,Option.bind_some]
 unfold txtR nowT
 rw [if_pos (lv_head h.ne),un_head h.ne]
theorem engCopy_is {K:Nat} {l:List Atm} {us:List (List Int)} {f:Int} {g o:List Int} (hK:100000≤K) (h:Rok us f g o) (hl:Aok l):engine_Engine_Copy_b_0db29 K l us f g o=some (l,us,g,o):=by
 rw [engine_Engine_Copy_b_0db29,copyA_is hK hl,Option.bind_some,rcopy_is hK h,Option.bind_some]
theorem fits_is {K:Nat} {l:List Atm} {us:List (List Int)} {f:Int} {g o:List Int} (hK:100000≤K) (h:Rok us f g o) (hl:Aok l):engine_Engine_fits_b_0db29 K l us f g o=some (decide ((nowT l us f).length≤20000)):=by
 rw [engine_Engine_fits_b_0db29,engHead_is h,Option.bind_some,engText_is hK h hl,Option.bind_some]
 unfold txtR nowT
 rw [if_pos (lv_head h.ne),un_head h.ne,size_ofBytes]
 congr 1
 rw [decide_eq_decide]
 omega
def edtR (l:List Atm) (us:List (List Int)) (f:Int) (g o:List Int) (base grp rank:Int) (c:List Chg):Int×Int×List Atm×List (List Int)×List Int×List Int:=
 if lvR us f base=false then (0,190,l,us,g,o)
 else if chkE (ofBytes (vtx base (unR us f base) l)) c≠0 then (0,chkE (ofBytes (vtx base (unR us f base) l)) c,l,us,g,o)
 else if (adR us f g o grp).2.1≠0 then (0,(adR us f g o grp).2.1,l,us,g,o)
 else if rank<0∨1000000<rank then (0,10,l,us,g,o)
 else if 4000<(upS base (unR us f base) c (hdR us f+1) grp rank l).length then (0,70,l,us,g,o)
 else (hdR us f+1,0,upS base (unR us f base) c (hdR us f+1) grp rank l,us++[lsR us],insS grp g,o)
theorem adR_ok {us:List (List Int)} {f:Int} {g o:List Int} {x:Int} (h:(adR us f g o x).2.1=0):adR us f g o x=(hdR us f+1,0,us++[lsR us],insS x g)∧o.contains x=false∧0≤x∧x<60∧hdR us f<200:=by
 unfold adR at *
 split at h
 ·simp at h
 ·rename_i h1
  split at h
  ·simp at h
  ·rename_i h2
   rw [if_neg h1,if_neg h2]
   refine ⟨rfl,?_,?_,?_,by omega⟩
   ·cases e:o.contains x with
    | false => rfl
    | true => exact absurd (.inl e) h1
   ·omega
   ·omega
theorem hdR_app {us:List (List Int)} {u:List Int} {f:Int}:hdR (us++[u]) f=hdR us f+1:=by
 unfold hdR
 simp
 omega
theorem ls_mem {us:List (List Int)} (h:0<us.length):lsR us∈us:=by
 have hi:us.length - 1<us.length:=by omega
 exact getD_mem hi
theorem mem_ctA {c:Int×Int}:∀ {bs:List Bool} {l:List Atm} {a:Atm},a∈ctA c bs l→∃ b∈l,a=b∨a=addC b c
 | [],l,a,h => ⟨a,by simpa [ctA] using h,.inl rfl⟩
 | _ :: _,[],a,h => by simp [ctA] at h
 | b :: bs,x :: l,a,h => by
   simp only [ctA] at h
   rcases List.mem_cons.1 h with rfl | h
   ·refine ⟨x,List.mem_cons_self,?_⟩
    split
    ·exact .inr rfl
    ·exact .inl rfl
   ·obtain ⟨y,h1,h2⟩:=mem_ctA h
    exact ⟨y,List.mem_cons_of_mem _ h1,h2⟩
theorem mem_spl {old:List Atm}:∀ {r:List (Nat×List Atm)} {p:Nat} {a:Atm},a∈spl old p r→a∈old∨∃ q∈r,a∈q.2
 | [],p,a,h => .inl (List.mem_of_mem_drop h)
 | (s,x) :: r,p,a,h => by
   simp only [spl] at h
   rcases List.mem_append.1 h with h | h
   ·exact .inl (List.mem_of_mem_drop (List.mem_of_mem_take h))
   ·rcases List.mem_append.1 h with h | h
    ·exact .inr ⟨_,List.mem_cons_self,h⟩
    ·rcases mem_spl h with h | ⟨q,h1,h2⟩
     ·exact .inl h
     ·exact .inr ⟨q,List.mem_cons_of_mem _ h1,h2⟩
theorem upS_atk {rev:Int} {u:List Int} {c:List Chg} {w g rank h:Int} {l:List Atm} (hl:∀ a∈l,Atk h a) (hw:w=h+1) (h0:0≤h) (hg:0≤g∧g<60) (hv:∀ x∈c,uvalid x.2.2=true):∀ a∈upS rev u c w g rank l,Atk w a:=by
 intro a ha
 rcases mem_spl ha with h1 | ⟨q,h1,h2⟩
 ·obtain ⟨b,hb,e⟩:=mem_ctA h1
  have A:=hl b hb
  have t1:=A.s1; have t2:=A.s4; have t3:=A.r0; have t4:=A.r1; have t5:=A.g0; have t6:=A.g1; have t7:=A.n
  rcases e with rfl | rfl
  ·exact ⟨t1,t2,t3,by omega,t5,t6,by omega,fun c hc=>by have:=A.c c hc; omega⟩
  ·refine ⟨t1,t2,t3,by simp only [addC]; omega,t5,t6,by simp [addC]; omega,fun c hc=>?_⟩
   rcases List.mem_append.1 (show c∈b.2.2.2.2++[(w,g)] from hc) with hc | hc
   ·have:=A.c c hc; omega
   ·simp at hc
    subst hc
    exact ⟨by omega,by omega,by omega,by omega⟩
 ·obtain ⟨x,hx,rfl⟩:=List.mem_map.1 h1
  obtain ⟨k1,k2,k3⟩:=ptL_ok (hv x hx) a h2
  refine ⟨k1,k2,?_,?_,?_,?_,?_,fun c hc=>?_⟩
  ·rw [k3]; simp only; omega
  ·rw [k3]; simp only; omega
  ·rw [k3]; simp only; omega
  ·rw [k3]; simp only; omega
  ·rw [k3]; simp; omega
  ·rw [k3] at hc; simp at hc
theorem edit_is {K:Nat} {l:List Atm} {us:List (List Int)} {f:Int} {g o:List Int} {base grp rank:Int} {c:List Chg} (hK:100000≤K) (h:Ivt l us f g o) (hc:Cok c) :
 engine_Engine_Edit_bgggn_7db40 K l us f g o base grp rank c=some (edtR l us f g o base grp rank c):=by
 have R:=h.rok
 have A:=h.aok
 have hul:=unR_len R (r:=base)
 have htl:=h.vtx (rev:=base) (u:=unR us f base)
 rw [engine_Engine_Edit_bgggn_7db40,engText_is hK R A,Option.bind_some]
 unfold edtR txtR
 cases hlv:lvR us f base with
 | false => rfl
 | true =>
   rw [if_pos rfl]
   simp only [bne_self_eq_false,Bool.false_eq_true,if_false,Bool.true_eq_false]
   rw [chk_is hK (by rw [size_ofBytes]; omega) hc,Option.bind_some]
   by_cases hch:chkE (ofBytes (vtx base (unR us f base) l)) c=0
   ·have n1:¬ (chkE (ofBytes (vtx base (unR us f base) l)) c≠0):=by simpa using hch
    rw [if_neg n1,if_neg (by simpa using hch),engCopy_is hK R A,Option.bind_some]
    simp only
    rw [addR_is R,Option.bind_some]
    by_cases had:(adR us f g o grp).2.1=0
    ·have n2:¬ ((adR us f g o grp).2.1≠0):=by simpa using had
     rw [if_neg n2,if_neg (by simpa using had)]
     obtain ⟨ead,h1,h2,h3,h4⟩:=adR_ok had
     by_cases hrk:rank<0∨1000000<rank
     ·have:(if decide (rank<0)=true then some true else some (decide (rank > 1000000)))=some true:=by
       rcases hrk with h | h
       ·rw [if_pos (by simpa using h)]
       ·split
        ·rfl
        ·simpa using h
      rw [this,Option.bind_some,if_pos rfl,if_pos hrk]
     ·have:(if decide (rank<0)=true then some true else some (decide (rank > 1000000)))=some false:=by
       rw [if_neg (by simp; omega)]
       simp; omega
      have G:=chk_ok hch
      have haT:=upS_atk (rev:=base) (u:=unR us f base) (c:=c) (w:=hdR us f+1) (g:=grp) (rank:=rank) h.aa rfl (by have:=h.lo; have:=h.ne; unfold hdR; omega) ⟨h2,h3⟩ G.vt
      rw [this,Option.bind_some,if_neg (by simp),if_neg hrk,engine_Engine_UndoneAt_bg_d34b6,undone_is R,Option.bind_some,Option.bind_some,ead]
      simp only
      rw [upon_is hK (by omega) A hc (by omega) hch,Option.bind_some]
      by_cases hln:4000<(upS base (unR us f base) c (hdR us f+1) grp rank l).length
      ·rw [if_pos (by simp; omega),if_pos hln]
      ·have R2:Rok (us++[lsR us]) f (insS grp g) o:=by
        refine ⟨by simp,?_,R.lo,R.hi,fun u hu=>?_,by have:=(h.gg.ins ⟨h2,h3⟩).len; omega,R.o⟩
        ·have:=h.hi; have:=h.lo; have:=h.ne
         unfold hdR at *
         simp; omega
        ·rcases List.mem_append.1 hu with hu | hu
         ·exact R.u u hu
         ·simp at hu; subst hu; exact lsR_len R
       have A2:Aok (upS base (unR us f base) c (hdR us f+1) grp rank l):=by
        refine ⟨by omega,fun a ha=>?_⟩
        have T:=haT a ha
        have:=T.s4; have:=T.n
        exact ⟨by omega,by omega⟩
       have hfit:(nowT (upS base (unR us f base) c (hdR us f+1) grp rank l) (us++[lsR us]) f).length≤20000:=by
        have:=vtx_len4 (rev:=hdR (us++[lsR us]) f) (u:=lsR (us++[lsR us])) (l:=upS base (unR us f base) c (hdR us f+1) grp rank l) fun a ha=>(haT a ha).s4
        unfold nowT
        omega
       rw [if_neg (by simp; omega),if_neg hln,fits_is hK R2 A2,Option.bind_some,if_neg (by simp; omega)]
    ·rw [if_pos had,if_pos (by simpa using had)]
   ·rw [if_pos hch,if_pos (by simpa using hch)]
def goneG (gs u:List Int) (g:Int):Bool:=gs.contains g&&u.contains g
def staysG (gs u:List Int) (g:Int):Bool:=gs.contains g&&!u.contains g
theorem rest1_is {K:Nat} {gs u:List Int} {g:Int} (hK:100000≤K) (h1:gs.length≤1000) (h2:u.length≤1000):engine_rest_1_gbb_dc736 K g gs u=some (goneG gs u g):=by
 rw [engine_rest_1_gbb_dc736,contains_is hK (by omega),Option.bind_some,contains_is hK (by omega)]
 unfold goneG
 cases gs.contains g <;> simp
theorem rest2_is {K:Nat} {gs u:List Int} {g:Int} (hK:100000≤K) (h1:gs.length≤1000) (h2:u.length≤1000):engine_rest_2_gbb_dc736 K g gs u=some (staysG gs u g):=by
 rw [engine_rest_2_gbb_dc736,contains_is hK (by omega),Option.bind_some,contains_is hK (by omega)]
 unfold staysG
 cases gs.contains g <;> simp
theorem rest3_loop {K:Nat} {gs u:List Int} {l:List (Int×Int)} (hK:100000≤K) (h1:gs.length≤1000) (h2:u.length≤1000) (hl:l.length≤50000):∀ (r:List (Int×Int)) (j k:Nat),l.drop j=r→r.length<k→∃ n,slices_IndexFunc_gcenginerest3_dcdc0.l0 K l gs u k (j:Int)=some n∧decide (n≥0)=r.any fun c=>staysG gs u c.2
 | [],j,k+1,h,_ => by
   have:=drop_nil h
   refine ⟨-1,?_,rfl⟩
   rw [slices_IndexFunc_gcenginerest3_dcdc0.l0,if_neg (by simp; omega)]
 | g :: r,j,k+1,h,hk => by
   obtain ⟨h3,h4,h5⟩:=drop_cons h ((0:Int),(0:Int))
   rw [slices_IndexFunc_gcenginerest3_dcdc0.l0,if_pos (by simp; omega),Int.toNat_natCast,h4,engine_rest_3_sggb_2cd3c,rest2_is hK h1 h2,Option.bind_some,Option.bind_some,if_pos ⟨by omega,by omega⟩]
   cases e:staysG gs u g.2 with
   | true => exact ⟨j,by rw [if_pos rfl],by simp [e]⟩
   | false =>
     obtain ⟨n,h6,h7⟩:=rest3_loop hK h1 h2 hl r (j+1) k h5 (by simpa using hk)
     refine ⟨n,by rw [if_neg (by simp),up1 (by omega)]; exact h6,by rw [h7]; simp [e]⟩
theorem rest4_loop {K:Nat} {gs u:List Int} {l:List (Int×Int)} (hK:100000≤K) (h1:gs.length≤1000) (h2:u.length≤1000) (hl:l.length≤50000):∀ (r:List (Int×Int)) (j k:Nat),l.drop j=r→r.length<k→
 (slices_IndexFunc_rcenginerest4_f8e5e.l0 K l gs u k (j:Int)=some (-1)∧∀ c∈r,goneG gs u c.2=false)∨∃ pre c post,r=pre++c :: post∧(∀ c∈pre,goneG gs u c.2=false)∧goneG gs u c.2=true∧slices_IndexFunc_rcenginerest4_f8e5e.l0 K l gs u k (j:Int)=some ((j+pre.length:Nat):Int)
 | [],j,k+1,h,_ => by
   have:=drop_nil h
   exact .inl ⟨by rw [slices_IndexFunc_rcenginerest4_f8e5e.l0,if_neg (by simp; omega)],by simp⟩
 | g :: r,j,k+1,h,hk => by
   obtain ⟨h3,h4,h5⟩:=drop_cons h ((0:Int),(0:Int))
   rw [slices_IndexFunc_rcenginerest4_f8e5e.l0,if_pos (by simp; omega),Int.toNat_natCast,h4,engine_rest_4_sggb_39294,rest1_is hK h1 h2,Option.bind_some,Option.bind_some,if_pos ⟨by omega,by omega⟩]
   cases e:goneG gs u g.2 with
   | true => exact .inr ⟨[],g,r,rfl,by simp,e,by rw [if_pos rfl]; rfl⟩
   | false =>
     rw [if_neg (by simp),up1 (by omega)]
     rcases rest4_loop hK h1 h2 hl r (j+1) k h5 (by simpa using hk) with ⟨h6,h7⟩ | ⟨pre,c,post,h6,h7,h8,h9⟩
     ·exact .inl ⟨h6,fun c hc=>(List.mem_cons.1 hc).elim (fun q=>q▸e) (h7 c)⟩
     ·refine .inr ⟨g :: pre,c,post,by rw [h6]; rfl,fun c hc=>(List.mem_cons.1 hc).elim (fun q=>q▸e) (h7 c),h8,by rw [h9,List.length_cons]; congr 2; omega⟩
theorem del_loop {K:Nat} {gs u:List Int} (hK:100000≤K) (h1:gs.length≤1000) (h2:u.length≤1000):∀ (r:List (Int×Int)) (i j k:Nat) (s:List (Int×Int)),s.drop j=r→i<j→j≤s.length→s.length≤50000→r.length<k→
 ∃ s' i',slices_DeleteFunc_rcenginerest4_f8e5e.l0 K gs u k s (i:Int) (j:Int)=some (s',((i':Nat):Int))∧i'≤s'.length∧s'.take i'=s.take i++r.filter fun c=>!goneG gs u c.2
 | [],i,j,k+1,s,h,hij,hj,hs,_ => by
   have:=drop_nil h
   exact ⟨s,i,by rw [slices_DeleteFunc_rcenginerest4_f8e5e.l0,if_neg (by simp; omega)],by omega,by simp⟩
 | g :: r,i,j,k+1,s,h,hij,hj,hs,hk => by
   obtain ⟨h3,h4,h5⟩:=drop_cons h ((0:Int),(0:Int))
   rw [slices_DeleteFunc_rcenginerest4_f8e5e.l0,if_pos (by simp; omega),if_pos ⟨by omega,by omega⟩,Int.toNat_natCast,h4,engine_rest_4_sggb_39294,rest1_is hK h1 h2,Option.bind_some,Option.bind_some,up1 (by omega),up1 (by omega)]
   cases e:goneG gs u g.2 with
   | true =>
     rw [if_neg (by simp)]
     obtain ⟨s',i',h6,h7,h8⟩:=del_loop hK h1 h2 r i (j+1) k s h5 (by omega) (by omega) hs (by simpa using hk)
     exact ⟨s',i',h6,h7,by rw [h8]; simp [e]⟩
   | false =>
     rw [if_pos (by simp),if_pos ⟨by omega,by omega⟩,Int.toNat_natCast]
     obtain ⟨s',i',h6,h7,h8⟩:=del_loop hK h1 h2 r (i+1) (j+1) k (s.set i (g.1,g.2)) (by rw [List.drop_set_of_lt (by omega)]; exact h5) (by omega) (by simp; omega) (by simpa using hs) (by simpa using hk)
     refine ⟨s',i',h6,h7,?_⟩
     rw [h8,List.take_add_one,List.take_set_of_le (Nat.le_refl i),List.getElem?_set_self (by omega)]
     simp [e]
theorem delf_is {K:Nat} {gs u:List Int} {s:List (Int×Int)} (hK:100000≤K) (h1:gs.length≤1000) (h2:u.length≤1000) (hs:s.length≤50000):slices_DeleteFunc_rcenginerest4_f8e5e K s gs u=some (s.filter fun c=>!goneG gs u c.2):=by
 rw [slices_DeleteFunc_rcenginerest4_f8e5e,slices_IndexFunc_rcenginerest4_f8e5e]
 rcases rest4_loop hK h1 h2 hs s 0 K rfl (by omega) with ⟨h6,h7⟩ | ⟨pre,c,post,h6,h7,h8,h9⟩
 ·have h6:slices_IndexFunc_rcenginerest4_f8e5e.l0 K s gs u K 0=_:=h6
  rw [h6,Option.bind_some,if_pos (by simp)]
  congr 1
  exact (List.filter_eq_self.2 fun c hc=>by simp [h7 c hc]).symm
 ·have h9:slices_IndexFunc_rcenginerest4_f8e5e.l0 K s gs u K 0=some ((0+pre.length:Nat):Int):=h9
  rw [Nat.zero_add] at h9
  have hl:pre.length<s.length:=by rw [h6]; simp
  obtain ⟨s',i',k1,k2,k3⟩:=del_loop hK h1 h2 post pre.length (pre.length+1) K s (by rw [h6]; simp) (by omega) (by omega) hs (by rw [h6] at hs; simp at hs; omega)
  rw [h9,Option.bind_some,if_neg (by simp),up1 (by omega),k1,Option.bind_some]
  simp only
  have hpl:(putAt s' (List.replicate (s'.length - Int.toNat (i':Int)) ((0:Int),(0:Int))) (Int.toNat (i':Int))).length=s'.length:=by
   simp [putAt]; omega
  rw [if_pos ⟨by omega,by omega,by rw [hpl]; omega⟩]
  congr 1
  have e1:s.take pre.length=pre:=by rw [h6]; simp
  simp only [Int.toNat_natCast,Nat.sub_zero,List.drop_zero,putAt]
  rw [List.take_append_of_le_length (by simp; omega),List.take_take,Nat.min_self,k3,e1,h6,List.filter_append,List.filter_cons,h8]
  simp only [Bool.not_true,Bool.false_eq_true,if_false]
  congr 1
  exact (List.filter_eq_self.2 fun c hc=>by simp [h7 c hc]).symm
def kpA (gs u:List Int) (a:Atm):Bool:=!goneG gs u a.2.2.1&&!a.2.2.2.2.any fun c=>staysG gs u c.2
def lfA (gs u:List Int) (a:Atm):Atm:=(a.1,(a.2.1,(if gs.contains a.2.2.1=true then -1 else a.2.2.1,(a.2.2.2.1,a.2.2.2.2.filter fun c=>!goneG gs u c.2))))
def rsL (gs u:List Int) (l:List Atm):List Atm:=(l.filter (kpA gs u)).map (lfA gs u)
theorem rsL_cons {gs u:List Int} {a:Atm} {l:List Atm}:rsL gs u (a :: l)=if kpA gs u a=true then lfA gs u a :: rsL gs u l else rsL gs u l:=by
 unfold rsL
 rw [List.filter_cons]
 split <;> rfl
theorem putAt_one {out:List Atm} {n:Nat} {a:Atm} (h:n<out.length):(putAt out (List.take (out.length - n) [a]) n).take (n+1)=out.take n++[a]∧(putAt out (List.take (out.length - n) [a]) n).length=out.length∧(List.take (out.length - n) [a]).length=1:=by
 obtain ⟨m,hm⟩:∃ m,out.length - n=m+1:=⟨out.length - n - 1,by omega⟩
 have e:List.take (out.length - n) [a]=[a]:=by rw [hm]; simp
 rw [e]
 refine ⟨?_,?_,rfl⟩
 ·unfold putAt
  rw [← List.append_assoc,List.take_append_of_le_length (by simp; omega),List.take_of_length_le (by simp; omega)]
 ·simp [putAt]; omega
theorem keepA_is {K:Nat} {gs u:List Int} {a:Atm} (hK:100000≤K) (h1:gs.length≤1000) (h2:u.length≤1000) (ha:a.2.2.2.2.length≤1000) :
 ((engine_rest_1_gbb_dc736 K a.2.2.1 gs u).bind fun r_45=>if r_45=true then some true else (slices_ContainsFunc_gcenginerest3_dcdc0 K a.2.2.2.2 gs u).bind fun r_49=>some r_49)=some (!kpA gs u a):=by
 obtain ⟨n,h3,h4⟩:=rest3_loop (K:=K) (l:=a.2.2.2.2) hK h1 h2 (by omega) a.2.2.2.2 0 K rfl (by omega)
 have h3:slices_IndexFunc_gcenginerest3_dcdc0.l0 K a.2.2.2.2 gs u K 0=some n:=h3
 rw [rest1_is hK h1 h2,Option.bind_some,slices_ContainsFunc_gcenginerest3_dcdc0,slices_IndexFunc_gcenginerest3_dcdc0,h3,Option.bind_some,Option.bind_some,h4]
 unfold kpA
 cases goneG gs u a.2.2.1 <;> simp
theorem rest_loop {K:Nat} {gs u:List Int} {l:List Atm} (hK:100000≤K) (h1:gs.length≤1000) (h2:u.length≤1000) (hl:Aok l):∀ (r:List Atm) (j k n:Nat) (out:List Atm),l.drop j=r→j≤l.length→r.length<k→out.length=l.length→n≤j→
 engine_rest_ggr.l0 K l gs u k out (n:Int) (j:Int)=some (out.take n++rsL gs u r)
 | [],j,k+1,n,out,h,hj,_,ho,hn => by
   have:=drop_nil h
   have hlen:=hl.1
   rw [engine_rest_ggr.l0,if_neg (by simp; omega),if_pos ⟨by omega,by omega⟩]
   simp [rsL]
 | a :: r,j,k+1,n,out,h,hj,hk,ho,hn => by
   obtain ⟨h3,h4,h5⟩:=drop_cons h zA
   have hlen:=hl.1
   have ha:=hl.2 a (by have:a∈l.drop j:=by rw [h]; exact List.mem_cons_self
                       exact List.mem_of_mem_drop this)
   have hb:(0:Int)≤(n:Int)∧(n:Int)≤out.length:=⟨by omega,by omega⟩
   rw [engine_rest_ggr.l0,if_pos (by simp; omega),if_pos ⟨by omega,by omega⟩,Int.toNat_natCast,h4,keepA_is hK h1 h2 ha.2,Option.bind_some,up1 (by omega),rsL_cons]
   cases hkp:kpA gs u a with
   | false =>
     rw [if_pos (by simp),if_neg (by simp)]
     exact rest_loop hK h1 h2 hl r (j+1) k n out h5 (by omega) (by simpa using hk) ho (by omega)
   | true =>
     rw [if_neg (by simp),if_pos rfl,clone_is ha.2,Option.bind_some,delf_is hK h1 h2 (by omega),Option.bind_some,contains_is hK (by omega),Option.bind_some]
     simp only [if_pos hb,Int.toNat_natCast]
     have key:∀ y:Atm,y=lfA gs u a→engine_rest_ggr.l0 K l gs u k (putAt out (List.take (out.length - n) [y]) n) (IntKind.wrap .i64 ((n:Int)+((List.take (out.length - n) [y]).length:Nat))) ((j+1:Nat):Int)=some (out.take n++lfA gs u a :: rsL gs u r):=by
      intro y hy
      obtain ⟨p1,p2,p3⟩:=putAt_one (out:=out) (n:=n) (a:=y) (by omega)
      rw [p3,show ((n:Int)+((1:Nat):Int))=(n:Int)+1 by omega,up1 (by omega),rest_loop hK h1 h2 hl r (j+1) k (n+1) _ h5 (by omega) (by simpa using hk) (by rw [p2]; exact ho) (by omega),p1,hy]
      simp
     cases hgc:gs.contains a.2.2.1 with
     | true => rw [if_pos rfl]; exact key _ (by simp only [lfA,hgc]; rfl)
     | false => rw [if_neg (by simp)]; exact key _ (by simp only [lfA,hgc]; rfl)
theorem rest_is {K:Nat} {gs u:List Int} {l:List Atm} (hK:100000≤K) (h1:gs.length≤1000) (h2:u.length≤1000) (hl:Aok l):engine_rest_ggr K l gs u=some (rsL gs u l):=by
 have hlen:=hl.1
 rw [engine_rest_ggr,if_pos ⟨by omega,by omega,by omega,by omega⟩]
 exact rest_loop hK h1 h2 hl l 0 K 0 _ rfl (by omega) (by omega) (by simp) (by omega)
def tggR (l:List Atm) (us:List (List Int)) (f:Int) (g o:List Int) (x:Int):Int×Int×List Atm×List (List Int)×List Int×List Int:=
 if (tgR us f g x).2.1≠0 then (0,(tgR us f g x).2.1,l,us,g,o) else (hdR us f+1,0,l,us++[tgS x (lsR us)],g,o)
def fgtR (l:List Atm) (us:List (List Int)) (f:Int) (g o gs:List Int):Int×List Atm×List (List Int)×Int×List Int×List Int:=
 if okF g [] gs=true then (0,rsL gs (lsR us) l,(fgR (hdR us f) (fgL gs []) (lsR us) g o).2) else (210,l,us,f,g,o)
theorem tgR_ok {us:List (List Int)} {f:Int} {g:List Int} {x:Int} (h:(tgR us f g x).2.1=0):tgR us f g x=(hdR us f+1,0,us++[tgS x (lsR us)])∧x∈g∧hdR us f<200:=by
 unfold tgR at *
 split at h
 ·rename_i h1
  split at h
  ·simp at h
  ·rename_i h2
   rw [if_pos h1,if_neg h2]
   exact ⟨rfl,by simpa using h1,by omega⟩
 ·simp at h
theorem tgS_ok {x:Int} {u g:List Int} (h:u.Pairwise (·< ·)) (hu:∀ y∈u,y∈g) (hx:x∈g):(tgS x u).Pairwise (·< ·)∧∀ y∈tgS x u,y∈g:=by
 unfold tgS
 split
 ·exact ⟨h.filter _,fun y hy=>hu y (List.mem_filter.1 hy).1⟩
 ·exact ⟨insS_sorted h,fun y hy=>by
   rcases mem_insS.1 hy with rfl | hy
   ·exact hx
   ·exact hu y hy⟩
theorem Atk.up {h h':Int} {a:Atm} (A:Atk h a) (hh:h≤h'):Atk h' a:=
 ⟨A.s1,A.s4,A.r0,by have:=A.r1; omega,A.g0,A.g1,by have:=A.n; omega,fun c hc=>by have:=A.c c hc; omega⟩
theorem toggle_inv {l:List Atm} {us:List (List Int)} {f:Int} {g o:List Int} {x:Int} (h:Ivt l us f g o) (hx:x∈g) (hh:hdR us f<200):Ivt l (us++[tgS x (lsR us)]) f g o:=by
 refine ⟨by simp,h.lo,by rw [hdR_app]; omega,h.gg,h.oo,fun u hu=>?_,h.len,fun a ha=>(h.aa a ha).up (by rw [hdR_app]; omega)⟩
 rcases List.mem_append.1 hu with hu | hu
 ·exact h.uu u hu
 ·simp at hu
  subst hu
  have:=h.uu _ (ls_mem h.ne)
  exact tgS_ok this.1 this.2 hx
theorem etoggle_is {K:Nat} {l:List Atm} {us:List (List Int)} {f:Int} {g o:List Int} {x:Int} (hK:100000≤K) (h:Ivt l us f g o):engine_Engine_Toggle_bg_d34b6 K l us f g o x=some (tggR l us f g o x):=by
 have R:=h.rok
 have A:=h.aok
 rw [engine_Engine_Toggle_bg_d34b6,engCopy_is hK R A,Option.bind_some]
 simp only
 rw [toggle_is R h.gg.2,Option.bind_some]
 unfold tggR
 by_cases ht:(tgR us f g x).2.1=0
 ·obtain ⟨e,hx,hh⟩:=tgR_ok ht
  have I2:=toggle_inv h hx hh
  have hfit:=I2.vtx (rev:=hdR (us++[tgS x (lsR us)]) f) (u:=lsR (us++[tgS x (lsR us)]))
  rw [if_neg (by simpa using ht),if_neg (by simpa using ht),e]
  simp only
  rw [fits_is hK I2.rok A,Option.bind_some,if_neg (by unfold nowT; simp; omega)]
 ·rw [if_pos (by simpa using ht),if_pos (by simpa using ht)]
theorem eundone_is {K:Nat} {l:List Atm} {us:List (List Int)} {f:Int} {g o:List Int} (h:Rok us f g o):engine_Engine_Undone_b_0db29 K l us f g o=some (lsR us):=by
 rw [engine_Engine_Undone_b_0db29,engHead_is h,Option.bind_some,undone_is h,Option.bind_some,un_head h.ne]
theorem eforget_is {K:Nat} {l:List Atm} {us:List (List Int)} {f:Int} {g o gs:List Int} (hK:100000≤K) (h:Ivt l us f g o) (hg:gs.length≤1000):engine_Engine_Forget_bg_91ca6 K l us f g o gs=some (fgtR l us f g o gs):=by
 have R:=h.rok
 have hls:=lsR_len R
 rw [engine_Engine_Forget_bg_91ca6,eundone_is R,Option.bind_some,forget_is hK R h.gg.2 hg,Option.bind_some]
 unfold fgtR foR
 cases okF g [] gs with
 | false => rfl
 | true =>
   rw [if_pos rfl,if_pos rfl,if_neg (by simp [fgR]),rest_is hK hg (by omega) h.aok,Option.bind_some]
theorem edit_inv {l:List Atm} {us:List (List Int)} {f:Int} {g o:List Int} {base grp rank:Int} {c:List Chg} (h:Ivt l us f g o) :
 Ivt (edtR l us f g o base grp rank c).2.2.1 (edtR l us f g o base grp rank c).2.2.2.1 f (edtR l us f g o base grp rank c).2.2.2.2.1 (edtR l us f g o base grp rank c).2.2.2.2.2:=by
 unfold edtR
 repeat' split
 all_goals first | exact h | skip
 rename_i h1 h2 h3 h4 h5
 obtain ⟨ead,k1,k2,k3,k4⟩:=adR_ok (show (adR us f g o grp).2.1=0 by simpa using h3)
 have G:=chk_ok (show chkE (ofBytes (vtx base (unR us f base) l)) c=0 by simpa using h2)
 have haT:=upS_atk (rev:=base) (u:=unR us f base) (c:=c) (w:=hdR us f+1) (g:=grp) (rank:=rank) h.aa rfl (by have:=h.lo; have:=h.ne; unfold hdR; omega) ⟨k2,k3⟩ G.vt
 refine ⟨by simp,h.lo,by rw [hdR_app]; omega,h.gg.ins ⟨k2,k3⟩,h.oo,fun u hu=>?_,by simp only; omega,fun a ha=>by rw [hdR_app]; exact haT a ha⟩
 have hsub:∀ u∈us,u.Pairwise (·< ·)∧∀ x∈u,x∈insS grp g:=fun u hu=>⟨(h.uu u hu).1,fun x hx=>mem_insS.2 (.inr ((h.uu u hu).2 x hx))⟩
 rcases List.mem_append.1 hu with hu | hu
 ·exact hsub u hu
 ·simp at hu
  subst hu
  exact hsub _ (ls_mem h.ne)
theorem tggR_inv {l:List Atm} {us:List (List Int)} {f:Int} {g o:List Int} {x:Int} (h:Ivt l us f g o):Ivt (tggR l us f g o x).2.2.1 (tggR l us f g o x).2.2.2.1 f (tggR l us f g o x).2.2.2.2.1 (tggR l us f g o x).2.2.2.2.2:=by
 unfold tggR
 split
 ·exact h
 ·rename_i ht
  obtain ⟨e,hx,hh⟩:=tgR_ok (show (tgR us f g x).2.1=0 by simpa using ht)
  exact toggle_inv h hx hh
theorem fgL_grp:∀ {gs o:List Int},Grp o→(∀ x∈gs,0≤x∧x<60)→Grp (fgL gs o)
 | [],o,h,_ => h
 | x :: gs,o,h,hg => by
   simp only [fgL,List.foldl_cons]
   exact fgL_grp (h.ins (hg x List.mem_cons_self)) fun y hy=>hg y (List.mem_cons_of_mem _ hy)
theorem lfA_atk {gs u:List Int} {a:Atm} {h:Int} (A:Atk h a):Atk h (lfA gs u a):=by
 have h5:=A.g0; have h6:=A.g1; have h7:=A.n
 refine ⟨A.s1,A.s4,A.r0,A.r1,?_,?_,?_,fun c hc=>A.c c (List.mem_filter.1 hc).1⟩
 ·simp only [lfA]; split <;> omega
 ·simp only [lfA]; split <;> omega
 ·have:=List.length_filter_le (fun c:Int×Int=>!goneG gs u c.2) a.2.2.2.2
  simp only [lfA]
  omega
theorem fgtR_inv {l:List Atm} {us:List (List Int)} {f:Int} {g o gs:List Int} (h:Ivt l us f g o):Ivt (fgtR l us f g o gs).2.1 (fgtR l us f g o gs).2.2.1 (fgtR l us f g o gs).2.2.2.1 (fgtR l us f g o gs).2.2.2.2.1 (fgtR l us f g o gs).2.2.2.2.2:=by
 unfold fgtR
 split
 ·rename_i hok
  have hs:=okF_sub hok
  have hmem:∀ x,x∈fgL gs []↔x∈gs:=fun x=>by rw [mem_fgL]; simp
  have hd:hdR [(lsR us).filter fun x=>!(fgL gs []).contains x] (hdR us f)=hdR us f:=by unfold hdR; simp
  have hl:=h.uu _ (ls_mem h.ne)
  refine ⟨by simp [fgR],by have:=h.lo; have:=h.ne; simp only [fgR]; unfold hdR; omega,?_,h.gg.filter,?_,fun u hu=>?_,?_,fun a ha=>?_⟩
  ·simp only [fgR]; rw [hd]; exact h.hi
  ·refine fgL_grp h.oo fun x hx=>?_
   exact h.gg.2 x (hs.1 x ((hmem x).1 hx)).1
  ·simp only [fgR,List.mem_singleton] at hu
   subst hu
   refine ⟨hl.1.filter _,fun x hx=>?_⟩
   have hx:=List.mem_filter.1 hx
   exact List.mem_filter.2 ⟨hl.2 x hx.1,hx.2⟩
  ·have:=List.length_filter_le (kpA gs (lsR us)) l
   have:=h.len
   simp only [rsL,List.length_map]
   omega
  ·simp only [fgR]
   rw [hd]
   obtain ⟨b,hb,rfl⟩:=List.mem_map.1 (show a∈(l.filter (kpA gs (lsR us))).map (lfA gs (lsR us)) from ha)
   exact lfA_atk (h.aa b (List.mem_filter.1 hb).1)
 ·exact h
abbrev Stp:=Int×(Int×(Int×(Int×(List Chg×List Int))))
abbrev zT:Stp:=((0:Int),((0:Int),((0:Int),((0:Int),(([]:List Chg),([]:List Int))))))
abbrev Eng:=List Atm×List (List Int)×Int×List Int×List Int
theorem up2 {j:Nat} (h:j<4611686018427387904):IntKind.wrap .i64 ((j:Int)+1)=((j+1:Nat):Int):=by
 rw [w64 (by omega) (by omega)]; omega
def fwC (c:List Chg):Bool:=c.all (fun x=>decide (x.2.2.size≤60))&&decide (c.length≤12)
def fwS (l:List Stp):Bool:=l.all (fun s=>fwC s.2.2.2.2.1&&decide (s.2.2.2.2.2.length≤20))&&decide (l.length≤30)
theorem fewC_loop {K:Nat} {c:List Chg} (hc:c.length<4611686018427387904):∀ (r:List Chg) (j k:Nat),c.drop j=r→r.length<k→palinodetop_fewChanges.l0 K c k (j:Int)=some (r.all (fun x=>decide (x.2.2.size≤60))&&decide (c.length≤12))
 | [],j,k+1,h,_ => by
   have:=drop_nil h
   rw [palinodetop_fewChanges.l0,if_neg (by simp; omega)]
   simp
   omega
 | x :: r,j,k+1,h,hk => by
   obtain ⟨h1,h2,h3⟩:=drop_cons h zC
   rw [palinodetop_fewChanges.l0,if_pos (by simp; omega),if_pos ⟨by omega,by omega⟩,Int.toNat_natCast,h2,up2 (by omega),fewC_loop hc r (j+1) k h3 (by simpa using hk)]
   by_cases e:x.2.2.size≤60
   ·rw [if_neg (by simp; omega)]; simp [e]
   ·rw [if_pos (by simp; omega)]; simp [e]
theorem fewC_is {K:Nat} {c:List Chg} (hK:c.length<K) (hc:c.length<4611686018427387904):palinodetop_fewChanges K c=some (fwC c):=fewC_loop hc c 0 K rfl hK
theorem fewS_loop {K:Nat} {l:List Stp} (hl:l.length<4611686018427387904) (hc:∀ s∈l,s.2.2.2.2.1.length<K∧s.2.2.2.2.1.length<4611686018427387904):∀ (r:List Stp) (j k:Nat),l.drop j=r→r.length<k→palinodetop_fewSteps.l0 K l k (j:Int)=some (r.all (fun s=>fwC s.2.2.2.2.1&&decide (s.2.2.2.2.2.length≤20))&&decide (l.length≤30))
 | [],j,k+1,h,_ => by
   have:=drop_nil h
   rw [palinodetop_fewSteps.l0,if_neg (by simp; omega)]
   simp
   omega
 | x :: r,j,k+1,h,hk => by
   obtain ⟨h1,h2,h3⟩:=drop_cons h zT
   have hx:=hc x (by have:x∈l.drop j:=by rw [h]; exact List.mem_cons_self
                     exact List.mem_of_mem_drop this)
   have hb:0≤(j:Int)∧(j:Int)<l.length:=⟨by omega,by omega⟩
   rw [palinodetop_fewSteps.l0,if_pos (by simp; omega),Int.toNat_natCast,h2,fewC_is hx.1 hx.2,Option.bind_some,up2 (by omega),fewS_loop hl hc r (j+1) k h3 (by simpa using hk)]
   simp only [if_pos hb]
   cases e:fwC x.2.2.2.2.1 with
   | false => simp [e]
   | true =>
     by_cases e2:x.2.2.2.2.2.length≤20
     ·simp [e,e2]; omega
     ·simp [e,e2]; omega
def wtS (l:List Stp):Nat:=(l.map fun s=>s.2.2.2.2.1.length+1).sum
theorem wtS_mem:∀ {l:List Stp} {s:Stp},s∈l→s.2.2.2.2.1.length<wtS l
 | a :: l,s,h => by
   simp only [wtS,List.map_cons,List.sum_cons]
   rcases List.mem_cons.1 h with rfl | h
   ·omega
   ·have:=wtS_mem h
    unfold wtS at this
    omega
theorem wtS_len:∀ {l:List Stp},l.length≤wtS l
 | [] => by simp [wtS]
 | a :: l => by
   have:=wtS_len (l:=l)
   simp only [wtS,List.map_cons,List.sum_cons,List.length_cons] at *
   omega
theorem fewS_is {K:Nat} {l:List Stp} (hK:wtS l+100000≤K) (hl:l.length<4611686018427387904) (hc:∀ s∈l,s.2.2.2.2.1.length<4611686018427387904):palinodetop_fewSteps K l=some (fwS l):=
 fewS_loop hl (fun s hs=>⟨by have:=wtS_mem hs; omega,hc s hs⟩) l 0 K rfl (by have:=wtS_len (l:=l); omega)
def Sok (l:List Stp):Prop:=l.length≤30∧∀ s∈l,Cok s.2.2.2.2.1∧s.2.2.2.2.2.length≤1000
theorem fwC_ok {c:List Chg} (h:fwC c=true):Cok c:=by
 simp only [fwC,Bool.and_eq_true,decide_eq_true_eq,List.all_eq_true] at h
 exact ⟨by omega,fun x hx=>by have:=h.1 x hx; omega⟩
theorem fwS_ok {l:List Stp} (h:fwS l=true):Sok l:=by
 simp only [fwS,Bool.and_eq_true,decide_eq_true_eq,List.all_eq_true] at h
 exact ⟨h.2,fun s hs=>⟨fwC_ok (h.1 s hs).1,by have:=(h.1 s hs).2; omega⟩⟩
def Iv (e:Eng):Prop:=Ivt e.1 e.2.1 e.2.2.1 e.2.2.2.1 e.2.2.2.2
def hdE (e:Eng):Int:=hdR e.2.1 e.2.2.1
def doR (e:Eng) (s:Stp):Int×Int×Eng:=
 if s.1≤4 then
  let r:=edtR e.1 e.2.1 e.2.2.1 e.2.2.2.1 e.2.2.2.2 s.2.1 s.2.2.1 s.2.2.2.1 s.2.2.2.2.1
  (r.1,r.2.1,r.2.2.1,r.2.2.2.1,e.2.2.1,r.2.2.2.2.1,r.2.2.2.2.2)
 else if s.1≤6 then
  let r:=tggR e.1 e.2.1 e.2.2.1 e.2.2.2.1 e.2.2.2.2 s.2.2.1
  (r.1,r.2.1,r.2.2.1,r.2.2.2.1,e.2.2.1,r.2.2.2.2.1,r.2.2.2.2.2)
 else (0,fgtR e.1 e.2.1 e.2.2.1 e.2.2.2.1 e.2.2.2.2 s.2.2.2.2.2)
theorem do_is {K:Nat} {e:Eng} {s:Stp} (hK:100000≤K) (h:Iv e) (hc:Cok s.2.2.2.2.1) (hg:s.2.2.2.2.2.length≤1000) :
 palinodetop_do_bsgggggg_0b63f K e.1 e.2.1 e.2.2.1 e.2.2.2.1 e.2.2.2.2 s.1 s.2.1 s.2.2.1 s.2.2.2.1 s.2.2.2.2.1 s.2.2.2.2.2=some (doR e s):=by
 unfold palinodetop_do_bsgggggg_0b63f doR
 by_cases h1:s.1≤4
 ·rw [if_pos (by simpa using h1),if_pos h1,edit_is hK h hc,Option.bind_some]
 ·rw [if_neg (by simpa using h1),if_neg h1]
  by_cases h2:s.1≤6
  ·rw [if_pos (by simpa using h2),if_pos h2,etoggle_is hK h,Option.bind_some]
  ·rw [if_neg (by simpa using h2),if_neg h2,eforget_is hK h hg,Option.bind_some]
theorem do_inv {e:Eng} {s:Stp} (h:Iv e):Iv (doR e s).2.2:=by
 unfold doR
 split
 ·exact edit_inv h
 ·split
  ·exact tggR_inv h
  ·exact fgtR_inv h
theorem hd_one {f:Int} {u:List Int}:hdR [u] f=f:=by unfold hdR; simp
def newE:Eng:=([],[[]],0,[],[])
theorem new_inv:Iv newE:=by
 refine ⟨by decide,by decide,by decide,⟨List.Pairwise.nil,fun x hx=>(List.not_mem_nil hx).elim⟩,⟨List.Pairwise.nil,fun x hx=>(List.not_mem_nil hx).elim⟩,fun u hu=>?_,by decide,fun x hx=>(List.not_mem_nil hx).elim⟩
 simp only [newE,List.mem_singleton] at hu
 subst hu
 exact ⟨List.Pairwise.nil,by simp⟩
theorem engNew_is {K:Nat}:engine_New K=some ([[]],[],[]):=rfl
theorem Iv.r {e:Eng} (h:Iv e):Rok e.2.1 e.2.2.1 e.2.2.2.1 e.2.2.2.2:=Ivt.rok h
theorem Iv.k {e:Eng} (h:Iv e):Aok e.1:=Ivt.aok h
theorem egroups_is {K:Nat} {e:Eng} (h:Iv e):engine_Engine_Groups_b_0db29 K e.1 e.2.1 e.2.2.1 e.2.2.2.1 e.2.2.2.2=some e.2.2.2.1:=by
 rw [engine_Engine_Groups_b_0db29,groups_is h.r,Option.bind_some]
theorem in_loop {K:Nat} {l:List Int} {n:Int} (hl:l.length≤50000):∀ (r:List Int) (j k:Nat),l.drop j=r→r.length<k→palinoderef17_In_rg.l0 K l n k (j:Int)=some (r.contains n)
 | [],j,k+1,h,_ => by
   have:=drop_nil h
   rw [palinoderef17_In_rg.l0,if_neg (by simp; omega)]
   rfl
 | g :: r,j,k+1,h,hk => by
   obtain ⟨h1,h2,h3⟩:=drop_cons h (0:Int)
   rw [palinoderef17_In_rg.l0,if_pos (by simp; omega),if_pos ⟨by omega,by omega⟩,Int.toNat_natCast,h2,up1 (by omega),in_loop hl r (j+1) k h3 (by simpa using hk)]
   by_cases e:g=n
   ·rw [if_pos (by simpa using e)]; simp [e]
   ·rw [if_neg (by simpa using e),List.contains_cons,beq_eq_false_iff_ne.2 (Ne.symm e),Bool.false_or]
theorem in_is {K:Nat} {l:List Int} {n:Int} (hK:100000≤K) (hl:l.length≤50000):palinoderef17_In_rg K l n=some (l.contains n):=in_loop hl l 0 K rfl (by omega)
def pmk (mask x:Int):Bool:=(IntKind.wrap .u64 (BitVec.toNat (BitVec.ofInt (IntKind.bits .u64) (Int.fdiv mask (2 ^ min (Int.toNat (IntKind.wrap .u64 x)) (IntKind.bits .u64)))&&& BitVec.ofInt (IntKind.bits .u64) (1:Int))))==(1:Int)
theorem wu64 {x:Int}:0≤IntKind.wrap .u64 x:=by
 simp only [IntKind.wrap,IntKind.bits,IntKind.signed]
 simp
 omega
theorem known_K {K:Nat} (hK:100000≤K):palinodetop_known K=some true:=by
 obtain ⟨n,rfl⟩:∃ n,K=n+40:=⟨K - 40,by omega⟩
 exact known_is n
abbrev kChg:Kd:=.pair (.int .i64) (.pair (.int .i64) .str)
abbrev kStp:Kd:=.pair (.int .i64) (.pair (.int .i64) (.pair (.int .i64) (.pair (.int .i64) (.pair (.slice kChg) (.slice (.int .i64))))))
theorem okC {c:List Chg} (h:Kd.ok (.slice kChg) c):c.length<4611686018427387904:=by
 have h1:=h.1
 have:1≤Kd.bytes kChg:=by decide
 have:=Nat.le_mul_of_pos_right c.length this
 omega
theorem okS {l:List Stp} (h:Kd.ok (.slice kStp) l):l.length<4611686018427387904∧∀ s∈l,s.2.2.2.2.1.length<4611686018427387904:=by
 have h1:=h.1
 have:1≤Kd.bytes kStp:=by decide
 have:=Nat.le_mul_of_pos_right l.length this
 refine ⟨by omega,fun s hs=>okC (h.2 s hs).2.2.2.2.1⟩
theorem contains_ins {x y:Int} {u:List Int} (h:x≠y):(insS y u).contains x=u.contains x:=by
 have:x∈insS y u↔x∈u:=by rw [mem_insS]; simp [h]
 cases h1:u.contains x <;> cases h2:(insS y u).contains x <;> simp_all
theorem contains_del {x y:Int} {u:List Int} (h:x≠y):(delS y u).contains x=u.contains x:=by
 have:x∈delS y u↔x∈u:=by rw [mem_delS]; simp [h]
 cases h1:u.contains x <;> cases h2:(delS y u).contains x <;> simp_all
theorem u8_ok {x:Int} (h:Kd.ok (.int .u8) x):0≤x∧x<256:=by
 have h8:(Lit.int .u8 x).wf=true:=h
 simp [Lit.wf] at h8
 have e1:IntKind.u8.min=0:=by decide
 have e2:IntKind.u8.max=255:=by decide
 omega
def wo (gs u:List Int):List Int:=u.filter fun x=>!gs.contains x
theorem wo_contains {gs u:List Int} {x:Int} (h:gs.contains x=false):(wo gs u).contains x=u.contains x:=by
 have hx:x∉gs:=by simpa using h
 have:x∈wo gs u↔x∈u:=by simp [wo,List.mem_filter,hx]
 cases h1:(wo gs u).contains x <;> cases h2:u.contains x <;> simp_all
theorem holds_wo {gs u:List Int} {x:Int} (h:gs.contains x=false):holds x (wo gs u)=holds x u:=by
 unfold holds
 rw [wo_contains h]
theorem contains_ne {gs:List Int} {x:Int} (hm:(-1:Int)∉gs) (h:gs.contains x=true):(x==-1)=false:=by
 rw [beq_eq_false_iff_ne]
 rintro rfl
 exact hm (by simpa using h)
def Old (gs:List Int) (h0:Int) (a:Atm):Prop:=(gs.contains a.2.2.1=true→a.2.1≤h0)∧∀ c∈a.2.2.2.2,gs.contains c.2=true→c.1≤h0
theorem vis_fgt {gs u0 u:List Int} {h0 r:Int} {a:Atm} (hm:(-1:Int)∉gs) (hu:∀ x∈gs,u.contains x=u0.contains x) (hr:h0≤r) (ho:Old gs h0 a):vis r u a=(kpA gs u0 a&&vis r (wo gs u) (lfA gs u0 a)):=by
 have hu':∀ x,gs.contains x=true→u.contains x=u0.contains x:=fun x hx=>hu x (by simpa using hx)
 -- the group
 have h1:∀ x,gs.contains x=true→holds x u = !u0.contains x:=fun x hx=>by
  unfold holds
  rw [contains_ne hm hx,Bool.false_or,hu' x hx]
 have hg:holds a.2.2.1 u=(!goneG gs u0 a.2.2.1&&holds (lfA gs u0 a).2.2.1 (wo gs u)):=by
  simp only [lfA,goneG]
  cases hx:gs.contains a.2.2.1 with
  | true =>
    rw [h1 _ hx,if_pos rfl]
    have:holds (-1) (wo gs u)=true:=by unfold holds; simp
    rw [this,Bool.and_true,Bool.true_and]
  | false =>
    rw [if_neg (by simp),Bool.false_and,Bool.not_false,Bool.true_and,holds_wo hx]
 -- the cuts
 have hc:∀ l:List (Int×Int),(∀ c∈l,gs.contains c.2=true→c.1≤h0)→(!l.any (cutv r u))=(!(l.any fun c=>staysG gs u0 c.2)&&!((l.filter fun c=>!goneG gs u0 c.2).any (cutv r (wo gs u)))):=by
  intro l
  induction l with
  | nil => intro _; rfl
  | cons c l ih =>
    intro hl
    have ih:=ih fun c hc=>hl c (List.mem_cons_of_mem _ hc)
    have hcl:=hl c List.mem_cons_self
    rw [List.any_cons,Bool.not_or,ih,List.any_cons,List.filter_cons]
    have e1:cutv r u c=(decide (c.1≤r)&&holds c.2 u):=rfl
    have e2:cutv r (wo gs u) c=(decide (c.1≤r)&&holds c.2 (wo gs u)):=rfl
    cases hx:gs.contains c.2 with
    | true =>
      have e3:goneG gs u0 c.2=u0.contains c.2:=by unfold goneG; rw [hx,Bool.true_and]
      have e4:staysG gs u0 c.2 = !u0.contains c.2:=by unfold staysG; rw [hx,Bool.true_and]
      rw [e1,h1 _ hx,e3,e4,decide_eq_true (show c.1≤r by have:=hcl hx; omega),Bool.true_and]
      cases u0.contains c.2 with
      | true => rw [if_neg (by simp)]; simp
      | false => simp
    | false =>
      have e3:goneG gs u0 c.2=false:=by unfold goneG; rw [hx,Bool.false_and]
      have e4:staysG gs u0 c.2=false:=by unfold staysG; rw [hx,Bool.false_and]
      rw [e3,e4,if_pos (by simp),List.any_cons,e1,e2,holds_wo hx]
      cases (decide (c.1≤r)&&holds c.2 u) <;> simp
 have hcut:=hc _ ho.2
 unfold vis
 rw [hg,hcut]
 unfold kpA
 have e5:(lfA gs u0 a).2.1=a.2.1:=rfl
 have e6:(lfA gs u0 a).2.2.2.2=a.2.2.2.2.filter fun c=>!goneG gs u0 c.2:=rfl
 rw [e5,e6]
 cases decide (a.2.1≤r) <;> cases goneG gs u0 a.2.2.1 <;> cases holds (lfA gs u0 a).2.2.1 (wo gs u) <;> cases (a.2.2.2.2.any fun c=>staysG gs u0 c.2) <;> simp
theorem lfA_size {gs u0:List Int} {a:Atm}:(lfA gs u0 a).1=a.1:=rfl
theorem rsL_app {gs u:List Int} {l m:List Atm}:rsL gs u (l++m)=rsL gs u l++rsL gs u m:=by
 unfold rsL
 rw [List.filter_append,List.map_append]
theorem vtx_fgt {gs u0 u:List Int} {h0 r:Int} (hm:(-1:Int)∉gs) (hu:∀ x∈gs,u.contains x=u0.contains x) (hr:h0≤r):∀ {l:List Atm},(∀ a∈l,Old gs h0 a)→vtx r u l=vtx r (wo gs u) (rsL gs u0 l)
 | [],_ => rfl
 | a :: l,ho => by
   have ih:=vtx_fgt hm hu hr (l:=l) fun b hb=>ho b (List.mem_cons_of_mem _ hb)
   have hv:=vis_fgt hm hu hr (ho a List.mem_cons_self)
   rw [rsL_cons]
   simp only [vtx]
   rw [hv,ih]
   cases kpA gs u0 a with
   | false => simp
   | true => simp [vtx]; rfl
theorem ctB_fgt {gs u0 u:List Int} {h0 r:Int} {c:List Chg} {w g:Int} (hm:(-1:Int)∉gs) (hu:∀ x∈gs,u.contains x=u0.contains x) (hr:h0≤r) (hg:gs.contains g=false):∀ {l:List Atm} {p:Int},(∀ a∈l,Old gs h0 a)→
 rsL gs u0 (ctA (w,g) (ctB r u c p l) l)=ctA (w,g) (ctB r (wo gs u) c p (rsL gs u0 l)) (rsL gs u0 l)
 | [],p,_ => rfl
 | a :: l,p,ho => by
   have ih:=fun p=>ctB_fgt (c:=c) (w:=w) hm hu hr hg (l:=l) (p:=p) fun b hb=>ho b (List.mem_cons_of_mem _ hb)
   have hv:=vis_fgt hm hu hr (ho a List.mem_cons_self)
   have k1:kpA gs u0 (addC a (w,g))=kpA gs u0 a:=by
    have:staysG gs u0 g=false:=by unfold staysG; rw [hg,Bool.false_and]
    simp [kpA,addC,this]
   have k2:lfA gs u0 (addC a (w,g))=addC (lfA gs u0 a) (w,g):=by
    have:goneG gs u0 g=false:=by unfold goneG; rw [hg,Bool.false_and]
    simp [lfA,addC,this]
   rw [rsL_cons]
   simp only [ctB]
   cases hk:kpA gs u0 a with
   | false =>
     have hv:vis r u a=false:=by rw [hv,hk,Bool.false_and]
     rw [hv]
     simp only [Bool.false_eq_true,if_false,ctA]
     rw [rsL_cons,hk,if_neg (by simp)]
     exact ih p
   | true =>
     have hv:vis r u a=vis r (wo gs u) (lfA gs u0 a):=by rw [hv,hk,Bool.true_and]
     simp only [if_true,ctB,hv,lfA_size]
     cases vis r (wo gs u) (lfA gs u0 a) with
     | false =>
       simp only [Bool.false_eq_true,if_false,ctA]
       rw [rsL_cons,hk,if_pos rfl,ih p]
     | true =>
       simp only [if_true,ctA]
       rw [rsL_cons,ih]
       cases cvr p c with
       | false => simp only [Bool.false_eq_true,if_false]; rw [hk,if_pos rfl]
       | true => simp only [if_true]; rw [k1,hk,if_pos rfl,k2]
def cn (gs u0:List Int) (l:List Atm) (n:Nat):Nat:=(rsL gs u0 (l.take n)).length
theorem cn_zero {gs u0:List Int} {l:List Atm}:cn gs u0 l 0=0:=rfl
theorem cn_succ {gs u0:List Int} {a:Atm} {l:List Atm} {n:Nat}:cn gs u0 (a :: l) (n+1)=(if kpA gs u0 a=true then 1 else 0)+cn gs u0 l n:=by
 unfold cn
 rw [List.take_succ_cons,rsL_cons]
 split
 ·rw [List.length_cons]; omega
 ·omega
theorem spA_fgt {gs u0 u:List Int} {h0 r f:Int} (hm:(-1:Int)∉gs) (hu:∀ x∈gs,u.contains x=u0.contains x) (hr:h0≤r):∀ {l:List Atm} {p:Int},(∀ a∈l,Old gs h0 a)→
 cn gs u0 l (spA r u f p l)=spA r (wo gs u) f p (rsL gs u0 l)
 | [],p,_ => rfl
 | a :: l,p,ho => by
   have ih:=fun p=>spA_fgt (f:=f) hm hu hr (l:=l) (p:=p) fun b hb=>ho b (List.mem_cons_of_mem _ hb)
   have hv:=vis_fgt hm hu hr (ho a List.mem_cons_self)
   -- nothing counted: nothing there
   have hz:∀ {l:List Atm} {p:Int},cn gs u0 l (spA r u f p l)=0→(∀ a∈l,Old gs h0 a)→spA r u f p l=0:=by
    intro l p h0' ho'
    cases hn:spA r u f p l with
    | zero => rfl
    | succ n =>
      exfalso
      obtain ⟨b,hb1,hb2⟩:=spA_vis hn
      have hbm:=List.mem_of_getElem? hb1
      have hkb:kpA gs u0 b=true:=by
       have:=vis_fgt hm hu hr (ho' b hbm)
       rw [hb2] at this
       cases hk:kpA gs u0 b with
       | true => rfl
       | false => rw [hk,Bool.false_and] at this; cases this
      rw [hn] at h0'
      unfold cn rsL at h0'
      rw [List.length_map,List.length_eq_zero_iff,List.filter_eq_nil_iff] at h0'
      have hlt:n<l.length:=(List.getElem?_eq_some_iff.1 hb1).1
      have:b∈l.take (n+1):=by
       rw [List.mem_take_iff_getElem]
       refine ⟨n,by omega,?_⟩
       exact (List.getElem?_eq_some_iff.1 hb1).2
      exact absurd hkb (h0' b this)
   rw [rsL_cons,spA_cons]
   cases hk:kpA gs u0 a with
   | false =>
     have hv:vis r u a=false:=by rw [hv,hk,Bool.false_and]
     rw [hv]
     simp only [Bool.false_eq_true,if_false,Bool.and_false]
     rw [← ih p]
     by_cases hn:spA r u f p l=0
     ·rw [if_pos hn,hn]; rfl
     ·rw [if_neg hn,cn_succ,hk,if_neg (by simp),Nat.zero_add]
   | true =>
     have hv:vis r u a=vis r (wo gs u) (lfA gs u0 a):=by rw [hv,hk,Bool.true_and]
     rw [if_pos rfl,spA_cons,lfA_size,← hv,← ih]
     generalize (if vis r u a=true then p+(a.1.size:Int) else p)=q
     by_cases hn:spA r u f q l=0
     ·rw [if_pos hn,hn,cn_zero,if_pos rfl]
      cases (decide (p<f)&&vis r u a) with
      | true => simp only [if_true]; rw [cn_succ,hk,if_pos rfl,cn_zero]
      | false => rfl
     ·have hn2:cn gs u0 l (spA r u f q l)≠0:=fun h=>hn (hz h fun b hb=>ho b (List.mem_cons_of_mem _ hb))
      rw [if_neg hn,if_neg hn2,cn_succ,hk,if_pos rfl]
      omega
def Adj (gs u0:List Int) (h0:Int):List Atm→Prop
 | [] => True
 | a :: l => (kpA gs u0 a=false → ∀ b,l.head? = some b → b.2.1 ≤ h0) ∧ Adj gs u0 h0 l
theorem Adj.drop {gs u0:List Int} {h0:Int}:∀ {l:List Atm} {n:Nat},Adj gs u0 h0 l→Adj gs u0 h0 (l.drop n)
 | l,0,h => h
 | [],_+1,_ => trivial
 | a :: l,n+1,h => Adj.drop (n := n) h.2
theorem Adj.take {gs u0:List Int} {h0:Int}:∀ {l:List Atm} {n:Nat},Adj gs u0 h0 l→Adj gs u0 h0 (l.take n)
 | l,0,_ => trivial
 | [],_+1,_ => trivial
 | a :: l,n+1,h => ⟨fun hk b hb => h.1 hk b (by
     cases l with
     | nil => simp at hb
     | cons c l => cases n with
       | zero => simp at hb
       | succ n => simpa using hb),Adj.take (n := n) h.2⟩
theorem Adj.app {gs u0:List Int} {h0:Int}:∀ {l m:List Atm},Adj gs u0 h0 l→Adj gs u0 h0 m→(∀ a,l.getLast? = some a→kpA gs u0 a=true)→Adj gs u0 h0 (l++m)
 | [],m,_,hm,_ => hm
 | [a],m,_,hm,hl => ⟨fun hk => (by have := hl a rfl; rw [this] at hk; cases hk),hm⟩
 | a :: b :: l,m,h,hm,hl => ⟨fun hk c hc => h.1 hk c (by simpa using hc),Adj.app (l := b :: l) h.2 hm fun x hx => hl x (by rw [List.getLast?_cons_cons]; exact hx)⟩
theorem adj_head {gs u0:List Int} {h0:Int}:∀ {l:List Atm},Adj gs u0 h0 l→(∀ a,l.head? = some a→a.2.1≤h0)→∀ b,(rsL gs u0 l).head? = some b→b.2.1≤h0
 | [],_,_,b,hb => by simp [rsL] at hb
 | a :: l,h,ha,b,hb => by
   rw [rsL_cons] at hb
   cases hk:kpA gs u0 a with
   | true =>
     rw [hk,if_pos rfl] at hb
     simp at hb
     subst hb
     exact ha a rfl
   | false =>
     rw [hk,if_neg (by simp)] at hb
     exact adj_head h.2 (h.1 hk) b hb
theorem kp_new {gs u0:List Int} {h0:Int} {a:Atm} (ho:Old gs h0 a) (ha:h0<a.2.1) (hc:∀ c∈a.2.2.2.2,h0<c.1):kpA gs u0 a=true∧lfA gs u0 a=a:=by
 have h1:gs.contains a.2.2.1=false:=by
  cases h:gs.contains a.2.2.1 with
  | false => rfl
  | true => have := ho.1 h; omega
 have h2:∀ c∈a.2.2.2.2,gs.contains c.2=false:=fun c hcm=>by
  cases h:gs.contains c.2 with
  | false => rfl
  | true => have := ho.2 c hcm h; have := hc c hcm; omega
 refine ⟨?_,?_⟩
 ·unfold kpA
  have:goneG gs u0 a.2.2.1=false:=by unfold goneG; rw [h1,Bool.false_and]
  rw [this,Bool.not_false,Bool.true_and,Bool.not_eq_true',List.any_eq_false]
  intro c hcm
  unfold staysG
  rw [h2 c hcm]
  simp
 ·unfold lfA
  rw [h1,if_neg (by simp),List.filter_eq_self.2 (fun c hcm=>by unfold goneG; rw [h2 c hcm]; rfl)]
theorem skp_fgt {gs u0:List Int} {h0 r rank:Int} (hr:h0≤r):∀ {l:List Atm},Adj gs u0 h0 l→(∀ a∈l,Old gs h0 a)→(∀ a∈l,h0<a.2.1→∀ c∈a.2.2.2.2,h0<c.1)→cn gs u0 l (skp r rank l)=skp r rank (rsL gs u0 l)
 | [],_,_,_ => rfl
 | a :: l,h,ho,hn => by
   have ih:=skp_fgt (rank:=rank) hr (l:=l) h.2 (fun b hb=>ho b (List.mem_cons_of_mem _ hb)) (fun b hb=>hn b (List.mem_cons_of_mem _ hb))
   by_cases hc:(decide (a.2.1 > r)&&decide (a.2.2.2.1≤rank))=true
   ·have ha:h0<a.2.1:=by simp at hc; omega
    obtain ⟨k1,k2⟩:=kp_new (u0:=u0) (ho a List.mem_cons_self) ha (hn a List.mem_cons_self ha)
    rw [rsL_cons,k1,if_pos rfl]
    unfold skp at ih ⊢
    rw [List.takeWhile_cons,List.takeWhile_cons,if_pos hc,List.length_cons,cn_succ,k1,if_pos rfl,ih]
    have:(decide ((lfA gs u0 a).2.1 > r)&&decide ((lfA gs u0 a).2.2.2.1≤rank))=true:=hc
    rw [if_pos this,List.length_cons]
    omega
   ·have e1:skp r rank (a :: l)=0:=by unfold skp; rw [List.takeWhile_cons,if_neg hc]; rfl
    rw [e1,cn_zero]
    symm
    rw [rsL_cons]
    cases hk:kpA gs u0 a with
    | true =>
      rw [if_pos rfl]
      unfold skp
      have:¬ (decide ((lfA gs u0 a).2.1 > r)&&decide ((lfA gs u0 a).2.2.2.1≤rank))=true:=hc
      rw [List.takeWhile_cons,if_neg this]
      rfl
    | false =>
      rw [if_neg (by simp)]
      have:=adj_head h.2 (h.1 hk)
      cases hx:rsL gs u0 l with
      | nil => rfl
      | cons b m =>
        have:=this b (by rw [hx]; rfl)
        unfold skp
        rw [List.takeWhile_cons,decide_eq_false (show ¬ b.2.1 > r by omega)]
        rfl
theorem rsL_drop {gs u0:List Int} {l:List Atm} {n:Nat}:rsL gs u0 (l.drop n)=(rsL gs u0 l).drop (cn gs u0 l n):=by
 conv=>rhs; rw [← List.take_append_drop n l,rsL_app]
 unfold cn
 rw [List.take_append_drop,List.drop_left]
theorem cn_add {gs u0:List Int} {l:List Atm} {a b:Nat}:cn gs u0 l (a+b)=cn gs u0 l a+cn gs u0 (l.drop a) b:=by
 unfold cn
 rw [List.take_add,rsL_app,List.length_append]
theorem skp_at {r rank:Int}:∀ {l:List Atm} {i:Nat} {a:Atm},i<skp r rank l→l[i]? = some a→a.2.1 > r
 | [],i,a,h,_ => by simp [skp] at h
 | b :: l,i,a,h,ha => by
   unfold skp at h
   rw [List.takeWhile_cons] at h
   split at h
   ·rename_i hc
    cases i with
    | zero =>
      simp at ha
      subst ha
      simp at hc
      omega
    | succ i => exact skp_at (rank := rank) (l := l) (by unfold skp; simpa using h) (by simpa using ha)
   ·simp at h
structure Ats (gs u0:List Int) (h0:Int) (l:List Atm):Prop where
 old:∀ a∈l,Old gs h0 a
 nw:∀ a∈l,h0<a.2.1→∀ c∈a.2.2.2.2,h0<c.1
 adj:Adj gs u0 h0 l
theorem spt_fgt {gs u0 u:List Int} {h0 r rank f:Int} {l:List Atm} (hm:(-1:Int)∉gs) (hu:∀ x∈gs,u.contains x=u0.contains x) (hr:h0≤r) (A:Ats gs u0 h0 l):cn gs u0 l (spt r u rank f l)=spt r (wo gs u) rank f (rsL gs u0 l):=by
 unfold spt
 rw [cn_add,spA_fgt hm hu hr A.old,skp_fgt hr A.adj.drop (fun a ha=>A.old a (List.mem_of_mem_drop ha)) (fun a ha=>A.nw a (List.mem_of_mem_drop ha)),rsL_drop,spA_fgt hm hu hr A.old]
theorem spt_kept {gs u0 u:List Int} {h0 r rank f:Int} {l:List Atm} (hm:(-1:Int)∉gs) (hu:∀ x∈gs,u.contains x=u0.contains x) (hr:h0≤r) (A:Ats gs u0 h0 l) (h:0<spt r u rank f l):∀ a,l[spt r u rank f l - 1]? = some a→kpA gs u0 a=true:=by
 intro a ha
 have hm':a∈l:=List.mem_of_getElem? ha
 unfold spt at h ha
 by_cases h0':skp r rank (l.drop (spA r u f 0 l))=0
 ·rw [h0',Nat.add_zero] at h ha
  obtain ⟨n,hn⟩:∃ n,spA r u f 0 l=n+1:=⟨spA r u f 0 l - 1,by omega⟩
  obtain ⟨b,hb1,hb2⟩:=spA_vis hn
  rw [hn,Nat.add_sub_cancel,hb1] at ha
  obtain rfl:b=a:=Option.some.inj ha
  have:=vis_fgt hm hu hr (A.old b hm')
  rw [hb2] at this
  cases hk:kpA gs u0 b with
  | true => rfl
  | false => rw [hk,Bool.false_and] at this; cases this
 ·have hr':=skp_at (r:=r) (rank:=rank) (l:=l.drop (spA r u f 0 l)) (i:=skp r rank (l.drop (spA r u f 0 l)) - 1) (a:=a) (by omega) (by
   rw [List.getElem?_drop,← ha]
   congr 1
   omega)
  exact (kp_new (A.old a hm') (by omega) (A.nw a hm' (by omega))).1
def Inc:Nat→List (Nat×List Atm)→Prop
 | _,[] => True
 | p,q :: r => p ≤ q.1 ∧ Inc q.1 r
theorem inc_of {r rank:Int} {u:List Int} {l:List Atm} {w g:Int}:∀ {c:List Chg} {p:Nat},orC c=false→(∀ x∈c,x.1≤x.2.1)→(∀ y,c.head? = some y→p≤spt r u rank y.1 l)→Inc p (c.map fun y=>(spt r u rank y.1 l,putL y.2.2 w g rank))
 | [],_,_,_,_ => trivial
 | [a],p,_,_,hp => ⟨hp a rfl,trivial⟩
 | a :: b :: c,p,ho,hb,hp => ⟨hp a rfl,inc_of (c := b :: c) (orC_cons ho).2 (fun x hx => hb x (List.mem_cons_of_mem _ hx)) fun y hy => by
     simp at hy
     subst hy
     exact spt_mono (Int.le_trans (hb a List.mem_cons_self) (orC_cons ho).1)⟩
theorem spl_fgt {gs u0:List Int} {old:List Atm}:∀ {r:List (Nat×List Atm)} {p:Nat},Inc p r→(∀ q∈r,rsL gs u0 q.2=q.2)→rsL gs u0 (spl old p r)=spl (rsL gs u0 old) (cn gs u0 old p) (r.map fun q=>(cn gs u0 old q.1,q.2))
 | [],p,_,_ => by
   simp only [spl,List.map_nil]
   exact rsL_drop
 | (s,x) :: r,p,hi,hq => by
   obtain ⟨hps,hi⟩:=hi
   have hps:p≤s:=hps
   have hx:rsL gs u0 x=x:=hq _ List.mem_cons_self
   have ih:=spl_fgt (old:=old) hi fun q h=>hq q (List.mem_cons_of_mem _ h)
   simp only [spl,List.map_cons]
   rw [rsL_app,rsL_app,hx,ih]
   congr 1
   have e1:cn gs u0 old s=cn gs u0 old p+(rsL gs u0 ((old.drop p).take (s - p))).length:=by
    have:=cn_add (gs:=gs) (u0:=u0) (l:=old) (a:=p) (b:=s - p)
    rw [show p+(s - p)=s by omega] at this
    exact this
   have e2:rsL gs u0 (old.drop p)=rsL gs u0 ((old.drop p).take (s - p))++rsL gs u0 ((old.drop p).drop (s - p)):=by
    rw [← rsL_app,List.take_append_drop]
   rw [← rsL_drop,e2,e1,Nat.add_sub_cancel_left,List.take_left]
theorem cn_ctA {gs u0:List Int} {w g:Int} (hg:gs.contains g=false):∀ {bs:List Bool} {l:List Atm} {n:Nat},cn gs u0 (ctA (w,g) bs l) n=cn gs u0 l n
 | _,_,0 => rfl
 | [],l,n+1 => by simp only [ctA]
 | b :: bs,[],n+1 => rfl
 | b :: bs,a :: l,n+1 => by
   simp only [ctA]
   rw [cn_succ,cn_succ,cn_ctA hg]
   congr 2
   have:staysG gs u0 g=false:=by unfold staysG; rw [hg,Bool.false_and]
   cases b with
   | false => rfl
   | true => simp [kpA,addC,this]
theorem kp_ctA {gs u0:List Int} {w g:Int} (hg:gs.contains g=false):∀ {bs:List Bool} {l:List Atm} {i:Nat} {a:Atm},(ctA (w,g) bs l)[i]? = some a→∃ b,l[i]? = some b∧kpA gs u0 a=kpA gs u0 b∧a.2.1=b.2.1
 | [],l,i,a,h => ⟨a,by simpa [ctA] using h,rfl,rfl⟩
 | _ :: _,[],i,a,h => by simp [ctA] at h
 | b :: bs,x :: l,0,a,h => by
   simp only [ctA,List.getElem?_cons_zero,Option.some.injEq] at h
   have:staysG gs u0 g=false:=by unfold staysG; rw [hg,Bool.false_and]
   refine ⟨x,rfl,?_,?_⟩
   ·subst h
    cases b with
    | false => rfl
    | true => simp [kpA,addC,this]
   ·subst h
    cases b <;> rfl
 | b :: bs,x :: l,i+1,a,h => by
   simp only [ctA,List.getElem?_cons_succ] at h ⊢
   exact kp_ctA hg h
theorem adj_ctA {gs u0:List Int} {h0 w g:Int} (hg:gs.contains g=false):∀ {bs:List Bool} {l:List Atm},Adj gs u0 h0 l→Adj gs u0 h0 (ctA (w,g) bs l)
 | [],l,h => by simpa [ctA] using h
 | _ :: _,[],_ => trivial
 | b :: bs,x :: l,h => by
   simp only [ctA]
   have hx:kpA gs u0 (if b=true then addC x (w,g) else x)=kpA gs u0 x:=by
    have:staysG gs u0 g=false:=by unfold staysG; rw [hg,Bool.false_and]
    cases b with
    | false => rfl
    | true => simp [kpA,addC,this]
   refine ⟨fun hk c hc=>?_,adj_ctA hg h.2⟩
   rw [hx] at hk
   obtain ⟨y,hy,_,he⟩:=kp_ctA (gs:=gs) (u0:=u0) hg (i:=0) (by rw [← List.head?_eq_getElem?]; exact hc)
   rw [he]
   exact h.1 hk y (by rw [List.head?_eq_getElem?]; exact hy)
theorem adj_spl {gs u0:List Int} {h0:Int} {old:List Atm} (h:Adj gs u0 h0 old):∀ {r:List (Nat×List Atm)} {p:Nat},Inc p r→(∀ q∈r,q.1≤old.length∧(0<q.1→∀ a,old[q.1 - 1]? = some a→kpA gs u0 a=true)∧∀ a∈q.2,kpA gs u0 a=true)→Adj gs u0 h0 (spl old p r)
 | [],p,_,_ => h.drop
 | (s,x) :: r,p,hi,hq => by
   obtain ⟨hps,hi⟩:=hi
   have hps:p≤s:=hps
   obtain ⟨q0,q1,q2⟩:=hq _ List.mem_cons_self
   have q0:s≤old.length:=q0
   have ih:=adj_spl h hi fun q hq'=>hq q (List.mem_cons_of_mem _ hq')
   have ax:Adj gs u0 h0 x:=by
    have:∀ {y:List Atm},(∀ a∈y,kpA gs u0 a=true)→Adj gs u0 h0 y:=by
     intro y
     induction y with
     | nil => intro _; trivial
     | cons a y ihy => intro hy; exact ⟨fun hk => (by rw [hy a List.mem_cons_self] at hk; cases hk),ihy fun b hb => hy b (List.mem_cons_of_mem _ hb)⟩
    exact this q2
   simp only [spl]
   refine Adj.app h.drop.take (Adj.app ax ih fun a ha=>q2 a (List.mem_of_getLast? ha)) fun a ha=>?_
   have hl:((old.drop p).take (s - p)).length=s - p:=by rw [List.length_take,List.length_drop]; omega
   rw [List.getLast?_eq_getElem?,hl] at ha
   have hs:0<s - p:=by
    rcases Nat.eq_zero_or_pos (s - p) with h | h
    ·rw [h,List.take_zero] at ha; simp at ha
    ·exact h
   rw [List.getElem?_take_of_lt (by omega),List.getElem?_drop,show p+(s - p - 1)=s - 1 by omega] at ha
   exact q1 (by show 0<s; omega) a ha
theorem putL_fgt {gs u0:List Int} {s:ByteArray} {w g rank:Int} (hv:uvalid s=true) (hg:gs.contains g=false):(∀ a∈putL s w g rank,kpA gs u0 a=true∧lfA gs u0 a=a)∧rsL gs u0 (putL s w g rank)=putL s w g rank:=by
 have key:∀ a∈putL s w g rank,kpA gs u0 a=true∧lfA gs u0 a=a:=fun a ha=>by
  obtain ⟨_,_,e⟩:=ptL_ok hv a ha
  obtain ⟨t,z⟩:=a
  simp only at e
  subst e
  have:goneG gs u0 g=false:=by unfold goneG; rw [hg,Bool.false_and]
  refine ⟨by simp [kpA,this],?_⟩
  unfold lfA
  rw [hg,if_neg (by simp)]
  rfl
 refine ⟨key,?_⟩
 unfold rsL
 rw [List.filter_eq_self.2 fun a ha=>(key a ha).1]
 conv=>rhs; rw [← List.map_id (putL s w g rank)]
 exact List.map_congr_left fun a ha=>(key a ha).2
theorem upS_fgt {gs u0 u:List Int} {h0 r rank w g:Int} {c:List Chg} {s:ByteArray} {l:List Atm} (hm:(-1:Int)∉gs) (hu:∀ x∈gs,u.contains x=u0.contains x) (hr:h0≤r) (hw:h0<w) (hg:gs.contains g=false) (G:Gok s c) (A:Ats gs u0 h0 l) :
 rsL gs u0 (upS r u c w g rank l)=upS r (wo gs u) c w g rank (rsL gs u0 l)∧Ats gs u0 h0 (upS r u c w g rank l):=by
 have hI:Inc 0 (c.map fun y=>(spt r u rank y.1 l,putL y.2.2 w g rank)):=inc_of G.od (fun x hx=>(G.bd x hx).2.1) fun _ _=>Nat.zero_le _
 constructor
 ·unfold upS
  rw [spl_fgt hI (fun q hq=>by
   obtain ⟨y,hy,rfl⟩:=List.mem_map.1 hq
   exact (putL_fgt (G.vt y hy) hg).2),cn_zero,ctB_fgt hm hu hr hg A.old,List.map_map]
  congr 1
  refine List.map_congr_left fun y _=>?_
  simp only [Function.comp]
  rw [cn_ctA hg,spt_fgt hm hu hr A]
 ·refine ⟨fun a ha=>?_,fun a ha hn=>?_,?_⟩
  ·rcases mem_spl (show a∈spl _ _ _ from ha) with h1 | ⟨q,h1,h2⟩
   ·obtain ⟨b,hb,e⟩:=mem_ctA h1
    rcases e with rfl | rfl
    ·exact A.old _ hb
    ·refine ⟨(A.old b hb).1,fun x hx hgx=>?_⟩
     rcases List.mem_append.1 (show x∈b.2.2.2.2++[(w,g)] from hx) with hx | hx
     ·exact (A.old b hb).2 x hx hgx
     ·simp at hx; subst hx; rw [hg] at hgx; cases hgx
   ·obtain ⟨y,hy,rfl⟩:=List.mem_map.1 h1
    obtain ⟨_,_,e⟩:=ptL_ok (G.vt y hy) a h2
    refine ⟨fun hgx=>?_,fun x hx=>?_⟩
    ·rw [e] at hgx; rw [hg] at hgx; cases hgx
    ·rw [e] at hx; simp at hx
  ·rcases mem_spl (show a∈spl _ _ _ from ha) with h1 | ⟨q,h1,h2⟩
   ·obtain ⟨b,hb,e⟩:=mem_ctA h1
    rcases e with rfl | rfl
    ·exact A.nw _ hb hn
    ·intro x hx
     rcases List.mem_append.1 (show x∈b.2.2.2.2++[(w,g)] from hx) with hx | hx
     ·exact A.nw b hb hn x hx
     ·simp at hx; subst hx; exact hw
   ·obtain ⟨y,hy,rfl⟩:=List.mem_map.1 h1
    obtain ⟨_,_,e⟩:=ptL_ok (G.vt y hy) a h2
    intro x hx
    rw [e] at hx
    simp at hx
  ·refine adj_spl (adj_ctA hg A.adj) hI fun q hq=>?_
   obtain ⟨y,hy,rfl⟩:=List.mem_map.1 hq
   refine ⟨by rw [ctA_len]; exact spt_le,fun h a ha=>?_,fun a ha=>((putL_fgt (G.vt y hy) hg).1 a ha).1⟩
   obtain ⟨b,hb,e,_⟩:=kp_ctA (gs:=gs) (u0:=u0) hg ha
   rw [e]
   exact spt_kept hm hu hr A h b hb
theorem wo_ins {gs u:List Int} {x:Int} (hx:gs.contains x=false):wo gs (insS x u)=insS x (wo gs u):=by
 simp only [wo,insS,List.filter_append,List.filter_cons,List.filter_filter]
 rw [if_pos (by rw [hx]; rfl)]
 congr 1
 ·exact List.filter_congr fun z _=>Bool.and_comm _ _
 ·congr 1
  exact List.filter_congr fun z _=>Bool.and_comm _ _
theorem wo_tg {gs u:List Int} {x:Int} (hx:gs.contains x=false):wo gs (tgS x u)=tgS x (wo gs u):=by
 unfold tgS
 rw [wo_contains hx]
 split
 ·simp only [wo,delS,List.filter_filter]
  exact List.filter_congr fun z _=>Bool.and_comm _ _
 ·exact wo_ins hx
theorem tg_other {gs u:List Int} {x y:Int} (hx:gs.contains x=false) (hy:y∈gs):(tgS x u).contains y=u.contains y:=by
 have h:y≠x:=by
  rintro rfl
  have:gs.contains y=true:=by simpa using hy
  rw [this] at hx
  cases hx
 unfold tgS
 split
 ·exact contains_del h
 ·exact contains_ins h
theorem unR_app {us:List (List Int)} {u:List Int} {f r:Int} (hr:f≤r) (h:r≤hdR us f+1):unR (us++[u]) f r=if r=hdR us f+1 then u else unR us f r:=by
 unfold unR lvR
 rw [hdR_app,decide_eq_true hr,decide_eq_true h,Bool.true_and,if_pos rfl]
 unfold hdR at *
 split
 ·rename_i e
  rw [show (r - f).toNat=us.length by omega]
  simp [List.getD_eq_getElem?_getD]
 ·rw [decide_eq_true (by omega),Bool.and_self,if_pos rfl]
  rw [List.getD_eq_getElem?_getD,List.getD_eq_getElem?_getD,List.getElem?_append_left (by omega)]
structure Sm (gs u0:List Int) (h0:Int) (l:List Atm) (us:List (List Int)) (f:Int) (g o:List Int) (vs:List (List Int)) (p:List Int):Prop where
 mi:(-1:Int)∉gs
 ie:Ivt l us f g o
 ic:Ivt (rsL gs u0 l) vs h0 (wo gs g) p
 fe:f≤h0
 hh:h0≤hdR us f
 hd:hdR vs h0=hdR us f
 un:∀ r,h0≤r→r≤hdR us f→unR vs h0 r=wo gs (unR us f r)∧∀ x∈gs,(unR us f r).contains x=u0.contains x
 oo:∀ x,gs.contains x=false→p.contains x=o.contains x
 ats:Ats gs u0 h0 l
theorem Sm.ls {gs u0:List Int} {h0:Int} {l:List Atm} {us:List (List Int)} {f:Int} {g o:List Int} {vs:List (List Int)} {p:List Int} (S:Sm gs u0 h0 l us f g o vs p):lsR vs=wo gs (lsR us)∧∀ x∈gs,(lsR us).contains x=u0.contains x:=by
 have:=S.un _ S.hh (Int.le_refl _)
 rw [← S.hd,un_head S.ic.ne,S.hd,un_head S.ie.ne] at this
 exact this
theorem Sm.now {gs u0:List Int} {h0:Int} {l:List Atm} {us:List (List Int)} {f:Int} {g o:List Int} {vs:List (List Int)} {p:List Int} (S:Sm gs u0 h0 l us f g o vs p):nowT (rsL gs u0 l) vs h0=nowT l us f:=by
 unfold nowT
 rw [S.hd,S.ls.1,← vtx_fgt S.mi S.ls.2 S.hh S.ats.old]
theorem Sm.grow {gs u0:List Int} {h0:Int} {l:List Atm} {us:List (List Int)} {f:Int} {g o:List Int} {vs:List (List Int)} {p:List Int} (S:Sm gs u0 h0 l us f g o vs p) {u v:List Int} {l':List Atm} {g':List Int} (h1:v=wo gs u) (h2:∀ x∈gs,u.contains x=u0.contains x) (ie:Ivt l' (us++[u]) f g' o) (ic:Ivt (rsL gs u0 l') (vs++[v]) h0 (wo gs g') p) (ha:Ats gs u0 h0 l'):Sm gs u0 h0 l' (us++[u]) f g' o (vs++[v]) p:=by
 have hh:=S.hh; have hd:=S.hd; have fe:=S.fe
 refine ⟨S.mi,ie,ic,S.fe,by rw [hdR_app]; omega,by rw [hdR_app,hdR_app,hd],fun r hr hr2=>?_,S.oo,ha⟩
 rw [hdR_app] at hr2
 rw [unR_app hr (by omega),unR_app (by omega) hr2,hd]
 split
 ·exact ⟨h1,h2⟩
 ·exact S.un r hr (by omega)
theorem sm_tgg {gs u0:List Int} {h0:Int} {l:List Atm} {us:List (List Int)} {f:Int} {g o:List Int} {vs:List (List Int)} {p:List Int} (S:Sm gs u0 h0 l us f g o vs p) {x:Int} (hx:gs.contains x=false) :
 (tggR (rsL gs u0 l) vs h0 (wo gs g) p x).1=(tggR l us f g o x).1∧(tggR (rsL gs u0 l) vs h0 (wo gs g) p x).2.1=(tggR l us f g o x).2.1∧
 ∃ l' us' g' vs',(tggR l us f g o x).2.2=(l',us',g',o)∧(tggR (rsL gs u0 l) vs h0 (wo gs g) p x).2.2=(rsL gs u0 l',vs',wo gs g',p)∧Sm gs u0 h0 l' us' f g' o vs' p:=by
 have i1:=tggR_inv (x:=x) S.ie
 have i2:=tggR_inv (x:=x) S.ic
 have hd:=S.hd
 have et:(tgR vs h0 (wo gs g) x).2.1=(tgR us f g x).2.1:=by
  unfold tgR
  rw [wo_contains hx,hd]
  repeat' split
  all_goals rfl
 unfold tggR at *
 rw [et] at i2 ⊢
 split at i1
 ·rename_i h
  rw [if_pos h,if_pos h]
  exact ⟨rfl,rfl,l,us,g,vs,rfl,rfl,S⟩
 ·rename_i h
  rw [if_neg h] at i2 ⊢
  rw [if_neg h,hd]
  refine ⟨rfl,rfl,l,_,g,_,rfl,rfl,S.grow ?_ (fun y hy=>?_) i1 i2 S.ats⟩
  ·rw [S.ls.1,wo_tg hx]
  ·rw [tg_other hx hy]; exact S.ls.2 y hy
theorem sm_edt {gs u0:List Int} {h0:Int} {l:List Atm} {us:List (List Int)} {f:Int} {g o:List Int} {vs:List (List Int)} {p:List Int} (S:Sm gs u0 h0 l us f g o vs p) {base x rank:Int} {c:List Chg} (hx:gs.contains x=false) (hb:h0≤base) (h70:(edtR l us f g o base x rank c).2.1≠70) :
 (edtR (rsL gs u0 l) vs h0 (wo gs g) p base x rank c).1=(edtR l us f g o base x rank c).1∧(edtR (rsL gs u0 l) vs h0 (wo gs g) p base x rank c).2.1=(edtR l us f g o base x rank c).2.1∧
 ∃ l' us' g' vs',(edtR l us f g o base x rank c).2.2=(l',us',g',o)∧(edtR (rsL gs u0 l) vs h0 (wo gs g) p base x rank c).2.2=(rsL gs u0 l',vs',wo gs g',p)∧Sm gs u0 h0 l' us' f g' o vs' p:=by
 have hd:=S.hd
 have fe:=S.fe
 have elv:lvR vs h0 base=lvR us f base:=by
  unfold lvR
  rw [hd,decide_eq_true hb,decide_eq_true (show f≤base by omega)]
 have ead:(adR vs h0 (wo gs g) p x).2.1=(adR us f g o x).2.1:=by
  unfold adR
  rw [S.oo x hx,hd]
  repeat' split
  all_goals rfl
 have same:∀ n:Int,edtR l us f g o base x rank c=(0,n,l,us,g,o)→edtR (rsL gs u0 l) vs h0 (wo gs g) p base x rank c=(0,n,rsL gs u0 l,vs,wo gs g,p)→(edtR (rsL gs u0 l) vs h0 (wo gs g) p base x rank c).1=(edtR l us f g o base x rank c).1∧(edtR (rsL gs u0 l) vs h0 (wo gs g) p base x rank c).2.1=(edtR l us f g o base x rank c).2.1∧
  ∃ l' us' g' vs',(edtR l us f g o base x rank c).2.2=(l',us',g',o)∧(edtR (rsL gs u0 l) vs h0 (wo gs g) p base x rank c).2.2=(rsL gs u0 l',vs',wo gs g',p)∧Sm gs u0 h0 l' us' f g' o vs' p:=fun n h1 h2=>by
    rw [h1,h2]
    exact ⟨rfl,rfl,l,us,g,vs,rfl,rfl,S⟩
 cases hlv:lvR us f base with
 | false =>
   refine same 190 ?_ ?_
   ·unfold edtR; rw [hlv,if_pos rfl]
   ·unfold edtR; rw [elv,hlv,if_pos rfl]
 | true =>
   have hbh:base≤hdR us f:=by
    unfold lvR at hlv
    simp at hlv
    exact hlv.2
   obtain ⟨un1,un2⟩:=S.un base hb hbh
   have etx:vtx base (unR vs h0 base) (rsL gs u0 l)=vtx base (unR us f base) l:=by
    rw [un1,← vtx_fgt S.mi un2 hb S.ats.old]
   by_cases hch:chkE (ofBytes (vtx base (unR us f base) l)) c≠0
   ·refine same (chkE (ofBytes (vtx base (unR us f base) l)) c) ?_ ?_
    ·unfold edtR; rw [hlv,if_neg (by simp),if_pos hch]
    ·unfold edtR; rw [elv,hlv,if_neg (by simp),etx,if_pos hch]
   ·by_cases had:(adR us f g o x).2.1≠0
    ·refine same (adR us f g o x).2.1 ?_ ?_
     ·unfold edtR; rw [hlv,if_neg (by simp),if_neg hch,if_pos had]
     ·unfold edtR; rw [elv,hlv,if_neg (by simp),etx,if_neg hch,ead,if_pos had]
    ·by_cases hrk:rank<0∨1000000<rank
     ·refine same 10 ?_ ?_
      ·unfold edtR; rw [hlv,if_neg (by simp),if_neg hch,if_neg had,if_pos hrk]
      ·unfold edtR; rw [elv,hlv,if_neg (by simp),etx,if_neg hch,ead,if_neg had,if_pos hrk]
     ·have G:=chk_ok (show chkE (ofBytes (vtx base (unR us f base) l)) c=0 by simpa using hch)
      have hh:=S.hh
      obtain ⟨k1,k2⟩:=upS_fgt (w:=hdR us f+1) (g:=x) (rank:=rank) S.mi un2 hb (by omega) hx G S.ats
      have hln:¬ 4000<(upS base (unR us f base) c (hdR us f+1) x rank l).length:=fun h=>h70 (by
       unfold edtR; rw [hlv,if_neg (by simp),if_neg hch,if_neg had,if_neg hrk,if_pos h])
      have hln2:¬ 4000<(rsL gs u0 (upS base (unR us f base) c (hdR us f+1) x rank l)).length:=by
       have:=List.length_filter_le (kpA gs u0) (upS base (unR us f base) c (hdR us f+1) x rank l)
       simp only [rsL,List.length_map]
       omega
      have e1:edtR l us f g o base x rank c=(hdR us f+1,0,upS base (unR us f base) c (hdR us f+1) x rank l,us++[lsR us],insS x g,o):=by
       unfold edtR; rw [hlv,if_neg (by simp),if_neg hch,if_neg had,if_neg hrk,if_neg hln]
      have e2:edtR (rsL gs u0 l) vs h0 (wo gs g) p base x rank c=(hdR us f+1,0,rsL gs u0 (upS base (unR us f base) c (hdR us f+1) x rank l),vs++[lsR vs],wo gs (insS x g),p):=by
       unfold edtR; rw [elv,hlv,if_neg (by simp),etx,if_neg hch,ead,if_neg had,if_neg hrk,un1,hd,← k1,if_neg hln2,wo_ins hx]
      have i1:=edit_inv (base:=base) (grp:=x) (rank:=rank) (c:=c) S.ie
      have i2:=edit_inv (base:=base) (grp:=x) (rank:=rank) (c:=c) S.ic
      rw [e1] at i1
      rw [e2] at i2
      rw [e1,e2]
      exact ⟨rfl,rfl,_,_,_,_,rfl,rfl,S.grow S.ls.1 S.ls.2 i1 i2 k2⟩
theorem sm_new {gs:List Int} {e:Eng} (h:Iv e) (hok:okF e.2.2.2.1 [] gs=true) (hm:(-1:Int)∉gs) :
 ∃ vs p,fgtR e.1 e.2.1 e.2.2.1 e.2.2.2.1 e.2.2.2.2 gs=(0,rsL gs (lsR e.2.1) e.1,vs,hdE e,wo gs e.2.2.2.1,p)∧Sm gs (lsR e.2.1) (hdE e) e.1 e.2.1 e.2.2.1 e.2.2.2.1 e.2.2.2.2 vs p:=by
 have hi:=fgtR_inv (gs:=gs) h
 have hc:∀ x,(fgL gs []).contains x=gs.contains x:=fun x=>by
  have:x∈fgL gs []↔x∈gs:=by rw [mem_fgL]; simp
  cases h1:(fgL gs []).contains x <;> cases h2:gs.contains x <;> simp_all
 have hw:∀ u:List Int,(u.filter fun x=>!(fgL gs []).contains x)=wo gs u:=fun u=>by
  unfold wo
  exact List.filter_congr fun x _=>by rw [hc]
 have e1:fgtR e.1 e.2.1 e.2.2.1 e.2.2.2.1 e.2.2.2.2 gs=(0,rsL gs (lsR e.2.1) e.1,[wo gs (lsR e.2.1)],hdE e,wo gs e.2.2.2.1,(fgL gs []).foldl (fun l x=>insS x l) e.2.2.2.2):=by
  unfold fgtR
  rw [if_pos hok]
  simp only [fgR]
  rw [hw,hw]
  rfl
 rw [e1] at hi
 have hne:=h.ne
 have hh:e.2.2.1≤hdE e:=by unfold hdE hdR; omega
 refine ⟨_,_,e1,hm,h,hi,hh,Int.le_refl _,hd_one,fun r hr hr2=>?_,fun x hx=>?_,fun a ha=>?_,fun a ha hn=>?_,?_⟩
 ·have hr2:r≤hdE e:=hr2
  obtain rfl:r=hdE e:=by omega
  have e2:unR e.2.1 e.2.2.1 (hdE e)=lsR e.2.1:=un_head hne
  have e3:unR [wo gs (lsR e.2.1)] (hdE e) (hdE e)=wo gs (lsR e.2.1):=by
   have:=un_head (us:=[wo gs (lsR e.2.1)]) (f:=hdE e) (by simp)
   rw [hd_one] at this
   rw [this]
   rfl
  rw [e2,e3]
  exact ⟨rfl,fun _ _=>rfl⟩
 ·have:x∈fgL (fgL gs []) e.2.2.2.2↔x∈e.2.2.2.2:=by
   rw [mem_fgL]
   have h2:¬ x∈fgL gs []:=fun hq=>by
    have:(fgL gs []).contains x=true:=by simpa using hq
    rw [hc,hx] at this
    cases this
   simp [h2]
  show (fgL (fgL gs []) e.2.2.2.2).contains x=_
  cases h1:(fgL (fgL gs []) e.2.2.2.2).contains x <;> cases h2:e.2.2.2.2.contains x <;> simp_all
 ·have A:=h.aa a ha
  exact ⟨fun _=>A.r1,fun c hc _=>(A.c c hc).2.1⟩
 ·have:=(h.aa a ha).r1
  have hn:hdE e<a.2.1:=hn
  unfold hdE at hn
  omega
 ·have:∀ {l:List Atm},(∀ a∈l,a.2.1≤hdE e)→Adj gs (lsR e.2.1) (hdE e) l:=by
   intro l
   induction l with
   | nil => intro _; trivial
   | cons a l ih => exact fun hl => ⟨fun _ b hb => hl b (List.mem_cons_of_mem _ (List.mem_of_mem_head? hb)),ih fun b hb => hl b (List.mem_cons_of_mem _ hb)⟩
  exact this fun a ha=>(h.aa a ha).r1
abbrev El:=Int×(Int×ByteArray)
abbrev el0:El:=((0:Int),((0:Int),ByteArray.empty))
def lastIs (b:Bool) (l:List El):Prop:=l≠[]∧decide ((l.getD (l.length - 1) el0).2.2.size=0)=b
instance (b:Bool) (l:List El):Decidable (lastIs b l):=inferInstanceAs (Decidable (_∧_))
def bs (p:Nat→Bool):Nat→Nat→Nat→Option Nat
 | 0,_,_ => none
 | k+1,i,j => if i<j then (if p ((i+j) / 2)=true then bs p k ((i+j) / 2+1) j else bs p k i ((i+j) / 2)) else some i
theorem fgs0_loop {K:Nat} {l:List Stp} {m:Nat} (hK:100000≤K) (hl:Sok l) (hm:m≤l.length):∀ (d j k:Nat) (e:Eng),j+d=m→d<k→Iv e→∃ e',palinodetop_WholeForgets.l0 K (m:Int) l k e.1 e.2.1 e.2.2.1 e.2.2.2.1 e.2.2.2.2 (j:Int)=some e'∧Iv e'
 | 0,j,k+1,e,h,_,hi => ⟨e,by rw [palinodetop_WholeForgets.l0,if_neg (by simp; omega)],hi⟩
 | d+1,j,k+1,e,h,hk,hi => by
   have hlen:=hl.1
   obtain ⟨s,r,hs⟩:∃ s r,l.drop j=s :: r:=by
    cases hd:l.drop j with
    | nil => have := drop_nil hd; omega
    | cons s r => exact ⟨s,r,rfl⟩
   obtain ⟨h1,h2,h3⟩:=drop_cons hs zT
   have hs:=hl.2 s (by have:s∈l.drop j:=by rw [hs]; exact List.mem_cons_self
                       exact List.mem_of_mem_drop this)
   rw [palinodetop_WholeForgets.l0,if_pos (by simp; omega),Int.toNat_natCast,h2,do_is hK hi hs.1 hs.2,Option.bind_some,if_pos ⟨by omega,by omega⟩,up1 (by omega)]
   exact fgs0_loop hK hl hm d (j+1) k _ (by omega) (by omega) (do_inv hi)
theorem fgs1_loop {K:Nat} {g:List Int} {mask:Int} (hg:g.length≤1000):∀ (r:List Int) (j k:Nat) (x:List Int),g.drop j=r→r.length<k→x.length+r.length≤10000→palinodetop_WholeForgets.l1 K g mask k x (j:Int)=some (x++r.filter (pmk mask))
 | [],j,k+1,x,h,_,_ => by
   have:=drop_nil h
   rw [palinodetop_WholeForgets.l1,if_neg (by simp; omega)]
   simp
 | y :: r,j,k+1,x,h,hk,hx => by
   obtain ⟨h1,h2,h3⟩:=drop_cons h (0:Int)
   simp only [List.length_cons] at hx
   rw [palinodetop_WholeForgets.l1,if_pos (by simp; omega),Int.toNat_natCast,h2,if_pos ⟨by omega,by omega,wu64⟩,up1 (by omega)]
   have e:(IntKind.wrap .u64 (BitVec.toNat (BitVec.ofInt (IntKind.bits .u64) (Int.fdiv mask (2 ^ min (Int.toNat (IntKind.wrap .u64 y)) (IntKind.bits .u64)))&&& BitVec.ofInt (IntKind.bits .u64) (1:Int)))==(1:Int))=pmk mask y:=rfl
   rw [e,List.filter_cons]
   cases pmk mask y with
   | false =>
     rw [if_neg (by simp),if_neg (by simp)]
     exact fgs1_loop hg r (j+1) k x h3 (by simpa using hk) (by omega)
   | true =>
     rw [if_pos rfl,if_pos rfl,if_pos (by simp; omega),fgs1_loop hg r (j+1) k _ h3 (by simpa using hk) (by simp; omega)]
     simp
theorem okF_flt {g:List Int} {q:Int→Bool}:∀ {r seen:List Int},r.Pairwise (·< ·)→(∀ x∈r,x∈g∧x∉seen)→okF g seen (r.filter q)=true
 | [],_,_,_ => rfl
 | x :: r,seen,hp,hs => by
   obtain ⟨h1,h2⟩:=List.pairwise_cons.1 hp
   rw [List.filter_cons]
   split
   ·have hx:=hs x List.mem_cons_self
    simp only [okF]
    rw [okF_flt h2 fun y hy=>⟨(hs y (List.mem_cons_of_mem _ hy)).1,fun hm=>?_⟩]
    ·simp [hx.1,hx.2]
    ·rcases mem_insS.1 hm with rfl | hm
     ·have:=h1 y hy; omega
     ·exact (hs y (List.mem_cons_of_mem _ hy)).2 hm
   ·exact okF_flt h2 fun y hy=>hs y (List.mem_cons_of_mem _ hy)
def skF (gs:List Int) (h0:Int) (s:Stp):Bool:=decide (s.1 > 6)||(gs.contains s.2.2.1||(decide (s.1≤4)&&decide (s.2.1<h0)))
theorem sm_do {gs u0:List Int} {h0:Int} {l:List Atm} {us:List (List Int)} {f:Int} {g o:List Int} {vs:List (List Int)} {p:List Int} (S:Sm gs u0 h0 l us f g o vs p) {s:Stp} (hs:skF gs h0 s=false) (h70:(doR (l,us,f,g,o) s).2.1≠70) :
 (doR (rsL gs u0 l,vs,h0,wo gs g,p) s).1=(doR (l,us,f,g,o) s).1∧(doR (rsL gs u0 l,vs,h0,wo gs g,p) s).2.1=(doR (l,us,f,g,o) s).2.1∧
 ∃ l' us' g' vs',(doR (l,us,f,g,o) s).2.2=(l',us',f,g',o)∧(doR (rsL gs u0 l,vs,h0,wo gs g,p) s).2.2=(rsL gs u0 l',vs',h0,wo gs g',p)∧Sm gs u0 h0 l' us' f g' o vs' p:=by
 simp only [skF,Bool.or_eq_false_iff,decide_eq_false_iff_not,Bool.and_eq_false_iff] at hs
 obtain ⟨h6,hx,hb⟩:=hs
 unfold doR at *
 by_cases h4:s.1≤4
 ·rw [if_pos h4] at h70 ⊢
  rw [if_pos h4]
  obtain ⟨k1,k2,l',us',g',vs',k3,k4,k5⟩:=sm_edt (base:=s.2.1) (rank:=s.2.2.2.1) (c:=s.2.2.2.2.1) S hx (by rcases hb with hb | hb <;> omega) h70
  refine ⟨k1,k2,l',us',g',vs',?_,?_,k5⟩
  ·simp only [k3]
  ·simp only [k4]
 ·rw [if_neg h4,if_pos (by omega)] at h70 ⊢
  rw [if_neg h4,if_pos (by omega)]
  obtain ⟨k1,k2,l',us',g',vs',k3,k4,k5⟩:=sm_tgg S hx
  refine ⟨k1,k2,l',us',g',vs',?_,?_,k5⟩
  ·simp only [k3]
  ·simp only [k4]
theorem fgs2_loop {K:Nat} {l:List Stp} {gs u0:List Int} {h0:Int} (hK:100000≤K) (hl:Sok l) (hg:gs.length≤1000):∀ (r:List Stp) (j k:Nat) (a:List Atm) (us:List (List Int)) (f:Int) (g o:List Int) (vs:List (List Int)) (p:List Int),l.drop j=r→r.length<k→Sm gs u0 h0 a us f g o vs p→
 palinodetop_WholeForgets.l2 K l gs h0 k a us f g o (rsL gs u0 a) vs h0 (wo gs g) p (j:Int)=some true
 | [],j,k+1,a,us,f,g,o,vs,p,h,_,_ => by
   have:=drop_nil h
   rw [palinodetop_WholeForgets.l2,if_neg (by simp; omega)]
 | s :: r,j,k+1,a,us,f,g,o,vs,p,h,hk,S => by
   obtain ⟨h1,h2,h3⟩:=drop_cons h zT
   have hlen:=hl.1
   have hs:=hl.2 s (by have:s∈l.drop j:=by rw [h]; exact List.mem_cons_self
                       exact List.mem_of_mem_drop this)
   rw [palinodetop_WholeForgets.l2,if_pos (by simp; omega),if_pos ⟨by omega,by omega⟩,Int.toNat_natCast,h2,in_is hK (by omega),Option.bind_some,up1 (by omega)]
   have esk:(if decide (s.1 > (6:Int))=true then some true else if gs.contains s.2.2.1=true then some true else if decide (s.1≤(4:Int))=true then some (decide (s.2.1<h0)) else some false)=some (skF gs h0 s):=by
    unfold skF
    cases decide (s.1 > (6:Int)) <;> cases gs.contains s.2.2.1 <;> cases decide (s.1≤(4:Int)) <;> simp
   rw [esk,Option.bind_some]
   cases hsk:skF gs h0 s with
   | true =>
     rw [if_pos rfl]
     exact fgs2_loop hK hl hg r (j+1) k a us f g o vs p h3 (by simpa using hk) S
   | false =>
     have d1:=do_is (K:=K) (e:=(a,us,f,g,o)) (s:=s) hK S.ie hs.1 hs.2
     have d2:=do_is (K:=K) (e:=(rsL gs u0 a,vs,h0,wo gs g,p)) (s:=s) hK S.ic hs.1 hs.2
     simp only at d1 d2
     rw [if_neg (by simp),d1,Option.bind_some,d2,Option.bind_some]
     by_cases h70:(doR (a,us,f,g,o) s).2.1=70
     ·rw [if_pos (by simpa using h70),Option.bind_some,if_pos rfl]
     ·rw [if_neg (by simpa using h70),Option.bind_some]
      by_cases h71:(doR (rsL gs u0 a,vs,h0,wo gs g,p) s).2.1=70
      ·rw [if_pos (by simpa using h71)]
      ·obtain ⟨k1,k2,a',us',g',vs',k3,k4,k5⟩:=sm_do S hsk h70
       rw [if_neg (by simpa using h71),if_neg (by simp [k1]),if_neg (by simp [k2]),k3,k4]
       simp only
       rw [now_is hK k5.ie.rok k5.ie.aok,Option.bind_some,now_is hK k5.ic.rok k5.ic.aok,Option.bind_some,k5.now,Option.bind_some,if_neg (by simp)]
       exact fgs2_loop hK hl hg r (j+1) k a' us' f g' o vs' p h3 (by simpa using hk) k5
theorem WholeForgets_pure (l:List Stp) (at_ mask:Int) (o0:Kd.ok (.slice kStp) l) (o1:Kd.ok (.int .u8) at_) (o2:Kd.ok (.int .u64) mask):∃ K,palinodetop_WholeForgets K l at_ mask=some true:=by
 have hok:=okS o0
 have hat:=u8_ok o1
 refine ⟨wtS l+100000,?_⟩
 generalize hKK:wtS l+100000=K
 have hK:100000≤K:=by omega
 unfold palinodetop_WholeForgets
 rw [known_K hK,Option.bind_some,if_neg (by simp),fewS_is (by omega) hok.1 hok.2,Option.bind_some]
 cases hf:fwS l with
 | false => rfl
 | true =>
   have hs:=fwS_ok hf
   have hl:=hs.1
   rw [if_neg (by simp),engNew_is,Option.bind_some]
   obtain ⟨m,hm,em⟩:∃ m:Nat,m≤l.length∧(if (decide ((((List.length l):Nat):Int) > (0:Int)))=true then if (((List.length l):Nat):Int)≠0 then some (Int.tmod (IntKind.wrap .i64 at_) (((List.length l):Nat):Int)) else none else some (0:Int))=some (m:Int):=by
    by_cases h:l.length=0
    ·exact ⟨0,by omega,by rw [h]; rfl⟩
    ·refine ⟨(Int.tmod at_ l.length).toNat,?_,?_⟩
     ·have:=Int.tmod_lt_of_pos at_ (show (0:Int)<l.length by omega)
      omega
     ·rw [if_pos (by simp; omega),if_pos (by omega),w64 (by omega) (by omega)]
      have:=Int.tmod_nonneg (l.length:Int) (show 0≤at_ by omega)
      congr 1
      omega
   rw [em,Option.bind_some]
   obtain ⟨e,e0,hi⟩:=fgs0_loop (K:=K) hK hs hm m 0 K newE (by omega) (by omega) new_inv
   have e0:palinodetop_WholeForgets.l0 K (m:Int) l K [] [[]] 0 [] [] 0=some e:=e0
   rw [e0,Option.bind_some,engCopy_is hK hi.r hi.k,Option.bind_some,egroups_is hi,Option.bind_some]
   have hgl:=hi.r.g
   have e1:=fgs1_loop (K:=K) (mask:=mask) (g:=e.2.2.2.1) (by omega) e.2.2.2.1 0 K [] rfl (by omega) (by simp; omega)
   have e1:palinodetop_WholeForgets.l1 K e.2.2.2.1 mask K [] 0=_:=e1
   rw [e1,Option.bind_some,List.nil_append]
   have hgs:(e.2.2.2.1.filter (pmk mask)).length≤1000:=by
    have:=List.length_filter_le (pmk mask) e.2.2.2.1
    omega
   have hmi:(-1:Int)∉e.2.2.2.1.filter (pmk mask):=fun h=>by have:=hi.gg.2 _ (List.mem_filter.1 h).1; omega
   have hF:okF e.2.2.2.1 [] (e.2.2.2.1.filter (pmk mask))=true:=okF_flt hi.gg.1 fun x hx=>⟨hx,by simp⟩
   obtain ⟨vs,p,ef,S⟩:=sm_new hi hF hmi
   simp only
   rw [engHead_is hi.r,Option.bind_some,eforget_is hK hi hgs,Option.bind_some,ef]
   simp only
   rw [if_neg (by simp),now_is hK S.ic.rok S.ic.aok,Option.bind_some,now_is hK hi.r hi.k,Option.bind_some,S.now,Option.bind_some,if_neg (by simp)]
   exact fgs2_loop hK hs hgs (l.drop m) m K e.1 e.2.1 e.2.2.1 e.2.2.2.1 e.2.2.2.2 vs p rfl (by simp; omega) S
end Go.Pal
