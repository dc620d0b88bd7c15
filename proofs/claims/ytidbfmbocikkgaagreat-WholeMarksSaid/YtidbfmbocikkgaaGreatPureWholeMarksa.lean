/- Each end of a region goes, at an edit or a group taken back, ahead of the atom that it stood ahead of, or the next one that is kept. -/
import Derived.Test.YtidbfmbocikkgaaGreatFunWholeMarks
namespace Go.Pal
open Go
set_option linter.unusedVariables false
set_option linter.unusedSimpArgs false
set_option linter.unnecessarySimpa false
theorem w64 {n:Int} (h1 : -9223372036854775808≤n) (h2:n<9223372036854775808):IntKind.wrap .i64 n=n:=by
 simp only [IntKind.wrap,IntKind.bits,IntKind.signed]
 simp
 omega
theorem A4 {α:Type} {l:List α} {j:Nat} {g:α} {r:List α} (h:l.drop j=g :: r) (d:α):j<l.length∧l.getD j d=g∧l.drop (j+1)=r:=by
 have hj:j<l.length:=by
  rcases Nat.lt_or_ge j l.length with h' | h'
  ·exact h'
  ·rw [List.drop_eq_nil_of_le h'] at h; cases h
 rw [List.drop_eq_getElem_cons hj] at h
 obtain ⟨h1,h2⟩:=List.cons.inj h
 exact ⟨hj,by simp [List.getD,hj,h1],h2⟩
theorem A6 {α:Type} {l:List α} {j:Nat} (h:l.drop j=[]):l.length≤j:=List.drop_eq_nil_iff.1 h
theorem BW {P:Int→Prop} (h:∀ m:Fin 256,P ((m.val:Nat):Int)) {c:Int} (h0:0≤c) (h1:c≤255):P c:=by
 have:=h ⟨c.toNat,by omega⟩
 simpa [Int.toNat_of_nonneg h0] using this
theorem AF {s:ByteArray} {i:Int}:0≤bt s i∧bt s i≤255:=by
 unfold bt
 have:=(s[i.toNat]?.getD 0).toNat_lt
 omega
def A0 (b:Int):Prop:=128≤b∧b<192
instance (b:Int):Decidable (A0 b):=inferInstanceAs (Decidable (_∧_))
theorem F7 {b:Int} (h0:0≤b) (h1:b≤255):(IntKind.wrap .u8 (BitVec.toNat (BitVec.ofInt (IntKind.bits .u8) b&&& BitVec.ofInt (IntKind.bits .u8) (192:Int))) !=(128:Int)) = !decide (A0 b):=
 BW (P:=fun b=>(IntKind.wrap .u8 (BitVec.toNat (BitVec.ofInt (IntKind.bits .u8) b&&& BitVec.ofInt (IntKind.bits .u8) (192:Int))) !=(128:Int)) = !decide (A0 b)) (by decide +kernel) h0 h1
theorem Z9 {b:Int} (h0:0≤b) (h1:b≤255):IntKind.wrap .u8 (BitVec.toNat (BitVec.ofInt (IntKind.bits .u8) b&&& ~~~BitVec.ofInt (IntKind.bits .u8) (192:Int)))=b % 64:=
 BW (P:=fun b=>IntKind.wrap .u8 (BitVec.toNat (BitVec.ofInt (IntKind.bits .u8) b&&& ~~~BitVec.ofInt (IntKind.bits .u8) (192:Int)))=b % 64) (by decide +kernel) h0 h1
theorem Z8 {b:Int} (h0:0≤b) (h1:b≤255):IntKind.wrap .u8 (BitVec.toNat (BitVec.ofInt (IntKind.bits .u8) b&&& ~~~BitVec.ofInt (IntKind.bits .u8) (128:Int)))=b % 128:=
 BW (P:=fun b=>IntKind.wrap .u8 (BitVec.toNat (BitVec.ofInt (IntKind.bits .u8) b&&& ~~~BitVec.ofInt (IntKind.bits .u8) (128:Int)))=b % 128) (by decide +kernel) h0 h1
theorem ZA {b:Int} (h0:0≤b) (h1:b≤255):IntKind.wrap .u8 (BitVec.toNat (BitVec.ofInt (IntKind.bits .u8) b&&& ~~~BitVec.ofInt (IntKind.bits .u8) (224:Int)))=b % 32:=
 BW (P:=fun b=>IntKind.wrap .u8 (BitVec.toNat (BitVec.ofInt (IntKind.bits .u8) b&&& ~~~BitVec.ofInt (IntKind.bits .u8) (224:Int)))=b % 32) (by decide +kernel) h0 h1
theorem ZB {b:Int} (h0:0≤b) (h1:b≤255):IntKind.wrap .u8 (BitVec.toNat (BitVec.ofInt (IntKind.bits .u8) b&&& ~~~BitVec.ofInt (IntKind.bits .u8) (240:Int)))=b % 16:=
 BW (P:=fun b=>IntKind.wrap .u8 (BitVec.toNat (BitVec.ofInt (IntKind.bits .u8) b&&& ~~~BitVec.ofInt (IntKind.bits .u8) (240:Int)))=b % 16) (by decide +kernel) h0 h1
theorem ZC {b:Int} (h0:0≤b) (h1:b≤255):IntKind.wrap .u8 (BitVec.toNat (BitVec.ofInt (IntKind.bits .u8) b&&& ~~~BitVec.ofInt (IntKind.bits .u8) (248:Int)))=b % 8:=
 BW (P:=fun b=>IntKind.wrap .u8 (BitVec.toNat (BitVec.ofInt (IntKind.bits .u8) b&&& ~~~BitVec.ofInt (IntKind.bits .u8) (248:Int)))=b % 8) (by decide +kernel) h0 h1
theorem Y2 {b:Int} (h0:0≤b) (h1:b≤255):(IntKind.wrap .u8 (BitVec.toNat (BitVec.ofInt (IntKind.bits .u8) b&&& BitVec.ofInt (IntKind.bits .u8) (128:Int)))==(0:Int))=decide (b<128):=
 BW (P:=fun b=>(IntKind.wrap .u8 (BitVec.toNat (BitVec.ofInt (IntKind.bits .u8) b&&& BitVec.ofInt (IntKind.bits .u8) (128:Int)))==(0:Int))=decide (b<128)) (by decide +kernel) h0 h1
theorem Y3 {b:Int} (h0:0≤b) (h1:b≤255):(IntKind.wrap .u8 (BitVec.toNat (BitVec.ofInt (IntKind.bits .u8) b&&& BitVec.ofInt (IntKind.bits .u8) (224:Int)))==(192:Int))=decide (192≤b∧b<224):=
 BW (P:=fun b=>(IntKind.wrap .u8 (BitVec.toNat (BitVec.ofInt (IntKind.bits .u8) b&&& BitVec.ofInt (IntKind.bits .u8) (224:Int)))==(192:Int))=decide (192≤b∧b<224)) (by decide +kernel) h0 h1
theorem Y4 {b:Int} (h0:0≤b) (h1:b≤255):(IntKind.wrap .u8 (BitVec.toNat (BitVec.ofInt (IntKind.bits .u8) b&&& BitVec.ofInt (IntKind.bits .u8) (240:Int)))==(224:Int))=decide (224≤b∧b<240):=
 BW (P:=fun b=>(IntKind.wrap .u8 (BitVec.toNat (BitVec.ofInt (IntKind.bits .u8) b&&& BitVec.ofInt (IntKind.bits .u8) (240:Int)))==(224:Int))=decide (224≤b∧b<240)) (by decide +kernel) h0 h1
theorem Y5 {b:Int} (h0:0≤b) (h1:b≤255):(IntKind.wrap .u8 (BitVec.toNat (BitVec.ofInt (IntKind.bits .u8) b&&& BitVec.ofInt (IntKind.bits .u8) (248:Int)))==(240:Int))=decide (240≤b∧b<248):=
 BW (P:=fun b=>(IntKind.wrap .u8 (BitVec.toNat (BitVec.ofInt (IntKind.bits .u8) b&&& BitVec.ofInt (IntKind.bits .u8) (248:Int)))==(240:Int))=decide (240≤b∧b<248)) (by decide +kernel) h0 h1
theorem US {b:Int} (h0:0≤b) (h1:b≤255):IntKind.wrap .i64 (BitVec.toNat (BitVec.ofInt (IntKind.bits .i64) b&&& BitVec.ofInt (IntKind.bits .i64) (63:Int)))=b % 64:=
 BW (P:=fun b=>IntKind.wrap .i64 (BitVec.toNat (BitVec.ofInt (IntKind.bits .i64) b&&& BitVec.ofInt (IntKind.bits .i64) (63:Int)))=b % 64) (by decide +kernel) h0 h1
theorem UR {b:Int} (h0:0≤b) (h1:b≤255):IntKind.wrap .i64 (BitVec.toNat (BitVec.ofInt (IntKind.bits .i64) b&&& BitVec.ofInt (IntKind.bits .i64) (31:Int)))=b % 32:=
 BW (P:=fun b=>IntKind.wrap .i64 (BitVec.toNat (BitVec.ofInt (IntKind.bits .i64) b&&& BitVec.ofInt (IntKind.bits .i64) (31:Int)))=b % 32) (by decide +kernel) h0 h1
theorem UQ {b:Int} (h0:0≤b) (h1:b≤255):IntKind.wrap .i64 (BitVec.toNat (BitVec.ofInt (IntKind.bits .i64) b&&& BitVec.ofInt (IntKind.bits .i64) (15:Int)))=b % 16:=
 BW (P:=fun b=>IntKind.wrap .i64 (BitVec.toNat (BitVec.ofInt (IntKind.bits .i64) b&&& BitVec.ofInt (IntKind.bits .i64) (15:Int)))=b % 16) (by decide +kernel) h0 h1
theorem UT {b:Int} (h0:0≤b) (h1:b≤255):IntKind.wrap .i64 (BitVec.toNat (BitVec.ofInt (IntKind.bits .i64) b&&& BitVec.ofInt (IntKind.bits .i64) (7:Int)))=b % 8:=
 BW (P:=fun b=>IntKind.wrap .i64 (BitVec.toNat (BitVec.ofInt (IntKind.bits .i64) b&&& BitVec.ofInt (IntKind.bits .i64) (7:Int)))=b % 8) (by decide +kernel) h0 h1
theorem LI {b:Int} (h0:0≤b) (h1:b≤255):(Int.fdiv b 64 !=2) = !decide (A0 b):=
 BW (P:=fun b=>(Int.fdiv b 64 !=2) = !decide (A0 b)) (by decide +kernel) h0 h1
theorem RN {r x:Nat} (hx:x<64):(r * 64)||| x=r * 64+x:=by
 have:=Nat.two_pow_add_eq_or_of_lt (i:=6) hx r
 rw [Nat.mul_comm] at this
 exact this.symm
theorem w32 {n:Int} (h1 : -2147483648≤n) (h2:n<2147483648):IntKind.wrap .i32 n=n:=by
 simp only [IntKind.wrap,IntKind.bits,IntKind.signed]
 simp
 omega
theorem ZI {r x:Int} (h0:0≤r) (h1:r<1048576) (h2:0≤x) (h3:x<64):IntKind.wrap .i32 (BitVec.toNat (BitVec.ofInt (IntKind.bits .i32) (IntKind.wrap .i32 (r * (64:Int)))||| BitVec.ofInt (IntKind.bits .i32) (IntKind.wrap .i32 x)))=r * 64+x:=by
 rw [w32 (n:=r * 64) (by omega) (by omega),w32 (n:=x) (by omega) (by omega)]
 obtain ⟨a,rfl⟩:∃ a:Nat,r=a:=⟨r.toNat,by omega⟩
 obtain ⟨b,rfl⟩:∃ b:Nat,x=b:=⟨x.toNat,by omega⟩
 have e1:(BitVec.ofInt (IntKind.bits .i32) ((a:Int) * 64)||| BitVec.ofInt (IntKind.bits .i32) (b:Int)).toNat=a * 64+b:=by
  rw [BitVec.toNat_or,BitVec.toNat_ofInt,BitVec.toNat_ofInt]
  have h4:((a:Int) * 64 % ((2 ^ IntKind.bits .i32:Nat):Int)).toNat=a * 64:=by
   have:IntKind.bits .i32=32:=rfl
   rw [this]; omega
  have h5:((b:Int) % ((2 ^ IntKind.bits .i32:Nat):Int)).toNat=b:=by
   have:IntKind.bits .i32=32:=rfl
   rw [this]; omega
  rw [h4,h5,RN (by omega)]
 rw [e1,w32 (by omega) (by omega)]
 omega
theorem ZJ {r x:Int} (h0:0≤r) (h1:r<1048576) (h2:0≤x) (h3:x<64):IntKind.wrap .i64 (BitVec.toNat (BitVec.ofInt (IntKind.bits .i64) (IntKind.wrap .i64 (r * (64:Int)))||| BitVec.ofInt (IntKind.bits .i64) x))=r * 64+x:=by
 rw [w64 (n:=r * 64) (by omega) (by omega)]
 obtain ⟨a,rfl⟩:∃ a:Nat,r=a:=⟨r.toNat,by omega⟩
 obtain ⟨b,rfl⟩:∃ b:Nat,x=b:=⟨x.toNat,by omega⟩
 have e1:(BitVec.ofInt (IntKind.bits .i64) ((a:Int) * 64)||| BitVec.ofInt (IntKind.bits .i64) (b:Int)).toNat=a * 64+b:=by
  rw [BitVec.toNat_or,BitVec.toNat_ofInt,BitVec.toNat_ofInt]
  have h4:((a:Int) * 64 % ((2 ^ IntKind.bits .i64:Nat):Int)).toNat=a * 64:=by
   have:IntKind.bits .i64=64:=rfl
   rw [this]; omega
  have h5:((b:Int) % ((2 ^ IntKind.bits .i64:Nat):Int)).toNat=b:=by
   have:IntKind.bits .i64=64:=rfl
   rw [this]; omega
  rw [h4,h5,RN (by omega)]
 rw [e1,w64 (by omega) (by omega)]
 omega
def AL (n c d e f:Int):Int:=
 if c<128 then 1
 else if 192≤c∧c<224 then (if 2≤n∧A0 d∧128≤c % 32 * 64+d % 64 then 2 else 0)
 else if 224≤c∧c<240 then (if 3≤n∧A0 d∧A0 e∧2048≤(c % 16 * 64+d % 64) * 64+e % 64∧¬ (55296≤(c % 16 * 64+d % 64) * 64+e % 64∧(c % 16 * 64+d % 64) * 64+e % 64<57344) then 3 else 0)
 else if 240≤c∧c<248 then (if 4≤n∧A0 d∧A0 e∧A0 f∧65536≤((c % 8 * 64+d % 64) * 64+e % 64) * 64+f % 64∧((c % 8 * 64+d % 64) * 64+e % 64) * 64+f % 64≤1114111 then 4 else 0)
 else 0
theorem JX {K:Nat} {s:ByteArray} {a:Int} {n r i:Int} {k:Nat} (h:¬ i<n):AM.l0 K n a s (k+1) r i=some (.inr r):=by
 rw [AM.l0,if_neg (by simpa using h)]
theorem G8 {K:Nat} {s:ByteArray} {a:Int} (h0:0≤a) (hs:(s.size:Int)≤1000000000000) {n r i:Int} {k:Nat} (h:i<n) (hi:0≤i) (hr:a+i<s.size) (hc:¬ A0 (bt s (a+i))):AM.l0 K n a s (k+1) r i=some (.inl (0,0)):=by
 rw [AM.l0,w64 (n:=a+i) (by omega) (by omega),if_pos (by simpa using h),if_pos ⟨by omega,by omega⟩,F7 AF.1 AF.2,if_pos (by simpa using hc)]
theorem G9 {K:Nat} {s:ByteArray} {a:Int} (h0:0≤a) (hs:(s.size:Int)≤1000000000000) {n r i:Int} {k:Nat} (h:i<n) (hi:0≤i) (hr:a+i<s.size) (hc:A0 (bt s (a+i))) (r0:0≤r) (r1:r<1048576):AM.l0 K n a s (k+1) r i=AM.l0 K n a s k (r * 64+bt s (a+i) % 64) (i+1):=by
 have hb:=AF (s:=s) (i:=a+i)
 rw [AM.l0,w64 (n:=a+i) (by omega) (by omega),if_pos (by simpa using h),if_pos ⟨by omega,by omega⟩,F7 hb.1 hb.2,if_neg (by simpa using hc),Z9 hb.1 hb.2,ZI r0 r1 (by omega) (by omega),w64 (n:=i+1) (by omega) (by omega)]
theorem GH {K:Nat} {s:ByteArray} {a:Int} (h0:0≤a) (hs:(s.size:Int)≤1000000000000) {n r i:Int} {k:Nat} (h:i<n) (hi:0≤i) (hr:a+i<s.size) (hc:¬ A0 (bt s (a+i))):AR.l0 K n a s (k+1) r i=some (.inl 0):=by
 have hb:=AF (s:=s) (i:=a+i)
 rw [AR.l0,w64 (n:=a+i) (by omega) (by omega),if_pos (by simpa using h),if_pos ⟨by omega,by omega⟩,w64 (n:=bt s (a+i)) (by omega) (by omega),LI hb.1 hb.2,if_pos (by simpa using hc)]
theorem N8 {K:Nat} {s:ByteArray} {a:Int} {n r i:Int} {k:Nat} (h:¬ i<n):AR.l0 K n a s (k+1) r i=some (.inr r):=by
 rw [AR.l0,if_neg (by simpa using h)]
theorem GI {K:Nat} {s:ByteArray} {a:Int} (h0:0≤a) (hs:(s.size:Int)≤1000000000000) {n r i:Int} {k:Nat} (h:i<n) (hi:0≤i) (hr:a+i<s.size) (hc:A0 (bt s (a+i))) (r0:0≤r) (r1:r<1048576):AR.l0 K n a s (k+1) r i=AR.l0 K n a s k (r * 64+bt s (a+i) % 64) (i+1):=by
 have hb:=AF (s:=s) (i:=a+i)
 rw [AR.l0,w64 (n:=a+i) (by omega) (by omega),if_pos (by simpa using h),if_pos ⟨by omega,by omega⟩,w64 (n:=bt s (a+i)) (by omega) (by omega),LI hb.1 hb.2,if_neg (by simpa using hc),US hb.1 hb.2,ZJ r0 r1 (by omega) (by omega),w64 (n:=i+1) (by omega) (by omega)]
def usz (s:ByteArray) (a:Int):Int:=if a<0∨a≥s.size then 0 else AL (s.size - a) (bt s a) (bt s (a+1)) (bt s (a+2)) (bt s (a+3))
theorem eX {n c d e f:Int} (hn:1≤n):0≤AL n c d e f∧AL n c d e f≤4∧AL n c d e f≤n:=by
 unfold AL
 split
 ·omega
 ·split
  ·split <;> omega
  ·split
   ·split <;> omega
   ·split
    ·split <;> omega
    ·omega
theorem CC {s:ByteArray} {a:Int}:0≤usz s a∧usz s a≤4∧(0≤a→a<s.size→a+usz s a≤s.size):=by
 unfold usz
 split
 ·rename_i h; exact ⟨by omega,by omega,fun h1 h2=>by omega⟩
 ·have:=eX (n:=s.size - a) (c:=bt s a) (d:=bt s (a+1)) (e:=bt s (a+2)) (f:=bt s (a+3)) (by omega)
  exact ⟨by omega,by omega,fun h1 h2=>by omega⟩
theorem ZR {K:Nat} {r:Int} (h0:0≤r):FO K r=some (decide (r≤1114111∧¬ (55296≤r∧r<57344))):=by
 unfold FO
 rw [if_pos (by simpa using h0)]
 by_cases h1:r≤1114111
 ·rw [if_pos (by simpa using h1)]
  by_cases h2:r<55296
  ·rw [if_pos (by simpa using h2)]
   congr 1; symm; simp; omega
  ·rw [if_neg (by simpa using h2)]
   congr 1
   by_cases h3:r > 57343
   ·simp [h3]; omega
   ·simp [h3]; omega
 ·rw [if_neg (by simpa using h1)]
  congr 1; symm; simp; omega
def CW (n v least:Int):Int×Int:=if least≤v∧v≤1114111∧¬ (55296≤v∧v<57344) then (v,n) else (0,0)
theorem JY {K:Nat} {n v least:Int} (h0:0≤v):((if decide (v<least)=true then some true else (FO K v).bind fun r_28=>some (!r_28)).bind fun z_39=>if z_39=true then some ((0:Int),(0:Int)) else some (v,n))=some (CW n v least):=by
 unfold CW
 rw [ZR h0]
 by_cases h1:v<least
 ·rw [if_pos (by simpa using h1),Option.bind_some,if_pos rfl,if_neg (by omega)]
 ·rw [if_neg (by simpa using h1),Option.bind_some,Option.bind_some]
  by_cases h2:v≤1114111∧¬ (55296≤v∧v<57344)
  ·rw [if_neg (by simp; omega),if_pos (by omega)]
  ·rw [if_pos (by simp; omega),if_neg (by omega)]
theorem YF {K:Nat} {s:ByteArray} {a:Int} (hK:10≤K) (h0:0≤a) (hs:(s.size:Int)≤1000000000000) (ha:a<s.size) (hc:bt s a<128):AM K s a 1 128 0 0=some (bt s a,1):=by
 obtain ⟨k,rfl⟩:∃ k,K=k+5:=⟨K - 5,by omega⟩
 have hb:=AF (s:=s) (i:=a)
 unfold AM
 rw [w64 (by omega) (by omega),if_neg (by simp; omega),if_pos ⟨h0,ha⟩,Z8 hb.1 hb.2,w32 (by omega) (by omega),JX (by omega),Option.bind_some]
 simp only [Sum.elim_inr]
 rw [JY (by omega)]
 unfold CW
 rw [if_pos (by omega)]
 congr 2
 omega
theorem YG {K:Nat} {s:ByteArray} {a:Int} (hK:10≤K) (h0:0≤a) (hs:(s.size:Int)≤1000000000000) (ha:a<s.size):AM K s a 2 224 192 128 =
 some (if 2≤(s.size:Int) - a∧A0 (bt s (a+1)) then CW 2 (bt s a % 32 * 64+bt s (a+1) % 64) 128 else (0,0)):=by
 obtain ⟨k,rfl⟩:∃ k,K=k+5:=⟨K - 5,by omega⟩
 have hb:=AF (s:=s) (i:=a)
 have hb1:=AF (s:=s) (i:=a+1)
 unfold AM
 rw [w64 (by omega) (by omega)]
 by_cases hn:(s.size:Int) - a<2
 ·rw [if_pos (by simpa using hn),if_neg (by omega)]
 ·rw [if_neg (by simpa using hn),if_pos ⟨h0,ha⟩,ZA hb.1 hb.2,w32 (by omega) (by omega)]
  by_cases c1:A0 (bt s (a+1))
  ·rw [G9 h0 hs (by omega) (by omega) (by omega) c1 (by omega) (by omega),JX (by omega),Option.bind_some]
   simp only [Sum.elim_inr]
   rw [JY (by omega),if_pos ⟨by omega,c1⟩]
  ·rw [G8 h0 hs (by omega) (by omega) (by omega) c1,Option.bind_some,if_neg (fun h=>c1 h.2)]
   rfl
theorem YH {K:Nat} {s:ByteArray} {a:Int} (hK:10≤K) (h0:0≤a) (hs:(s.size:Int)≤1000000000000) (ha:a<s.size):AM K s a 3 240 224 2048 =
 some (if 3≤(s.size:Int) - a∧A0 (bt s (a+1))∧A0 (bt s (a+2)) then CW 3 ((bt s a % 16 * 64+bt s (a+1) % 64) * 64+bt s (a+2) % 64) 2048 else (0,0)):=by
 obtain ⟨k,rfl⟩:∃ k,K=k+5:=⟨K - 5,by omega⟩
 have hb:=AF (s:=s) (i:=a)
 have hb1:=AF (s:=s) (i:=a+1)
 have hb2:=AF (s:=s) (i:=a+2)
 unfold AM
 rw [w64 (by omega) (by omega)]
 by_cases hn:(s.size:Int) - a<3
 ·rw [if_pos (by simpa using hn),if_neg (by omega)]
 ·rw [if_neg (by simpa using hn),if_pos ⟨h0,ha⟩,ZB hb.1 hb.2,w32 (by omega) (by omega)]
  by_cases c1:A0 (bt s (a+1))
  ·rw [G9 h0 hs (by omega) (by omega) (by omega) c1 (by omega) (by omega)]
   by_cases c2:A0 (bt s (a+2))
   ·rw [show (1:Int)+1=2 from rfl,G9 h0 hs (by omega) (by omega) (by omega) c2 (by omega) (by omega),JX (by omega),Option.bind_some]
    simp only [Sum.elim_inr]
    rw [JY (by omega),if_pos ⟨by omega,c1,c2⟩]
   ·rw [show (1:Int)+1=2 from rfl,G8 h0 hs (by omega) (by omega) (by omega) c2,Option.bind_some,if_neg (fun h=>c2 h.2.2)]
    rfl
  ·rw [G8 h0 hs (by omega) (by omega) (by omega) c1,Option.bind_some,if_neg (fun h=>c1 h.2.1)]
   rfl
theorem YI {K k:Nat} {s:ByteArray} {a:Int} (h0:0≤a) (hs:(s.size:Int)≤1000000000000) (hn:¬ (s.size:Int) - a<4):AM.l0 K 4 a s (k+4) (bt s a % 8) 1 =
 some (if A0 (bt s (a+1))∧A0 (bt s (a+2))∧A0 (bt s (a+3)) then .inr (((bt s a % 8 * 64+bt s (a+1) % 64) * 64+bt s (a+2) % 64) * 64+bt s (a+3) % 64) else .inl (0,0)):=by
 have hb:=AF (s:=s) (i:=a)
 have hb1:=AF (s:=s) (i:=a+1)
 have hb2:=AF (s:=s) (i:=a+2)
 have hb3:=AF (s:=s) (i:=a+3)
 have r1:0≤bt s a % 8∧bt s a % 8<8:=by omega
 have r2:0≤bt s (a+1) % 64∧bt s (a+1) % 64<64:=by omega
 have r3:0≤bt s (a+2) % 64∧bt s (a+2) % 64<64:=by omega
 by_cases c1:A0 (bt s (a+1))
 ·have g1:=G9 (K:=K) h0 hs (n:=4) (r:=bt s a % 8) (i:=1) (k:=k+3) (by omega) (by omega) (by omega) c1 (by omega) (by omega)
  rw [g1,show (1:Int)+1=2 from rfl]
  by_cases c2:A0 (bt s (a+2))
  ·have g2:=G9 (K:=K) h0 hs (n:=4) (r:=bt s a % 8 * 64+bt s (a+1) % 64) (i:=2) (k:=k+2) (by omega) (by omega) (by omega) c2 (by omega) (by omega)
   rw [g2,show (2:Int)+1=3 from rfl]
   by_cases c3:A0 (bt s (a+3))
   ·have g3:=G9 (K:=K) h0 hs (n:=4) (r:=(bt s a % 8 * 64+bt s (a+1) % 64) * 64+bt s (a+2) % 64) (i:=3) (k:=k+1) (by omega) (by omega) (by omega) c3 (by omega) (by omega)
    rw [g3,JX (by omega),if_pos ⟨c1,c2,c3⟩]
   ·have g3:=G8 (K:=K) h0 hs (n:=4) (r:=(bt s a % 8 * 64+bt s (a+1) % 64) * 64+bt s (a+2) % 64) (i:=3) (k:=k+1) (by omega) (by omega) (by omega) c3
    rw [g3,if_neg (fun h=>c3 h.2.2)]
  ·have g2:=G8 (K:=K) h0 hs (n:=4) (r:=bt s a % 8 * 64+bt s (a+1) % 64) (i:=2) (k:=k+2) (by omega) (by omega) (by omega) c2
   rw [g2,if_neg (fun h=>c2 h.2.1)]
 ·have g1:=G8 (K:=K) h0 hs (n:=4) (r:=bt s a % 8) (i:=1) (k:=k+3) (by omega) (by omega) (by omega) c1
  rw [g1,if_neg (fun h=>c1 h.1)]
theorem YJ {K:Nat} {s:ByteArray} {a least:Int} (hK:10≤K) (h0:0≤a) (hs:(s.size:Int)≤1000000000000) (ha:a<s.size):AM K s a 4 248 240 least =
 some (if 4≤(s.size:Int) - a∧A0 (bt s (a+1))∧A0 (bt s (a+2))∧A0 (bt s (a+3)) then CW 4 (((bt s a % 8 * 64+bt s (a+1) % 64) * 64+bt s (a+2) % 64) * 64+bt s (a+3) % 64) least else (0,0)):=by
 obtain ⟨k,rfl⟩:∃ k,K=k+4:=⟨K - 4,by omega⟩
 have hb:=AF (s:=s) (i:=a)
 have r0:0≤bt s a % 8∧bt s a % 8<8:=by omega
 have r1:0≤bt s (a+1) % 64:=by omega
 have r2:0≤bt s (a+2) % 64:=by omega
 have r3:0≤bt s (a+3) % 64:=by omega
 unfold AM
 rw [w64 (n:=(s.size:Int) - a) (by omega) (by omega)]
 by_cases hn:(s.size:Int) - a<4
 ·rw [if_pos (by simpa using hn),if_neg (by omega)]
 ·rw [if_neg (by simpa using hn),if_pos ⟨h0,ha⟩,ZC hb.1 hb.2,w32 (n:=bt s a % 8) (by omega) (by omega),YI h0 hs hn]
  by_cases c:A0 (bt s (a+1))∧A0 (bt s (a+2))∧A0 (bt s (a+3))
  ·rw [if_pos c,Option.bind_some,if_pos ⟨by omega,c⟩]
   simp only [Sum.elim_inr]
   generalize bt s a % 8=x0 at *
   generalize bt s (a+1) % 64=x1 at *
   generalize bt s (a+2) % 64=x2 at *
   generalize bt s (a+3) % 64=x3 at *
   rw [JY (by omega)]
  ·rw [if_neg c,Option.bind_some,if_neg (fun h=>c h.2)]
   simp only [Sum.elim_inl]
def upt (s:ByteArray) (a:Int):Int×Int:=
 if a<0∨a≥s.size then (0,0)
 else if bt s a<128 then (bt s a,1)
 else if 192≤bt s a∧bt s a<224 then (if 2≤(s.size:Int) - a∧A0 (bt s (a+1)) then CW 2 (bt s a % 32 * 64+bt s (a+1) % 64) 128 else (0,0))
 else if 224≤bt s a∧bt s a<240 then (if 3≤(s.size:Int) - a∧A0 (bt s (a+1))∧A0 (bt s (a+2)) then CW 3 ((bt s a % 16 * 64+bt s (a+1) % 64) * 64+bt s (a+2) % 64) 2048 else (0,0))
 else if 240≤bt s a∧bt s a<248 then (if 4≤(s.size:Int) - a∧A0 (bt s (a+1))∧A0 (bt s (a+2))∧A0 (bt s (a+3)) then CW 4 (((bt s a % 8 * 64+bt s (a+1) % 64) * 64+bt s (a+2) % 64) * 64+bt s (a+3) % 64) 65536 else (0,0))
 else (0,0)
theorem KR {n v least:Int}:(CW n v least).2=if least≤v∧v≤1114111∧¬ (55296≤v∧v<57344) then n else 0:=by
 unfold CW; split <;> rfl
theorem UA {s:ByteArray} {a:Int}:(upt s a).2=usz s a:=by
 unfold upt usz AL
 have hb:=AF (s:=s) (i:=a)
 have hb1:=AF (s:=s) (i:=a+1)
 have hb2:=AF (s:=s) (i:=a+2)
 have hb3:=AF (s:=s) (i:=a+3)
 by_cases h:a<0∨a≥s.size
 ·rw [if_pos h,if_pos h]
 ·rw [if_neg h,if_neg h]
  by_cases h1:bt s a<128
  ·rw [if_pos h1,if_pos h1]
  ·rw [if_neg h1,if_neg h1]
   by_cases h2:192≤bt s a∧bt s a<224
   ·rw [if_pos h2,if_pos h2]
    by_cases c:2≤(s.size:Int) - a∧A0 (bt s (a+1))
    ·rw [if_pos c,KR]
     congr 1
     apply propext
     constructor
     ·intro h; exact ⟨c.1,c.2,h.1⟩
     ·intro h; exact ⟨h.2.2,by omega,by omega⟩
    ·rw [if_neg c,if_neg (fun h=>c ⟨h.1,h.2.1⟩)]
   ·rw [if_neg h2,if_neg h2]
    by_cases h3:224≤bt s a∧bt s a<240
    ·rw [if_pos h3,if_pos h3]
     by_cases c:3≤(s.size:Int) - a∧A0 (bt s (a+1))∧A0 (bt s (a+2))
     ·rw [if_pos c,KR]
      congr 1
      apply propext
      constructor
      ·intro h; exact ⟨c.1,c.2.1,c.2.2,h.1,h.2.2⟩
      ·intro h; exact ⟨h.2.2.2.1,by omega,h.2.2.2.2⟩
     ·rw [if_neg c,if_neg (fun h=>c ⟨h.1,h.2.1,h.2.2.1⟩)]
    ·rw [if_neg h3,if_neg h3]
     by_cases h4:240≤bt s a∧bt s a<248
     ·rw [if_pos h4,if_pos h4]
      by_cases c:4≤(s.size:Int) - a∧A0 (bt s (a+1))∧A0 (bt s (a+2))∧A0 (bt s (a+3))
      ·rw [if_pos c,KR]
       congr 1
       apply propext
       constructor
       ·intro h; exact ⟨c.1,c.2.1,c.2.2.1,c.2.2.2,h.1,h.2.1⟩
       ·intro h; exact ⟨h.2.2.2.2.1,h.2.2.2.2.2,by omega⟩
      ·rw [if_neg c,if_neg (fun h=>c ⟨h.1,h.2.1,h.2.2.1,h.2.2.2.1⟩)]
     ·rw [if_neg h4,if_neg h4]
theorem eP {K:Nat} {s:ByteArray} {a:Int} (hK:10≤K) (hs:(s.size:Int)≤1000000000000):DD K s a=some (upt s a):=by
 obtain ⟨k,hk⟩:∃ k,K=k+5:=⟨K - 5,by omega⟩
 have hb:=AF (s:=s) (i:=a)
 unfold DD upt
 by_cases h:a<0∨a≥s.size
 ·have:(if decide (a<0)=true then some true else some (decide (a≥((s.size:Nat):Int))))=some true:=by
   by_cases h1:a<0
   ·rw [if_pos (by simpa using h1)]
   ·rw [if_neg (by simpa using h1)]; simp; omega
  rw [this,Option.bind_some,if_pos rfl,if_pos h]
 ·have:(if decide (a<0)=true then some true else some (decide (a≥((s.size:Nat):Int))))=some false:=by
   rw [if_neg (by simp; omega)]; simp; omega
  rw [this,Option.bind_some,if_neg (by simp),if_neg h]
  unfold KV
  rw [Option.bind_some]
  have hin:0≤a∧a<((s.size:Nat):Int):=⟨by omega,by omega⟩
  have hw0:IntKind.wrap .i64 ((0:Int)+1)=1:=by decide
  have hw1:IntKind.wrap .i64 ((1:Int)+1)=2:=by decide
  have hw2:IntKind.wrap .i64 ((2:Int)+1)=3:=by decide
  have hw3:IntKind.wrap .i64 ((3:Int)+1)=4:=by decide
  rw [hk]
  simp only [DD.l0,if_pos hin,hw0,hw1,hw2,hw3]
  simp only [show ((0:Int)).toNat=0 from rfl,show ((1:Int)).toNat=1 from rfl,show ((2:Int)).toNat=2 from rfl,show ((3:Int)).toNat=3 from rfl,List.getD_cons_zero,List.getD_cons_succ,Y2 hb.1 hb.2,Y3 hb.1 hb.2,Y4 hb.1 hb.2,Y5 hb.1 hb.2]
  rw [← hk]
  simp only [decide_eq_true_eq]
  by_cases h1:bt s a<128
  ·rw [if_pos (by omega),if_pos (by omega),if_pos h1,if_pos h1,YF hK (by omega) hs (by omega) h1]; rfl
  ·rw [if_pos (by omega),if_pos (by omega),if_neg h1,if_neg h1,if_pos (by omega),if_pos (by omega)]
   by_cases h2:192≤bt s a∧bt s a<224
   ·rw [if_pos h2,if_pos h2,YG hK (by omega) hs (by omega)]; rfl
   ·rw [if_neg h2,if_neg h2,if_pos (by omega),if_pos (by omega)]
    by_cases h3:224≤bt s a∧bt s a<240
    ·rw [if_pos h3,if_pos h3,YH hK (by omega) hs (by omega)]; rfl
    ·rw [if_neg h3,if_neg h3,if_pos (by omega),if_pos (by omega)]
     by_cases h4:240≤bt s a∧bt s a<248
     ·rw [if_pos h4,if_pos h4,YJ hK (by omega) hs (by omega)]; rfl
     ·rw [if_neg h4,if_neg h4,if_neg (by omega)]
theorem eQ {K:Nat} {s:ByteArray} {a:Int} (hK:10≤K) (hs:(s.size:Int)≤1000000000000):IN K s a=some (usz s a):=by
 unfold IN
 rw [eP hK hs,Option.bind_some,UA]
theorem bP {n v least:Int}:((if decide (v<least)=true then some true else if decide (v > 1114111)=true then some true else if decide (v≥55296)=true then some (decide (v<57344)) else some false).bind fun z_76=>if z_76=true then some (0:Int) else some n)=some (CW n v least).2:=by
 rw [KR]
 by_cases h1:v<least
 ·rw [if_pos (by simpa using h1),Option.bind_some,if_pos rfl,if_neg (by omega)]
 ·rw [if_neg (by simpa using h1)]
  by_cases h2:v > 1114111
  ·rw [if_pos (by simpa using h2),Option.bind_some,if_pos rfl,if_neg (by omega)]
  ·rw [if_neg (by simpa using h2)]
   by_cases h3:v≥55296
   ·rw [if_pos (by simpa using h3),Option.bind_some]
    by_cases h4:v<57344
    ·rw [if_pos (by simpa using h4),if_neg (by omega)]
    ·rw [if_neg (by simpa using h4),if_pos (by omega)]
   ·rw [if_neg (by simpa using h3),Option.bind_some,if_neg (by simp),if_pos (by omega)]
theorem bK {K k:Nat} {s:ByteArray} {a r:Int} (h0:0≤a) (hs:(s.size:Int)≤1000000000000) (hn:¬ (s.size:Int) - a<2) (hr:0≤r∧r<64):AR.l0 K 2 a s (k+4) r 1 =
 some (if A0 (bt s (a+1)) then .inr (r * 64+bt s (a+1) % 64) else .inl 0):=by
 by_cases c1:A0 (bt s (a+1))
 ·have g1:=GI (K:=K) h0 hs (n:=2) (r:=r) (i:=1) (k:=k+3) (by omega) (by omega) (by omega) c1 (by omega) (by omega)
  rw [g1,N8 (by omega),if_pos c1]
 ·have g1:=GH (K:=K) h0 hs (n:=2) (r:=r) (i:=1) (k:=k+3) (by omega) (by omega) (by omega) c1
  rw [g1,if_neg c1]
theorem bL {K k:Nat} {s:ByteArray} {a r:Int} (h0:0≤a) (hs:(s.size:Int)≤1000000000000) (hn:¬ (s.size:Int) - a<3) (hr:0≤r∧r<64):AR.l0 K 3 a s (k+4) r 1 =
 some (if A0 (bt s (a+1))∧A0 (bt s (a+2)) then .inr ((r * 64+bt s (a+1) % 64) * 64+bt s (a+2) % 64) else .inl 0):=by
 have r2:0≤bt s (a+1) % 64∧bt s (a+1) % 64<64:=by omega
 by_cases c1:A0 (bt s (a+1))
 ·have g1:=GI (K:=K) h0 hs (n:=3) (r:=r) (i:=1) (k:=k+3) (by omega) (by omega) (by omega) c1 (by omega) (by omega)
  rw [g1,show (1:Int)+1=2 from rfl]
  by_cases c2:A0 (bt s (a+2))
  ·have g2:=GI (K:=K) h0 hs (n:=3) (r:=r * 64+bt s (a+1) % 64) (i:=2) (k:=k+2) (by omega) (by omega) (by omega) c2 (by omega) (by omega)
   rw [g2,N8 (by omega),if_pos ⟨c1,c2⟩]
  ·have g2:=GH (K:=K) h0 hs (n:=3) (r:=r * 64+bt s (a+1) % 64) (i:=2) (k:=k+2) (by omega) (by omega) (by omega) c2
   rw [g2,if_neg (fun h=>c2 h.2)]
 ·have g1:=GH (K:=K) h0 hs (n:=3) (r:=r) (i:=1) (k:=k+3) (by omega) (by omega) (by omega) c1
  rw [g1,if_neg (fun h=>c1 h.1)]
theorem bM {K k:Nat} {s:ByteArray} {a r:Int} (h0:0≤a) (hs:(s.size:Int)≤1000000000000) (hn:¬ (s.size:Int) - a<4) (hr:0≤r∧r<64):AR.l0 K 4 a s (k+4) r 1 =
 some (if A0 (bt s (a+1))∧A0 (bt s (a+2))∧A0 (bt s (a+3)) then .inr (((r * 64+bt s (a+1) % 64) * 64+bt s (a+2) % 64) * 64+bt s (a+3) % 64) else .inl 0):=by
 have r2:0≤bt s (a+1) % 64∧bt s (a+1) % 64<64:=by omega
 have r3:0≤bt s (a+2) % 64∧bt s (a+2) % 64<64:=by omega
 by_cases c1:A0 (bt s (a+1))
 ·have g1:=GI (K:=K) h0 hs (n:=4) (r:=r) (i:=1) (k:=k+3) (by omega) (by omega) (by omega) c1 (by omega) (by omega)
  rw [g1,show (1:Int)+1=2 from rfl]
  by_cases c2:A0 (bt s (a+2))
  ·have g2:=GI (K:=K) h0 hs (n:=4) (r:=r * 64+bt s (a+1) % 64) (i:=2) (k:=k+2) (by omega) (by omega) (by omega) c2 (by omega) (by omega)
   rw [g2,show (2:Int)+1=3 from rfl]
   by_cases c3:A0 (bt s (a+3))
   ·have g3:=GI (K:=K) h0 hs (n:=4) (r:=(r * 64+bt s (a+1) % 64) * 64+bt s (a+2) % 64) (i:=3) (k:=k+1) (by omega) (by omega) (by omega) c3 (by omega) (by omega)
    rw [g3,N8 (by omega),if_pos ⟨c1,c2,c3⟩]
   ·have g3:=GH (K:=K) h0 hs (n:=4) (r:=(r * 64+bt s (a+1) % 64) * 64+bt s (a+2) % 64) (i:=3) (k:=k+1) (by omega) (by omega) (by omega) c3
    rw [g3,if_neg (fun h=>c3 h.2.2)]
  ·have g2:=GH (K:=K) h0 hs (n:=4) (r:=r * 64+bt s (a+1) % 64) (i:=2) (k:=k+2) (by omega) (by omega) (by omega) c2
   rw [g2,if_neg (fun h=>c2 h.2.1)]
 ·have g1:=GH (K:=K) h0 hs (n:=4) (r:=r) (i:=1) (k:=k+3) (by omega) (by omega) (by omega) c1
  rw [g1,if_neg (fun h=>c1 h.1)]
theorem N9 {n r least:Int} {K:Nat} {s:ByteArray} {a:Int} {C:Prop} [Decidable C] {v:Int} (hw:IntKind.wrap .i64 ((s.size:Int) - a)=(s.size:Int) - a) (hg:¬ (s.size:Int) - a<n→AR.l0 K n a s K r 1=some (if C then .inr v else .inl 0)) :
 (if decide (IntKind.wrap .i64 ((((ByteArray.size s):Nat):Int) - a)<n)=true then some (0:Int) else (AR.l0 K n a s K r 1).bind (Sum.elim (fun z_74=>some z_74) (fun z_75=>(if (decide (z_75<least))=true then some true else if (decide (z_75 > (1114111:Int)))=true then some true else if (decide (z_75≥(55296:Int)))=true then some (decide (z_75<(57344:Int))) else some false).bind (fun z_76=>if z_76=true then some (0:Int) else some n)))) =
  some (if n≤(s.size:Int) - a∧C then CW n v least else (0,0)).2:=by
 rw [hw]
 by_cases h:(s.size:Int) - a<n
 ·rw [if_pos (by simpa using h),if_neg (fun h'=>by omega)]
 ·rw [if_neg (by simpa using h),hg h]
  by_cases c:C
  ·rw [if_pos c,Option.bind_some,if_pos ⟨by omega,c⟩]
   simp only [Sum.elim_inr]
   rw [bP]
  ·rw [if_neg c,Option.bind_some,if_neg (fun h'=>c h'.2)]
   simp only [Sum.elim_inl]
theorem bH {K:Nat} {s:ByteArray} {a:Int} (hK:10≤K) (hs:(s.size:Int)≤1000000000000):AR K s a=some (usz s a):=by
 obtain ⟨k,hk⟩:∃ k,K=k+4:=⟨K - 4,by omega⟩
 have hb:=AF (s:=s) (i:=a)
 rw [← UA]
 unfold AR upt
 by_cases h:a<0∨a≥s.size
 ·have:(if decide (a<0)=true then some true else some (decide (a≥((s.size:Nat):Int))))=some true:=by
   by_cases h1:a<0
   ·rw [if_pos (by simpa using h1)]
   ·rw [if_neg (by simpa using h1)]; simp; omega
  rw [this,Option.bind_some,if_pos rfl,if_pos h]
 ·have:(if decide (a<0)=true then some true else some (decide (a≥((s.size:Nat):Int))))=some false:=by
   rw [if_neg (by simp; omega)]; simp; omega
  have hw:IntKind.wrap .i64 ((s.size:Int) - a)=(s.size:Int) - a:=w64 (by omega) (by omega)
  have e2:=N9 (least:=128) (K:=K) (s:=s) (a:=a) (n:=2) (r:=bt s a % 32) hw (fun hn=>by rw [hk]; exact bK (by omega) hs hn (by omega))
  have e3:=N9 (least:=2048) (K:=K) (s:=s) (a:=a) (n:=3) (r:=bt s a % 16) hw (fun hn=>by rw [hk]; exact bL (by omega) hs hn (by omega))
  have e4:=N9 (least:=65536) (K:=K) (s:=s) (a:=a) (n:=4) (r:=bt s a % 8) hw (fun hn=>by rw [hk]; exact bM (by omega) hs hn (by omega))
  rw [this,Option.bind_some,if_neg (by simp),if_neg h,if_pos ⟨by omega,by omega⟩,w64 (n:=bt s a) (by omega) (by omega),UR hb.1 hb.2,UQ hb.1 hb.2,UT hb.1 hb.2]
  by_cases h1:bt s a<128
  ·rw [if_pos (by simpa using h1),if_pos h1]
  ·rw [if_neg (by simpa using h1),if_neg h1]
   by_cases h2:192≤bt s a∧bt s a<224
   ·rw [if_pos (by simp; omega),Option.bind_some,if_pos (by simp; omega),Option.bind_some,if_pos h2]
    simp only [Sum.elim_inr]
    exact e2
   ·have c2:(if decide (bt s a≥192)=true then some (decide (bt s a<224)) else some false)=some false:=by
     by_cases g:bt s a≥192
     ·rw [if_pos (by simpa using g)]; simp; omega
     ·rw [if_neg (by simpa using g)]
    rw [c2,Option.bind_some,if_neg (by simp),if_neg h2]
    by_cases h3:224≤bt s a∧bt s a<240
    ·rw [if_pos (by simp; omega),Option.bind_some,if_pos (by simp; omega),Option.bind_some,if_pos h3]
     simp only [Sum.elim_inr]
     exact e3
    ·have c3:(if decide (bt s a≥224)=true then some (decide (bt s a<240)) else some false)=some false:=by
      by_cases g:bt s a≥224
      ·rw [if_pos (by simpa using g)]; simp; omega
      ·rw [if_neg (by simpa using g)]
     rw [c3,Option.bind_some,if_neg (by simp),if_neg h3]
     by_cases h4:240≤bt s a∧bt s a<248
     ·rw [if_pos (by simp; omega),Option.bind_some,if_pos (by simp; omega),Option.bind_some,if_pos h4]
      simp only [Sum.elim_inr]
      exact e4
     ·have c4:(if decide (bt s a≥240)=true then some (decide (bt s a<248)) else some false)=some false:=by
       by_cases g:bt s a≥240
       ·rw [if_pos (by simpa using g)]; simp; omega
       ·rw [if_neg (by simpa using g)]
      rw [c4,Option.bind_some,if_neg (by simp),if_neg h4,Option.bind_some]
      simp only [Sum.elim_inl]
def A3 (s:ByteArray):Nat→Int→Bool
 | 0,_ => true
 | m+1,a => if a<s.size then (if usz s a=0 then false else A3 s m (a+usz s a)) else true
def A8 (s:ByteArray):Bool:=A3 s s.size 0
theorem fO {K:Nat} {s:ByteArray} (hK:10≤K) (hs:(s.size:Int)≤1000000000000):∀ (d k m:Nat) (a:Int),0≤a→(s.size:Int) - a≤d→a≤s.size→d<k→d≤m→B9.l0 K s k a=some (A3 s m a):=by
 intro d
 induction d with
 | zero =>
   intro k m a h0 h1 h2 hk hm
   obtain ⟨k,rfl⟩:∃ l,k=l+1:=⟨k - 1,by omega⟩
   rw [B9.l0,if_neg (by simp; omega)]
   cases m with
   | zero => rfl
   | succ m => rw [A3,if_neg (by omega)]
 | succ d ih =>
   intro k m a h0 h1 h2 hk hm
   obtain ⟨k,rfl⟩:∃ l,k=l+1:=⟨k - 1,by omega⟩
   obtain ⟨m,rfl⟩:∃ l,m=l+1:=⟨m - 1,by omega⟩
   have hu:=CC (s:=s) (a:=a)
   rw [B9.l0,A3]
   by_cases h:a<s.size
   ·have hu3:=hu.2.2 h0 h
    rw [if_pos (by simpa using h),if_pos h,eQ hK hs,Option.bind_some]
    by_cases hz:usz s a=0
    ·rw [if_pos (by simpa using hz),if_pos hz]
    ·rw [if_neg (by simpa using hz),if_neg hz,w64 (by omega) (by omega)]
     exact ih k m _ (by omega) (by omega) (by omega) (by omega) (by omega)
   ·rw [if_neg (by simpa using h),if_neg h]
theorem IP {K:Nat} {s:ByteArray} (hK:s.size+10≤K) (hs:(s.size:Int)≤1000000000000):B9 K s=some (A8 s):=by
 unfold B9 A8
 exact fO (by omega) hs s.size K s.size 0 (by omega) (by omega) (by omega) (by omega) (by omega)
theorem bJ {K:Nat} {s:ByteArray} (hK:10≤K) (hs:(s.size:Int)≤1000000000000):∀ (d k m:Nat) (a:Int),0≤a→(s.size:Int) - a≤d→a≤s.size→d<k→d≤m→CL.l0 K s k a=some (A3 s m a):=by
 intro d
 induction d with
 | zero =>
   intro k m a h0 h1 h2 hk hm
   obtain ⟨k,rfl⟩:∃ l,k=l+1:=⟨k - 1,by omega⟩
   rw [CL.l0,if_neg (by simp; omega)]
   cases m with
   | zero => rfl
   | succ m => rw [A3,if_neg (by omega)]
 | succ d ih =>
   intro k m a h0 h1 h2 hk hm
   obtain ⟨k,rfl⟩:∃ l,k=l+1:=⟨k - 1,by omega⟩
   obtain ⟨m,rfl⟩:∃ l,m=l+1:=⟨m - 1,by omega⟩
   have hu:=CC (s:=s) (a:=a)
   rw [CL.l0,A3]
   by_cases h:a<s.size
   ·have hu3:=hu.2.2 h0 h
    rw [if_pos (by simpa using h),if_pos h,bH hK hs,Option.bind_some]
    by_cases hz:usz s a=0
    ·rw [if_pos (by simpa using hz),if_pos hz]
    ·rw [if_neg (by simpa using hz),if_neg hz,w64 (by omega) (by omega)]
     exact ih k m _ (by omega) (by omega) (by omega) (by omega) (by omega)
   ·rw [if_neg (by simpa using h),if_neg h]
theorem bI {K:Nat} {s:ByteArray} (hK:s.size+10≤K) (hs:(s.size:Int)≤1000000000000):CL K s=some (A8 s):=by
 unfold CL A8
 exact bJ (by omega) hs s.size K s.size 0 (by omega) (by omega) (by omega) (by omega) (by omega)
theorem EL {s:ByteArray} (i:Nat):bt s (i:Int)=((s.get! i).toNat:Int):=by
 unfold bt
 rw [Int.toNat_natCast]
 by_cases h:i<s.size
 ·rw [getElem?_pos s i h,Option.getD_some]
  congr 2
  show s.data[i]=s.data[i]!
  rw [getElem!_pos s.data i h]
 ·rw [getElem?_neg s i h,Option.getD_none]
  show ((0:UInt8).toNat:Int)=((s.data[i]!).toNat:Int)
  rw [getElem!_neg s.data i h]; rfl
theorem JG {c:Nat} (hc:c≤1114111∧¬ (55296≤c∧c<57344)):(Utf8.encode (c:Int)).size=if c<128 then 1 else if c<2048 then 2 else if c<65536 then 3 else 4:=by
 have hv:Utf8.valid (c:Int)=true:=by
  unfold Utf8.valid
  simp only [Bool.or_eq_true,Bool.and_eq_true,decide_eq_true_eq]; omega
 unfold Utf8.encode
 simp only [hv,if_true,Int.toNat_natCast]
 by_cases h1:c<128
 ·rw [if_pos h1,if_pos h1]; rfl
 ·rw [if_neg h1,if_neg h1]
  by_cases h2:c<2048
  ·rw [if_pos h2,if_pos h2]; rfl
  ·rw [if_neg h2,if_neg h2]
   by_cases h3:c<65536
   ·rw [if_pos h3,if_pos h3]; rfl
   ·rw [if_neg h3,if_neg h3]; rfl
theorem XS {s:ByteArray} {i:Nat}:(s.get! i).toNat<256:=(s.get! i).toNat_lt
def dcd (n t b0 b1 b2 b3:Nat):Nat×Nat:=
 if b0<128 then (b0,1)
 else if b0 / 32==6&&(decide (t+1<n)&&b1 / 64==2) then
  (if b0 % 32 * 64+b1 % 64≥128 then (b0 % 32 * 64+b1 % 64,2) else (65533,1))
 else if b0 / 16==14&&(decide (t+1<n)&&b1 / 64==2)&&(decide (t+2<n)&&b2 / 64==2) then
  (if decide (b0 % 16 * 4096+b1 % 64 * 64+b2 % 64≥2048)&&Utf8.valid (b0 % 16 * 4096+b1 % 64 * 64+b2 % 64:Nat) then (b0 % 16 * 4096+b1 % 64 * 64+b2 % 64,3) else (65533,1))
 else if b0 / 8==30&&(decide (t+1<n)&&b1 / 64==2)&&(decide (t+2<n)&&b2 / 64==2)&&(decide (t+3<n)&&b3 / 64==2) then
  (if decide (b0 % 8 * 262144+b1 % 64 * 4096+b2 % 64 * 64+b3 % 64≥65536)&&Utf8.valid (b0 % 8 * 262144+b1 % 64 * 4096+b2 % 64 * 64+b3 % 64:Nat) then (b0 % 8 * 262144+b1 % 64 * 4096+b2 % 64 * 64+b3 % 64,4) else (65533,1))
 else (65533,1)
theorem VN {s:ByteArray} {t:Nat}:Utf8.decode s t=dcd s.size t (s.get! t).toNat (s.get! (t+1)).toNat (s.get! (t+2)).toNat (s.get! (t+3)).toNat:=rfl
theorem VP {n t b0 b1 b2 b3:Nat} (ht:t<n) (h0:b0<256) (hz:AL ((n:Int) - t) b0 b1 b2 b3≠0) :
 ∃ c z:Nat,dcd n t b0 b1 b2 b3=(c,z)∧AL ((n:Int) - t) b0 b1 b2 b3=z∧(Utf8.encode (c:Int)).size=z∧(c=10↔b0=10):=by
 unfold AL A0 at *
 unfold dcd
 by_cases h1:b0<128
 ·rw [if_pos h1,if_pos (show (b0:Int)<128 by omega)]
  refine ⟨b0,1,rfl,rfl,?_,Iff.rfl⟩
  rw [JG (by omega),if_pos h1]
 rw [if_neg (show ¬ (b0:Int)<128 by omega)] at hz ⊢
 rw [if_neg h1]
 by_cases h2:192≤b0∧b0<224
 ·rw [if_pos (show (192:Int)≤b0∧(b0:Int)<224 by omega)] at hz ⊢
  by_cases c:2≤(n:Int) - t∧((128:Int)≤b1∧(b1:Int)<192)∧(128:Int)≤b0 % 32 * 64+b1 % 64
  ·rw [if_pos c,if_pos (by simp; omega),if_pos (by omega)]
   refine ⟨_,2,rfl,rfl,?_,by omega⟩
   rw [JG (by omega),if_neg (by omega),if_pos (by omega)]
  ·rw [if_neg c] at hz; exact (hz rfl).elim
 rw [if_neg (show ¬ ((192:Int)≤b0∧(b0:Int)<224) by omega)] at hz ⊢
 rw [if_neg (by simp; omega)]
 by_cases h3:224≤b0∧b0<240
 ·rw [if_pos (show (224:Int)≤b0∧(b0:Int)<240 by omega)] at hz ⊢
  by_cases c:3≤(n:Int) - t∧((128:Int)≤b1∧(b1:Int)<192)∧((128:Int)≤b2∧(b2:Int)<192)∧(2048:Int)≤(b0 % 16 * 64+b1 % 64) * 64+b2 % 64∧¬ ((55296:Int)≤(b0 % 16 * 64+b1 % 64) * 64+b2 % 64∧((b0:Int) % 16 * 64+b1 % 64) * 64+b2 % 64<57344)
  ·have hc:b0 % 16 * 4096+b1 % 64 * 64+b2 % 64≤1114111∧¬ (55296≤b0 % 16 * 4096+b1 % 64 * 64+b2 % 64∧b0 % 16 * 4096+b1 % 64 * 64+b2 % 64<57344):=by omega
   have hv:Utf8.valid ((b0 % 16 * 4096+b1 % 64 * 64+b2 % 64:Nat):Int)=true:=by
    unfold Utf8.valid
    simp only [Bool.or_eq_true,Bool.and_eq_true,decide_eq_true_eq]; omega
   rw [if_pos c,if_pos (by simp; omega),hv,if_pos (by simp; omega)]
   refine ⟨_,3,rfl,rfl,?_,by omega⟩
   rw [JG hc,if_neg (by omega),if_neg (by omega),if_pos (by omega)]
  ·rw [if_neg c] at hz; exact (hz rfl).elim
 rw [if_neg (show ¬ ((224:Int)≤b0∧(b0:Int)<240) by omega)] at hz ⊢
 rw [if_neg (by simp; omega)]
 by_cases h4:240≤b0∧b0<248
 ·rw [if_pos (show (240:Int)≤b0∧(b0:Int)<248 by omega)] at hz ⊢
  by_cases c:4≤(n:Int) - t∧((128:Int)≤b1∧(b1:Int)<192)∧((128:Int)≤b2∧(b2:Int)<192)∧((128:Int)≤b3∧(b3:Int)<192)∧(65536:Int)≤((b0 % 8 * 64+b1 % 64) * 64+b2 % 64) * 64+b3 % 64∧(((b0:Int) % 8 * 64+b1 % 64) * 64+b2 % 64) * 64+b3 % 64≤1114111
  ·have hc:b0 % 8 * 262144+b1 % 64 * 4096+b2 % 64 * 64+b3 % 64≤1114111∧¬ (55296≤b0 % 8 * 262144+b1 % 64 * 4096+b2 % 64 * 64+b3 % 64∧b0 % 8 * 262144+b1 % 64 * 4096+b2 % 64 * 64+b3 % 64<57344):=by omega
   have hv:Utf8.valid ((b0 % 8 * 262144+b1 % 64 * 4096+b2 % 64 * 64+b3 % 64:Nat):Int)=true:=by
    unfold Utf8.valid
    simp only [Bool.or_eq_true,Bool.and_eq_true,decide_eq_true_eq]; omega
   rw [if_pos c,if_pos (by simp; omega),hv,if_pos (by simp; omega)]
   refine ⟨_,4,rfl,rfl,?_,by omega⟩
   rw [JG hc,if_neg (by omega),if_neg (by omega),if_neg (by omega)]
  ·rw [if_neg c] at hz; exact (hz rfl).elim
 rw [if_neg (show ¬ ((240:Int)≤b0∧(b0:Int)<248) by omega)] at hz
 exact (hz rfl).elim
theorem LG {s:ByteArray} {t:Nat} (ht:t<s.size) (hz:usz s t≠0) :
 ∃ c z:Nat,Utf8.decode s t=(c,z)∧usz s t=z∧(Utf8.encode (c:Int)).size=z∧(c=10↔bt s t=10):=by
 unfold usz at *
 rw [if_neg (by omega)] at hz ⊢
 rw [show (t:Int)+1=((t+1:Nat):Int) by omega,show (t:Int)+2=((t+2:Nat):Int) by omega,show (t:Int)+3=((t+3:Nat):Int) by omega,EL,EL,EL,EL] at hz
 rw [show (t:Int)+1=((t+1:Nat):Int) by omega,show (t:Int)+2=((t+2:Nat):Int) by omega,show (t:Int)+3=((t+3:Nat):Int) by omega,EL,EL,EL,EL,VN]
 obtain ⟨c,z,h1,h2,h3,h4⟩:=VP ht XS hz
 exact ⟨c,z,h1,h2,h3,by rw [h4]; omega⟩
def isE (s:ByteArray) (p:Int):Bool:=decide (0≤p∧p≤s.size)&&(A8 s&&(decide (p=s.size)||!decide (A0 (bt s p))))
theorem F2 {K:Nat} {s:ByteArray} {p:Int} (hK:s.size+10≤K) (hs:s.size≤1000000):B8 K s p=some (isE s p):=by
 unfold B8 isE
 have hb:=AF (s:=s) (i:=p)
 by_cases h0:0≤p
 ·rw [if_pos (by simpa using h0)]
  by_cases h1:p≤s.size
  ·rw [if_pos (by simpa using h1),decide_eq_true ⟨h0,h1⟩,Bool.true_and,IP hK (by omega)]
   by_cases h2:p=s.size
   ·rw [if_pos (by simpa using h2),Option.bind_some,decide_eq_true h2,Bool.true_or,Bool.and_true]
   ·rw [if_neg (by simpa using h2),F7 hb.1 hb.2,decide_eq_false h2,Bool.false_or,Option.bind_some]
    have hr:0≤p∧p<(s.size:Int):=⟨h0,by omega⟩
    simp only [if_pos hr]
    by_cases hc:A0 (bt s p)
    ·rw [decide_eq_true hc,if_neg (by simp)]; simp
    ·rw [decide_eq_false hc,if_pos (by simp)]; simp
  ·rw [if_neg (by simpa using h1),decide_eq_false (by omega),Bool.false_and]
 ·rw [if_neg (by simpa using h0),decide_eq_false (by omega),Bool.false_and]
theorem M6 {s:ByteArray} {p:Int} (hv:A8 s=true) (h0:0≤p) (h1:p≤s.size) (hc:p=s.size∨¬ A0 (bt s p)):isE s p=true:=by
 unfold isE
 rw [decide_eq_true ⟨h0,h1⟩,hv,Bool.true_and,Bool.true_and]
 rcases hc with hc | hc
 ·rw [decide_eq_true hc,Bool.true_or]
 ·rw [decide_eq_false hc]; simp
theorem G6 {s:ByteArray} {p:Int} (h:isE s p=true):0≤p∧p≤s.size∧A8 s=true∧(p=s.size∨¬ A0 (bt s p)):=by
 unfold isE at h
 simp only [Bool.and_eq_true,decide_eq_true_eq,Bool.or_eq_true,Bool.not_eq_true',decide_eq_false_iff_not] at h
 exact ⟨h.1.1,h.1.2,h.2.1,h.2.2⟩
theorem Y9 (n:Nat):HX (n+40)=some true:=by kernel_rfl
abbrev Atm:=ByteArray×(Int×(Int×(Int×List (Int×Int))))
abbrev zA:Atm:=(ByteArray.empty,((0:Int),((0:Int),((0:Int),([]:List (Int×Int))))))
abbrev Chg:=Int×(Int×ByteArray)
abbrev zC:Chg:=((0:Int),((0:Int),ByteArray.empty))
theorem up1 {j:Nat} (h:j<1000000):IntKind.wrap .i64 ((j:Int)+1)=((j+1:Nat):Int):=by
 rw [w64 (by omega) (by omega)]; omega
theorem PW {K:Nat} {l:List Int} {v:Int} (hl:l.length≤50000):∀ (r:List Int) (j k:Nat),l.drop j=r→r.length<k→∃ n,BK.l0 K l v k (j:Int)=some n∧decide (n≥0)=r.contains v
 | [],j,k+1,h,_ => by
   have:=A6 h
   refine ⟨-1,?_,rfl⟩
   rw [BK.l0,if_neg (by simp; omega)]
 | g :: r,j,k+1,h,hk => by
   obtain ⟨h1,h2,h3⟩:=A4 h (0:Int)
   rw [BK.l0,if_pos (by simp; omega),if_pos ⟨by omega,by omega⟩,Int.toNat_natCast,h2]
   by_cases e:v=g
   ·exact ⟨j,by rw [if_pos (by simpa using e)],by simp [e]⟩
   ·obtain ⟨n,h4,h5⟩:=PW hl r (j+1) k h3 (by simpa using hk)
    refine ⟨n,by rw [if_neg (by simpa using e),up1 (by omega)]; exact h4,by rw [h5]; simp [e]⟩
theorem FW {K:Nat} {l:List Int} {v:Int} (hK:100000≤K) (hl:l.length≤50000):CS K l v=some (l.contains v):=by
 obtain ⟨n,h1,h2⟩:=PW (K:=K) (v:=v) hl l 0 K rfl (by omega)
 have h1:BK.l0 K l v K 0=some n:=h1
 rw [CS,BK,h1,Option.bind_some,← h2]
def holds (g:Int) (u:List Int):Bool:=g==-1||!u.contains g
theorem PV {K:Nat} {u:List Int} {g:Int} (hK:100000≤K) (hu:u.length≤50000):FU K g u=some (holds g u):=by
 rw [FU,FW hK hu,Option.bind_some]
 unfold holds
 by_cases h:g = -1 <;> simp [h]
def EO (rev:Int) (u:List Int) (c:Int×Int):Bool:=decide (c.1≤rev)&&holds c.2 u
theorem VM {K:Nat} {u:List Int} {c d rev:Int} (hK:100000≤K) (hu:u.length≤50000):GW K c d rev u=some (EO rev u (c,d)):=by
 rw [GW,PV hK hu,Option.bind_some]
 unfold EO
 by_cases h:c≤rev <;> simp [h]
theorem P0 {K:Nat} {l:List (Int×Int)} {u:List Int} {rev:Int} (hK:100000≤K) (hu:u.length≤50000) (hl:l.length≤50000):∀ (r:List (Int×Int)) (j k:Nat),l.drop j=r→r.length<k→∃ n,D5.l0 K l rev u k (j:Int)=some n∧decide (n≥0)=r.any (EO rev u)
 | [],j,k+1,h,_ => by
   have:=A6 h
   refine ⟨-1,?_,rfl⟩
   rw [D5.l0,if_neg (by simp; omega)]
 | g :: r,j,k+1,h,hk => by
   obtain ⟨h1,h2,h3⟩:=A4 h ((0:Int),(0:Int))
   rw [D5.l0,if_pos (by simp; omega),Int.toNat_natCast,h2,VM hK hu,Option.bind_some,if_pos ⟨by omega,by omega⟩]
   cases e:EO rev u g with
   | true => exact ⟨j,by rw [if_pos rfl],by simp [e]⟩
   | false =>
     obtain ⟨n,h4,h5⟩:=P0 hK hu hl r (j+1) k h3 (by simpa using hk)
     refine ⟨n,by rw [if_neg (by simp [e]),up1 (by omega)]; exact h4,by rw [h5]; simp [e]⟩
def vis (rev:Int) (u:List Int) (a:Atm):Bool:=decide (a.2.1≤rev)&&holds a.2.2.1 u&&!a.2.2.2.2.any (EO rev u)
theorem GU {K:Nat} {a:Atm} {u:List Int} {rev:Int} (hK:100000≤K) (hu:u.length≤50000) (hl:a.2.2.2.2.length≤50000):DN K a.1 a.2.1 a.2.2.1 a.2.2.2.1 a.2.2.2.2 rev u=some (vis rev u a):=by
 obtain ⟨n,h1,h2⟩:=P0 (rev:=rev) hK hu hl a.2.2.2.2 0 K rfl (by omega)
 rw [DN,PV hK hu,KL,D5,show (0:Int)=((0:Nat):Int) from rfl,h1]
 simp only [Option.bind_some]
 unfold vis
 rw [← h2]
 by_cases h:a.2.1≤rev
 ·have:¬ a.2.1 > rev:=by omega
  cases hh:holds a.2.2.1 u <;> simp [h,this]
 ·have:a.2.1 > rev:=by omega
  simp [h,this]
def Aok (l:List Atm):Prop:=l.length≤20000∧∀ a∈l,a.1.size≤10∧a.2.2.2.2.length≤1000
theorem Aok.tl {a:Atm} {l:List Atm} (h:Aok (a :: l)):Aok l:=⟨by have:=h.1; simp at this; omega,fun b hb=>h.2 b (List.mem_cons_of_mem _ hb)⟩
theorem C6 {s:ByteArray}:(bytesL s).length=s.size:=by simp [bytesL]
def vtx (rev:Int) (u:List Int):List Atm→List Int
 | [] => []
 | a :: l => if vis rev u a then bytesL a.1 ++ vtx rev u l else vtx rev u l
theorem NO {K:Nat} {l:List Atm} {u:List Int} {rev:Int} (hK:100000≤K) (hu:u.length≤50000) (hl:Aok l):∀ (r:List Atm) (j k:Nat) (x:List Int),l.drop j=r→r.length<k→x.length+10 * r.length≤1000000→
 BH.l0 K l rev u k x (j:Int)=some (x++vtx rev u r)
 | [],j,k+1,x,h,_,_ => by
   have:=A6 h
   rw [BH.l0,if_neg (by simp; omega)]
   simp [vtx]
 | g :: r,j,k+1,x,h,hk,hx => by
   obtain ⟨h1,h2,h3⟩:=A4 h zA
   have hlen:=hl.1
   have hg:=hl.2 g (mdr h)
   simp only [List.length_cons] at hx
   rw [BH.l0,if_pos (by simp; omega),if_pos ⟨by omega,by omega⟩,Int.toNat_natCast,h2,GU hK hu (by omega),Option.bind_some,up1 (by omega)]
   cases hv:vis rev u g with
   | true =>
     rw [if_pos rfl,GQ,II,Option.bind_some,if_pos (by rw [C6]; omega),Option.bind_some,NO hK hu hl r (j+1) k _ h3 (by simpa using hk) (by simp [C6]; omega)]
     simp [vtx,hv]
   | false =>
     rw [if_neg (by simp),NO hK hu hl r (j+1) k _ h3 (by simpa using hk) (by omega)]
     simp [vtx,hv]
theorem PZ {s:ByteArray}:inB (bytesL s)=true:=by
 unfold inB bytesL
 rw [List.all_eq_true]
 intro x hx
 obtain ⟨b,_,rfl⟩:=List.mem_map.1 hx
 have:=b.toNat_lt
 simp
 omega
theorem PY {x y:List Int}:inB (x++y)=(inB x&&inB y):=by simp [inB]
theorem M2 {rev:Int} {u:List Int}:∀ {l:List Atm},inB (vtx rev u l)=true
 | [] => rfl
 | a :: l => by
   simp only [vtx]
   split
   ·rw [PY,PZ,M2]; rfl
   ·exact M2
theorem KS {K:Nat} {l:List Atm} {u:List Int} {rev:Int} (hK:100000≤K) (hu:u.length≤50000) (hl:Aok l):BH K l rev u=some (ofBytes (vtx rev u l)):=by
 have hlen:=hl.1
 rw [BH,show (0:Int)=((0:Nat):Int) from rfl,NO hK hu hl l 0 K [] rfl (by omega) (by simp; omega),Option.bind_some,List.nil_append,GP,if_pos M2,Option.bind_some]
def plc (rev:Int) (u:List Int):Int→List Atm→List Int
 | p,[] => [p]
 | p,a :: l => p :: plc rev u (if vis rev u a then p+a.1.size else p) l
theorem HY {rev:Int} {u:List Int}:∀ {l:List Atm} {p:Int},(plc rev u p l).length=l.length+1
 | [],_ => rfl
 | a :: l,p => by simp [plc,HY]
theorem MT {K:Nat} {l:List Atm} {u:List Int} {rev:Int} (hK:100000≤K) (hu:u.length≤50000) (hl:Aok l):∀ (r:List Atm) (j k:Nat) (x:List Int) (p:Int),l.drop j=r→r.length<k→x.length+r.length≤1000000→0≤p→p+10 * r.length≤1000000→
 BU.l0 K l rev u k x p (j:Int)=some (x++plc rev u p r)
 | [],j,k+1,x,p,h,_,hx,_,_ => by
   have:=A6 h
   rw [BU.l0,if_neg (by simp; omega),if_pos (by simp at hx ⊢; omega)]
   simp [plc]
 | g :: r,j,k+1,x,p,h,hk,hx,h0,hp => by
   obtain ⟨h1,h2,h3⟩:=A4 h zA
   have hlen:=hl.1
   have hg:=hl.2 g (mdr h)
   simp only [List.length_cons] at hx hp
   rw [BU.l0,if_pos (by simp; omega),if_pos ⟨by omega,by omega,by simp; omega⟩,Int.toNat_natCast,h2,GU hK hu (by omega),Option.bind_some,up1 (by omega)]
   cases hv:vis rev u g with
   | true =>
     rw [if_pos rfl,w64 (by omega) (by omega),MT hK hu hl r (j+1) k _ _ h3 (by simpa using hk) (by simp; omega) (by omega) (by omega)]
     simp [plc,hv]
   | false =>
     rw [if_neg (by simp),MT hK hu hl r (j+1) k _ _ h3 (by simpa using hk) (by simp; omega) (by omega) (by omega)]
     simp [plc,hv]
theorem RV {K:Nat} {l:List Atm} {u:List Int} {rev:Int} (hK:100000≤K) (hu:u.length≤50000) (hl:Aok l):BU K l rev u=some (plc rev u 0 l):=by
 have hlen:=hl.1
 rw [BU,w64 (by omega) (by omega),if_pos ⟨by omega,by omega,by omega⟩]
 have:=MT (rev:=rev) hK hu hl l 0 K [] 0 rfl (by omega) (by simp; omega) (by omega) (by omega)
 simpa using this
theorem OK {K:Nat} {c:List (Int×Int)} (h:c.length≤1000):ED K c=some c:=by
 rw [ED,if_pos (by simp; omega),List.nil_append]
theorem bO {l:List Atm} {j:Nat}:setCut l j (l.getD j zA).2.2.2.2=l:=by
 unfold setCut
 rcases Nat.lt_or_ge j l.length with h | h
 ·rw [List.getD_eq_getElem?_getD,List.getElem?_eq_getElem h,Option.getD_some]
  exact List.set_getElem_self h
 ·exact List.set_eq_of_length_le h
theorem FI {α:Type} {xs ys:List α} (h:ys.length=xs.length):putAt xs ys 0=ys:=by
 simp [putAt,h]
theorem OO {K:Nat} {l:List Atm} (hK:100000≤K) (hl:Aok l):∀ (d j k:Nat),j+d=l.length→d<k→BM.l0 K l k j l (j:Int)=some l
 | 0,j,k+1,h,_ => by
   rw [BM.l0,FI (by simp),if_neg (by simp; omega),if_pos (by omega)]
 | d+1,j,k+1,h,hk => by
   have hlen:=hl.1
   have hj:j<l.length:=by omega
   have hg:=hl.2 (l.getD j zA) (by rw [List.getD_eq_getElem?_getD,List.getElem?_eq_getElem hj]; simp)
   rw [BM.l0,FI (by simp),if_pos (by simp; omega),Int.toNat_natCast,OK hg.2,Option.bind_some,if_pos ⟨by omega,by omega,by omega,rfl⟩,up1 (by omega),bO]
   exact OO hK hl d (j+1) k (by omega) (by omega)
theorem J9 {K:Nat} {l:List Atm} (hK:100000≤K) (hl:Aok l):BM K l=some l:=by
 have hlen:=hl.1
 rw [BM,if_pos ⟨by omega,by omega,by omega,by omega⟩,FI (by simp)]
 have:=OO hK hl l.length 0 K (by omega) (by omega)
 simpa using this
theorem VE {K:Nat} (hK:100000≤K):E2 K=some []:=by
 obtain ⟨k,rfl⟩:∃ k,K=k+1:=⟨K - 1,by omega⟩
 rfl
theorem VF {K:Nat} (hK:100000≤K):E3 K=some []:=by
 obtain ⟨k,rfl⟩:∃ k,K=k+1:=⟨K - 1,by omega⟩
 rfl
structure Rok (us:List (List Int)) (f:Int) (g o:List Int):Prop where
 ne:0<us.length
 len:us.length≤1000
 lo:0≤f
 hi:f≤1000
 u:∀ u∈us,u.length≤100
 g:g.length≤100
 o:o.length≤100
def hdR (us:List (List Int)) (f:Int):Int:=f+us.length - 1
def lvR (us:List (List Int)) (f r:Int):Bool:=decide (f≤r)&&decide (r≤hdR us f)
def unR (us:List (List Int)) (f r:Int):List Int:=if lvR us f r=true then us.getD (r - f).toNat [] else []
def lsR (us:List (List Int)):List Int:=us.getD (us.length - 1) []
theorem G1 {α:Type} {l:List α} {i:Nat} {d:α} (h:i<l.length):l.getD i d∈l:=by
 rw [List.getD_eq_getElem?_getD,List.getElem?_eq_getElem h]; simp
theorem KU {us:List (List Int)} {f:Int} {g:List Int} {o:List Int} (h:Rok us f g o) {r:Int}:(unR us f r).length≤100:=by
 unfold unR
 split
 ·rename_i hl
  simp only [lvR,Bool.and_eq_true,decide_eq_true_eq] at hl
  unfold hdR at hl
  have hi:(r - f).toNat<us.length:=by omega
  exact h.u _ (G1 hi)
 ·simp
theorem JZ {us:List (List Int)} {f:Int} {g:List Int} {o:List Int} (h:Rok us f g o):(lsR us).length≤100:=by
 have:=h.ne
 have hi:us.length - 1<us.length:=by omega
 exact h.u _ (G1 hi)
theorem HL {K:Nat} {us:List (List Int)} {f:Int} {g:List Int} {o:List Int} (h:Rok us f g o):DI K us f g o=some (hdR us f):=by
 have:=h.len; have:=h.lo; have:=h.hi; have:=h.ne
 rw [DI,w64 (n:=f+_) (by omega) (by omega),w64 (by omega) (by omega)]
 rfl
theorem JW {K:Nat} {us:List (List Int)} {f:Int} {g:List Int} {o:List Int} (h:Rok us f g o) {r:Int}:GB K us f g o r=some (lvR us f r):=by
 rw [GB,HL h,Option.bind_some]
 unfold lvR
 by_cases h1:f≤r
 ·rw [if_pos (by simpa using h1)]; simp [h1]
 ·rw [if_neg (by simpa using h1)]; simp [h1]
theorem cU {K:Nat} {us:List (List Int)} {i:Nat} (hi:i<us.length) (hu:(us.getD i []).length≤1000):I9 K us i=some (us.getD i []):=by
 rw [I9,if_pos ⟨hi,by omega,by omega,by omega,by omega⟩,MF,if_pos hi,Option.bind_some,NB,if_pos ⟨hi,by omega⟩,Option.bind_some]
 congr 1
 generalize us.getD i []=x
 rw [show (List.replicate (Int.toNat ((x.length:Nat):Int)) (0:Int)).length=x.length by simp,List.take_length]
 exact FI (by simp)
theorem IM {K:Nat} {us:List (List Int)} {f:Int} {g:List Int} {o:List Int} (h:Rok us f g o) {r:Int}:GC K us f g o r=some (unR us f r):=by
 rw [GC,JW h,Option.bind_some]
 unfold unR
 cases hl:lvR us f r with
 | false => rfl
 | true =>
   simp only [lvR,Bool.and_eq_true,decide_eq_true_eq] at hl
   unfold hdR at hl
   have:=h.len; have:=h.lo; have:=h.hi
   have hi:(r - f).toNat<us.length:=by omega
   have:=h.u _ (G1 (d:=[]) hi)
   rw [if_neg (by simp),w64 (n:=r - f) (by omega) (by omega),cU hi (by omega),Option.bind_some,if_pos ⟨by omega,by omega⟩,if_pos rfl]
theorem RZ {K:Nat} {us:List (List Int)} {g:List Int} {o:List Int} (h:us.length≤1000):∀ (r:List (List Int)) (j k:Nat) (x:List (List Int)),us.drop j=r→r.length<k→x.length+r.length≤10000→CO.l0 K us g o k x (j:Int)=some (x++r,g,o)
 | [],j,k+1,x,e,_,_ => by
   have:=A6 e
   rw [CO.l0,if_neg (by simp; omega)]
   simp
 | a :: r,j,k+1,x,e,hk,hx => by
   obtain ⟨h1,h2,h3⟩:=A4 e []
   simp only [List.length_cons] at hx
   rw [CO.l0,if_pos (by simp; omega),if_pos ⟨by omega,by omega⟩,Int.toNat_natCast,FH,if_pos h1,Option.bind_some,if_pos (by omega),up1 (by omega),h2,RZ h r (j+1) k _ h3 (by simpa using hk) (by simp; omega)]
   simp
theorem aJ {K:Nat} {us:List (List Int)} {f:Int} {g:List Int} {o:List Int} (hK:100000≤K) (h:Rok us f g o):CO K us f g o=some (us,g,o):=by
 have:=h.len
 rw [CO,HQ,HQ,Option.bind_some,Option.bind_some]
 have:=RZ (K:=K) (g:=g) (o:=o) h.len us 0 K [] rfl (by omega) (by simp; omega)
 simpa using this
theorem RH {K:Nat} {us:List (List Int)} {f:Int} {g:List Int} {o:List Int} (h:Rok us f g o):EY K us f g o=if 200≤hdR us f then some () else none:=by
 have:=h.len; have:=h.ne
 rw [EY,HL h,Option.bind_some]
 by_cases hh:200≤hdR us f
 ·rw [if_pos (by simpa using hh),if_pos hh]
 ·rw [if_neg (by simpa using hh),if_neg hh,w64 (by omega) (by omega),FH,if_pos (by omega),Option.bind_some]
  repeat' split
  all_goals rfl
theorem RI {K:Nat} {us:List (List Int)} {f:Int} {g:List Int} {o:List Int} (h:Rok us f g o) (hh:¬ 200≤hdR us f):GE K us f g o=some (lsR us,us):=by
 have:=h.len; have:=h.ne
 rw [GE,HL h,Option.bind_some,if_neg (by simpa using hh),w64 (by omega) (by omega),FH,if_pos (by omega),Option.bind_some,if_pos ⟨by omega,by omega⟩,if_pos (by omega)]
 unfold lsR
 rw [show Int.toNat ((us.length:Int) - 1)=us.length - 1 by omega]
def adR (us:List (List Int)) (f:Int) (g o:List Int) (x:Int):Int×Int×List (List Int)×List Int:=
 if o.contains x=true∨x<0∨60≤x then (0,210,us,g) else if 200≤hdR us f then (0,70,us,g) else (hdR us f+1,0,us++[lsR us],insS x g)
theorem UP {K:Nat} {us:List (List Int)} {f:Int} {g:List Int} {o:List Int} (h:Rok us f g o) {x:Int}:I7 K us f g o x=some (adR us f g o x):=by
 have:=h.len; have:=h.lo; have:=h.hi
 rw [I7]
 unfold adR
 by_cases hx:o.contains x=true∨x<0∨60≤x
 ·have:(if o.contains x=true then some true else if decide (x<0)=true then some true else some (decide (x≥60)))=some true:=by
   rcases hx with h | h | h
   ·rw [if_pos h]
   ·split <;> simp [h]
   ·split
    ·rfl
    ·split
     ·rfl
     ·simpa using h
  rw [this,Option.bind_some,if_pos rfl,if_pos hx]
 ·have:(if o.contains x=true then some true else if decide (x<0)=true then some true else some (decide (x≥60)))=some false:=by
   rw [if_neg (fun h=>hx (.inl h)),if_neg (fun h=>hx (.inr (.inl (by simpa using h))))]
   simp; omega
  rw [this,Option.bind_some,if_neg (by simp),if_neg hx,RH h]
  by_cases hh:200≤hdR us f
  ·rw [if_pos hh,Option.isSome_some,if_pos rfl,Option.bind_some,if_pos hh]
  ·rw [if_neg hh,if_neg (by simp),if_neg hh,RI h hh,Option.bind_some,if_pos ⟨by omega,by omega⟩,KJ,Option.bind_some]
   dsimp only
   rw [w64 (n:=f+_) (by omega) (by omega),w64 (by omega) (by omega)]
   unfold hdR
   congr 2
   omega
def tgS (x:Int) (l:List Int):List Int:=if l.contains x=true then delS x l else insS x l
def tgR (us:List (List Int)) (f:Int) (g:List Int) (x:Int):Int×Int×List (List Int):=
 if g.contains x=true then if 200≤hdR us f then (0,70,us) else (hdR us f+1,0,us++[tgS x (lsR us)]) else (0,210,us)
theorem dP {K:Nat} {us:List (List Int)} {f:Int} {g:List Int} {o:List Int} (h:Rok us f g o) (hg:∀ x∈g,0≤x∧x<60) {x:Int}:I8 K us f g o x=some (tgR us f g x):=by
 have:=h.len; have:=h.lo; have:=h.hi
 rw [I8,GD,Option.bind_some]
 unfold tgR
 cases hx:g.contains x with
 | false => rfl
 | true =>
   have hxg:=hg x (by simpa using hx)
   rw [if_neg (by simp),if_pos rfl,RH h]
   by_cases hh:200≤hdR us f
   ·rw [if_pos hh,Option.isSome_some,if_pos rfl,Option.bind_some,if_pos hh]
   ·rw [if_neg hh,if_neg (by simp),if_neg hh,RI h hh,Option.bind_some]
    have key:∀ z,(if (lsR us).contains x=true then some (us++[delS x (lsR us)]) else if (-9223372036854775808:Int)≤x∧x≤9223372036854775807 then some (us++[insS x (lsR us)]) else none)=some z→z=us++[tgS x (lsR us)]:=by
     intro z hz
     unfold tgS
     split at hz
     ·rename_i hc; rw [if_pos hc]; exact (Option.some.inj hz).symm
     ·rename_i hc
      rw [if_neg hc]
      split at hz
      ·exact (Option.some.inj hz).symm
      ·cases hz
    have:(if (lsR us).contains x=true then some (us++[delS x (lsR us)]) else if (-9223372036854775808:Int)≤x∧x≤9223372036854775807 then some (us++[insS x (lsR us)]) else none)=some (us++[tgS x (lsR us)]):=by
     unfold tgS
     split
     ·rfl
     ·rw [if_pos ⟨by omega,by omega⟩]
    dsimp only
    rw [this,Option.bind_some,DI,Option.bind_some,List.length_append,List.length_singleton,w64 (n:=f+_) (by omega) (by omega),w64 (by omega) (by omega)]
    unfold hdR
    congr 2
    omega
def okF (g:List Int):List Int→List Int→Bool
 | _,[] => true
 | seen,x :: r => !seen.contains x && (g.contains x && okF g (insS x seen) r)
def fgL (gs seen:List Int):List Int:=gs.foldl (fun l x=>insS x l) seen
def foR (us:List (List Int)) (f:Int) (g o gs:List Int):Int×List (List Int)×Int×List Int×List Int:=
 if okF g [] gs=true then fgR (hdR us f) (fgL gs []) (lsR us) g o else (210,us,f,g,o)
theorem PS {K:Nat} {us:List (List Int)} {f:Int} {g:List Int} {o:List Int} {gs:List Int} (hg:∀ x∈g,0≤x∧x<60) (hl:gs.length≤1000):∀ (r:List Int) (j k:Nat) (seen:List Int),gs.drop j=r→r.length<k→
 BC.l0 K gs us f g o k seen (j:Int)=some (if okF g seen r=true then .inr (fgL r seen) else .inl 210)
 | [],j,k+1,seen,h,_ => by
   have:=A6 h
   rw [BC.l0,if_neg (by simp; omega)]
   rfl
 | x :: r,j,k+1,seen,h,hk => by
   obtain ⟨h1,h2,h3⟩:=A4 h (0:Int)
   rw [BC.l0,if_pos (by simp; omega),if_pos ⟨by omega,by omega⟩,Int.toNat_natCast,h2,GD,Option.bind_some,up1 (by omega)]
   cases hs:seen.contains x with
   | true =>
     rw [if_pos rfl,Option.bind_some,if_pos rfl,if_neg (by simp only [okF,hs]; simp)]
   | false =>
     rw [if_neg (by simp),Option.bind_some]
     cases hx:g.contains x with
     | false => rw [if_pos (by simp),if_neg (by simp only [okF,hs,hx]; simp)]
     | true =>
       have:=hg x (by simpa using hx)
       rw [if_neg (by simp),if_pos ⟨by omega,by omega⟩,PS hg hl r (j+1) k _ h3 (by simpa using hk)]
       simp only [okF,hs,hx,Bool.not_false,Bool.true_and,fgL,List.foldl_cons]
theorem MH:∀ {gs seen:List Int} {x:Int},x∈fgL gs seen↔x∈gs∨x∈seen
 | [],_,_ => by simp [fgL]
 | y :: gs,seen,x => by
   have:=MH (gs:=gs) (seen:=insS y seen) (x:=x)
   simp only [fgL,List.foldl_cons] at this ⊢
   rw [this,mem_insS,List.mem_cons]
   constructor
   ·rintro (h | h | h)
    ·exact .inl (.inr h)
    ·exact .inl (.inl h)
    ·exact .inr h
   ·rintro ((h | h) | h)
    ·exact .inr (.inl h)
    ·exact .inl h
    ·exact .inr (.inr h)
theorem MP {g:List Int}:∀ {gs seen:List Int},okF g seen gs=true→(∀ x∈gs,x∈g∧x∉seen)∧gs.Nodup
 | [],_,_ => ⟨by simp,List.nodup_nil⟩
 | y :: gs,seen,h => by
   simp only [okF,Bool.and_eq_true,Bool.not_eq_true'] at h
   obtain ⟨h1,h2,h3⟩:=h
   obtain ⟨h4,h5⟩:=MP h3
   have h1':y∉seen:=by simpa using h1
   refine ⟨fun x hx=>?_,List.nodup_cons.2 ⟨fun hy=>?_,h5⟩⟩
   ·rcases List.mem_cons.1 hx with rfl | hx
    ·exact ⟨by simpa using h2,h1'⟩
    ·exact ⟨(h4 x hx).1,fun hs=>(h4 x hx).2 (mem_insS.2 (.inr hs))⟩
   ·exact (h4 y hy).2 (mem_insS.2 (.inl rfl))
theorem XP {K:Nat} {us:List (List Int)} {f:Int} {g:List Int} {o:List Int} {gs:List Int} (hK:100000≤K) (h:Rok us f g o) (hg:∀ x∈g,0≤x∧x<60) (hl:gs.length≤1000):BC K us f g o gs=some (foR us f g o gs):=by
 have:=h.len; have:=h.ne
 have e:=PS (K:=K) (us:=us) (f:=f) (o:=o) hg hl gs 0 K [] rfl (by omega)
 have e:BC.l0 K gs us f g o K [] 0=some (if okF g [] gs=true then .inr (fgL gs []) else .inl 210):=e
 rw [BC,e,Option.bind_some]
 unfold foR
 cases hok:okF g [] gs with
 | false => rfl
 | true =>
   have hw:inW (fgL gs [])=true:=by
    refine List.all_eq_true.2 fun x hx=>?_
    have hx:x∈gs:=by have:=MH.1 hx; simpa using this
    have:=hg x ((MP hok).1 x hx).1
    simp
    omega
   simp only [if_true,Sum.elim_inr]
   rw [w64 (n:=(us.length:Int) - 1) (by omega) (by omega),if_pos ⟨by omega,by omega⟩,HL h,Option.bind_some,if_pos (by omega),if_pos ⟨by omega,hw⟩]
   unfold lsR
   rw [show Int.toNat ((us.length:Int) - 1)=us.length - 1 by omega]
def bdC (s:ByteArray) (c:Chg):Bool:=decide (c.1<0)||(decide (c.1 > c.2.1)||decide (c.2.1 > s.size))
def egC (s:ByteArray) (c:Chg):Bool:=!isE s c.1||!isE s c.2.1
def orC:List Chg→Bool
 | [] => false
 | a :: l => (match l with | [] => false | b :: _ => decide (b.1<a.2.1) || (a.1 == b.1 && a.2.1 == b.1)) || orC l
def lgA (n:Int) (l:List Chg):Int:=l.foldr (fun c r=>mn2 (mx2 (IntKind.wrap .i64 (c.2.1 - c.1)) 0) n+r) 0
def lgB:Int→List Chg→Int
 | left,[] => if left<0 then 13 else 0
 | left,c :: l => if (c.2.2.size:Int) > left then 13 else lgB (left - c.2.2.size) l
def f5:List Int→Int
 | [] => 0
 | x :: l => if x=0 then f5 l else x
def CF (s:ByteArray) (c:List Chg):Int:=
 if A8 s=false then 12 else if 8<c.length then 70 else f5 [if c.any (bdC s) then 10 else 0,if c.any (egC s) then 11 else 0,if orC c then 180 else 0,if c.any (fun x=>!A8 x.2.2) then 12 else 0,lgB (20000 - s.size+lgA s.size c) c]
def Cok (c:List Chg):Prop:=c.length≤1000∧∀ x∈c,x.2.2.size≤30000
theorem V3 {K:Nat} {s:ByteArray} {a b:Int} {t:ByteArray}:HC K a b t s=some (bdC s (a,b,t)):=by
 unfold HC bdC
 by_cases h1:a<0
 ·rw [if_pos (by simpa using h1)]; simp [h1]
 ·rw [if_neg (by simpa using h1)]
  by_cases h2:a > b
  ·rw [if_pos (by simpa using h2)]; simp [h2]
  ·rw [if_neg (by simpa using h2)]; simp [h1,h2]
theorem X2 {K:Nat} {s:ByteArray} {a b:Int} {t:ByteArray} (hK:100000≤K) (hs:s.size≤50000):HD K a b t s=some (egC s (a,b,t)):=by
 unfold HD HB egC
 rw [F2 (by omega) (by omega),F2 (by omega) (by omega)]
 simp only [Option.bind_some]
 cases isE s a <;> simp
theorem PI {K:Nat} {s:ByteArray} {c:List Chg} {e:Int} (hl:c.length≤1000):∀ (r:List Chg) (j k:Nat),c.drop j=r→r.length<k→AY.l0 K c s e k (j:Int)=some (if r.any (bdC s)=true then e else 0)
 | [],j,k+1,h,_ => by
   have:=A6 h
   rw [AY.l0,if_neg (by simp; omega)]
   rfl
 | x :: r,j,k+1,h,hk => by
   obtain ⟨h1,h2,h3⟩:=A4 h zC
   rw [AY.l0,if_pos (by simp; omega),if_pos ⟨by omega,by omega⟩,Int.toNat_natCast,h2,V3,Option.bind_some,up1 (by omega)]
   cases hb:bdC s x with
   | true => rw [if_pos rfl]; simp [hb]
   | false => rw [if_neg (by simp),PI hl r (j+1) k h3 (by simpa using hk),List.any_cons,hb]; rfl
theorem PK {K:Nat} {s:ByteArray} {c:List Chg} {e:Int} (hK:100000≤K) (hs:s.size≤50000) (hl:c.length≤1000):∀ (r:List Chg) (j k:Nat),c.drop j=r→r.length<k→AZ.l0 K c s e k (j:Int)=some (if r.any (egC s)=true then e else 0)
 | [],j,k+1,h,_ => by
   have:=A6 h
   rw [AZ.l0,if_neg (by simp; omega)]
   rfl
 | x :: r,j,k+1,h,hk => by
   obtain ⟨h1,h2,h3⟩:=A4 h zC
   rw [AZ.l0,if_pos (by simp; omega),if_pos ⟨by omega,by omega⟩,Int.toNat_natCast,h2,X2 hK hs,Option.bind_some,up1 (by omega)]
   cases hb:egC s x with
   | true => rw [if_pos rfl]; simp [hb]
   | false => rw [if_neg (by simp),PK hK hs hl r (j+1) k h3 (by simpa using hk),List.any_cons,hb]; rfl
theorem PL {K:Nat} {c:List Chg} {e:Int} (hK:100000≤K) (hc:Cok c):∀ (r:List Chg) (j k:Nat),c.drop j=r→r.length<k→B0.l0 K c e k (j:Int)=some (if r.any (fun x=>!A8 x.2.2)=true then e else 0)
 | [],j,k+1,h,_ => by
   have:=A6 h
   rw [B0.l0,if_neg (by simp; omega)]
   rfl
 | x :: r,j,k+1,h,hk => by
   obtain ⟨h1,h2,h3⟩:=A4 h zC
   have hl:=hc.1
   have hx:=hc.2 x (mdr h)
   rw [B0.l0,if_pos (by simp; omega),if_pos ⟨by omega,by omega⟩,Int.toNat_natCast,h2,JC,IP (by omega) (by omega),Option.bind_some,Option.bind_some,up1 (by omega)]
   cases hb:A8 x.2.2 with
   | false => rw [if_pos (by simp)]; simp [hb]
   | true => rw [if_neg (by simp),PL hK hc r (j+1) k h3 (by simpa using hk),List.any_cons,hb]; rfl
theorem RO {K:Nat} {c:List Chg} (hl:c.length≤1000):∀ (r:List Chg) (j k:Nat) (a:Chg),c.drop j=a :: r→r.length<k→AQ.l0 K c k ((j+1:Nat):Int)=some (if orC (a :: r)=true then 180 else 0)
 | [],j,k+1,a,h,_ => by
   obtain ⟨h1,h2,h3⟩:=A4 h zC
   have:=A6 h3
   rw [AQ.l0,if_neg (by simp; omega)]
   rfl
 | b :: r,j,k+1,a,h,hk => by
   obtain ⟨h1,h2,h3⟩:=A4 h zC
   obtain ⟨h4,h5,h6⟩:=A4 h3 zC
   rw [AQ.l0,w64 (n:=((j+1:Nat):Int) - 1) (by omega) (by omega),show ((j+1:Nat):Int) - 1=(j:Int) by omega,if_pos (by simp; omega),if_pos ⟨by omega,by omega,by omega,by omega⟩,Int.toNat_natCast,Int.toNat_natCast,h2,h5,up1 (by omega)]
   have ih:=RO (K:=K) hl r (j+1) k b h3 (by simpa using hk)
   rw [ih]
   simp only [orC]
   by_cases e1:b.1<a.2.1
   ·simp [e1]
   ·by_cases e2:a.1=b.1
    ·by_cases e3:a.2.1=b.1 <;> simp [e1,e2,e3]
    ·simp [e1,e2]
theorem ZK {K:Nat} {c:List Chg} (hK:100000≤K) (hl:c.length≤1000):AQ K c=some (if orC c=true then 180 else 0):=by
 unfold AQ
 cases c with
 | nil =>
   obtain ⟨k,rfl⟩:∃ k,K=k+1:=⟨K - 1,by omega⟩
   rw [AQ.l0,if_neg (by simp)]
   rfl
 | cons a r => exact RO hl r 0 K a rfl (by simp at hl; omega)
theorem RC {x n:Int} (h:0≤n):0≤mn2 (mx2 x 0) n∧mn2 (mx2 x 0) n≤n:=by
 unfold mn2 mx2
 split <;> split <;> omega
theorem QY {n:Int} (h:0≤n):∀ {r:List Chg},0≤lgA n r∧lgA n r≤r.length * n
 | [] => by simp [lgA]
 | x :: r => by
   have:=QY h (r:=r)
   have:=RC (x:=IntKind.wrap .i64 (x.2.1 - x.1)) h
   simp only [lgA,List.foldr_cons,List.length_cons] at *
   have:((r.length+1:Nat):Int) * n=r.length * n+n:=by rw [Int.natCast_add,Int.add_mul]; simp
   omega
theorem QZ {K:Nat} {s:ByteArray} {c:List Chg} (hs:s.size≤50000) (hl:c.length≤1000):∀ (r:List Chg) (j k:Nat) (left:Int),c.drop j=r→r.length<k→-1000000≤left→left+r.length * (s.size:Int)≤1000000000→
 AD.l0 K c s k left (j:Int)=some (left+lgA s.size r)
 | [],j,k+1,left,h,_,_,_ => by
   have:=A6 h
   rw [AD.l0,if_neg (by simp; omega)]
   simp [lgA]
 | x :: r,j,k+1,left,h,hk,h4,h5 => by
   obtain ⟨h1,h2,h3⟩:=A4 h zC
   have hm:=RC (x:=IntKind.wrap .i64 (x.2.1 - x.1)) (n:=s.size) (by omega)
   have e:((r.length+1:Nat):Int) * (s.size:Int)=r.length * (s.size:Int)+s.size:=by rw [Int.natCast_add,Int.add_mul]; simp
   have e0:0≤(r.length:Int) * (s.size:Int):=Int.mul_nonneg (by omega) (by omega)
   simp only [List.length_cons,e] at h5
   rw [AD.l0,if_pos (by simp; omega),if_pos ⟨by omega,by omega⟩,Int.toNat_natCast,h2,up1 (by omega),w64 (n:=left+_) (by omega) (by omega),QZ hs hl r (j+1) k _ h3 (by simpa using hk) (by omega) (by omega)]
   simp only [lgA,List.foldr_cons]
   congr 1
   omega
theorem R3 {K:Nat} {c:List Chg} (hc:Cok c):∀ (r:List Chg) (j k:Nat) (left:Int),c.drop j=r→r.length<k→-100000000≤left - r.length * 30000→left≤1000000000→
 (AD.l1 K c k left (j:Int)).bind (Sum.elim (fun z=>some z) (fun z=>if (decide (z<(0:Int)))=true then some (13:Int) else some (0:Int)))=some (lgB left r)
 | [],j,k+1,left,h,_,_,_ => by
   have:=A6 h
   rw [AD.l1,if_neg (by simp; omega),Option.bind_some]
   simp only [Sum.elim_inr,lgB]
   by_cases h:left<0 <;> simp [h]
 | x :: r,j,k+1,left,h,hk,h4,h5 => by
   obtain ⟨h1,h2,h3⟩:=A4 h zC
   have hl:=hc.1
   have hx:=hc.2 x (mdr h)
   simp only [List.length_cons] at h4
   rw [AD.l1,if_pos (by simp; omega),if_pos ⟨by omega,by omega⟩,Int.toNat_natCast,h2,up1 (by omega)]
   unfold lgB
   by_cases e:(x.2.2.size:Int) > left
   ·rw [if_pos (by simpa using e),if_pos e]; rfl
   ·rw [if_neg (by simpa using e),if_neg e,w64 (by omega) (by omega)]
    exact R3 hc r (j+1) k _ h3 (by simpa using hk) (by omega) (by omega)
theorem XK {K:Nat} (a b x d e:Int) (hK:100000≤K):AK.l0 K a b x d e K 0=some (f5 [a,b,x,d,e]):=by
 obtain ⟨k,rfl⟩:∃ k,K=k+6:=⟨K - 6,by omega⟩
 have key:∀ (K:Nat) (r:List Int) (j k:Nat),[a,b,x,d,e].drop j=r→r.length<k→AK.l0 K a b x d e k (j:Int)=some (f5 r):=by
  intro K r
  induction r with
  | nil =>
    intro j k h hk
    obtain ⟨k,rfl⟩:∃ k',k=k'+1:=⟨k - 1,by simp at hk; omega⟩
    have:=A6 h
    rw [AK.l0,if_neg (by simp at this ⊢; omega)]
    rfl
  | cons y r ih =>
    intro j k h hk
    obtain ⟨k,rfl⟩:∃ k',k=k'+1:=⟨k - 1,by simp at hk; omega⟩
    obtain ⟨h1,h2,h3⟩:=A4 h (0:Int)
    simp only [List.length_cons,List.length_nil] at h1
    rw [AK.l0,if_pos (by simp; omega),if_pos ⟨by omega,by simp; omega⟩,Int.toNat_natCast,h2,up1 (by omega),ih (j+1) k h3 (by simpa using hk)]
    unfold f5
    by_cases e:y=0
    ·rw [if_neg (by simpa using e),if_pos e]
     cases r <;> rfl
    ·rw [if_pos (by simpa using e),if_neg e]
 exact key _ _ 0 (k+6) rfl (by simp)
theorem J7 {K:Nat} {s:ByteArray} {c:List Chg} (hK:100000≤K) (hs:s.size≤50000) (hc:Cok c):AK K s c=some (CF s c):=by
 have hl:=hc.1
 rw [AK,IP (by omega) (by omega),Option.bind_some]
 unfold CF
 cases hv:A8 s with
 | false => rfl
 | true =>
   rw [if_neg (by simp),if_neg (show ¬ (true=false) by simp)]
   by_cases h8:8<c.length
   ·rw [if_pos (by simp; omega)]; simp [h8]
   ·have e2:=PI (K:=K) (s:=s) (e:=10) hl c 0 K rfl (by omega)
    have e3:=PK (K:=K) (s:=s) (e:=11) hK hs hl c 0 K rfl (by omega)
    have e4:=PL (K:=K) (e:=12) hK hc c 0 K rfl (by omega)
    have hn:((c.length:Nat):Int) * (s.size:Int)≤8 * 50000:=Int.mul_le_mul (by omega) (by omega) (by omega) (by omega)
    have hn0:0≤((c.length:Nat):Int) * (s.size:Int):=Int.mul_nonneg (by omega) (by omega)
    have ha:=QY (n:=s.size) (by omega) (r:=c)
    have e5:=QZ (K:=K) hs hl c 0 K (20000 - s.size) rfl (by omega) (by omega) (by omega)
    have e6:=R3 (K:=K) hc c 0 K (20000 - s.size+lgA s.size c) rfl (by omega) (by omega) (by omega)
    have e5:AD.l0 K c s K (20000 - s.size) 0=_:=e5
    have e7:AD K s c=some (lgB (20000 - s.size+lgA s.size c) c):=by
     rw [AD,w64 (by omega) (by omega),e5,Option.bind_some]
     exact e6
    rw [if_neg (by simp; omega),AY,AZ,B0,ZK hK hl,e7]
    have e2:AY.l0 K c s 10 K 0=_:=e2
    have e3:AZ.l0 K c s 11 K 0=_:=e3
    have e4:B0.l0 K c 12 K 0=_:=e4
    rw [e2,e3,e4]
    simp only [Option.bind_some,h8,if_false]
    exact XK _ _ _ _ _ hK
def ptL (s:ByteArray) (w g r:Int):Nat→Nat→List Atm
 | 0,_ => []
 | m+1,t => if t<s.size then (Utf8.encode (((Utf8.decode s t).1:Nat):Int),(w,(g,(r,[])))) :: ptL s w g r m (t+(Utf8.decode s t).2) else []
def HZ (s:ByteArray) (w g r:Int):List Atm:=ptL s w g r s.size 0
theorem RY {K:Nat} {s:ByteArray} {w g r:Int} (hs:s.size≤30000):∀ (m t k:Nat) (x:List Atm),A3 s m t=true→s.size≤t+m→m<k→x.length+m≤100000→CD.l0 K s w g r k x t=some (x++ptL s w g r m t)
 | 0,t,k+1,x,_,h,_,_ => by
   rw [CD.l0,if_neg (by simp; omega)]
   simp [ptL]
 | m+1,t,k+1,x,hu,h,hk,hx => by
   rw [CD.l0]
   by_cases ht:t<s.size
   ·have hz:usz s t≠0:=fun hz=>by
     rw [A3,if_pos (by omega),if_pos hz] at hu; cases hu
    have hu2:A3 s m (t+usz s t)=true:=by
     rw [A3,if_pos (by omega),if_neg hz] at hu; exact hu
    obtain ⟨c,z,h1,h2,h3,_⟩:=LG ht hz
    rw [if_pos (by simpa using ht),if_pos (by simp; omega),RY hs m _ k _ (by rw [h1]; simp only; rw [show ((t+z:Nat):Int)=t+usz s t by omega]; exact hu2) (by rw [h1]; simp only; omega) (by omega) (by simp; omega)]
    simp [ptL,ht]
   ·rw [if_neg (by simpa using ht)]
    simp [ptL,ht]
theorem MU {s:ByteArray} {w g r:Int}:∀ {m t:Nat},(ptL s w g r m t).length≤m
 | 0,_ => by simp [ptL]
 | m+1,t => by
   simp only [ptL]
   split
   ·have:=MU (s:=s) (w:=w) (g:=g) (r:=r) (m:=m) (t:=t+(Utf8.decode s t).2)
    simp; omega
   ·simp
theorem MV {s:ByteArray} {w g r:Int}:∀ {m t:Nat},A3 s m t=true→∀ a∈ptL s w g r m t,1≤a.1.size∧a.1.size≤4∧a.2=(w,(g,(r,[])))
 | 0,_,_,a,ha => by simp [ptL] at ha
 | m+1,t,hu,a,ha => by
   simp only [ptL] at ha
   split at ha
   ·rename_i ht
    have hz:usz s t≠0:=fun hz=>by
     rw [A3,if_pos (by omega),if_pos hz] at hu; cases hu
    have hu2:A3 s m (t+usz s t)=true:=by
     rw [A3,if_pos (by omega),if_neg hz] at hu; exact hu
    obtain ⟨c,z,h1,h2,h3,_⟩:=LG ht hz
    have hok:=CC (s:=s) (a:=t)
    rcases List.mem_cons.1 ha with rfl | ha
    ·refine ⟨?_,?_,rfl⟩
     ·rw [h1]; simp only; rw [h3]; omega
     ·rw [h1]; simp only; rw [h3]; omega
    ·refine MV (m:=m) ?_ a ha
     rw [h1]; simp only; rw [show ((t+z:Nat):Int)=t+usz s t by omega]; exact hu2
   ·simp at ha
theorem LB {K:Nat} {s:ByteArray} (hK:100000≤K) (hs:s.size≤30000) (hv:A8 s=true):FN K s=some s:=by
 rw [FN,IP (by omega) (by omega),Option.bind_some,hv,if_pos rfl]
theorem aG {K:Nat} {s:ByteArray} {w g r:Int} (hK:100000≤K) (hs:s.size≤30000) (hv:A8 s=true):CD K [] 0 s w g r=some (HZ s w g r):=by
 have hl:=MU (s:=s) (w:=w) (g:=g) (r:=r) (m:=s.size) (t:=0)
 rw [CD,VE hK,Option.bind_some,if_pos (by decide),LB hK hs hv,Option.bind_some,RY hs s.size 0 K [] hv (by omega) (by omega) (by simp; omega),Option.bind_some,VF hK,Option.bind_some,List.nil_append,if_pos (by simp; omega),List.append_nil]
 rfl
def cvr (p:Int) (c:List Chg):Bool:=c.any fun x=>decide (p≥x.1)&&decide (p<x.2.1)
def ctB (rev:Int) (u:List Int) (c:List Chg):Int→List Atm→List Bool
 | _,[] => []
 | p,a :: l => if vis rev u a then cvr p c :: ctB rev u c (p+a.1.size) l else false :: ctB rev u c p l
def B7:Nat→List Bool→List Int
 | _,[] => []
 | i,b :: l => if b then (i:Int) :: B7 (i+1) l else B7 (i+1) l
theorem OU {rev:Int} {u:List Int} {c:List Chg}:∀ {l:List Atm} {p:Int},(ctB rev u c p l).length=l.length
 | [],_ => rfl
 | a :: l,p => by simp only [ctB]; split <;> simp [OU]
theorem OZ {K:Nat} {c:List Chg} {ps:List Int} {t:Int} {x:List Int} {p:Int} (hc:c.length≤1000) (hp:ps.getD t.toNat 0=p) (ht:t<ps.length) (hx:x.length≤100000):∀ (r:List Chg) (j k:Nat),c.drop j=r→r.length<k→
 AC.l1 K c ps t x k (j:Int)=some (if cvr p r=true then x++[t] else x)
 | [],j,k+1,h,_ => by
   have:=A6 h
   rw [AC.l1,if_neg (by simp; omega)]
   rfl
 | y :: r,j,k+1,h,hk => by
   obtain ⟨h1,h2,h3⟩:=A4 h zC
   rw [AC.l1,if_pos (by simp; omega),if_pos ⟨by omega,by omega⟩,Int.toNat_natCast,h2,hp,if_pos ht,if_pos ht,up1 (by omega),OZ hc hp ht hx r (j+1) k h3 (by simpa using hk)]
   by_cases e1:p≥y.1
   ·by_cases e2:p<y.2.1
    ·rw [if_pos (by simpa using e1),Option.bind_some,if_pos (by simpa using e2),if_pos (by simp; omega),if_pos (by simp [cvr,e1,e2])]
    ·have hn:cvr p (y :: r)=cvr p r:=by simp [cvr,e2]
     rw [if_pos (by simpa using e1),Option.bind_some,if_neg (by simpa using e2),hn]
   ·have hn:cvr p (y :: r)=cvr p r:=by simp [cvr,e1]
    rw [if_neg (by simpa using e1),Option.bind_some,if_neg (by simp),hn]
theorem LF {K:Nat} {l:List Atm} {u:List Int} {rev:Int} {c:List Chg} {ps:List Int} (hK:100000≤K) (hu:u.length≤50000) (hl:Aok l) (hc:c.length≤1000) (hps:ps.length≤30000):∀ (r:List Atm) (j k:Nat) (x:List Int) (p:Int),l.drop j=r→ps.drop j=plc rev u p r→r.length<k→x.length+r.length≤100000→
 AC.l0 K l rev u c ps k x (j:Int)=some (x++B7 j (ctB rev u c p r))
 | [],j,k+1,x,p,h,_,_,_ => by
   have:=A6 h
   rw [AC.l0,if_neg (by simp; omega)]
   simp [ctB,B7]
 | a :: r,j,k+1,x,p,h,hp,hk,hx => by
   obtain ⟨h1,h2,h3⟩:=A4 h zA
   have hg:=hl.2 a (mdr h)
   obtain ⟨h4,h5,h6⟩:=A4 hp (0:Int)
   simp only [List.length_cons] at hx
   have hlen:=hl.1
   rw [AC.l0,if_pos (by simp; omega),if_pos ⟨by omega,by omega⟩,Int.toNat_natCast,h2,GU hK hu (by omega),Option.bind_some,up1 (by omega)]
   have e1:=OZ (K:=K) (ps:=ps) (t:=(j:Int)) (x:=x) (p:=p) hc (by rw [Int.toNat_natCast]; exact h5) (by omega) (by omega) c 0 K rfl (by omega)
   have e1:AC.l1 K c ps j x K 0=_:=e1
   rw [e1]
   cases hv:vis rev u a with
   | false =>
     rw [if_pos (by simp),Option.bind_some,LF hK hu hl hc hps r (j+1) k x p h3 (by rw [h6,hv]; simp) (by simpa using hk) (by omega)]
     simp [ctB,hv,B7]
   | true =>
     have hx2:(if cvr p c=true then x++[(j:Int)] else x).length+r.length≤100000:=by
      split
      ·simp; omega
      ·omega
     rw [if_neg (by simp),Option.bind_some,LF hK hu hl hc hps r (j+1) k _ (p+a.1.size) h3 (by rw [h6,hv]; simp) (by simpa using hk) hx2]
     simp only [ctB,hv,if_true,B7]
     cases cvr p c <;> simp
theorem VK {K:Nat} {l:List Atm} {u:List Int} {rev:Int} {c:List Chg} (hK:100000≤K) (hu:u.length≤50000) (hl:Aok l) (hc:Cok c) (ht:(vtx rev u l).length≤50000) (h0:CF (ofBytes (vtx rev u l)) c=0):AC K l rev u c=some (B7 0 (ctB rev u c 0 l)):=by
 have hlen:=hl.1
 rw [AC,KS hK hu hl,Option.bind_some,J7 hK (by simpa [ofBytes,ByteArray.size] using ht) hc,Option.bind_some,h0,if_neg (by simp),RV hK hu hl,Option.bind_some]
 have:=LF (K:=K) (rev:=rev) hK hu hl hc.1 (ps:=plc rev u 0 l) (by rw [HY]; omega) l 0 K [] 0 rfl rfl (by omega) (by simp; omega)
 simpa using this
def spA (rev:Int) (u:List Int) (f:Int):Int→List Atm→Nat
 | _,[] => 0
 | p,a :: l =>
   let n:=spA rev u f (if vis rev u a then p+a.1.size else p) l
   if n=0 then (if decide (p<f)&&vis rev u a then 1 else 0) else n+1
def skp (rev rank:Int) (l:List Atm):Nat:=(l.takeWhile fun a=>decide (a.2.1 > rev)&&decide (a.2.2.2.1≤rank)).length
def spt (rev:Int) (u:List Int) (rank f:Int) (l:List Atm):Nat:=spA rev u f 0 l+skp rev rank (l.drop (spA rev u f 0 l))
theorem IF {rev:Int} {u:List Int} {f p:Int} {a:Atm} {l:List Atm}:spA rev u f p (a :: l)=if spA rev u f (if vis rev u a=true then p+(a.1.size:Int) else p) l=0 then (if (decide (p<f)&&vis rev u a)=true then 1 else 0) else spA rev u f (if vis rev u a=true then p+(a.1.size:Int) else p) l+1:=rfl
theorem NF {rev:Int} {u:List Int} {f:Int}:∀ {l:List Atm} {p:Int},spA rev u f p l≤l.length
 | [],_ => Nat.le_refl _
 | a :: l,p => by
   have:=NF (rev:=rev) (u:=u) (f:=f) (l:=l) (p:=if vis rev u a then p+a.1.size else p)
   rw [IF,List.length_cons]
   generalize spA rev u f (if vis rev u a=true then p+(a.1.size:Int) else p) l=n at *
   repeat' split
   all_goals omega
theorem TV {α:Type} {q:α→Bool}:∀ {l:List α},(l.takeWhile q).length≤l.length
 | [] => Nat.le_refl _
 | a :: l => by
   have:=TV (q:=q) (l:=l)
   simp only [List.takeWhile_cons]
   split <;> simp <;> omega
theorem cZ {rev:Int} {u:List Int} {rank f:Int} {l:List Atm}:spt rev u rank f l≤l.length:=by
 have:=NF (rev:=rev) (u:=u) (f:=f) (l:=l) (p:=0)
 have:=TV (q:=fun a:Atm=>decide (a.2.1 > rev)&&decide (a.2.2.2.1≤rank)) (l:=l.drop (spA rev u f 0 l))
 unfold spt skp
 simp only [List.length_drop] at this
 omega
theorem T6 {K:Nat} {l:List Atm} {u:List Int} {rev f:Int} {ps:List Int} (hK:100000≤K) (hu:u.length≤50000) (hl:Aok l) (hps:ps.length≤30000):∀ (r:List Atm) (j k:Nat) (x p:Int),l.drop j=r→ps.drop j=plc rev u p r→r.length<k→
 AO.l0 K l ps f rev u k x (j:Int)=some (if spA rev u f p r=0 then x else ((j+spA rev u f p r:Nat):Int))
 | [],j,k+1,x,p,h,_,_ => by
   have:=A6 h
   rw [AO.l0,if_neg (by simp; omega)]
   rfl
 | a :: r,j,k+1,x,p,h,hp,hk => by
   obtain ⟨h1,h2,h3⟩:=A4 h zA
   have hg:=hl.2 a (mdr h)
   obtain ⟨h4,h5,h6⟩:=A4 hp (0:Int)
   have hlen:=hl.1
   rw [AO.l0,if_pos (by simp; omega),if_pos ⟨by omega,by omega⟩,Int.toNat_natCast,h2,h5,GU hK hu (by omega),Option.bind_some,up1 (by omega)]
   have hj:(j:Int)<ps.length:=by omega
   simp only [if_pos hj]
   have ih:=fun x=>T6 (f:=f) hK hu hl hps r (j+1) k x _ h3 h6 (by simpa using hk)
   rw [ih,ih]
   rw [IF]
   generalize spA rev u f (if vis rev u a=true then p+(a.1.size:Int) else p) r=n
   have e:(if decide (p<f)=true then some (vis rev u a) else some false)=some (decide (p<f)&&vis rev u a):=by
    by_cases h:p<f <;> simp [h]
   rw [e,Option.bind_some]
   cases (decide (p<f)&&vis rev u a) <;> by_cases hn:n=0 <;> simp [hn] <;> omega
theorem T7 {K:Nat} {l:List Atm} {rev rank:Int} (hl:Aok l):∀ (r:List Atm) (j k:Nat),l.drop j=r→j≤l.length→r.length<k→AO.l1 K l rev rank k (j:Int)=some ((j+skp rev rank r:Nat):Int)
 | [],j,k+1,h,hj,_ => by
   have:=A6 h
   rw [AO.l1,if_neg (by simp; omega),Option.bind_some,if_neg (by simp)]
   rfl
 | a :: r,j,k+1,h,hj,hk => by
   obtain ⟨h1,h2,h3⟩:=A4 h zA
   have hlen:=hl.1
   have hb:0≤(j:Int)∧(j:Int)<l.length:=⟨by omega,by omega⟩
   rw [AO.l1,if_pos (by simp; omega),Int.toNat_natCast,h2,up1 (by omega),T7 hl r (j+1) k h3 (by omega) (by simpa using hk)]
   simp only [if_pos hb]
   by_cases e1:a.2.1 > rev
   ·by_cases e2:a.2.2.2.1≤rank
    ·rw [if_pos (by simpa using e1),Option.bind_some,if_pos (by simpa using e2)]
     simp only [skp,List.takeWhile_cons,decide_eq_true e1,decide_eq_true e2]
     simp; omega
    ·rw [if_pos (by simpa using e1),Option.bind_some,if_neg (by simpa using e2)]
     simp only [skp,List.takeWhile_cons,decide_eq_false e2]
     simp
   ·rw [if_neg (by simpa using e1),Option.bind_some,if_neg (by simp)]
    simp only [skp,List.takeWhile_cons,decide_eq_false e1]
    simp
theorem cX {K:Nat} {l:List Atm} {u:List Int} {rev f rank:Int} (hK:100000≤K) (hu:u.length≤50000) (hl:Aok l):AO K l (plc rev u 0 l) rev u f rank=some ((spt rev u rank f l:Nat):Int):=by
 have hlen:=hl.1
 have e:=T6 (K:=K) (rev:=rev) (f:=f) hK hu hl (ps:=plc rev u 0 l) (by rw [HY]; omega) l 0 K 0 0 rfl rfl (by omega)
 have e:AO.l0 K l (plc rev u 0 l) f rev u K 0 0=_:=e
 rw [AO,e,Option.bind_some]
 have hle:=NF (rev:=rev) (u:=u) (f:=f) (l:=l) (p:=0)
 have e2:(if spA rev u f 0 l=0 then (0:Int) else ((0+spA rev u f 0 l:Nat):Int))=((spA rev u f 0 l:Nat):Int):=by
  split <;> omega
 rw [e2,T7 hl _ _ K rfl hle (by simp; omega)]
 rfl
theorem T8 {K:Nat} {l:List Atm} {u:List Int} {rev rank:Int} {c:List Chg} (hK:100000≤K) (hu:u.length≤50000) (hl:Aok l) (hc:c.length≤1000):∀ (r:List Chg) (j k:Nat) (x:List Int),c.drop j=r→r.length<k→x.length+r.length≤100000→
 AX.l0 K c l (plc rev u 0 l) rev u rank k x (j:Int)=some (x++r.map fun y=>((spt rev u rank y.1 l:Nat):Int))
 | [],j,k+1,x,h,_,_ => by
   have:=A6 h
   rw [AX.l0,if_neg (by simp; omega)]
   simp
 | y :: r,j,k+1,x,h,hk,hx => by
   obtain ⟨h1,h2,h3⟩:=A4 h zC
   simp only [List.length_cons] at hx
   rw [AX.l0,if_pos (by simp; omega),if_pos ⟨by omega,by omega⟩,Int.toNat_natCast,h2,cX hK hu hl,Option.bind_some,if_pos (by simp; omega),up1 (by omega),T8 hK hu hl hc r (j+1) k _ h3 (by simpa using hk) (by simp; omega)]
   simp
theorem cY {K:Nat} {l:List Atm} {u:List Int} {rev rank:Int} {c:List Chg} (hK:100000≤K) (hu:u.length≤50000) (hl:Aok l) (hc:Cok c) (ht:(vtx rev u l).length≤50000) (h0:CF (ofBytes (vtx rev u l)) c=0):AX K l rev u c rank=some (c.map fun y=>((spt rev u rank y.1 l:Nat):Int)):=by
 have hlen:=hl.1
 have hcl:=hc.1
 rw [AX,KS hK hu hl,Option.bind_some,J7 hK (by simpa [ofBytes,ByteArray.size] using ht) hc,Option.bind_some,h0,if_neg (by simp),RV hK hu hl,Option.bind_some]
 have:=T8 (K:=K) (rev:=rev) (rank:=rank) hK hu hl hc.1 c 0 K [] rfl (by omega) (by simp; omega)
 simpa using this
def E1 (a:Atm) (c:Int×Int):Atm:=(a.1,(a.2.1,(a.2.2.1,(a.2.2.2.1,a.2.2.2.2++[c]))))
def ctA (c:Int×Int):List Bool→List Atm→List Atm
 | b :: bs,a :: l => (if b then E1 a c else a) :: ctA c bs l
 | _,l => l
def spl (old:List Atm):Nat→List (Nat×List Atm)→List Atm
 | p,[] => old.drop p
 | p,(s,x) :: r => (old.drop p).take (s - p) ++ (x ++ spl old s r)
def upS (rev:Int) (u:List Int) (c:List Chg) (w g rank:Int) (l:List Atm):List Atm:=
 spl (ctA (w,g) (ctB rev u c 0 l) l) 0 (c.map fun y=>(spt rev u rank y.1 l,HZ y.2.2 w g rank))
theorem OT {c:Int×Int}:∀ {bs:List Bool} {l:List Atm},(ctA c bs l).length=l.length
 | [],l => by simp [ctA]
 | b :: bs,[] => by simp [ctA]
 | b :: bs,a :: l => by simp [ctA,OT]
theorem N7:∀ {bs:List Bool} {pre:List Bool} {i:Nat},pre.length=i→(B7 i bs).foldl (fun acc (x:Int)=>acc.set x.toNat true) (pre++List.replicate bs.length false)=pre++bs
 | [],pre,i,h => by simp [B7]
 | b :: bs,pre,i,h => by
   have e:pre++List.replicate (b :: bs).length false=(pre++[false])++List.replicate bs.length false:=by
    simp [List.replicate_succ]
   cases b with
   | false =>
     have:=N7 (bs:=bs) (pre:=pre++[false]) (i:=i+1) (by simp [h])
     simp only [B7,Bool.false_eq_true,if_false]
     rw [e,this]
     simp
   | true =>
     have:=N7 (bs:=bs) (pre:=pre++[true]) (i:=i+1) (by simp [h])
     simp only [B7,if_true,List.foldl_cons,Int.toNat_natCast]
     have e2:(pre++List.replicate (true :: bs).length false).set i true=(pre++[true])++List.replicate bs.length false:=by
      rw [e,← h]
      simp
     rw [e2,this]
     simp
theorem U3:∀ {bs:List Bool} {i:Nat} {x:Int},x∈B7 i bs→(i:Int)≤x∧x<i+bs.length
 | [],_,_,h => by simp [B7] at h
 | b :: bs,i,x,h => by
   have ih:=fun h=>U3 (bs:=bs) (i:=i+1) (x:=x) h
   simp only [B7] at h
   split at h
   ·rcases List.mem_cons.1 h with rfl | h
    ·simp; omega
    ·have:=ih h
     simp only [List.length_cons]; omega
   ·have:=ih h
    simp only [List.length_cons]; omega
theorem U2:∀ {bs:List Bool} {i:Nat},(B7 i bs).length≤bs.length
 | [],_ => by simp [B7]
 | b :: bs,i => by
   have:=U2 (bs:=bs) (i:=i+1)
   simp only [B7]
   split <;> simp <;> omega
theorem U8 {K:Nat} {ts:List Int} (hts:ts.length≤50000):∀ (r:List Int) (j k:Nat) (acc:List Bool),ts.drop j=r→r.length<k→(∀ x∈r,0≤x∧x<acc.length)→
 AA.l0 K ts k acc (j:Int)=some (r.foldl (fun acc (x:Int)=>acc.set x.toNat true) acc)
 | [],j,k+1,acc,h,_,_ => by
   have:=A6 h
   rw [AA.l0,if_neg (by simp; omega)]
   rfl
 | x :: r,j,k+1,acc,h,hk,hb => by
   obtain ⟨h1,h2,h3⟩:=A4 h (0:Int)
   have hx:=hb x List.mem_cons_self
   rw [AA.l0,if_pos (by simp; omega),Int.toNat_natCast,h2,if_pos ⟨by omega,by omega,hx.1,hx.2⟩,up1 (by omega),U8 hts r (j+1) k _ h3 (by simpa using hk) (fun y hy=>by rw [List.length_set]; exact hb y (List.mem_cons_of_mem _ hy))]
   rfl
theorem NQ {K:Nat} {l:List Atm} {cut:List Bool} {w g:Int} (hl:l.length≤20000) (hcl:cut.length=l.length):∀ (r:List Atm) (j k:Nat) (pre:List Atm) (bs:List Bool),cut.drop j=bs→pre.length=j→j+r.length=l.length→r.length<k→(∀ a∈r,a.2.2.2.2.length≤1000)→
 AA.l1 K l cut w g k (pre++r) (j:Int)=some (pre++ctA (w,g) bs r)
 | [],j,k+1,pre,bs,hb,hp,h,_,_ => by
   rw [AA.l1,if_neg (by simp at h ⊢; omega)]
   cases bs <;> simp [ctA]
 | a :: r,j,k+1,pre,[],hb,hp,h,hk,_ => by
   have:=A6 hb
   simp at h
   omega
 | a :: r,j,k+1,pre,b :: bs,hb,hp,h,hk,ha => by
   obtain ⟨h1,h2,h3⟩:=A4 hb false
   simp only [List.length_cons] at h
   have hga:(pre++a :: r).getD j zA=a:=by
    rw [List.getD_eq_getElem?_getD,List.getElem?_append_right (by omega),hp]; simp
   have hcu:=ha a List.mem_cons_self
   rw [AA.l1,if_pos (by simp; omega),if_pos ⟨by omega,by omega⟩,Int.toNat_natCast,h2,hga,up1 (by omega)]
   have e:∀ y:Atm,pre++y :: r=(pre++[y])++r:=fun y=>by simp
   cases b with
   | false =>
     rw [if_neg (by simp),e,NQ hl hcl r (j+1) k (pre++[a]) bs h3 (by simp [hp]) (by omega) (by simpa using hk) (fun x hx=>ha x (List.mem_cons_of_mem _ hx))]
     simp [ctA]
   | true =>
     have es:setCut (pre++a :: r) j (a.2.2.2.2++[(w,g)])=(pre++[E1 a (w,g)])++r:=by
      unfold setCut
      rw [hga,List.set_append_right _ _ (by omega),hp]
      simp [E1]
     rw [if_pos rfl,if_pos ⟨by simp; omega,by simp; omega,by simp; omega,rfl⟩,es,NQ hl hcl r (j+1) k (pre++[E1 a (w,g)]) bs h3 (by simp [hp]) (by omega) (by simpa using hk) (fun x hx=>ha x (List.mem_cons_of_mem _ hx))]
     simp [ctA]
theorem T1 {rev:Int} {u:List Int} {f f':Int} (h:f≤f'):∀ {l:List Atm} {p:Int},spA rev u f p l≤spA rev u f' p l
 | [],_ => Nat.le_refl _
 | a :: l,p => by
   have:=T1 h (rev:=rev) (u:=u) (l:=l) (p:=if vis rev u a=true then p+(a.1.size:Int) else p)
   rw [IF,IF]
   generalize spA rev u f (if vis rev u a=true then p+(a.1.size:Int) else p) l=n at *
   generalize spA rev u f' (if vis rev u a=true then p+(a.1.size:Int) else p) l=n' at *
   by_cases e:n'=0
   ·rw [if_pos e,if_pos (by omega)]
    by_cases e2:p<f
    ·have:p<f':=by omega
     rw [decide_eq_true e2,decide_eq_true this]
     exact Nat.le_refl _
    ·rw [decide_eq_false e2,Bool.false_and,if_neg (by simp)]
     omega
   ·rw [if_neg e]
    repeat' split
    all_goals omega
theorem T2 {rev:Int} {u:List Int} {f:Int}:∀ {l:List Atm} {p:Int} {n:Nat},spA rev u f p l=n+1→∃ a,l[n]? = some a∧vis rev u a=true
 | [],_,_,h => by simp [spA] at h
 | a :: l,p,n,h => by
   rw [IF] at h
   generalize (if vis rev u a=true then p+(a.1.size:Int) else p)=q at h
   by_cases e:spA rev u f q l=0
   ·rw [if_pos e] at h
    by_cases hv:(decide (p<f)&&vis rev u a)=true
    ·rw [if_pos hv] at h
     have:n=0:=by omega
     subst this
     exact ⟨a,rfl,by simp only [Bool.and_eq_true] at hv; exact hv.2⟩
    ·rw [if_neg hv] at h; omega
   ·rw [if_neg e] at h
    obtain ⟨m,hm⟩:∃ m,n=m+1:=⟨n - 1,by omega⟩
    subst hm
    have h3:spA rev u f q l=m+1:=by omega
    obtain ⟨b,h1,h2⟩:=T2 h3
    exact ⟨b,by simpa using h1,h2⟩
theorem SR {rev rank:Int}:∀ {l:List Atm} {i:Nat} {a:Atm},l[i]? = some a→a.2.1≤rev→skp rev rank l≤i
 | [],_,_,h,_ => by simp at h
 | b :: l,0,a,h,ha => by
   simp at h
   subst h
   simp only [skp,List.takeWhile_cons]
   rw [decide_eq_false (by omega)]
   simp
 | b :: l,i+1,a,h,ha => by
   have:=SR (rank:=rank) (l:=l) (i:=i) (a:=a) (by simpa using h) ha
   simp only [skp,List.takeWhile_cons] at *
   split
   ·simp; omega
   ·simp
theorem gJ {rev:Int} {u:List Int} {a:Atm} (h:vis rev u a=true):a.2.1≤rev:=by
 simp only [vis,Bool.and_eq_true,decide_eq_true_eq] at h
 exact h.1.1
theorem T9 {rev:Int} {u:List Int} {rank f f':Int} {l:List Atm} (h:f≤f'):spt rev u rank f l≤spt rev u rank f' l:=by
 have hm:=T1 (rev:=rev) (u:=u) (l:=l) (p:=0) h
 unfold spt
 by_cases e:spA rev u f 0 l=spA rev u f' 0 l
 ·rw [e]; exact Nat.le_refl _
 ·obtain ⟨n,hn⟩:∃ n,spA rev u f' 0 l=n+1:=⟨spA rev u f' 0 l - 1,by omega⟩
  obtain ⟨a,h1,h2⟩:=T2 hn
  have:=SR (rank:=rank) (l:=l.drop (spA rev u f 0 l)) (i:=n - spA rev u f 0 l) (a:=a) (by rw [List.getElem?_drop,show spA rev u f 0 l+(n - spA rev u f 0 l)=n by omega]; exact h1) (gJ h2)
  omega
theorem XL {l:List Int} (h:f5 l=0):∀ x∈l,x=0:=by
 induction l with
 | nil => simp
 | cons y l ih =>
   unfold f5 at h
   split at h
   ·rename_i e
    intro x hx
    rcases List.mem_cons.1 hx with rfl | hx
    ·exact e
    ·exact ih h x hx
   ·rename_i e; exact absurd h e
structure Gok (s:ByteArray) (c:List Chg):Prop where
 v:A8 s=true
 len:c.length≤8
 bd:∀ x∈c,0≤x.1∧x.1≤x.2.1∧x.2.1≤s.size
 eg:∀ x∈c,isE s x.1=true∧isE s x.2.1=true
 od:orC c=false
 vt:∀ x∈c,A8 x.2.2=true
theorem J8 {s:ByteArray} {c:List Chg} (h:CF s c=0):Gok s c:=by
 unfold CF at h
 split at h
 ·omega
 ·rename_i h1
  split at h
  ·omega
  ·rename_i h2
   have h3:=XL h
   have a1:=h3 _ (List.mem_cons_self)
   have a2:=h3 _ (List.mem_cons_of_mem _ List.mem_cons_self)
   have a3:=h3 _ (List.mem_cons_of_mem _ (List.mem_cons_of_mem _ List.mem_cons_self))
   have a4:=h3 _ (List.mem_cons_of_mem _ (List.mem_cons_of_mem _ (List.mem_cons_of_mem _ List.mem_cons_self)))
   refine ⟨by simpa using h1,by omega,fun x hx=>?_,fun x hx=>?_,?_,fun x hx=>?_⟩
   ·split at a1
    ·omega
    ·rename_i e
     have:bdC s x=false:=by
      cases hb:bdC s x with
      | false => rfl
      | true => exact absurd (List.any_eq_true.2 ⟨x,hx,hb⟩) e
     simp only [bdC,Bool.or_eq_false_iff,decide_eq_false_iff_not] at this
     omega
   ·split at a2
    ·omega
    ·rename_i e
     have:egC s x=false:=by
      cases hb:egC s x with
      | false => rfl
      | true => exact absurd (List.any_eq_true.2 ⟨x,hx,hb⟩) e
     simpa [egC] using this
   ·split at a3
    ·omega
    ·rename_i e; simpa using e
   ·split at a4
    ·omega
    ·rename_i e
     cases hb:A8 x.2.2 with
     | true => rfl
     | false => exact absurd (List.any_eq_true.2 ⟨x,hx,by simp [hb]⟩) e
theorem KA {a b:Chg} {l:List Chg} (h:orC (a :: b :: l)=false):a.2.1≤b.1∧orC (b :: l)=false:=by
 rw [orC] at h
 simp only [Bool.or_eq_false_iff,decide_eq_false_iff_not] at h
 exact ⟨by omega,h.2⟩
theorem U9 {K:Nat} {l old:List Atm} {u:List Int} {rev rank w g:Int} {c:List Chg} (hK:100000≤K) (hl:l.length≤20000) (ho:old.length=l.length) (hc:c.length≤8) (hv:∀ x∈c,A8 x.2.2=true) (hz:∀ x∈c,x.2.2.size≤30000) (hb:∀ x∈c,x.1≤x.2.1) :
 ∀ (r:List Chg) (j k p:Nat) (out:List Atm),c.drop j=r→r.length<k→p≤l.length→(∀ y,r.head? = some y→p≤spt rev u rank y.1 l)→orC r=false→out.length+r.length * 60000+20000≤10000000→
 AA.l2 K c (c.map fun y=>((spt rev u rank y.1 l:Nat):Int)) old w g rank k out (p:Int) (j:Int)=some (out++spl old p (r.map fun y=>(spt rev u rank y.1 l,HZ y.2.2 w g rank)))
 | [],j,k+1,p,out,h,_,hp,_,_,hout => by
   have:=A6 h
   rw [AA.l2,if_neg (by simp; omega),if_pos ⟨by omega,by omega,by simp; omega⟩]
   simp only [List.map_nil,spl,Int.toNat_natCast]
   rw [← List.length_drop,List.take_length]
 | y :: r,j,k+1,p,out,h,hk,hp,hh,hod,hout => by
   obtain ⟨h1,h2,h3⟩:=A4 h zC
   have hy:y∈c:=by have:y∈c.drop j:=by rw [h]; exact List.mem_cons_self
                   exact List.mem_of_mem_drop this
   have hs:=hh y rfl
   have hle:=cZ (rev:=rev) (u:=u) (rank:=rank) (f:=y.1) (l:=l)
   have hg:(c.map fun y=>((spt rev u rank y.1 l:Nat):Int)).getD j 0=((spt rev u rank y.1 l:Nat):Int):=by
    rw [List.getD_eq_getElem?_getD,List.getElem?_map]
    have:c[j]? = some y:=by rw [← h2,List.getD_eq_getElem?_getD,List.getElem?_eq_getElem h1]; rfl
    rw [this]; rfl
   simp only [List.length_cons] at hout
   have hpl:=MU (s:=y.2.2) (w:=w) (g:=g) (r:=rank) (m:=y.2.2.size) (t:=0)
   have hpl:(HZ y.2.2 w g rank).length≤y.2.2.size:=hpl
   have hzy:=hz y hy
   have htl:(List.take ((spt rev u rank y.1 l) - p) (List.drop p old)).length≤20000:=by simp; omega
   rw [AA.l2,if_pos (by simp; omega),Int.toNat_natCast,h2,hg,Int.toNat_natCast,Int.toNat_natCast,if_pos ⟨by omega,by omega,by simp; omega,by omega,by omega,by omega,by omega⟩,aG hK hzy (hv y hy),Option.bind_some,if_pos (by rw [List.length_append]; omega),up1 (by omega),
    U9 hK hl ho hc hv hz hb r (j+1) k _ _ h3 (by simpa using hk) hle (fun z hz'=>by
     cases r with
     | nil => simp at hz'
     | cons z' r =>
       simp at hz'
       subst hz'
       have:=KA hod
       exact T9 (Int.le_trans (hb y hy) this.1)) (by
     cases r with
     | nil => rfl
     | cons z' r => exact (KA hod).2) (by rw [List.length_append,List.length_append]; omega)]
   simp [spl]
theorem eO {K:Nat} {l:List Atm} {u:List Int} {rev rank w g:Int} {c:List Chg} (hK:100000≤K) (hu:u.length≤50000) (hl:Aok l) (hc:Cok c) (ht:(vtx rev u l).length≤50000) (h0:CF (ofBytes (vtx rev u l)) c=0):AA K l rev u c w g rank=some (upS rev u c w g rank l):=by
 have hlen:=hl.1
 have G:=J8 h0
 have hbl:=OU (rev:=rev) (u:=u) (c:=c) (l:=l) (p:=0)
 rw [AA,cY hK hu hl hc ht h0,Option.bind_some,KS hK hu hl,Option.bind_some,J7 hK (by simpa [ofBytes,ByteArray.size] using ht) hc,Option.bind_some,h0,if_neg (by simp),if_pos ⟨by omega,by omega,by omega,by omega,by omega⟩,VK hK hu hl hc ht h0,Option.bind_some]
 have htl:=U2 (bs:=ctB rev u c 0 l) (i:=0)
 have e0:=U8 (K:=K) (ts:=B7 0 (ctB rev u c 0 l)) (by omega) (B7 0 (ctB rev u c 0 l)) 0 K (List.replicate l.length false) rfl (by omega) (fun x hx=>by
  have:=U3 hx
  simp; omega)
 have e0:AA.l0 K (B7 0 (ctB rev u c 0 l)) K (List.replicate l.length false) 0=_:=e0
 have e1:=N7 (bs:=ctB rev u c 0 l) (pre:=[]) (i:=0) rfl
 rw [List.nil_append,List.nil_append,hbl] at e1
 rw [Int.toNat_natCast,e0,e1,Option.bind_some,J9 hK hl,Option.bind_some,if_pos (by simp)]
 have e2:=NQ (K:=K) (l:=l) (cut:=ctB rev u c 0 l) (w:=w) (g:=g) hlen hbl l 0 K [] _ rfl rfl (by omega) (by omega) (fun a ha=>(hl.2 a ha).2)
 have e2:AA.l1 K l (ctB rev u c 0 l) w g K l 0=_:=e2
 rw [e2,Option.bind_some,List.nil_append]
 have e3:=U9 (K:=K) (l:=l) (old:=ctA (w,g) (ctB rev u c 0 l) l) (u:=u) (rev:=rev) (rank:=rank) (w:=w) (g:=g) (c:=c) hK hlen OT G.len G.vt hc.2 (fun x hx=>(G.bd x hx).2.1) c 0 K 0 [] rfl (by have:=G.len; omega) (by omega) (fun _ _=>by omega) G.od (by have:=G.len; simp; omega)
 have e3:AA.l2 K c _ _ w g rank K [] 0 0=_:=e3
 exact e3
def Grp (g:List Int):Prop:=g.Pairwise (·< ·)∧∀ x∈g,0≤x∧x<60
theorem SZ:∀ {l:List Int} {lo hi:Int},l.Pairwise (·< ·)→(∀ x∈l,lo≤x∧x<hi)→lo≤hi→(l.length:Int)≤hi - lo
 | [],lo,hi,_,_,h => by simp; omega
 | a :: l,lo,hi,hp,hb,h => by
   obtain ⟨h1,h2⟩:=List.pairwise_cons.1 hp
   have ha:=hb a List.mem_cons_self
   have:=SZ (l:=l) (lo:=a+1) (hi:=hi) h2 (fun x hx=>⟨by have:=h1 x hx; omega,(hb x (List.mem_cons_of_mem _ hx)).2⟩) (by omega)
   simp only [List.length_cons]
   omega
theorem Grp.len {g:List Int} (h:Grp g):g.length≤60:=by
 have:=SZ h.1 h.2 (by omega)
 omega
theorem Grp.ins {g:List Int} {x:Int} (h:Grp g) (hx:0≤x∧x<60):Grp (insS x g):=⟨insS_sorted h.1,fun y hy=>by
 rcases mem_insS.1 hy with rfl | hy
 ·exact hx
 ·exact h.2 y hy⟩
theorem Grp.filter {g:List Int} {q:Int→Bool} (h:Grp g):Grp (g.filter q):=⟨h.1.filter q,fun y hy=>h.2 y (List.mem_filter.1 hy).1⟩
theorem Grp.del {g:List Int} {x:Int} (h:Grp g):Grp (delS x g):=h.filter
structure Atk (h:Int) (a:Atm):Prop where
 s1:1≤a.1.size
 s4:a.1.size≤4
 r0:0≤a.2.1
 r1:a.2.1≤h
 g0 : -1≤a.2.2.1
 g1:a.2.2.1<60
 n:(a.2.2.2.2.length:Int)≤h
 c:∀ c∈a.2.2.2.2,0≤c.1∧c.1≤h∧-1≤c.2∧c.2<60
structure Ivt (l:List Atm) (us:List (List Int)) (f:Int) (g o:List Int):Prop where
 ne:0<us.length
 lo:0≤f
 hi:hdR us f≤200
 gg:Grp g
 oo:Grp o
 uu:∀ u∈us,u.Pairwise (·< ·)∧∀ x∈u,x∈g
 len:l.length≤4000
 aa:∀ a∈l,Atk (hdR us f) a
theorem Ivt.rok {l:List Atm} {us:List (List Int)} {f:Int} {g o:List Int} (h:Ivt l us f g o):Rok us f g o:=by
 have h1:=h.ne; have h2:=h.lo; have h3:=h.hi
 unfold hdR at h3
 refine ⟨h1,by omega,h2,by omega,fun u hu=>?_,by have:=h.gg.len; omega,by have:=h.oo.len; omega⟩
 have:Grp u:=⟨(h.uu u hu).1,fun x hx=>h.gg.2 x ((h.uu u hu).2 x hx)⟩
 have:=this.len
 omega
theorem Ivt.aok {l:List Atm} {us:List (List Int)} {f:Int} {g o:List Int} (h:Ivt l us f g o):Aok l:=by
 refine ⟨by have:=h.len; omega,fun a ha=>?_⟩
 have:=h.aa a ha
 have h1:=this.s4; have h2:=this.n; have h3:=h.hi
 exact ⟨by omega,by omega⟩
theorem O5 {rev:Int} {u:List Int}:∀ {l:List Atm},(∀ a∈l,a.1.size≤4)→(vtx rev u l).length≤4 * l.length
 | [],_ => by simp [vtx]
 | a :: l,h => by
   have:=O5 (rev:=rev) (u:=u) (l:=l) fun b hb=>h b (List.mem_cons_of_mem _ hb)
   have:=h a List.mem_cons_self
   simp only [vtx]
   split <;> simp [C6] <;> omega
theorem BD {x:List Int}:(ofBytes x).size=x.length:=by simp [ofBytes,ByteArray.size]
theorem Ivt.vtx {l:List Atm} {us:List (List Int)} {f:Int} {g o:List Int} (h:Ivt l us f g o) {rev:Int} {u:List Int}:(vtx rev u l).length≤16000:=by
 have:=O5 (rev:=rev) (u:=u) (l:=l) fun a ha=>(h.aa a ha).s4
 have:=h.len
 omega
theorem JH {K:Nat} {l:List Atm} {us:List (List Int)} {f:Int} {g o:List Int} (h:Rok us f g o):E8 K l us f g o=some (hdR us f):=by
 rw [E8,HL h,Option.bind_some]
def E0 (l:List Atm) (us:List (List Int)) (f r:Int):ByteArray×Int:=if lvR us f r=true then (ofBytes (vtx r (unR us f r) l),0) else (ByteArray.mk #[],190)
theorem HF {K:Nat} {l:List Atm} {us:List (List Int)} {f:Int} {g o:List Int} {r:Int} (hK:100000≤K) (h:Rok us f g o) (hl:Aok l):DO K l us f g o r=some (E0 l us f r):=by
 have:=KU h (r:=r)
 rw [DO,EP,JW h,Option.bind_some,Option.bind_some,DP,IM h,Option.bind_some,Option.bind_some,KS hK (by omega) hl,Option.bind_some]
 unfold E0
 cases lvR us f r <;> rfl
theorem K1 {us:List (List Int)} {f:Int} (h:0<us.length):lvR us f (hdR us f)=true:=by
 unfold lvR hdR
 simp
 omega
theorem IL {us:List (List Int)} {f:Int} (h:0<us.length):unR us f (hdR us f)=lsR us:=by
 unfold unR
 rw [if_pos (K1 h)]
 unfold lsR hdR
 rw [show (f+(us.length:Int) - 1 - f).toNat=us.length - 1 by omega]
def A7 (l:List Atm) (us:List (List Int)) (f:Int):List Int:=vtx (hdR us f) (lsR us) l
theorem LR {K:Nat} {l:List Atm} {us:List (List Int)} {f:Int} {g o:List Int} (hK:100000≤K) (h:Rok us f g o) (hl:Aok l):FE K l us f g o=some (l,us,g,o):=by
 rw [FE,J9 hK hl,Option.bind_some,aJ hK h,Option.bind_some]
theorem PN {K:Nat} {l:List Atm} {us:List (List Int)} {f:Int} {g o:List Int} (hK:100000≤K) (h:Rok us f g o) (hl:Aok l):FY K l us f g o=some (decide ((A7 l us f).length≤20000)):=by
 rw [FY,JH h,Option.bind_some,HF hK h hl,Option.bind_some]
 unfold E0 A7
 rw [if_pos (K1 h.ne),IL h.ne,BD]
 congr 1
 rw [decide_eq_decide]
 omega
def C7 (l:List Atm) (us:List (List Int)) (f:Int) (g o:List Int) (base grp rank:Int) (c:List Chg):Int×Int×List Atm×List (List Int)×List Int×List Int:=
 if lvR us f base=false then (0,190,l,us,g,o)
 else if CF (ofBytes (vtx base (unR us f base) l)) c≠0 then (0,CF (ofBytes (vtx base (unR us f base) l)) c,l,us,g,o)
 else if (adR us f g o grp).2.1≠0 then (0,(adR us f g o grp).2.1,l,us,g,o)
 else if rank<0∨1000000<rank then (0,10,l,us,g,o)
 else if 4000<(upS base (unR us f base) c (hdR us f+1) grp rank l).length then (0,70,l,us,g,o)
 else (hdR us f+1,0,upS base (unR us f base) c (hdR us f+1) grp rank l,us++[lsR us],insS grp g,o)
theorem O8 {us:List (List Int)} {f:Int} {g o:List Int} {x:Int} (h:(adR us f g o x).2.1=0):adR us f g o x=(hdR us f+1,0,us++[lsR us],insS x g)∧o.contains x=false∧0≤x∧x<60∧hdR us f<200:=by
 unfold adR at *
 split at h
 ·simp at h
 ·rename_i h1
  split at h
  ·simp at h
  ·rename_i h2
   rw [if_neg h1,if_neg h2]
   refine ⟨rfl,?_,?_,?_,by omega⟩
   ·cases e:o.contains x with
    | false => rfl
    | true => exact absurd (.inl e) h1
   ·omega
   ·omega
theorem G3 {us:List (List Int)} {u:List Int} {f:Int}:hdR (us++[u]) f=hdR us f+1:=by
 unfold hdR
 simp
 omega
theorem MB {us:List (List Int)} (h:0<us.length):lsR us∈us:=by
 have hi:us.length - 1<us.length:=by omega
 exact G1 hi
theorem MG {c:Int×Int}:∀ {bs:List Bool} {l:List Atm} {a:Atm},a∈ctA c bs l→∃ b∈l,a=b∨a=E1 b c
 | [],l,a,h => ⟨a,by simpa [ctA] using h,.inl rfl⟩
 | _ :: _,[],a,h => by simp [ctA] at h
 | b :: bs,x :: l,a,h => by
   simp only [ctA] at h
   rcases List.mem_cons.1 h with rfl | h
   ·refine ⟨x,List.mem_cons_self,?_⟩
    split
    ·exact .inr rfl
    ·exact .inl rfl
   ·obtain ⟨y,h1,h2⟩:=MG h
    exact ⟨y,List.mem_cons_of_mem _ h1,h2⟩
theorem MI {old:List Atm}:∀ {r:List (Nat×List Atm)} {p:Nat} {a:Atm},a∈spl old p r→a∈old∨∃ q∈r,a∈q.2
 | [],p,a,h => .inl (List.mem_of_mem_drop h)
 | (s,x) :: r,p,a,h => by
   simp only [spl] at h
   rcases List.mem_append.1 h with h | h
   ·exact .inl (List.mem_of_mem_drop (List.mem_of_mem_take h))
   ·rcases List.mem_append.1 h with h | h
    ·exact .inr ⟨_,List.mem_cons_self,h⟩
    ·rcases MI h with h | ⟨q,h1,h2⟩
     ·exact .inl h
     ·exact .inr ⟨q,List.mem_cons_of_mem _ h1,h2⟩
theorem U7 {rev:Int} {u:List Int} {c:List Chg} {w g rank h:Int} {l:List Atm} (hl:∀ a∈l,Atk h a) (hw:w=h+1) (h0:0≤h) (hg:0≤g∧g<60) (hv:∀ x∈c,A8 x.2.2=true):∀ a∈upS rev u c w g rank l,Atk w a:=by
 intro a ha
 rcases MI ha with h1 | ⟨q,h1,h2⟩
 ·obtain ⟨b,hb,e⟩:=MG h1
  have A:=hl b hb
  have t1:=A.s1; have t2:=A.s4; have t3:=A.r0; have t4:=A.r1; have t5:=A.g0; have t6:=A.g1; have t7:=A.n
  rcases e with rfl | rfl
  ·exact ⟨t1,t2,t3,by omega,t5,t6,by omega,fun c hc=>by have:=A.c c hc; omega⟩
  ·refine ⟨t1,t2,t3,by simp only [E1]; omega,t5,t6,by simp [E1]; omega,fun c hc=>?_⟩
   rcases List.mem_append.1 (show c∈b.2.2.2.2++[(w,g)] from hc) with hc | hc
   ·have:=A.c c hc; omega
   ·simp at hc
    subst hc
    exact ⟨by omega,by omega,by omega,by omega⟩
 ·obtain ⟨x,hx,rfl⟩:=List.mem_map.1 h1
  obtain ⟨k1,k2,k3⟩:=MV (hv x hx) a h2
  refine ⟨k1,k2,?_,?_,?_,?_,?_,fun c hc=>?_⟩
  ·rw [k3]; simp only; omega
  ·rw [k3]; simp only; omega
  ·rw [k3]; simp only; omega
  ·rw [k3]; simp only; omega
  ·rw [k3]; simp; omega
  ·rw [k3] at hc; simp at hc
theorem LO {K:Nat} {l:List Atm} {us:List (List Int)} {f:Int} {g o:List Int} {base grp rank:Int} {c:List Chg} (hK:100000≤K) (h:Ivt l us f g o) (hc:Cok c) :
 B2 K l us f g o base grp rank c=some (C7 l us f g o base grp rank c):=by
 have R:=h.rok
 have A:=h.aok
 have hul:=KU R (r:=base)
 have htl:=h.vtx (rev:=base) (u:=unR us f base)
 rw [B2,HF hK R A,Option.bind_some]
 unfold C7 E0
 cases hlv:lvR us f base with
 | false => rfl
 | true =>
   rw [if_pos rfl]
   simp only [bne_self_eq_false,Bool.false_eq_true,if_false,Bool.true_eq_false]
   rw [J7 hK (by rw [BD]; omega) hc,Option.bind_some]
   by_cases hch:CF (ofBytes (vtx base (unR us f base) l)) c=0
   ·have n1:¬ (CF (ofBytes (vtx base (unR us f base) l)) c≠0):=by simpa using hch
    rw [if_neg n1,if_neg (by simpa using hch),LR hK R A,Option.bind_some]
    simp only
    rw [UP R,Option.bind_some]
    by_cases had:(adR us f g o grp).2.1=0
    ·have n2:¬ ((adR us f g o grp).2.1≠0):=by simpa using had
     rw [if_neg n2,if_neg (by simpa using had)]
     obtain ⟨ead,h1,h2,h3,h4⟩:=O8 had
     by_cases hrk:rank<0∨1000000<rank
     ·have:(if decide (rank<0)=true then some true else some (decide (rank > 1000000)))=some true:=by
       rcases hrk with h | h
       ·rw [if_pos (by simpa using h)]
       ·split
        ·rfl
        ·simpa using h
      rw [this,Option.bind_some,if_pos rfl,if_pos hrk]
     ·have:(if decide (rank<0)=true then some true else some (decide (rank > 1000000)))=some false:=by
       rw [if_neg (by simp; omega)]
       simp; omega
      have G:=J8 hch
      have haT:=U7 (rev:=base) (u:=unR us f base) (c:=c) (w:=hdR us f+1) (g:=grp) (rank:=rank) h.aa rfl (by have:=h.lo; have:=h.ne; unfold hdR; omega) ⟨h2,h3⟩ G.vt
      rw [this,Option.bind_some,if_neg (by simp),if_neg hrk,DP,IM R,Option.bind_some,Option.bind_some,ead]
      simp only
      rw [eO hK (by omega) A hc (by omega) hch,Option.bind_some]
      by_cases hln:4000<(upS base (unR us f base) c (hdR us f+1) grp rank l).length
      ·rw [if_pos (by simp; omega),if_pos hln]
      ·have R2:Rok (us++[lsR us]) f (insS grp g) o:=by
        refine ⟨by simp,?_,R.lo,R.hi,fun u hu=>?_,by have:=(h.gg.ins ⟨h2,h3⟩).len; omega,R.o⟩
        ·have:=h.hi; have:=h.lo; have:=h.ne
         unfold hdR at *
         simp; omega
        ·rcases List.mem_append.1 hu with hu | hu
         ·exact R.u u hu
         ·simp at hu; subst hu; exact JZ R
       have A2:Aok (upS base (unR us f base) c (hdR us f+1) grp rank l):=by
        refine ⟨by omega,fun a ha=>?_⟩
        have T:=haT a ha
        have:=T.s4; have:=T.n
        exact ⟨by omega,by omega⟩
       have hfit:(A7 (upS base (unR us f base) c (hdR us f+1) grp rank l) (us++[lsR us]) f).length≤20000:=by
        have:=O5 (rev:=hdR (us++[lsR us]) f) (u:=lsR (us++[lsR us])) (l:=upS base (unR us f base) c (hdR us f+1) grp rank l) fun a ha=>(haT a ha).s4
        unfold A7
        omega
       rw [if_neg (by simp; omega),if_neg hln,PN hK R2 A2,Option.bind_some,if_neg (by simp; omega)]
    ·rw [if_pos had,if_pos (by simpa using had)]
   ·rw [if_pos hch,if_pos (by simpa using hch)]
def CH (gs u:List Int) (g:Int):Bool:=gs.contains g&&u.contains g
def IH (gs u:List Int) (g:Int):Bool:=gs.contains g&&!u.contains g
theorem MZ {K:Nat} {gs u:List Int} {g:Int} (hK:100000≤K) (h1:gs.length≤1000) (h2:u.length≤1000):ES K g gs u=some (CH gs u g):=by
 rw [ES,FW hK (by omega),Option.bind_some,FW hK (by omega)]
 unfold CH
 cases gs.contains g <;> simp
theorem aY {K:Nat} {gs u:List Int} {g:Int} (hK:100000≤K) (h1:gs.length≤1000) (h2:u.length≤1000):HK K g gs u=some (IH gs u g):=by
 rw [HK,FW hK (by omega),Option.bind_some,FW hK (by omega)]
 unfold IH
 cases gs.contains g <;> simp
theorem SC {K:Nat} {gs u:List Int} {l:List (Int×Int)} (hK:100000≤K) (h1:gs.length≤1000) (h2:u.length≤1000) (hl:l.length≤50000):∀ (r:List (Int×Int)) (j k:Nat),l.drop j=r→r.length<k→∃ n,CT.l0 K l gs u k (j:Int)=some n∧decide (n≥0)=r.any fun c=>IH gs u c.2
 | [],j,k+1,h,_ => by
   have:=A6 h
   refine ⟨-1,?_,rfl⟩
   rw [CT.l0,if_neg (by simp; omega)]
 | g :: r,j,k+1,h,hk => by
   obtain ⟨h3,h4,h5⟩:=A4 h ((0:Int),(0:Int))
   rw [CT.l0,if_pos (by simp; omega),Int.toNat_natCast,h4,JO,aY hK h1 h2,Option.bind_some,Option.bind_some,if_pos ⟨by omega,by omega⟩]
   cases e:IH gs u g.2 with
   | true => exact ⟨j,by rw [if_pos rfl],by simp [e]⟩
   | false =>
     obtain ⟨n,h6,h7⟩:=SC hK h1 h2 hl r (j+1) k h5 (by simpa using hk)
     refine ⟨n,by rw [if_neg (by simp),up1 (by omega)]; exact h6,by rw [h7]; simp [e]⟩
theorem SD {K:Nat} {gs u:List Int} {l:List (Int×Int)} (hK:100000≤K) (h1:gs.length≤1000) (h2:u.length≤1000) (hl:l.length≤50000):∀ (r:List (Int×Int)) (j k:Nat),l.drop j=r→r.length<k→
 (C2.l0 K l gs u k (j:Int)=some (-1)∧∀ c∈r,CH gs u c.2=false)∨∃ pre c post,r=pre++c :: post∧(∀ c∈pre,CH gs u c.2=false)∧CH gs u c.2=true∧C2.l0 K l gs u k (j:Int)=some ((j+pre.length:Nat):Int)
 | [],j,k+1,h,_ => by
   have:=A6 h
   exact .inl ⟨by rw [C2.l0,if_neg (by simp; omega)],by simp⟩
 | g :: r,j,k+1,h,hk => by
   obtain ⟨h3,h4,h5⟩:=A4 h ((0:Int),(0:Int))
   rw [C2.l0,if_pos (by simp; omega),Int.toNat_natCast,h4,FZ,MZ hK h1 h2,Option.bind_some,Option.bind_some,if_pos ⟨by omega,by omega⟩]
   cases e:CH gs u g.2 with
   | true => exact .inr ⟨[],g,r,rfl,by simp,e,by rw [if_pos rfl]; rfl⟩
   | false =>
     rw [if_neg (by simp),up1 (by omega)]
     rcases SD hK h1 h2 hl r (j+1) k h5 (by simpa using hk) with ⟨h6,h7⟩ | ⟨pre,c,post,h6,h7,h8,h9⟩
     ·exact .inl ⟨h6,fun c hc=>(List.mem_cons.1 hc).elim (fun q=>q▸e) (h7 c)⟩
     ·refine .inr ⟨g :: pre,c,post,by rw [h6]; rfl,fun c hc=>(List.mem_cons.1 hc).elim (fun q=>q▸e) (h7 c),h8,by rw [h9,List.length_cons]; congr 2; omega⟩
theorem LH {K:Nat} {gs u:List Int} (hK:100000≤K) (h1:gs.length≤1000) (h2:u.length≤1000):∀ (r:List (Int×Int)) (i j k:Nat) (s:List (Int×Int)),s.drop j=r→i<j→j≤s.length→s.length≤50000→r.length<k→
 ∃ s' i',C1.l0 K gs u k s (i:Int) (j:Int)=some (s',((i':Nat):Int))∧i'≤s'.length∧s'.take i'=s.take i++r.filter fun c=>!CH gs u c.2
 | [],i,j,k+1,s,h,hij,hj,hs,_ => by
   have:=A6 h
   exact ⟨s,i,by rw [C1.l0,if_neg (by simp; omega)],by omega,by simp⟩
 | g :: r,i,j,k+1,s,h,hij,hj,hs,hk => by
   obtain ⟨h3,h4,h5⟩:=A4 h ((0:Int),(0:Int))
   rw [C1.l0,if_pos (by simp; omega),if_pos ⟨by omega,by omega⟩,Int.toNat_natCast,h4,FZ,MZ hK h1 h2,Option.bind_some,Option.bind_some,up1 (by omega),up1 (by omega)]
   cases e:CH gs u g.2 with
   | true =>
     rw [if_neg (by simp)]
     obtain ⟨s',i',h6,h7,h8⟩:=LH hK h1 h2 r i (j+1) k s h5 (by omega) (by omega) hs (by simpa using hk)
     exact ⟨s',i',h6,h7,by rw [h8]; simp [e]⟩
   | false =>
     rw [if_pos (by simp),if_pos ⟨by omega,by omega⟩,Int.toNat_natCast]
     obtain ⟨s',i',h6,h7,h8⟩:=LH hK h1 h2 r (i+1) (j+1) k (s.set i (g.1,g.2)) (by rw [List.drop_set_of_lt (by omega)]; exact h5) (by omega) (by simp; omega) (by simpa using hs) (by simpa using hk)
     refine ⟨s',i',h6,h7,?_⟩
     rw [h8,List.take_add_one,List.take_set_of_le (Nat.le_refl i),List.getElem?_set_self (by omega)]
     simp [e]
theorem VQ {K:Nat} {gs u:List Int} {s:List (Int×Int)} (hK:100000≤K) (h1:gs.length≤1000) (h2:u.length≤1000) (hs:s.length≤50000):C1 K s gs u=some (s.filter fun c=>!CH gs u c.2):=by
 rw [C1,C2]
 rcases SD hK h1 h2 hs s 0 K rfl (by omega) with ⟨h6,h7⟩ | ⟨pre,c,post,h6,h7,h8,h9⟩
 ·have h6:C2.l0 K s gs u K 0=_:=h6
  rw [h6,Option.bind_some,if_pos (by simp)]
  congr 1
  exact (List.filter_eq_self.2 fun c hc=>by simp [h7 c hc]).symm
 ·have h9:C2.l0 K s gs u K 0=some ((0+pre.length:Nat):Int):=h9
  rw [Nat.zero_add] at h9
  have hl:pre.length<s.length:=by rw [h6]; simp
  obtain ⟨s',i',k1,k2,k3⟩:=LH hK h1 h2 post pre.length (pre.length+1) K s (by rw [h6]; simp) (by omega) (by omega) hs (by rw [h6] at hs; simp at hs; omega)
  rw [h9,Option.bind_some,if_neg (by simp),up1 (by omega),k1,Option.bind_some]
  simp only
  have hpl:(putAt s' (List.replicate (s'.length - Int.toNat (i':Int)) ((0:Int),(0:Int))) (Int.toNat (i':Int))).length=s'.length:=by
   simp [putAt]; omega
  rw [if_pos ⟨by omega,by omega,by rw [hpl]; omega⟩]
  congr 1
  have e1:s.take pre.length=pre:=by rw [h6]; simp
  simp only [Int.toNat_natCast,Nat.sub_zero,List.drop_zero,putAt]
  rw [List.take_append_of_le_length (by simp; omega),List.take_take,Nat.min_self,k3,e1,h6,List.filter_append,List.filter_cons,h8]
  simp only [Bool.not_true,Bool.false_eq_true,if_false]
  congr 1
  exact (List.filter_eq_self.2 fun c hc=>by simp [h7 c hc]).symm
def kpA (gs u:List Int) (a:Atm):Bool:=!CH gs u a.2.2.1&&!a.2.2.2.2.any fun c=>IH gs u c.2
def lfA (gs u:List Int) (a:Atm):Atm:=(a.1,(a.2.1,(if gs.contains a.2.2.1=true then -1 else a.2.2.1,(a.2.2.2.1,a.2.2.2.2.filter fun c=>!CH gs u c.2))))
def rsL (gs u:List Int) (l:List Atm):List Atm:=(l.filter (kpA gs u)).map (lfA gs u)
theorem bF {gs u:List Int} {a:Atm} {l:List Atm}:rsL gs u (a :: l)=if kpA gs u a=true then lfA gs u a :: rsL gs u l else rsL gs u l:=by
 unfold rsL
 rw [List.filter_cons]
 split <;> rfl
theorem ZX {out:List Atm} {n:Nat} {a:Atm} (h:n<out.length):(putAt out (List.take (out.length - n) [a]) n).take (n+1)=out.take n++[a]∧(putAt out (List.take (out.length - n) [a]) n).length=out.length∧(List.take (out.length - n) [a]).length=1:=by
 obtain ⟨m,hm⟩:∃ m,out.length - n=m+1:=⟨out.length - n - 1,by omega⟩
 have e:List.take (out.length - n) [a]=[a]:=by rw [hm]; simp
 rw [e]
 refine ⟨?_,?_,rfl⟩
 ·unfold putAt
  rw [← List.append_assoc,List.take_append_of_le_length (by simp; omega),List.take_of_length_le (by simp; omega)]
 ·simp [putAt]; omega
theorem Y7 {K:Nat} {gs u:List Int} {a:Atm} (hK:100000≤K) (h1:gs.length≤1000) (h2:u.length≤1000) (ha:a.2.2.2.2.length≤1000) :
 ((ES K a.2.2.1 gs u).bind fun r_45=>if r_45=true then some true else (GJ K a.2.2.2.2 gs u).bind fun r_49=>some r_49)=some (!kpA gs u a):=by
 obtain ⟨n,h3,h4⟩:=SC (K:=K) (l:=a.2.2.2.2) hK h1 h2 (by omega) a.2.2.2.2 0 K rfl (by omega)
 have h3:CT.l0 K a.2.2.2.2 gs u K 0=some n:=h3
 rw [MZ hK h1 h2,Option.bind_some,GJ,CT,h3,Option.bind_some,Option.bind_some,h4]
 unfold kpA
 cases CH gs u a.2.2.1 <;> simp
theorem N0 {K:Nat} {gs u:List Int} {l:List Atm} (hK:100000≤K) (h1:gs.length≤1000) (h2:u.length≤1000) (hl:Aok l):∀ (r:List Atm) (j k n:Nat) (out:List Atm),l.drop j=r→j≤l.length→r.length<k→out.length=l.length→n≤j→
 BN.l0 K l gs u k out (n:Int) (j:Int)=some (out.take n++rsL gs u r)
 | [],j,k+1,n,out,h,hj,_,ho,hn => by
   have:=A6 h
   have hlen:=hl.1
   rw [BN.l0,if_neg (by simp; omega),if_pos ⟨by omega,by omega⟩]
   simp [rsL]
 | a :: r,j,k+1,n,out,h,hj,hk,ho,hn => by
   obtain ⟨h3,h4,h5⟩:=A4 h zA
   have hlen:=hl.1
   have ha:=hl.2 a (mdr h)
   have hb:(0:Int)≤(n:Int)∧(n:Int)≤out.length:=⟨by omega,by omega⟩
   rw [BN.l0,if_pos (by simp; omega),if_pos ⟨by omega,by omega⟩,Int.toNat_natCast,h4,Y7 hK h1 h2 ha.2,Option.bind_some,up1 (by omega),bF]
   cases hkp:kpA gs u a with
   | false =>
     rw [if_pos (by simp),if_neg (by simp)]
     exact N0 hK h1 h2 hl r (j+1) k n out h5 (by omega) (by simpa using hk) ho (by omega)
   | true =>
     rw [if_neg (by simp),if_pos rfl,OK ha.2,Option.bind_some,VQ hK h1 h2 (by omega),Option.bind_some,FW hK (by omega),Option.bind_some]
     simp only [if_pos hb,Int.toNat_natCast]
     have key:∀ y:Atm,y=lfA gs u a→BN.l0 K l gs u k (putAt out (List.take (out.length - n) [y]) n) (IntKind.wrap .i64 ((n:Int)+((List.take (out.length - n) [y]).length:Nat))) ((j+1:Nat):Int)=some (out.take n++lfA gs u a :: rsL gs u r):=by
      intro y hy
      obtain ⟨p1,p2,p3⟩:=ZX (out:=out) (n:=n) (a:=y) (by omega)
      rw [p3,show ((n:Int)+((1:Nat):Int))=(n:Int)+1 by omega,up1 (by omega),N0 hK h1 h2 hl r (j+1) k (n+1) _ h5 (by omega) (by simpa using hk) (by rw [p2]; exact ho) (by omega),p1,hy]
      simp
     cases hgc:gs.contains a.2.2.1 with
     | true => rw [if_pos rfl]; exact key _ (by simp only [lfA,hgc]; rfl)
     | false => rw [if_neg (by simp)]; exact key _ (by simp only [lfA,hgc]; rfl)
theorem aZ {K:Nat} {gs u:List Int} {l:List Atm} (hK:100000≤K) (h1:gs.length≤1000) (h2:u.length≤1000) (hl:Aok l):BN K l gs u=some (rsL gs u l):=by
 have hlen:=hl.1
 rw [BN,if_pos ⟨by omega,by omega,by omega,by omega⟩]
 exact N0 hK h1 h2 hl l 0 K 0 _ rfl (by omega) (by omega) (by simp) (by omega)
def D7 (l:List Atm) (us:List (List Int)) (f:Int) (g o:List Int) (x:Int):Int×Int×List Atm×List (List Int)×List Int×List Int:=
 if (tgR us f g x).2.1≠0 then (0,(tgR us f g x).2.1,l,us,g,o) else (hdR us f+1,0,l,us++[tgS x (lsR us)],g,o)
def DS (l:List Atm) (us:List (List Int)) (f:Int) (g o gs:List Int):Int×List Atm×List (List Int)×Int×List Int×List Int:=
 if okF g [] gs=true then (0,rsL gs (lsR us) l,(fgR (hdR us f) (fgL gs []) (lsR us) g o).2) else (210,l,us,f,g,o)
theorem TX {us:List (List Int)} {f:Int} {g:List Int} {x:Int} (h:(tgR us f g x).2.1=0):tgR us f g x=(hdR us f+1,0,us++[tgS x (lsR us)])∧x∈g∧hdR us f<200:=by
 unfold tgR at *
 split at h
 ·rename_i h1
  split at h
  ·simp at h
  ·rename_i h2
   rw [if_pos h1,if_neg h2]
   exact ⟨rfl,by simpa using h1,by omega⟩
 ·simp at h
theorem dM {x:Int} {u g:List Int} (h:u.Pairwise (·< ·)) (hu:∀ y∈u,y∈g) (hx:x∈g):(tgS x u).Pairwise (·< ·)∧∀ y∈tgS x u,y∈g:=by
 unfold tgS
 split
 ·exact ⟨h.filter _,fun y hy=>hu y (List.mem_filter.1 hy).1⟩
 ·exact ⟨insS_sorted h,fun y hy=>by
   rcases mem_insS.1 hy with rfl | hy
   ·exact hx
   ·exact hu y hy⟩
theorem Atk.up {h h':Int} {a:Atm} (A:Atk h a) (hh:h≤h'):Atk h' a:=
 ⟨A.s1,A.s4,A.r0,by have:=A.r1; omega,A.g0,A.g1,by have:=A.n; omega,fun c hc=>by have:=A.c c hc; omega⟩
theorem TZ {l:List Atm} {us:List (List Int)} {f:Int} {g o:List Int} {x:Int} (h:Ivt l us f g o) (hx:x∈g) (hh:hdR us f<200):Ivt l (us++[tgS x (lsR us)]) f g o:=by
 refine ⟨by simp,h.lo,by rw [G3]; omega,h.gg,h.oo,fun u hu=>?_,h.len,fun a ha=>(h.aa a ha).up (by rw [G3]; omega)⟩
 rcases List.mem_append.1 hu with hu | hu
 ·exact h.uu u hu
 ·simp at hu
  subst hu
  have:=h.uu _ (MB h.ne)
  exact dM this.1 this.2 hx
theorem XE {K:Nat} {l:List Atm} {us:List (List Int)} {f:Int} {g o:List Int} {x:Int} (hK:100000≤K) (h:Ivt l us f g o):EQ K l us f g o x=some (D7 l us f g o x):=by
 have R:=h.rok
 have A:=h.aok
 rw [EQ,LR hK R A,Option.bind_some]
 simp only
 rw [dP R h.gg.2,Option.bind_some]
 unfold D7
 by_cases ht:(tgR us f g x).2.1=0
 ·obtain ⟨e,hx,hh⟩:=TX ht
  have I2:=TZ h hx hh
  have hfit:=I2.vtx (rev:=hdR (us++[tgS x (lsR us)]) f) (u:=lsR (us++[tgS x (lsR us)]))
  rw [if_neg (by simpa using ht),if_neg (by simpa using ht),e]
  simp only
  rw [PN hK I2.rok A,Option.bind_some,if_neg (by unfold A7; simp; omega)]
 ·rw [if_pos (by simpa using ht),if_pos (by simpa using ht)]
theorem LW {K:Nat} {l:List Atm} {us:List (List Int)} {f:Int} {g o:List Int} (h:Rok us f g o):ER K l us f g o=some (lsR us):=by
 rw [ER,JH h,Option.bind_some,IM h,Option.bind_some,IL h.ne]
theorem X1 {K:Nat} {l:List Atm} {us:List (List Int)} {f:Int} {g o gs:List Int} (hK:100000≤K) (h:Ivt l us f g o) (hg:gs.length≤1000):HH K l us f g o gs=some (DS l us f g o gs):=by
 have R:=h.rok
 have hls:=JZ R
 rw [HH,LW R,Option.bind_some,XP hK R h.gg.2 hg,Option.bind_some]
 unfold DS foR
 cases okF g [] gs with
 | false => rfl
 | true =>
   rw [if_pos rfl,if_pos rfl,if_neg (by simp [fgR]),aZ hK hg (by omega) h.aok,Option.bind_some]
theorem LN {l:List Atm} {us:List (List Int)} {f:Int} {g o:List Int} {base grp rank:Int} {c:List Chg} (h:Ivt l us f g o) :
 Ivt (C7 l us f g o base grp rank c).2.2.1 (C7 l us f g o base grp rank c).2.2.2.1 f (C7 l us f g o base grp rank c).2.2.2.2.1 (C7 l us f g o base grp rank c).2.2.2.2.2:=by
 unfold C7
 repeat' split
 all_goals first | exact h | skip
 rename_i h1 h2 h3 h4 h5
 obtain ⟨ead,k1,k2,k3,k4⟩:=O8 (show (adR us f g o grp).2.1=0 by simpa using h3)
 have G:=J8 (show CF (ofBytes (vtx base (unR us f base) l)) c=0 by simpa using h2)
 have haT:=U7 (rev:=base) (u:=unR us f base) (c:=c) (w:=hdR us f+1) (g:=grp) (rank:=rank) h.aa rfl (by have:=h.lo; have:=h.ne; unfold hdR; omega) ⟨k2,k3⟩ G.vt
 refine ⟨by simp,h.lo,by rw [G3]; omega,h.gg.ins ⟨k2,k3⟩,h.oo,fun u hu=>?_,by simp only; omega,fun a ha=>by rw [G3]; exact haT a ha⟩
 have hsub:∀ u∈us,u.Pairwise (·< ·)∧∀ x∈u,x∈insS grp g:=fun u hu=>⟨(h.uu u hu).1,fun x hx=>mem_insS.2 (.inr ((h.uu u hu).2 x hx))⟩
 rcases List.mem_append.1 hu with hu | hu
 ·exact hsub u hu
 ·simp at hu
  subst hu
  exact hsub _ (MB h.ne)
theorem dN {l:List Atm} {us:List (List Int)} {f:Int} {g o:List Int} {x:Int} (h:Ivt l us f g o):Ivt (D7 l us f g o x).2.2.1 (D7 l us f g o x).2.2.2.1 f (D7 l us f g o x).2.2.2.2.1 (D7 l us f g o x).2.2.2.2.2:=by
 unfold D7
 split
 ·exact h
 ·rename_i ht
  obtain ⟨e,hx,hh⟩:=TX (show (tgR us f g x).2.1=0 by simpa using ht)
  exact TZ h hx hh
theorem PH:∀ {gs o:List Int},Grp o→(∀ x∈gs,0≤x∧x<60)→Grp (fgL gs o)
 | [],o,h,_ => h
 | x :: gs,o,h,hg => by
   simp only [fgL,List.foldl_cons]
   exact PH (h.ins (hg x List.mem_cons_self)) fun y hy=>hg y (List.mem_cons_of_mem _ hy)
theorem YE {gs u:List Int} {a:Atm} {h:Int} (A:Atk h a):Atk h (lfA gs u a):=by
 have h5:=A.g0; have h6:=A.g1; have h7:=A.n
 refine ⟨A.s1,A.s4,A.r0,A.r1,?_,?_,?_,fun c hc=>A.c c (List.mem_filter.1 hc).1⟩
 ·simp only [lfA]; split <;> omega
 ·simp only [lfA]; split <;> omega
 ·have:=List.length_filter_le (fun c:Int×Int=>!CH gs u c.2) a.2.2.2.2
  simp only [lfA]
  omega
theorem XN {l:List Atm} {us:List (List Int)} {f:Int} {g o gs:List Int} (h:Ivt l us f g o):Ivt (DS l us f g o gs).2.1 (DS l us f g o gs).2.2.1 (DS l us f g o gs).2.2.2.1 (DS l us f g o gs).2.2.2.2.1 (DS l us f g o gs).2.2.2.2.2:=by
 unfold DS
 split
 ·rename_i hok
  have hs:=MP hok
  have hmem:∀ x,x∈fgL gs []↔x∈gs:=fun x=>by rw [MH]; simp
  have hd:hdR [(lsR us).filter fun x=>!(fgL gs []).contains x] (hdR us f)=hdR us f:=by unfold hdR; simp
  have hl:=h.uu _ (MB h.ne)
  refine ⟨by simp [fgR],by have:=h.lo; have:=h.ne; simp only [fgR]; unfold hdR; omega,?_,h.gg.filter,?_,fun u hu=>?_,?_,fun a ha=>?_⟩
  ·simp only [fgR]; rw [hd]; exact h.hi
  ·refine PH h.oo fun x hx=>?_
   exact h.gg.2 x (hs.1 x ((hmem x).1 hx)).1
  ·simp only [fgR,List.mem_singleton] at hu
   subst hu
   refine ⟨hl.1.filter _,fun x hx=>?_⟩
   have hx:=List.mem_filter.1 hx
   exact List.mem_filter.2 ⟨hl.2 x hx.1,hx.2⟩
  ·have:=List.length_filter_le (kpA gs (lsR us)) l
   have:=h.len
   simp only [rsL,List.length_map]
   omega
  ·simp only [fgR]
   rw [hd]
   obtain ⟨b,hb,rfl⟩:=List.mem_map.1 (show a∈(l.filter (kpA gs (lsR us))).map (lfA gs (lsR us)) from ha)
   exact YE (h.aa b (List.mem_filter.1 hb).1)
 ·exact h
abbrev Eng:=List Atm×List (List Int)×Int×List Int×List Int
theorem up2 {j:Nat} (h:j<4611686018427387904):IntKind.wrap .i64 ((j:Int)+1)=((j+1:Nat):Int):=by
 rw [w64 (by omega) (by omega)]; omega
def fwC (c:List Chg):Bool:=c.all (fun x=>decide (x.2.2.size≤60))&&decide (c.length≤12)
theorem PE {K:Nat} {c:List Chg} (hc:c.length<4611686018427387904):∀ (r:List Chg) (j k:Nat),c.drop j=r→r.length<k→D3.l0 K c k (j:Int)=some (r.all (fun x=>decide (x.2.2.size≤60))&&decide (c.length≤12))
 | [],j,k+1,h,_ => by
   have:=A6 h
   rw [D3.l0,if_neg (by simp; omega)]
   simp
   omega
 | x :: r,j,k+1,h,hk => by
   obtain ⟨h1,h2,h3⟩:=A4 h zC
   rw [D3.l0,if_pos (by simp; omega),if_pos ⟨by omega,by omega⟩,Int.toNat_natCast,h2,up2 (by omega),PE hc r (j+1) k h3 (by simpa using hk)]
   by_cases e:x.2.2.size≤60
   ·rw [if_neg (by simp; omega)]; simp [e]
   ·rw [if_pos (by simp; omega)]; simp [e]
theorem XM {K:Nat} {c:List Chg} (hK:c.length<K) (hc:c.length<4611686018427387904):D3 K c=some (fwC c):=PE hc c 0 K rfl hK
theorem XQ {c:List Chg} (h:fwC c=true):Cok c:=by
 simp only [fwC,Bool.and_eq_true,decide_eq_true_eq,List.all_eq_true] at h
 exact ⟨by omega,fun x hx=>by have:=h.1 x hx; omega⟩
def Iv (e:Eng):Prop:=Ivt e.1 e.2.1 e.2.2.1 e.2.2.2.1 e.2.2.2.2
def RG:Eng:=([],[[]],0,[],[])
theorem Z7:Iv RG:=by
 refine ⟨by decide,by decide,by decide,⟨List.Pairwise.nil,fun x hx=>(List.not_mem_nil hx).elim⟩,⟨List.Pairwise.nil,fun x hx=>(List.not_mem_nil hx).elim⟩,fun u hu=>?_,by decide,fun x hx=>(List.not_mem_nil hx).elim⟩
 simp only [RG,List.mem_singleton] at hu
 subst hu
 exact ⟨List.Pairwise.nil,by simp⟩
theorem X5 {K:Nat}:JN K=some ([[]],[],[]):=rfl
theorem Iv.r {e:Eng} (h:Iv e):Rok e.2.1 e.2.2.1 e.2.2.2.1 e.2.2.2.2:=Ivt.rok h
theorem Iv.k {e:Eng} (h:Iv e):Aok e.1:=Ivt.aok h
theorem W5 {K:Nat} {e:Eng} (hK:100000≤K) (h:Iv e):FD K e.1 e.2.1 e.2.2.1 e.2.2.2.1 e.2.2.2.2=some e.1:=by
 rw [FD,J9 hK h.k,Option.bind_some]
theorem Q3 {K:Nat} {l:List Int} {n:Int} (hl:l.length≤50000):∀ (r:List Int) (j k:Nat),l.drop j=r→r.length<k→D2.l0 K l n k (j:Int)=some (r.contains n)
 | [],j,k+1,h,_ => by
   have:=A6 h
   rw [D2.l0,if_neg (by simp; omega)]
   rfl
 | g :: r,j,k+1,h,hk => by
   obtain ⟨h1,h2,h3⟩:=A4 h (0:Int)
   rw [D2.l0,if_pos (by simp; omega),if_pos ⟨by omega,by omega⟩,Int.toNat_natCast,h2,up1 (by omega),Q3 hl r (j+1) k h3 (by simpa using hk)]
   by_cases e:g=n
   ·rw [if_pos (by simpa using e)]; simp [e]
   ·rw [if_neg (by simpa using e),List.contains_cons,beq_eq_false_iff_ne.2 (Ne.symm e),Bool.false_or]
theorem XU {K:Nat} {l:List Int} {n:Int} (hK:100000≤K) (hl:l.length≤50000):D2 K l n=some (l.contains n):=Q3 hl l 0 K rfl (by omega)
theorem Y8 {K:Nat} (hK:100000≤K):HX K=some true:=by
 obtain ⟨n,rfl⟩:∃ n,K=n+40:=⟨K - 40,by omega⟩
 exact Y9 n
abbrev MA:Kd:=.pair (.int .i64) (.pair (.int .i64) .str)
theorem okC {c:List Chg} (h:Kd.ok (.slice MA) c):c.length<4611686018427387904:=by
 have h1:=h.1
 have:1≤Kd.bytes MA:=by decide
 have:=Nat.le_mul_of_pos_right c.length this
 omega
theorem L9 {s t:ByteArray}:bytesL (s++t)=bytesL s++bytesL t:=by
 simp [bytesL]
theorem HT {s:ByteArray}:ofBytes (bytesL s)=s:=by
 unfold ofBytes bytesL
 rw [List.map_map]
 have:(fun n:Int=>UInt8.ofNat n.toNat) ∘ (fun b:UInt8=>(b.toNat:Int))=id:=by
  funext b
  simp
 rw [this]
 simp
theorem GY {s:ByteArray} {i j:Nat}:bytesL (s.extract i j)=((bytesL s).drop i).take (j - i):=by
 unfold bytesL
 rw [ByteArray.data_extract,Array.toList_extract,List.map_take.symm.symm]
 simp [List.extract_eq_take_drop,List.map_drop]
theorem J3 {s:ByteArray} {i:Nat} (h:i<s.size):(bytesL s)[i]? = some (bt s (i:Int)):=by
 unfold bytesL bt
 rw [List.getElem?_map,Int.toNat_natCast,getElem?_pos s i h]
 have:s.data.toList[i]? = some s[i]:=by
  rw [Array.getElem?_toList]
  exact getElem?_pos s.data i h
 rw [this]
 rfl
def vsz (rev:Int) (u:List Int) (l:List Atm):Int:=((vtx rev u l).length:Nat)
theorem gM {rev:Int} {u:List Int} {a:Atm} {l:List Atm}:vsz rev u (a :: l)=(if vis rev u a=true then (a.1.size:Int) else 0)+vsz rev u l:=by
 unfold vsz
 simp only [vtx]
 split
 ·rw [List.length_append,C6]; omega
 ·omega
theorem IY {rev:Int} {u:List Int}:∀ {l m:List Atm},vtx rev u (l++m)=vtx rev u l++vtx rev u m
 | [],_ => rfl
 | a :: l,m => by
   simp only [List.cons_append,vtx]
   split
   ·rw [IY,List.append_assoc]
   ·exact IY
theorem eJ {x:Int} (h:Kd.ok (.int .u8) x):0≤x∧x<256:=by
 have h8:(Lit.int .u8 x).wf=true:=h
 simp [Lit.wf] at h8
 have e1:IntKind.u8.min=0:=by decide
 have e2:IntKind.u8.max=255:=by decide
 omega
def Inc:Nat→List (Nat×List Atm)→Prop
 | _,[] => True
 | p,q :: r => p ≤ q.1 ∧ Inc q.1 r
theorem Q4 {r rank:Int} {u:List Int} {l:List Atm} {w g:Int}:∀ {c:List Chg} {p:Nat},orC c=false→(∀ x∈c,x.1≤x.2.1)→(∀ y,c.head? = some y→p≤spt r u rank y.1 l)→Inc p (c.map fun y=>(spt r u rank y.1 l,HZ y.2.2 w g rank))
 | [],_,_,_,_ => trivial
 | [a],p,_,_,hp => ⟨hp a rfl,trivial⟩
 | a :: b :: c,p,ho,hb,hp => ⟨hp a rfl,Q4 (c := b :: c) (KA ho).2 (fun x hx => hb x (List.mem_cons_of_mem _ hx)) fun y hy => by
     simp at hy
     subst hy
     exact T9 (Int.le_trans (hb a List.mem_cons_self) (KA ho).1)⟩
theorem eL {us:List (List Int)} {u:List Int} {f r:Int} (hr:f≤r) (h:r≤hdR us f+1):unR (us++[u]) f r=if r=hdR us f+1 then u else unR us f r:=by
 unfold unR lvR
 rw [G3,decide_eq_true hr,decide_eq_true h,Bool.true_and,if_pos rfl]
 unfold hdR at *
 split
 ·rename_i e
  rw [show (r - f).toNat=us.length by omega]
  simp [List.getD_eq_getElem?_getD]
 ·rw [decide_eq_true (by omega),Bool.and_self,if_pos rfl]
  rw [List.getD_eq_getElem?_getD,List.getD_eq_getElem?_getD,List.getElem?_append_left (by omega)]
theorem DZ {α:Type}:∀ {l:List α},l≠[]→∃ m x,l=m++[x]:=by
 intro l h
 exact ⟨l.dropLast,l.getLast h,(List.dropLast_concat_getLast h).symm⟩
theorem RF (a b:Int):mx2 a b=max a b:=by unfold mx2; split <;> omega
theorem RB (a b:Int):mn2 a b=min a b:=by unfold mn2; split <;> omega
def txt (s:ByteArray):List Int:=s.data.toList.map fun b=>(b.toNat:Int)
theorem F1 {s:ByteArray}:(txt s).length=s.size:=by simp [txt]
theorem ZE {s:ByteArray}:ofBytes (txt s)=s:=by
 cases s with
 | mk d =>
   unfold ofBytes txt
   rw [List.map_map]
   have:((fun n:Int=>UInt8.ofNat n.toNat) ∘ fun b:UInt8=>(b.toNat:Int))=id:=by
    funext b; simp
   rw [this]; simp
theorem eU {n c d e f:Int}:(2≤AL n c d e f→A0 d)∧(3≤AL n c d e f→A0 e)∧(4≤AL n c d e f→A0 f):=by
 unfold AL
 split
 ·omega
 ·split
  ·split
   ·rename_i h; exact ⟨fun _=>h.2.1,by omega,by omega⟩
   ·omega
  ·split
   ·split
    ·rename_i h; exact ⟨fun _=>h.2.1,fun _=>h.2.2.1,by omega⟩
    ·omega
   ·split
    ·split
     ·rename_i h; exact ⟨fun _=>h.2.1,fun _=>h.2.2.1,fun _=>h.2.2.2.1⟩
     ·omega
    ·omega
theorem NR {s:ByteArray} {i j:Nat} (h1:i<j) (h2:(j:Int)<i+usz s i):A0 (bt s (j:Int)):=by
 by_cases hi:(i:Int)<s.size
 ·have hu:=CC (s:=s) (a:=i)
  unfold usz at h2 hu
  rw [if_neg (by omega)] at h2 hu
  have hc:=eU (n:=(s.size:Int) - i) (c:=bt s i) (d:=bt s ((i:Int)+1)) (e:=bt s ((i:Int)+2)) (f:=bt s ((i:Int)+3))
  have h3:j=i+1∨j=i+2∨j=i+3:=by omega
  rcases h3 with rfl | rfl | rfl
  ·have:=hc.1 (by omega); rwa [show ((i+1:Nat):Int)=(i:Int)+1 by omega]
  ·have:=hc.2.1 (by omega); rwa [show ((i+2:Nat):Int)=(i:Int)+2 by omega]
  ·have:=hc.2.2 (by omega); rwa [show ((i+3:Nat):Int)=(i:Int)+3 by omega]
 ·have:usz s (i:Int)=0:=by unfold usz; rw [if_pos (by omega)]
  omega
theorem dO (s:ByteArray):∀ (d i:Nat) (r:List UInt8),s.size - i=d→ByteArray.toList.loop s i r=r.reverse++s.data.toList.drop i:=by
 intro d
 induction d with
 | zero =>
   intro i r h
   unfold ByteArray.toList.loop
   rw [if_neg (by omega),List.drop_eq_nil_of_le (by have:s.data.toList.length=s.size:=(by simp); omega)]
   simp
 | succ d ih =>
   intro i r h
   unfold ByteArray.toList.loop
   have hl:s.data.toList.length=s.size:=by simp
   have hi:i<s.data.toList.length:=by omega
   rw [if_pos (by omega),ih (i+1) _ (by omega),List.drop_eq_getElem_cons hi]
   have:s.get! i=s.data.toList[i]:=by
    have h2:i<s.data.size:=by simpa using hi
    show s.data[i]! = _
    rw [getElem!_pos s.data i h2]
    simp
   rw [this]
   simp
theorem TY (s:ByteArray):ByteArray.toList s=s.data.toList:=by
 unfold ByteArray.toList
 rw [dO s s.size 0 [] rfl]
 simp
theorem dB {a b:ByteArray}:(ByteArray.toList a==ByteArray.toList b)=decide (a=b):=by
 rw [TY,TY]
 by_cases h:a=b
 ·subst h; simp
 ·have:a.data.toList≠b.data.toList:=fun h'=>h (by have:=Array.toList_inj.1 h'; cases a; cases b; simp only at this; rw [this])
  rw [beq_eq_false_iff_ne.2 this]; simp [h]
theorem bQ {a:ByteArray}:a=⟨#[]⟩↔a.size=0:=by
 constructor
 ·rintro rfl; rfl
 ·intro h
  rw [← ZE (s:=a)]
  have:txt a=[]:=List.eq_nil_of_length_eq_zero (by rw [F1]; exact h)
  rw [this]; rfl
theorem NG {a:ByteArray}:(ByteArray.toList a==ByteArray.toList (ByteArray.mk #[]))=decide (a.size=0):=by
 rw [dB]
 exact decide_eq_decide.2 bQ
abbrev El:=Int×(Int×ByteArray)
theorem G5 {K:Nat} {x1 x2:Int} {x3:ByteArray}:DH K x1 x2 x3=some (decide (x3.size=0)):=by
 unfold DH
 rw [NG]
theorem X3 {K:Nat} {x1 x2 base to:Int} {x3:ByteArray} {ahead copied:Bool} (hK:30000≤K):H8 K x1 x2 x3 base to ahead copied =
 some (if x3.size=0 then decide (to≤x1∧(to<x1∨copied=false)∧x1<x2∧x2≤base) else decide (x1=0∧x2=0∧(ahead=false∨copied=true)∧x3.size≤20000)&&A8 x3):=by
 unfold H8
 rw [G5,Option.bind_some]
 by_cases h:x3.size=0
 ·rw [if_pos (by simpa using h),if_pos h]
  by_cases h1:x1≥to
  ·rw [if_pos (by simpa using h1)]
   by_cases h2:x1 > to
   ·rw [if_pos (by simpa using h2)]
    by_cases h3:x1<x2
    ·rw [if_pos (by simpa using h3)]
     congr 1; rw [decide_eq_decide]; omega
    ·rw [if_neg (by simpa using h3)]
     congr 1; symm; rw [decide_eq_false_iff_not]; omega
   ·rw [if_neg (by simpa using h2)]
    cases copied with
    | true => rw [if_neg (by simp)]; congr 1; symm; rw [decide_eq_false_iff_not]; simp; omega
    | false =>
      rw [if_pos (by simp)]
      by_cases h3:x1<x2
      ·rw [if_pos (by simpa using h3)]
       congr 1; rw [decide_eq_decide]; simp; omega
      ·rw [if_neg (by simpa using h3)]
       congr 1; symm; rw [decide_eq_false_iff_not]; omega
  ·rw [if_neg (by simpa using h1)]
   congr 1; symm; rw [decide_eq_false_iff_not]; omega
 ·rw [if_neg (by simpa using h),if_neg h]
  by_cases h1:x1=0∧x2=0
  ·rw [if_pos (by simp [h1])]
   by_cases h2:x3.size≤20000
   ·have hv:B9 K x3=some (A8 x3):=IP (by omega) (by omega)
    cases ahead with
    | false => rw [if_pos (by simp),if_pos (by simp; omega),hv,Option.bind_some]; simp [h1,h2]
    | true =>
      rw [if_neg (by simp)]
      cases copied with
      | true => rw [if_pos rfl,if_pos (by simp; omega),hv,Option.bind_some]; simp [h1,h2]
      | false => rw [if_neg (by simp)]; simp
   ·cases ahead with
    | false => rw [if_pos (by simp),if_neg (by simp; omega)]; simp [h2]
    | true =>
      rw [if_neg (by simp)]
      cases copied with
      | true => rw [if_pos rfl,if_neg (by simp; omega)]; simp [h2]
      | false => rw [if_neg (by simp)]; simp
  ·rw [if_neg (by simp; omega)]
   congr 1; symm
   rw [Bool.and_eq_false_iff,decide_eq_false_iff_not]
   left
   exact fun h'=>h1 ⟨h'.1,h'.2.1⟩
def isL (base:Int):Int→Int→Option Bool→List El→Bool
 | _,_,_,[] => true
 | size,to,pre,x :: r =>
   if x.2.2.size=0 then
    decide (to≤x.1∧(to<x.1∨pre≠some true)∧x.1<x.2.1∧x.2.1≤base∧size+(x.2.1 - x.1)≤20000)&&isL base (size+(x.2.1 - x.1)) x.2.1 (some true) r
   else
    (decide (x.1=0∧x.2.1=0∧pre≠some false∧size+x.2.2.size≤20000)&&A8 x.2.2)&&isL base (size+x.2.2.size) to (some false) r
def isD (base:Int) (l:List El):Bool:=decide (0≤base∧base≤20000∧l.length≤60)&&isL base 0 0 none l
def AJ (d:List El) (j:Nat):Option Bool:=if j=0 then none else some (decide ((d.getD (j - 1) ((0:Int),((0:Int),ByteArray.empty))).2.2.size=0))
theorem ZS {d:List El} {j:Nat} {x:El} (h:d.getD j ((0:Int),((0:Int),ByteArray.empty))=x):AJ d (j+1)=some (decide (x.2.2.size=0)):=by
 unfold AJ
 rw [if_neg (by omega),Nat.add_sub_cancel,h]
theorem QR {K:Nat} {d:List El} {base:Int} (hK:30000≤K) (hb:base≤20000) (hl:d.length≤60):∀ (rest:List El) (j k:Nat) (size to:Int),d.drop j=rest→rest.length<k→0≤size→size≤20000→0≤to→to≤20000→
 BJ.l0 K d base k size to (j:Int)=some (isL base size to (AJ d j) rest)
 | [],j,k,size,to,hd,hk,h0,h1,h2,h3 => by
   obtain ⟨k,rfl⟩:∃ m,k=m+1:=⟨k - 1,by simp at hk; omega⟩
   have:=A6 hd
   rw [BJ.l0,if_neg (by simp; omega)]
   rfl
 | x :: rest,j,k,size,to,hd,hk,h0,h1,h2,h3 => by
   obtain ⟨k,rfl⟩:∃ m,k=m+1:=⟨k - 1,by simp at hk; omega⟩
   obtain ⟨hj,hgd,hd'⟩:=A4 hd ((0:Int),((0:Int),ByteArray.empty))
   have hk':rest.length<k:=by simp at hk; omega
   have hw:IntKind.wrap .i64 ((j:Int)+1)=((j+1:Nat):Int):=by rw [w64 (by omega) (by omega)]; omega
   have hw1:IntKind.wrap .i64 ((j:Int) - 1)=(j:Int) - 1:=w64 (by omega) (by omega)
   have hps:=ZS hgd
   have hnext:=fun (size' to':Int) (a0:0≤size') (a1:size'≤20000) (a2:0≤to') (a3:to'≤20000)=>QR (K:=K) hK hb hl rest (j+1) k size' to' hd' hk' a0 a1 a2 a3
   rw [hps] at hnext
   have hcp:(if decide ((j:Int) > 0)=true then (DH K (d.getD ((j:Int) - 1).toNat ((0:Int),((0:Int),ByteArray.empty))).1 (d.getD ((j:Int) - 1).toNat ((0:Int),((0:Int),ByteArray.empty))).2.1 (d.getD ((j:Int) - 1).toNat ((0:Int),((0:Int),ByteArray.empty))).2.2).bind fun r_22=>if 0≤(j:Int) - 1∧(j:Int) - 1<((d.length:Nat):Int) then some r_22 else none else some false)=some (AJ d j==some true):=by
    unfold AJ
    by_cases hj0:j=0
    ·subst hj0; simp
    ·rw [if_pos (by simp; omega),G5,Option.bind_some,if_pos ⟨by omega,by omega⟩,if_neg hj0,show ((j:Int) - 1).toNat=j - 1 by omega]
     simp
   have hah:∀ b:Bool,(decide ((j:Int) > 0)=false∨b=true)↔(AJ d j=none∨b=true):=by
    intro b
    unfold AJ
    by_cases hj0:j=0
    ·subst hj0; simp
    ·simp [hj0]
   rw [BJ.l0]
   simp only [Int.toNat_natCast,hgd,hw,hw1]
   rw [if_pos (by simpa using hj),if_pos ⟨by omega,by omega⟩,hcp,Option.bind_some,X3 hK,Option.bind_some,G5,isL]
   by_cases hz:x.2.2.size=0
   ·rw [if_pos hz,if_pos hz,hz]
    by_cases hc:to≤x.1∧(to<x.1∨(AJ d j==some true)=false)∧x.1<x.2.1∧x.2.1≤base
    ·rw [show decide (to≤x.1∧(to<x.1∨(AJ d j==some true)=false)∧x.1<x.2.1∧x.2.1≤base)=true from decide_eq_true hc,if_neg (by simp),Option.bind_some,if_pos (by simp),Option.bind_some]
     simp only [Int.natCast_zero,Int.add_zero]
     rw [w64 (n:=x.2.1 - x.1) (by omega) (by omega),w64 (n:=x.2.1 - x.1) (by omega) (by omega),w64 (n:=size+(x.2.1 - x.1)) (by omega) (by omega)]
     have hp:(AJ d j==some true)=false↔AJ d j≠some true:=by simp
     by_cases hs:size+(x.2.1 - x.1)≤20000
     ·rw [if_neg (by simpa using hs),hnext _ _ (by omega) hs (by omega) (by omega),hz]
      have:decide (to≤x.1∧(to<x.1∨AJ d j≠some true)∧x.1<x.2.1∧x.2.1≤base∧size+(x.2.1 - x.1)≤20000)=true:=by
       rw [decide_eq_true_eq]
       rw [hp] at hc
       exact ⟨hc.1,hc.2.1,hc.2.2.1,hc.2.2.2,hs⟩
      rw [this]; simp
     ·rw [if_pos (by simp; omega)]
      have:decide (to≤x.1∧(to<x.1∨AJ d j≠some true)∧x.1<x.2.1∧x.2.1≤base∧size+(x.2.1 - x.1)≤20000)=false:=by
       rw [decide_eq_false_iff_not]
       exact fun h=>hs h.2.2.2.2
      rw [this]; rfl
    ·rw [show decide (to≤x.1∧(to<x.1∨(AJ d j==some true)=false)∧x.1<x.2.1∧x.2.1≤base)=false from decide_eq_false hc,if_pos (by simp)]
     have hp:(AJ d j==some true)=false↔AJ d j≠some true:=by simp
     have:decide (to≤x.1∧(to<x.1∨AJ d j≠some true)∧x.1<x.2.1∧x.2.1≤base∧size+(x.2.1 - x.1)≤20000)=false:=by
      rw [decide_eq_false_iff_not]
      rw [hp] at hc
      exact fun h=>hc ⟨h.1,h.2.1,h.2.2.1,h.2.2.2.1⟩
     rw [this]; rfl
   ·rw [if_neg hz,if_neg hz]
    have hpre:(decide ((j:Int) > 0)=false∨(AJ d j==some true)=true)↔AJ d j≠some false:=by
     rw [hah]
     cases AJ d j with
     | none => simp
     | some b => cases b <;> simp
    by_cases hc:x.1=0∧x.2.1=0∧(decide ((j:Int) > 0)=false∨(AJ d j==some true)=true)∧x.2.2.size≤20000
    ·rw [show decide (x.1=0∧x.2.1=0∧(decide ((j:Int) > 0)=false∨(AJ d j==some true)=true)∧x.2.2.size≤20000)=true from by rw [decide_eq_true_eq]; exact hc]
     cases hv:A8 x.2.2 with
     | false => rw [if_pos (by simp)]; simp
     | true =>
       rw [if_neg (by simp),Option.bind_some,if_neg (by simpa using hz),Option.bind_some]
       rw [hc.1,hc.2.1,Int.sub_zero,w64 (n:=0) (by omega) (by omega),Int.zero_add,w64 (n:=(x.2.2.size:Int)) (by omega) (by omega),w64 (n:=size+(x.2.2.size:Int)) (by omega) (by omega)]
       by_cases hs:size+(x.2.2.size:Int)≤20000
       ·rw [if_neg (by simpa using hs),hnext _ _ (by omega) hs (by omega) (by omega)]
        have:decide ((0:Int)=0∧(0:Int)=0∧AJ d j≠some false∧size+(x.2.2.size:Int)≤20000)=true:=by
         rw [decide_eq_true_eq]
         exact ⟨rfl,rfl,hpre.1 hc.2.2.1,hs⟩
        rw [this]
        simp [hz]
       ·rw [if_pos (by simp; omega)]
        have:decide ((0:Int)=0∧(0:Int)=0∧AJ d j≠some false∧size+(x.2.2.size:Int)≤20000)=false:=by
         rw [decide_eq_false_iff_not]
         exact fun h=>hs h.2.2.2
        rw [this]; rfl
    ·rw [show decide (x.1=0∧x.2.1=0∧(decide ((j:Int) > 0)=false∨(AJ d j==some true)=true)∧x.2.2.size≤20000)=false from by rw [decide_eq_false_iff_not]; exact hc]
     rw [if_pos (by simp)]
     have:decide (x.1=0∧x.2.1=0∧AJ d j≠some false∧size+(x.2.2.size:Int)≤20000)=false:=by
      rw [decide_eq_false_iff_not]
      exact fun h=>hc ⟨h.1,h.2.1,hpre.2 h.2.2.1,by omega⟩
     rw [this]; rfl
theorem G7 {K:Nat} {d:List El} {base:Int} (hK:30000≤K):BJ K base d=some (isD base d):=by
 unfold BJ isD
 by_cases h1:base<0
 ·rw [if_pos (by simpa using h1),Option.bind_some,if_pos rfl]
  congr 1; symm; rw [Bool.and_eq_false_iff,decide_eq_false_iff_not]; left; omega
 ·rw [if_neg (by simpa using h1)]
  by_cases h2:base > 20000
  ·rw [if_pos (by simpa using h2),Option.bind_some,if_pos rfl]
   congr 1; symm; rw [Bool.and_eq_false_iff,decide_eq_false_iff_not]; left; omega
  ·rw [if_neg (by simpa using h2),Option.bind_some]
   by_cases h3:d.length > 60
   ·rw [if_pos (by simp; omega)]
    congr 1; symm; rw [Bool.and_eq_false_iff,decide_eq_false_iff_not]; left; omega
   ·have h:=QR (K:=K) (d:=d) (base:=base) hK (by omega) (by omega) d 0 K 0 0 rfl (by omega) (by omega) (by omega) (by omega) (by omega)
    rw [Int.natCast_zero] at h
    rw [if_neg (by simp; omega),h]
    have:decide (0≤base∧base≤20000∧d.length≤60)=true:=by rw [decide_eq_true_eq]; omega
    rw [this]
    rfl
abbrev el0:El:=((0:Int),((0:Int),ByteArray.empty))
def HO (b:Bool) (l:List El):Prop:=l≠[]∧decide ((l.getD (l.length - 1) el0).2.2.size=0)=b
instance (b:Bool) (l:List El):Decidable (HO b l):=inferInstanceAs (Decidable (_∧_))
def CJ (l:List El) (f t:Int):List El:=
 if f=t then l else if HO true l∧(l.getD (l.length - 1) el0).2.1=f then l.set (l.length - 1) ((l.getD (l.length - 1) el0).1,(t,(l.getD (l.length - 1) el0).2.2)) else l++[(f,(t,ByteArray.empty))]
def CK (l:List El) (s:ByteArray):List El:=
 if s.size=0 then l else if HO false l then l.set (l.length - 1) ((l.getD (l.length - 1) el0).1,((l.getD (l.length - 1) el0).2.1,(l.getD (l.length - 1) el0).2.2++s)) else l++[(0,(0,s))]
def A9:List El→Nat
 | [] => 0
 | x :: r => x.2.2.size+A9 r
def AG:List El→Int
 | [] => 0
 | x :: r => (x.2.1 - x.1)+AG r
theorem IJ:∀ {l r:List El},A9 (l++r)=A9 l+A9 r
 | [],r => by simp [A9]
 | x :: l,r => by simp only [List.cons_append,A9,IJ]; omega
theorem QV:∀ {l:List El} {x:El},x∈l→x.2.2.size≤A9 l
 | y :: l,x,h => by
   rw [A9]
   rcases List.mem_cons.1 h with rfl | h
   ·omega
   ·have:=QV h; omega
theorem HE:ByteArray.empty.size=0:=rfl
theorem M1 {l:List El} {p:El}:(l++[p]).getD ((l++[p]).length - 1) el0=p:=by
 simp [List.getD]
theorem SQ {α:Type} {l:List α} {p q:α}:(l++[p]).set ((l++[p]).length - 1) q=l++[q]:=by
 have:(l++[p]).length - 1=l.length:=by simp
 rw [this,List.set_append_right _ _ (Nat.le_refl _),Nat.sub_self,List.set_cons_zero]
theorem R7 {f t:Int}:CJ [] f t=if f=t then [] else [(f,(t,ByteArray.empty))]:=by
 unfold CJ
 split
 ·rfl
 ·rw [if_neg (fun h=>h.1.1 rfl)]; rfl
theorem JU {b:Bool} {l:List El} {p:El}:HO b (l++[p])↔decide (p.2.2.size=0)=b:=by
 unfold HO
 rw [M1]
 exact ⟨fun h=>h.2,fun h=>⟨by simp,h⟩⟩
theorem R6 {l:List El} {p:El} {f t:Int}:CJ (l++[p]) f t=if f=t then l++[p] else if p.2.2.size=0∧p.2.1=f then l++[(p.1,(t,p.2.2))] else l++[p]++[(f,(t,ByteArray.empty))]:=by
 unfold CJ
 rw [M1,SQ]
 by_cases h:f=t
 ·rw [if_pos h,if_pos h]
 ·rw [if_neg h,if_neg h]
  by_cases h2:p.2.2.size=0∧p.2.1=f
  ·rw [if_pos ⟨JU.2 (decide_eq_true h2.1),h2.2⟩,if_pos h2]
  ·rw [if_neg (fun h'=>h2 ⟨of_decide_eq_true (JU.1 h'.1),h'.2⟩),if_neg h2]
theorem R9 {s:ByteArray}:CK [] s=if s.size=0 then [] else [(0,(0,s))]:=by
 unfold CK
 split
 ·rfl
 ·rw [if_neg (fun h=>h.1 rfl)]; rfl
theorem R8 {l:List El} {p:El} {s:ByteArray}:CK (l++[p]) s=if s.size=0 then l++[p] else if p.2.2.size=0 then l++[p]++[(0,(0,s))] else l++[(p.1,(p.2.1,p.2.2++s))]:=by
 unfold CK
 rw [M1,SQ]
 by_cases h:s.size=0
 ·rw [if_pos h,if_pos h]
 ·rw [if_neg h,if_neg h]
  by_cases h2:p.2.2.size=0
  ·rw [if_neg (fun h'=>by have:=JU.1 h'; simp [h2] at this),if_pos h2]
  ·rw [if_pos (JU.2 (decide_eq_false h2)),if_neg h2]
theorem BV {a b:ByteArray}:(a++b).size=a.size+b.size:=ByteArray.size_append
theorem YT {l:List El} {f t:Int}:(CJ l f t).length≤l.length+1:=by
 unfold CJ
 split
 ·omega
 ·split <;> simp
theorem YW {l:List El} {s:ByteArray}:(CK l s).length≤l.length+1:=by
 unfold CK
 split
 ·omega
 ·split <;> simp
theorem YU {l:List El} {f t:Int}:A9 (CJ l f t)=A9 l:=by
 by_cases h:l=[]
 ·subst h; rw [R7]; split <;> simp [A9,HE]
 ·obtain ⟨m,p,rfl⟩:=DZ h
  rw [R6]
  split
  ·rfl
  ·split
   ·simp [IJ,A9]
   ·simp [IJ,A9,HE]
theorem YX {l:List El} {s:ByteArray}:A9 (CK l s)=A9 l+s.size:=by
 by_cases h:l=[]
 ·subst h; rw [R9]; split
  ·simp [A9]; omega
  ·simp [A9]
 ·obtain ⟨m,p,rfl⟩:=DZ h
  rw [R8]
  split
  ·omega
  ·split
   ·simp [IJ,A9] <;> omega
   ·simp [IJ,A9,BV] <;> omega
theorem VD {K:Nat} {m f t:Int} {l:List El} (hl:l.length≤1000000000):H5 K m l f t=some (CJ l f t):=by
 unfold H5 CJ
 have hw:IntKind.wrap .i64 ((l.length:Int) - 1)=(l.length:Int) - 1:=w64 (by omega) (by omega)
 rw [hw]
 by_cases h:f=t
 ·rw [if_pos (by simpa using h),if_pos h]
 ·rw [if_neg (by simpa using h),if_neg h]
  by_cases he:l=[]
  ·subst he
   rw [if_neg (by simp),Option.bind_some,if_neg (by simp),if_pos (by simp),if_neg (fun h=>h.1.1 rfl)]
  ·have hp:0<l.length:=List.length_pos_iff.2 he
   have hn:((l.length:Int) - 1).toNat=l.length - 1:=by omega
   rw [if_pos (by simp; omega),hn,G5,Option.bind_some]
   by_cases hz:(l.getD (l.length - 1) el0).2.2.size=0
   ·rw [if_pos (decide_eq_true hz),if_pos ⟨by omega,by omega⟩,Option.bind_some]
    by_cases hq:(l.getD (l.length - 1) el0).2.1=f
    ·rw [if_pos (by simpa using hq),if_pos ⟨by omega,by omega⟩,if_pos ⟨⟨he,decide_eq_true hz⟩,hq⟩]
    ·rw [if_neg (by simpa using hq),if_pos (by simp; omega),if_neg (fun h=>hq h.2)]
   ·rw [if_neg (by simpa using hz),if_pos ⟨by omega,by omega⟩,Option.bind_some,if_neg (by simp),if_pos (by simp; omega),if_neg (fun h=>hz (of_decide_eq_true h.1.2))]
theorem aI {K:Nat} {m:Int} {l:List El} {s:ByteArray} (hl:l.length≤1000000000) (ht:A9 l+s.size≤9223372036854775807):H6 K m l s=some (CK l s):=by
 unfold H6 CK
 have hw:IntKind.wrap .i64 ((l.length:Int) - 1)=(l.length:Int) - 1:=w64 (by omega) (by omega)
 rw [hw,NG]
 by_cases h:s.size=0
 ·rw [if_pos (by simpa using h),if_pos h]
 ·rw [if_neg (by simpa using h),if_neg h]
  by_cases he:l=[]
  ·subst he
   rw [if_neg (by simp),Option.bind_some,if_neg (by simp),if_pos (by simp),if_neg (fun h=>h.1 rfl)]
  ·have hp:0<l.length:=List.length_pos_iff.2 he
   have hn:((l.length:Int) - 1).toNat=l.length - 1:=by omega
   have hm:l.getD (l.length - 1) el0∈l:=by
    rw [List.getD,List.getElem?_eq_getElem (by omega)]
    simp
   have hs:=QV hm
   rw [if_pos (by simp; omega),hn,G5,Option.bind_some,if_pos ⟨by omega,by omega⟩,Option.bind_some]
   by_cases hz:(l.getD (l.length - 1) el0).2.2.size=0
   ·rw [show decide ((l.getD (l.length - 1) ((0:Int),((0:Int),ByteArray.empty))).2.2.size=0)=true from decide_eq_true hz,if_neg (by simp),if_pos (by simp; omega),if_neg (fun h=>by have:=h.2; rw [decide_eq_true hz] at this; cases this)]
   ·have h3:(l.getD (l.length - 1) ((0:Int),((0:Int),ByteArray.empty))).2.2.size≤A9 l:=hs
    rw [show decide ((l.getD (l.length - 1) ((0:Int),((0:Int),ByteArray.empty))).2.2.size=0)=false from decide_eq_false hz,if_pos (by simp),if_pos ⟨by omega,by omega,by omega⟩,if_pos ⟨he,decide_eq_false hz⟩]
def okE (base:Int) (x:El):Prop:=0≤x.1∧x.1≤x.2.1∧x.2.1≤base∧(x.2.2.size=0∨x.1=0∧x.2.1=0)
theorem M8 {base:Int} (hb:0≤base):∀ {l:List El} {size to:Int} {pre:Option Bool},isL base size to pre l=true→0≤to→size≤20000→(∀ x∈l,okE base x)∧size+AG l+A9 l≤20000
 | [],size,to,pre,h,h0,h1 => ⟨by simp,by simp [AG,A9]; omega⟩
 | x :: r,size,to,pre,h,h0,h1 => by
   rw [isL] at h
   split at h
   ·rename_i hz
    rw [Bool.and_eq_true,decide_eq_true_eq] at h
    obtain ⟨⟨c1,c2,c3,c4,c5⟩,hr⟩:=h
    obtain ⟨e1,e2⟩:=M8 hb hr (by omega) c5
    refine ⟨fun y hy=>?_,by simp only [AG,A9,hz]; omega⟩
    rcases List.mem_cons.1 hy with rfl | hy
    ·exact ⟨by omega,by omega,c4,.inl hz⟩
    ·exact e1 y hy
   ·rw [Bool.and_eq_true,Bool.and_eq_true,decide_eq_true_eq] at h
    obtain ⟨⟨⟨c1,c2,c3,c4⟩,hv⟩,hr⟩:=h
    obtain ⟨e1,e2⟩:=M8 hb hr h0 c4
    refine ⟨fun y hy=>?_,by simp only [AG,A9]; omega⟩
    rcases List.mem_cons.1 hy with rfl | hy
    ·exact ⟨by omega,by omega,by omega,.inr ⟨c1,c2⟩⟩
    ·exact e1 y hy
theorem HN {base:Int} {l:List El} (h:isD base l=true):0≤base∧base≤20000∧l.length≤60∧(∀ x∈l,okE base x)∧AG l+A9 l≤20000:=by
 unfold isD at h
 rw [Bool.and_eq_true,decide_eq_true_eq] at h
 obtain ⟨⟨h1,h2,h3⟩,h4⟩:=h
 obtain ⟨e1,e2⟩:=M8 h1 h4 (by omega) (by omega)
 exact ⟨h1,h2,h3,e1,by omega⟩
theorem FM {base:Int}:∀ {l:List El},(∀ x∈l,okE base x)→0≤AG l
 | [],_ => by simp [AG]
 | x :: r,h => by
   have h1:=h x (by simp)
   have h2:=FM (l:=r) fun y hy=>h y (by simp [hy])
   have:=h1.2.1
   simp only [AG]; omega
theorem TN {K:Nat} {d:List El} {base:Int} (hb:base≤20000) (hl:d.length≤1000):∀ (rest:List El) (j k:Nat) (kept put:Int),d.drop j=rest→rest.length<k→(∀ x∈rest,okE base x)→0≤kept→0≤put→kept+AG rest≤1000000→put+A9 rest≤1000000→
 CG.l0 K d k kept put (j:Int)=some (kept+AG rest,put+A9 rest)
 | [],j,k,kept,put,hd,hk,hx,h0,h1,h2,h3 => by
   obtain ⟨k,rfl⟩:∃ m,k=m+1:=⟨k - 1,by simp at hk; omega⟩
   have:=A6 hd
   rw [CG.l0,if_neg (by simp; omega)]
   simp [AG,A9]
 | x :: rest,j,k,kept,put,hd,hk,hx,h0,h1,h2,h3 => by
   obtain ⟨k,rfl⟩:∃ m,k=m+1:=⟨k - 1,by simp at hk; omega⟩
   obtain ⟨hj,hgd,hd'⟩:=A4 hd el0
   have hk':rest.length<k:=by simp at hk; omega
   have hw:IntKind.wrap .i64 ((j:Int)+1)=((j+1:Nat):Int):=by rw [w64 (by omega) (by omega)]; omega
   obtain ⟨o1,o2,o3,o4⟩:=hx x (by simp)
   have hr:∀ y∈rest,okE base y:=fun y hy=>hx y (by simp [hy])
   have hn:=FM hr
   simp only [AG,A9] at h2 h3
   rw [CG.l0]
   simp only [Int.toNat_natCast,hgd,hw]
   rw [if_pos (by simpa using hj),if_pos ⟨by omega,by omega⟩,w64 (n:=x.2.1 - x.1) (by omega) (by omega),w64 (n:=kept+(x.2.1 - x.1)) (by omega) (by omega),w64 (n:=put+(x.2.2.size:Int)) (by omega) (by omega),
    TN hb hl rest (j+1) k _ _ hd' hk' hr (by omega) (by omega) (by omega) (by omega)]
   simp only [AG,A9]
   congr 2 <;> omega
theorem dF {K:Nat} {d:List El} {base:Int} (hK:30000≤K):CG K base d=some (if isD base d=true then (AG d,(A9 d:Int)) else (0,0)):=by
 unfold CG
 rw [G7 hK,Option.bind_some]
 cases h:isD base d with
 | false => simp
 | true =>
   obtain ⟨h1,h2,h3,h4,h5⟩:=HN h
   have hn:=FM h4
   have e:=TN (K:=K) h2 (by omega) d 0 K 0 0 rfl (by omega) h4 (by omega) (by omega) (by omega) (by omega)
   rw [Int.natCast_zero] at e
   rw [if_neg (by simp),e]
   simp
theorem W4 {K:Nat} {d:List El} {base:Int} (hK:30000≤K):H7 K base d=some (if isD base d=true then AG d+A9 d else 0):=by
 unfold H7
 rw [dF hK,Option.bind_some]
 by_cases h:isD base d=true
 ·obtain ⟨h1,h2,h3,h4,h5⟩:=HN h
  have hn:=FM h4
  rw [if_pos h,if_pos h,w64 (by simp only; omega) (by simp only; omega)]
 ·rw [if_neg h,if_neg h]; rfl
def mvE (p:Int):Int→Int→List El→Int×Int
 | n,w,[] => (n,w)
 | n,w,x :: r => if x.2.2.size=0 then (if x.1 ≥ p then (n,w) else if x.2.1 > p then (n+(w+min x.2.1 p - x.1),0) else mvE p (n+(w+min x.2.1 p - x.1)) 0 r) else mvE p n (w+x.2.2.size) r
theorem MJ {K:Nat} {d:List El} {a base p:Int} (hp:mn2 (mx2 a 0) base=p) (hb:base≤20000) (hl:d.length≤1000):∀ (rest:List El) (j k:Nat) (n w:Int),d.drop j=rest→rest.length<k→(∀ x∈rest,okE base x)→0≤n→0≤w→n+w+AG rest+A9 rest≤1000000→
 BG.l0 K d a base k n w (j:Int)=some (mvE p n w rest)
 | [],j,k,n,w,hd,hk,hx,h0,h1,h2 => by
   obtain ⟨k,rfl⟩:∃ m,k=m+1:=⟨k - 1,by simp at hk; omega⟩
   have:=A6 hd
   rw [BG.l0,if_neg (by simp; omega)]
   rfl
 | x :: rest,j,k,n,w,hd,hk,hx,h0,h1,h2 => by
   obtain ⟨k,rfl⟩:∃ m,k=m+1:=⟨k - 1,by simp at hk; omega⟩
   obtain ⟨hj,hgd,hd'⟩:=A4 hd el0
   have hk':rest.length<k:=by simp at hk; omega
   have hw:IntKind.wrap .i64 ((j:Int)+1)=((j+1:Nat):Int):=by rw [w64 (by omega) (by omega)]; omega
   obtain ⟨o1,o2,o3,o4⟩:=hx x (by simp)
   have hr:∀ y∈rest,okE base y:=fun y hy=>hx y (by simp [hy])
   have hnn:=FM hr
   simp only [AG,A9] at h2
   rw [BG.l0]
   simp only [Int.toNat_natCast,hgd,hw,hp,RB]
   rw [if_pos (by simpa using hj),if_pos ⟨by omega,by omega⟩,G5,Option.bind_some,mvE]
   by_cases hz:x.2.2.size=0
   ·rw [decide_eq_true hz,if_neg (by simp),if_pos hz]
    by_cases c1:x.1≥p
    ·rw [if_pos (by simpa using c1),if_pos c1]
    ·rw [if_neg (by simpa using c1),if_neg c1,w64 (n:=w+min x.2.1 p) (by omega) (by omega),w64 (n:=w+min x.2.1 p - x.1) (by omega) (by omega),w64 (n:=n+(w+min x.2.1 p - x.1)) (by omega) (by omega)]
     by_cases c2:x.2.1 > p
     ·rw [if_pos (by simpa using c2),if_pos c2]
     ·rw [if_neg (by simpa using c2),if_neg c2,MJ hp hb hl rest (j+1) k _ _ hd' hk' hr (by omega) (by omega) (by omega)]
   ·rw [decide_eq_false hz,if_pos (by simp),if_neg hz,w64 (n:=w+(x.2.2.size:Int)) (by omega) (by omega),MJ hp hb hl rest (j+1) k _ _ hd' hk' hr (by omega) (by omega) (by omega)]
theorem K5 {base p:Int} (hp:0≤p):∀ {l:List El} {n w:Int},(∀ x∈l,okE base x)→0≤n→0≤w→n≤(mvE p n w l).1∧0≤(mvE p n w l).2∧(mvE p n w l).1+(mvE p n w l).2≤n+w+AG l+A9 l
 | [],n,w,_,h0,h1 => by simp only [mvE,AG,A9]; omega
 | x :: r,n,w,hx,h0,h1 => by
   obtain ⟨o1,o2,o3,o4⟩:=hx x (by simp)
   have hr:∀ y∈r,okE base y:=fun y hy=>hx y (by simp [hy])
   have hnn:=FM hr
   rw [mvE]
   simp only [AG,A9]
   split
   ·split
    ·simp only; omega
    ·split
     ·simp only; omega
     ·have:=K5 hp (l:=r) (n:=n+(w+min x.2.1 p - x.1)) (w:=0) hr (by omega) (by omega)
      omega
   ·have:=K5 hp (l:=r) (n:=n) (w:=w+x.2.2.size) hr h0 (by omega)
    omega
def mv (base:Int) (d:List El) (a:Int) (after:Bool):Int:=if isD base d=true then (if after=true then (mvE (min (max a 0) base) 0 0 d).1+(mvE (min (max a 0) base) 0 0 d).2 else (mvE (min (max a 0) base) 0 0 d).1) else 0
theorem K4 {K:Nat} {d:List El} {base a:Int} {after:Bool} (hK:30000≤K):BG K base d a after=some (mv base d a after):=by
 unfold BG mv
 rw [G7 hK,Option.bind_some]
 by_cases h:isD base d=true
 ·obtain ⟨h1,h2,h3,h4,h5⟩:=HN h
  have hn:=FM h4
  have e:=MJ (K:=K) (d:=d) (a:=a) (base:=base) rfl h2 (by omega) d 0 K 0 0 rfl (by omega) h4 (by omega) (by omega) (by omega)
  rw [Int.natCast_zero,RB,RF] at e
  obtain ⟨m1,m2,m3⟩:=K5 (base:=base) (p:=min (max a 0) base) (by omega) (l:=d) (n:=0) (w:=0) h4 (by omega) (by omega)
  rw [h,if_neg (by simp),if_pos rfl,e,Option.bind_some]
  cases after with
  | false => rfl
  | true => rw [if_pos rfl,if_pos rfl,w64 (by omega) (by omega)]
 ·rw [if_pos (by simpa using h),if_neg h]
def bkE (base:Int):Int→Int→List El→Int
 | _,_,[] => base
 | a,to,x :: r => if a ≥ x.2.1 - x.1+x.2.2.size then bkE base (a - (x.2.1 - x.1+x.2.2.size)) (if x.2.2.size=0 then x.2.1 else to) r else if x.2.2.size=0 then x.1+a else to
def bk (base:Int) (d:List El) (a:Int):Int:=if isD base d=true then bkE base (min (max a 0) (AG d+A9 d)) 0 d else 0
theorem XZ {K:Nat} {d:List El} {base a b:Int} (hK:30000≤K):HU K base d a b=some (mv base d a true,max (mv base d a true) (mv base d b false)):=by
 unfold HU
 rw [K4 hK,Option.bind_some,K4 hK,Option.bind_some,RF]
abbrev Sp:=Int×(Int×Int)
abbrev sp0:Sp:=((0:Int),((0:Int),(0:Int)))
def ltS (a b:Sp):Bool:=decide (a.1<b.1)
def leS (a b:Sp):Prop:=ltS b a=false
theorem G0 (x:Sp):(x.1,(x.2.1,x.2.2))=x:=rfl
theorem FG {a b c:Sp} (h1:leS a b) (h2:leS b c):leS a c:=by
 unfold leS ltS at *
 rw [decide_eq_false_iff_not] at *
 omega
theorem K0 {a b:Sp} (h:ltS a b=true):leS a b:=by
 unfold leS ltS at *
 rw [decide_eq_true_eq] at h
 rw [decide_eq_false_iff_not]
 omega
theorem OL {K:Nat} {a b:Sp}:∃ c,EF K a.1 a.2.1 a.2.2 b.1 b.2.1 b.2.2=some c∧decide (c<0)=ltS a b:=by
 unfold EF EN E4 ltS
 rw [Option.bind_some,Option.bind_some,bne_self_eq_false,if_neg (by simp),bne_self_eq_false,if_neg (by simp)]
 by_cases h:a.1<b.1
 ·rw [if_pos (by simpa using h),Option.bind_some]
  exact ⟨_,rfl,by rw [decide_eq_true h]; rfl⟩
 ·rw [if_neg (by simpa using h)]
  by_cases h2:a.1 > b.1
  ·rw [if_pos (by simpa using h2),Option.bind_some]
   exact ⟨_,rfl,by rw [decide_eq_false h]; rfl⟩
  ·rw [if_neg (by simpa using h2),Option.bind_some]
   exact ⟨_,rfl,by rw [decide_eq_false h]; rfl⟩
abbrev Srt (l:List Sp):Prop:=l.Pairwise leS
theorem ET {α:Type} {A R:List α} {x d:α} {n:Nat} (h:n=A.length):(A++x :: R).getD n d=x:=by
 subst h
 rw [List.getD_eq_getElem?_getD,List.getElem?_append_right (Nat.le_refl _),Nat.sub_self]; rfl
theorem FL {α:Type} {A R:List α} {x v:α} {n:Nat} (h:n=A.length):(A++x :: R).set n v=A++v :: R:=by
 subst h
 rw [List.set_append_right _ _ (Nat.le_refl _),Nat.sub_self,List.set_cons_zero]
theorem TP {α:Type} {P Q:List α} {z x:α} {n m:Nat} (hn:n=P.length) (hm:m=P.length+1):((P++z :: x :: Q).set m z).set n x=P++x :: z :: Q:=by
 have e:P++z :: x :: Q=(P++[z])++x :: Q:=by simp
 rw [e,FL (by simp [hm]),show (P++[z])++z :: Q=P++z :: z :: Q by simp,FL hn]
theorem PU {α:Type} {P Q:List α} {z x d:α} {m:Nat} (hm:m=P.length+1):(P++z :: x :: Q).getD m d=x:=by
 rw [show P++z :: x :: Q=(P++[z])++x :: Q by simp,ET (by simp [hm])]
theorem QC {K:Nat} {A:List Sp} {x:Sp}:∀ (n:Nat) (S2 T S:List Sp) (k:Nat),S.length=n→n<k→A.length+S.length+S2.length+T.length≤100000→Srt S→(∀ y∈S2,ltS x y=true)→
 ∃ S1 S3,AP.l1 K (A.length:Int) k (A++(S++x :: (S2++T))) ((A.length+S.length:Nat):Int)=some (A++(S1++x :: (S3++T)))∧S1++S3=S++S2∧(∀ y∈S1,leS y x)∧(∀ y∈S3,ltS x y=true)
 | 0,S2,T,S,k,hn,hk,hl,hs,h2 => by
   obtain ⟨k,rfl⟩:∃ m,k=m+1:=⟨k - 1,by omega⟩
   have:S=[]:=List.eq_nil_of_length_eq_zero hn
   subst this
   rw [AP.l1,if_neg (by simp),Option.bind_some,if_neg (by simp)]
   exact ⟨[],S2,by simp,rfl,fun y hy=>(List.not_mem_nil hy).elim,h2⟩
 | n+1,S2,T,S,k,hn,hk,hl,hs,h2 => by
   obtain ⟨k,rfl⟩:∃ m,k=m+1:=⟨k - 1,by omega⟩
   obtain ⟨S',z,rfl⟩:=DZ (l:=S) (by intro e; rw [e] at hn; simp at hn)
   rw [List.length_append,List.length_singleton] at hn hl
   have eD:A++((S'++[z])++x :: (S2++T))=(A++S')++z :: x :: (S2++T):=by simp
   have hpl:(A++S').length=A.length+S'.length:=List.length_append
   have g1:((A++S')++z :: x :: (S2++T)).getD (A.length+(S'.length+1)) sp0=x:=PU (by omega)
   have g2:((A++S')++z :: x :: (S2++T)).getD (A.length+S'.length) sp0=z:=ET (by omega)
   have hw:IntKind.wrap .i64 (((A.length+(S'.length+1):Nat):Int) - 1)=((A.length+S'.length:Nat):Int):=by rw [w64 (by omega) (by omega)]; omega
   have hDl:((A++S')++z :: x :: (S2++T)).length=A.length+S'.length+2+S2.length+T.length:=by simp only [List.length_append,List.length_cons]; omega
   obtain ⟨c,hc1,hc2⟩:=OL (K:=K) (a:=x) (b:=z)
   rw [List.length_append,List.length_singleton,AP.l1,eD]
   simp only [hw,Int.toNat_natCast,g1,g2,G0]
   rw [if_pos (by simp; omega),hc1,Option.bind_some,if_pos ⟨by omega,by omega,by omega,by omega⟩,hc2,Option.bind_some]
   have hs':=List.pairwise_append.1 hs
   cases hlt:ltS x z with
   | true =>
     rw [if_pos rfl,if_pos ⟨by omega,by omega,by omega,by omega,by rw [List.length_set]; omega⟩,TP (by omega) (by omega)]
     obtain ⟨S1,S3,e1,e2,e3,e4⟩:=QC (K:=K) (A:=A) (x:=x) n (z :: S2) T S' k (by omega) (by omega) (by simp only [List.length_cons]; omega) hs'.1 (fun y hy=>by
      rcases List.mem_cons.1 hy with rfl | hy
      ·exact hlt
      ·exact h2 y hy)
     refine ⟨S1,S3,?_,by rw [e2]; simp,e3,e4⟩
     rw [← e1]
     simp
   | false =>
     rw [if_neg (by simp)]
     refine ⟨S'++[z],S2,by rw [← eD],rfl,fun y hy=>?_,h2⟩
     rcases List.mem_append.1 hy with hy | hy
     ·exact FG (hs'.2.2 y hy z (by simp)) hlt
     ·rw [List.mem_singleton.1 hy]; exact hlt
theorem QA {K:Nat} {A B:List Sp} (hK:100000≤K):∀ (X S:List Sp) (k:Nat),X.length<k→A.length+S.length+X.length+B.length≤90000→Srt S→
 ∃ Z,AP.l0 K ((A.length+S.length+X.length:Nat):Int) (A.length:Int) k (A++(S++(X++B))) ((A.length+S.length:Nat):Int)=some (A++(Z++B))∧Z.Perm (S++X)∧Srt Z
 | [],S,k,hk,hl,hs => by
   obtain ⟨k,rfl⟩:∃ m,k=m+1:=⟨k - 1,by omega⟩
   rw [AP.l0,if_neg (by simp)]
   exact ⟨S,by simp,by simp,hs⟩
 | x :: X,S,k,hk,hl,hs => by
   obtain ⟨k,rfl⟩:∃ m,k=m+1:=⟨k - 1,by omega⟩
   rw [List.length_cons] at hk hl
   have hw:IntKind.wrap .i64 (((A.length+S.length:Nat):Int)+1)=((A.length+(S.length+1):Nat):Int):=by rw [w64 (by omega) (by omega)]; omega
   obtain ⟨S1,S3,e1,e2,e3,e4⟩:=QC (K:=K) (A:=A) (x:=x) S.length [] (X++B) S K rfl (by omega) (by simp only [List.length_append,List.length_nil]; omega) hs (fun y hy=>by cases hy)
   rw [List.append_nil] at e2
   rw [List.nil_append] at e1
   rw [AP.l0,if_pos (by simp; omega),List.cons_append,e1,Option.bind_some,hw]
   have hperm:(S1++x :: S3).Perm (S++[x]):=by
    rw [← e2]
    exact (List.perm_middle).trans ((List.perm_append_singleton x (S1++S3)).symm)
   have hs3:=List.pairwise_append.1 (e2▸hs)
   have hsrt:Srt (S1++x :: S3):=by
    refine List.pairwise_append.2 ⟨hs3.1,List.pairwise_cons.2 ⟨fun y hy=>K0 (e4 y hy),hs3.2.1⟩,fun a ha b hb=>?_⟩
    rcases List.mem_cons.1 hb with rfl | hb
    ·exact e3 a ha
    ·exact hs3.2.2 a ha b hb
   have hlen:(S1++x :: S3).length=S.length+1:=by rw [hperm.length_eq]; simp
   obtain ⟨Z,f1,f2,f3⟩:=QA (A:=A) (B:=B) hK X (S1++x :: S3) k (by omega) (by omega) hsrt
   refine ⟨Z,?_,?_,f3⟩
   ·rw [← f1,hlen,List.length_cons,show A.length+S.length+(X.length+1)=A.length+(S.length+1)+X.length by omega]
    congr 1
    simp
   ·refine f2.trans ?_
    have:=hperm.append_right X
    simpa using this
theorem QD {K:Nat} {A X B:List Sp} (hK:100000≤K) (hl:A.length+X.length+B.length≤80000) :
 ∃ Z,AP K (A++(X++B)) (A.length:Int) ((A.length+X.length:Nat):Int)=some (A++(Z++B))∧Z.Perm X∧Srt Z:=by
 unfold AP
 have hw:IntKind.wrap .i64 ((A.length:Int)+1)=((A.length+1:Nat):Int):=by rw [w64 (by omega) (by omega)]; omega
 rw [hw]
 cases X with
 | nil =>
   obtain ⟨k,rfl⟩:∃ m,K=m+1:=⟨K - 1,by omega⟩
   rw [AP.l0,if_neg (by simp; omega)]
   exact ⟨[],by simp,List.Perm.refl _,List.Pairwise.nil⟩
 | cons x X =>
   rw [List.length_cons] at hl
   obtain ⟨Z,e1,e2,e3⟩:=QA (K:=K) (A:=A) (B:=B) hK X [x] K (by omega) (by simp only [List.length_singleton]; omega) (List.pairwise_singleton _ _)
   refine ⟨Z,?_,by simpa using e2,e3⟩
   rw [← e1]
   congr 1
   ·simp only [List.length_cons,List.length_nil]; omega
theorem gO {n:Int} (h1:0≤n) (h2:n<18446744073709551616):IntKind.wrap .u64 n=n:=by
 simp only [IntKind.wrap,IntKind.bits,IntKind.signed]
 simp
 omega
theorem G2 {i j:Nat} (h:i+j<1000000):IntKind.wrap .i64 (Int.fdiv (IntKind.wrap .u64 (IntKind.wrap .i64 ((i:Int)+(j:Int)))) 2)=(((i+j) / 2:Nat):Int):=by
 rw [w64 (n:=(i:Int)+(j:Int)) (by omega) (by omega),gO (n:=(i:Int)+(j:Int)) (by omega) (by omega),Int.fdiv_eq_ediv_of_nonneg _ (by decide),show ((i:Int)+(j:Int)) / 2=(((i+j) / 2:Nat):Int) by omega,w64 (by omega) (by omega)]
theorem NK {α:Type} {P R Q:List α} {x y d:α} {n m:Nat} (hn:n=P.length) (hm:m=P.length+1+R.length) :
 (P++x :: (R++y :: Q)).getD n d=x∧(P++x :: (R++y :: Q)).getD m d=y∧((P++x :: (R++y :: Q)).set n y).set m x=P++y :: (R++x :: Q)∧((P++x :: (R++y :: Q)).set m x).set n y=P++y :: (R++x :: Q):=by
 have e:∀ (u v:α),P++u :: (R++v :: Q)=(P++u :: R)++v :: Q:=fun u v=>by simp
 have hl:m=(P++x :: R).length:=by simp; omega
 have hl2:m=(P++y :: R).length:=by simp; omega
 refine ⟨ET hn,?_,?_,?_⟩
 ·rw [e,ET hl]
 ·rw [FL hn,e,FL hl2,← e]
 ·rw [e,FL hl,← e,FL hn]
theorem TO {K n a b:Nat}:∀ (X Y P M Q:List Sp) (i k:Nat),X.length=Y.length→X.length<k→i+X.length=n→a+i=P.length→b+i=P.length+X.length+M.length→P.length+X.length+M.length+Y.length+Q.length≤100000→
 C3.l0 K (n:Int) (b:Int) (a:Int) k (P++(X++(M++(Y++Q)))) (i:Int)=some (P++(Y++(M++(X++Q))))
 | [],Y,P,M,Q,i,k,hxy,hk,hn,ha,hb,hl => by
   obtain ⟨k,rfl⟩:∃ m,k=m+1:=⟨k - 1,by omega⟩
   have:Y=[]:=List.eq_nil_of_length_eq_zero hxy.symm
   subst this
   rw [C3.l0,if_neg (by simp at hn ⊢; omega)]
 | x :: X,[],P,M,Q,i,k,hxy,hk,hn,ha,hb,hl => by simp at hxy
 | x :: X,y :: Y,P,M,Q,i,k,hxy,hk,hn,ha,hb,hl => by
   obtain ⟨k,rfl⟩:∃ m,k=m+1:=⟨k - 1,by omega⟩
   simp only [List.length_cons] at hxy hk hn hb hl
   have hwa:IntKind.wrap .i64 ((a:Int)+(i:Int))=((a+i:Nat):Int):=by rw [w64 (by omega) (by omega)]; omega
   have hwb:IntKind.wrap .i64 ((b:Int)+(i:Int))=((b+i:Nat):Int):=by rw [w64 (by omega) (by omega)]; omega
   have hwi:IntKind.wrap .i64 ((i:Int)+1)=((i+1:Nat):Int):=by rw [w64 (by omega) (by omega)]; omega
   have eD:P++(x :: X++(M++(y :: Y++Q)))=P++x :: ((X++M)++y :: (Y++Q)):=by simp
   obtain ⟨g1,g2,g3,-⟩:=NK (P:=P) (R:=X++M) (Q:=Y++Q) (x:=x) (y:=y) (d:=sp0) (n:=a+i) (m:=b+i) ha (by simp; omega)
   have hDl:(P++x :: ((X++M)++y :: (Y++Q))).length=P.length+X.length+M.length+Y.length+Q.length+2:=by simp; omega
   rw [eD,C3.l0,if_pos (by simp; omega)]
   simp only [hwa,hwb,hwi,Int.toNat_natCast,g1,g2,G0,List.length_set]
   rw [if_pos ⟨by omega,by omega,by omega,by omega,by omega⟩,g3]
   have:=TO (K:=K) (n:=n) (a:=a) (b:=b) X Y (P++[y]) (M++[x]) Q (i+1) k (by omega) (by omega) (by omega) (by simp; omega) (by simp; omega) (by simp; omega)
   simp only [List.append_assoc,List.cons_append,List.nil_append] at this ⊢
   exact this
theorem NJ {K:Nat} {X Y P M Q:List Sp} {n a b:Nat} (hK:100000<K) (hxy:X.length=Y.length) (hn:n=X.length) (ha:a=P.length) (hb:b=P.length+X.length+M.length) (hl:P.length+X.length+M.length+Y.length+Q.length≤100000) :
 C3 K (P++(X++(M++(Y++Q)))) (a:Int) (b:Int) (n:Int)=some (P++(Y++(M++(X++Q)))):=by
 unfold C3
 exact TO X Y P M Q 0 K hxy (by omega) (by omega) (by omega) (by omega) hl
theorem N4 {K m:Nat} (hK:100000<K):∀ (s k:Nat) (X Y P Q:List Sp),X.length+Y.length≤s→s<k→0<X.length→0<Y.length→P.length+X.length=m→P.length+X.length+Y.length+Q.length≤100000→
 ∃ P' X' Y' Q',C9.l0 K (m:Int) k (P++(X++(Y++Q))) (X.length:Int) (Y.length:Int)=some (P'++(X'++(Y'++Q')),(X'.length:Int))∧Y'.length=X'.length∧P'.length+X'.length=m∧
   P'.length+X'.length+Y'.length+Q'.length≤100000∧P'++(Y'++(X'++Q'))=P++(Y++(X++Q))
 | 0,k,X,Y,P,Q,hs,hk,hx,hy,hm,hl => by omega
 | s+1,k,X,Y,P,Q,hs,hk,hx,hy,hm,hl => by
   obtain ⟨k,rfl⟩:∃ m,k=m+1:=⟨k - 1,by omega⟩
   have hw1:IntKind.wrap .i64 ((m:Int) - (X.length:Int))=(P.length:Int):=by rw [w64 (by omega) (by omega)]; omega
   rw [C9.l0]
   by_cases h:X.length=Y.length
   ·rw [if_neg (by simp [h])]
    exact ⟨P,X,Y,Q,rfl,h.symm,hm,hl,rfl⟩
   ·rw [if_pos (by simp; omega)]
    by_cases h2:X.length > Y.length
    ·have hs1:(X.take Y.length).length=Y.length:=by simp; omega
     have hs2:(X.drop Y.length).length=X.length - Y.length:=by simp
     have hsw:=NJ (K:=K) (X:=X.take Y.length) (Y:=Y) (P:=P) (M:=X.drop Y.length) (Q:=Q) (n:=Y.length) (a:=P.length) (b:=m) hK (by omega) (by omega) rfl (by omega) (by omega)
     rw [← List.append_assoc (X.take Y.length) (X.drop Y.length),List.take_append_drop] at hsw
     have hw2:IntKind.wrap .i64 ((X.length:Int) - (Y.length:Int))=((X.drop Y.length).length:Int):=by rw [w64 (by omega) (by omega)]; omega
     rw [if_pos (by simp; omega),hw1,hsw,Option.bind_some,hw2]
     obtain ⟨P',X',Y',Q',e1,e2,e3,e4,e5⟩:=N4 (K:=K) (m:=m) hK s k (X.drop Y.length) (X.take Y.length) (P++Y) Q (by omega) (by omega) (by omega) (by omega) (by simp only [List.length_append]; omega) (by simp only [List.length_append]; omega)
     refine ⟨P',X',Y',Q',?_,e2,e3,e4,?_⟩
     ·rw [← e1,hs1]; simp
     ·rw [e5,← List.append_assoc (X.take Y.length) (X.drop Y.length) Q,List.take_append_drop,List.append_assoc]
    ·have hs1:(Y.take (Y.length - X.length)).length=Y.length - X.length:=by simp
     have hs2:(Y.drop (Y.length - X.length)).length=X.length:=by simp; omega
     have hw2:IntKind.wrap .i64 ((Y.length:Int) - (X.length:Int))=((Y.take (Y.length - X.length)).length:Int):=by rw [w64 (by omega) (by omega)]; omega
     have hw3:IntKind.wrap .i64 (IntKind.wrap .i64 ((m:Int)+(Y.length:Int)) - (X.length:Int))=((m+(Y.length - X.length):Nat):Int):=by rw [w64 (n:=(m:Int)+(Y.length:Int)) (by omega) (by omega),w64 (by omega) (by omega)]; omega
     have hsw:=NJ (K:=K) (X:=X) (Y:=Y.drop (Y.length - X.length)) (P:=P) (M:=Y.take (Y.length - X.length)) (Q:=Q) (n:=X.length) (a:=P.length) (b:=m+(Y.length - X.length)) hK (by omega) rfl rfl (by omega) (by omega)
     rw [← List.append_assoc (Y.take (Y.length - X.length)) (Y.drop (Y.length - X.length)),List.take_append_drop] at hsw
     rw [if_neg (by simp; omega),hw1,hw3,hsw,Option.bind_some,hw2]
     obtain ⟨P',X',Y',Q',e1,e2,e3,e4,e5⟩:=N4 (K:=K) (m:=m) hK s k (Y.drop (Y.length - X.length)) (Y.take (Y.length - X.length)) P (X++Q) (by omega) (by omega) (by omega) (by omega) (by omega) (by simp only [List.length_append]; omega)
     refine ⟨P',X',Y',Q',?_,e2,e3,e4,?_⟩
     ·rw [← e1,hs2]
     ·rw [e5,← List.append_assoc (Y.take _) (Y.drop _),List.take_append_drop]
theorem bE {K:Nat} {X Y P Q:List Sp} {a m b:Nat} (hK:100000<K) (hx:0<X.length) (hy:0<Y.length) (ha:a=P.length) (hm:m=P.length+X.length) (hb:b=P.length+X.length+Y.length) (hl:P.length+X.length+Y.length+Q.length≤90000) :
 C9 K (P++(X++(Y++Q))) (a:Int) (m:Int) (b:Int)=some (P++(Y++(X++Q))):=by
 subst ha hb
 unfold C9
 have hw1:IntKind.wrap .i64 ((m:Int) - ((P.length:Nat):Int))=(X.length:Int):=by rw [w64 (by omega) (by omega)]; omega
 have hw2:IntKind.wrap .i64 (((P.length+X.length+Y.length:Nat):Int) - (m:Int))=(Y.length:Int):=by rw [w64 (by omega) (by omega)]; omega
 obtain ⟨P',X',Y',Q',e1,e2,e3,e4,e5⟩:=N4 (K:=K) (m:=m) hK (X.length+Y.length) K X Y P Q (by omega) (by omega) hx hy hm.symm (by omega)
 rw [hw1,hw2,e1,Option.bind_some]
 simp only
 have hw3:IntKind.wrap .i64 ((m:Int) - (X'.length:Int))=(P'.length:Int):=by rw [w64 (by omega) (by omega)]; omega
 have:=NJ (K:=K) (X:=X') (Y:=Y') (P:=P') (M:=[]) (Q:=Q') (n:=X'.length) (a:=P'.length) (b:=m) hK e2.symm rfl rfl (by simp; omega) (by simp; omega)
 rw [List.nil_append,List.nil_append] at this
 rw [hw3,this,Option.bind_some,e5]
def bs (p:Nat→Bool):Nat→Nat→Nat→Option Nat
 | 0,_,_ => none
 | k+1,i,j => if i<j then (if p ((i+j) / 2)=true then bs p k ((i+j) / 2+1) j else bs p k i ((i+j) / 2)) else some i
theorem FV {p:Nat→Bool}:∀ (k i j:Nat),j - i<k→i≤j→∃ r,bs p k i j=some r∧i≤r∧r≤j∧(r=i∨p (r - 1)=true)∧(r=j∨p r=false)
 | 0,i,j,h,_ => by omega
 | k+1,i,j,h,hij => by
   rw [bs]
   by_cases h1:i<j
   ·rw [if_pos h1]
    by_cases h2:p ((i+j) / 2)=true
    ·rw [if_pos h2]
     obtain ⟨r,e1,e2,e3,e4,e5⟩:=FV k ((i+j) / 2+1) j (by omega) (by omega)
     refine ⟨r,e1,by omega,e3,?_,e5⟩
     rcases e4 with e4 | e4
     ·right; rw [e4]; exact h2
     ·right; exact e4
    ·rw [if_neg h2]
     obtain ⟨r,e1,e2,e3,e4,e5⟩:=FV k i ((i+j) / 2) (by omega) (by omega)
     refine ⟨r,e1,e2,by omega,e4,?_⟩
     rcases e5 with e5 | e5
     ·right; rw [e5]; simpa using h2
     ·right; exact e5
   ·rw [if_neg h1]
    exact ⟨i,rfl,Nat.le_refl _,hij,.inl rfl,.inl (by omega)⟩
theorem LC {K:Nat} {a b:Sp} {R:Type} {F:Int→Option R} {G:Bool→Option R} (h:∀ c,F c=G (decide (c<0))):(EF K a.1 a.2.1 a.2.2 b.1 b.2.1 b.2.2).bind F=G (ltS a b):=by
 obtain ⟨c,e1,e2⟩:=OL (K:=K) (a:=a) (b:=b)
 rw [e1,Option.bind_some,h,e2]
theorem NL {K a:Nat} {D:List Sp} (ha:a<D.length) (hD:D.length≤100000):∀ (k i j:Nat),i≤j→j≤D.length→A1.l0 K D (a:Int) k (i:Int) (j:Int)=(bs (fun h=>ltS (D.getD h sp0) (D.getD a sp0)) k i j).map (fun n:Nat=>(n:Int))
 | 0,i,j,hij,hj => rfl
 | k+1,i,j,hij,hj => by
   rw [A1.l0,bs]
   by_cases h:i<j
   ·have hw:IntKind.wrap .i64 ((((i+j) / 2:Nat):Int)+1)=(((i+j) / 2+1:Nat):Int):=by rw [w64 (by omega) (by omega)]; omega
    rw [if_pos (by simp; omega),if_pos h]
    simp only [G2 (i:=i) (j:=j) (by omega),Int.toNat_natCast,hw]
    rw [LC (G:=fun b=>if b=true then A1.l0 K D (a:Int) k (((i+j) / 2+1:Nat):Int) (j:Int) else A1.l0 K D (a:Int) k (i:Int) (((i+j) / 2:Nat):Int)) (fun c=>by rw [if_pos ⟨by omega,by omega,by omega,by omega⟩])]
    rw [NL ha hD k _ _ (by omega) hj,NL ha hD k _ _ (by omega) (by omega)]
    split <;> rfl
   ·rw [if_neg (by simp; omega),if_neg h]; rfl
theorem NM {K m:Nat} {D:List Sp} (hm:m<D.length) (hD:D.length≤100000):∀ (k i j:Nat),i≤j→j≤D.length→A1.l2 K D (m:Int) k (i:Int) (j:Int)=(bs (fun h=>!ltS (D.getD m sp0) (D.getD h sp0)) k i j).map (fun n:Nat=>(n:Int))
 | 0,i,j,hij,hj => rfl
 | k+1,i,j,hij,hj => by
   rw [A1.l2,bs]
   by_cases h:i<j
   ·have hw:IntKind.wrap .i64 ((((i+j) / 2:Nat):Int)+1)=(((i+j) / 2+1:Nat):Int):=by rw [w64 (by omega) (by omega)]; omega
    rw [if_pos (by simp; omega),if_pos h]
    simp only [G2 (i:=i) (j:=j) (by omega),Int.toNat_natCast,hw]
    rw [LC (G:=fun b=>if (!b)=true then A1.l2 K D (m:Int) k (((i+j) / 2+1:Nat):Int) (j:Int) else A1.l2 K D (m:Int) k (i:Int) (((i+j) / 2:Nat):Int)) (fun c=>by rw [if_pos ⟨by omega,by omega,by omega,by omega⟩])]
    rw [NM hm hD k _ _ (by omega) hj,NM hm hD k _ _ (by omega) (by omega)]
    split <;> rfl
   ·rw [if_neg (by simp; omega),if_neg h]; rfl
theorem NN {K a b m:Nat} {D:List Sp} (hab:a+b<1000000) (hm:m≤1000000) (hD:D.length≤100000):∀ (k i j:Nat),i≤j→j≤D.length→(∀ c,i≤c→c<j→c+1≤(a+b) / 2+m∧(a+b) / 2+m - 1 - c<D.length)→
 A1.l4 K D (a:Int) (b:Int) (m:Int) k (i:Int) (j:Int)=(bs (fun h=>!ltS (D.getD ((a+b) / 2+m - 1 - h) sp0) (D.getD h sp0)) k i j).map (fun n:Nat=>(n:Int))
 | 0,i,j,hij,hj,hc => rfl
 | k+1,i,j,hij,hj,hc => by
   rw [A1.l4,bs]
   by_cases h:i<j
   ·have hw:IntKind.wrap .i64 ((((i+j) / 2:Nat):Int)+1)=(((i+j) / 2+1:Nat):Int):=by rw [w64 (by omega) (by omega)]; omega
    have hc1:=hc ((i+j) / 2) (by omega) (by omega)
    have hw2:IntKind.wrap .i64 (IntKind.wrap .i64 (IntKind.wrap .i64 ((((a+b) / 2:Nat):Int)+(m:Int)) - 1) - (((i+j) / 2:Nat):Int))=(((a+b) / 2+m - 1 - (i+j) / 2:Nat):Int):=by
     rw [w64 (n:=(((a+b) / 2:Nat):Int)+(m:Int)) (by omega) (by omega),w64 (n:=(((a+b) / 2:Nat):Int)+(m:Int) - 1) (by omega) (by omega),w64 (by omega) (by omega)]
     omega
    rw [if_pos (by simp; omega),if_pos h]
    simp only [G2 (i:=i) (j:=j) (by omega),G2 (i:=a) (j:=b) hab,Int.toNat_natCast,hw,hw2]
    rw [LC (G:=fun q=>if (!q)=true then A1.l4 K D (a:Int) (b:Int) (m:Int) k (((i+j) / 2+1:Nat):Int) (j:Int) else A1.l4 K D (a:Int) (b:Int) (m:Int) k (i:Int) (((i+j) / 2:Nat):Int)) (fun c=>by rw [if_pos ⟨by omega,by omega,by omega,by omega⟩])]
    rw [NN hab hm hD k _ _ (by omega) hj (fun c h1 h2=>hc c (by omega) h2),NN hab hm hD k _ _ (by omega) (by omega) (fun c h1 h2=>hc c h1 (by omega))]
    split <;> rfl
   ·rw [if_neg (by simp; omega),if_neg h]; rfl
theorem TQ {K i:Nat} {x:Sp}:∀ (B P R:List Sp) (k:Nat),B.length<k→i=P.length+1+B.length→P.length+B.length+R.length≤90000→
 A1.l1 K (i:Int) k (P++x :: (B++R)) (P.length:Int)=some (P++(B++x :: R))
 | [],P,R,k,hk,hi,hl => by
   obtain ⟨k,rfl⟩:∃ m,k=m+1:=⟨k - 1,by omega⟩
   have hw:IntKind.wrap .i64 ((i:Int) - 1)=(P.length:Int):=by simp at hi; rw [w64 (by omega) (by omega)]; omega
   rw [A1.l1,hw,if_neg (by simp)]
   rfl
 | y :: B,P,R,k,hk,hi,hl => by
   obtain ⟨k,rfl⟩:∃ m,k=m+1:=⟨k - 1,by omega⟩
   simp only [List.length_cons] at hk hi hl
   have hw:IntKind.wrap .i64 ((i:Int) - 1)=((P.length+1+B.length:Nat):Int):=by rw [w64 (by omega) (by omega)]; omega
   have hw2:IntKind.wrap .i64 ((P.length:Int)+1)=((P.length+1:Nat):Int):=by rw [w64 (by omega) (by omega)]; omega
   obtain ⟨g1,g2,g3,-⟩:=NK (P:=P) (R:=[]) (Q:=B++R) (x:=x) (y:=y) (d:=sp0) (n:=P.length) (m:=P.length+1) rfl (by simp)
   simp only [List.nil_append] at g1 g2 g3
   have hDl:(P++x :: y :: (B++R)).length=P.length+B.length+R.length+2:=by simp; omega
   rw [List.cons_append,A1.l1,hw,if_pos (by simp; omega)]
   simp only [hw2,Int.toNat_natCast,g1,g2,G0,List.length_set]
   rw [if_pos ⟨by omega,by omega,by omega,by omega,by omega⟩,g3]
   have:=TQ (K:=K) (i:=i) (x:=x) B (P++[y]) R k (by omega) (by simp; omega) (by simp; omega)
   simp only [List.append_assoc,List.cons_append,List.nil_append,List.length_append,List.length_singleton] at this ⊢
   exact this
theorem TR {K i:Nat} {x:Sp} {P:List Sp} (hi:i=P.length):∀ (n:Nat) (A R:List Sp) (k:Nat),A.length=n→n<k→P.length+A.length+R.length≤90000→
 A1.l3 K (i:Int) k (P++(A++x :: R)) ((P.length+A.length:Nat):Int)=some (P++x :: (A++R))
 | 0,A,R,k,hn,hk,hl => by
   obtain ⟨k,rfl⟩:∃ m,k=m+1:=⟨k - 1,by omega⟩
   have:A=[]:=List.eq_nil_of_length_eq_zero hn
   subst this
   rw [A1.l3,if_neg (by simp; omega)]
   rfl
 | n+1,A,R,k,hn,hk,hl => by
   obtain ⟨k,rfl⟩:∃ m,k=m+1:=⟨k - 1,by omega⟩
   obtain ⟨A',y,rfl⟩:=DZ (l:=A) (by intro e; rw [e] at hn; simp at hn)
   rw [List.length_append,List.length_singleton] at hn hl
   have hw2:IntKind.wrap .i64 (((P.length+(A'.length+1):Nat):Int) - 1)=((P.length+A'.length:Nat):Int):=by rw [w64 (by omega) (by omega)]; omega
   have eD:P++((A'++[y])++x :: R)=(P++A')++y :: x :: R:=by simp
   obtain ⟨g1,g2,-,g3⟩:=NK (P:=P++A') (R:=[]) (Q:=R) (x:=y) (y:=x) (d:=sp0) (n:=P.length+A'.length) (m:=P.length+(A'.length+1)) (by simp) (by simp; omega)
   simp only [List.nil_append] at g1 g2 g3
   have hDl:((P++A')++y :: x :: R).length=P.length+A'.length+R.length+2:=by simp; omega
   rw [List.length_append,List.length_singleton,eD,A1.l3,if_pos (by simp; omega)]
   simp only [hw2,Int.toNat_natCast,g1,g2,G0,List.length_set]
   rw [if_pos ⟨by omega,by omega,by omega,by omega,by omega⟩,g3]
   have:=TR (K:=K) (i:=i) (x:=x) (P:=P) hi n A' (y :: R) k (by omega) (by omega) (by simp; omega)
   simp only [List.append_assoc,List.cons_append,List.nil_append] at this ⊢
   exact this
theorem JQ {α:Type} {P A R:List α} {d:α} {n i:Nat} (h1:n=P.length+i) (h2:i<A.length):(P++(A++R)).getD n d=A.getD i d:=by
 subst h1
 rw [List.getD_eq_getElem?_getD,List.getElem?_append_right (by omega),show P.length+i - P.length=i by omega,List.getElem?_append_left h2,← List.getD_eq_getElem?_getD]
theorem F0 {l:List Sp} (h:Srt l) {i j:Nat} (hij:i<j) (hj:j<l.length):leS (l.getD i sp0) (l.getD j sp0):=by
 have:=List.pairwise_iff_getElem.1 h i j (by omega) hj hij
 simpa [List.getD,List.getElem?_eq_getElem hj,List.getElem?_eq_getElem (show i<l.length by omega)] using this
theorem JV (a:Sp):leS a a:=by unfold leS ltS; simp
theorem K3 {l:List Sp} {n:Nat} {x:Sp} (h:x∈l.take n):∃ i,i<n∧i<l.length∧l.getD i sp0=x:=by
 obtain ⟨i,hi,rfl⟩:=List.mem_iff_getElem.1 h
 rw [List.length_take] at hi
 exact ⟨i,by omega,by omega,by rw [List.getElem_take]; simp [List.getD,List.getElem?_eq_getElem (show i<l.length by omega)]⟩
theorem K2 {l:List Sp} {n:Nat} {x:Sp} (h:x∈l.drop n):∃ i,n≤i∧i<l.length∧l.getD i sp0=x:=by
 obtain ⟨i,hi,rfl⟩:=List.mem_iff_getElem.1 h
 rw [List.length_drop] at hi
 exact ⟨n+i,by omega,by omega,by rw [List.getElem_drop]; simp [List.getD,List.getElem?_eq_getElem (show n+i<l.length by omega)]⟩
theorem TE {l:List Sp} (h:Srt l) (n:Nat):Srt (l.take n):=h.sublist (List.take_sublist _ _)
theorem TC {l:List Sp} (h:Srt l) (n:Nat):Srt (l.drop n):=h.sublist (List.drop_sublist _ _)
theorem YL {a b c:Sp} (h1:ltS a b=true) (h2:leS b c):ltS a c=true:=by
 unfold leS ltS at *
 rw [decide_eq_false_iff_not] at h2
 rw [decide_eq_true_eq] at h1 ⊢
 omega
theorem YC {a b c:Sp} (h1:leS a b) (h2:ltS b c=true):ltS a c=true:=by
 unfold leS ltS at *
 rw [decide_eq_false_iff_not] at h1
 rw [decide_eq_true_eq] at h2 ⊢
 omega
theorem RT {α:Type} {x:α} {A B:List α}:(A++x :: B).Perm (x :: (A++B)):=List.perm_middle
theorem TD {x:Sp} {A B:List Sp} (h:Srt (A++B)) (h1:∀ y∈A,leS y x) (h2:∀ y∈B,leS x y):Srt (A++x :: B):=by
 have h':=List.pairwise_append.1 h
 refine List.pairwise_append.2 ⟨h'.1,List.pairwise_cons.2 ⟨h2,h'.2.1⟩,fun a ha b hb=>?_⟩
 rcases List.mem_cons.1 hb with rfl | hb
 ·exact h1 a ha
 ·exact h'.2.2 a ha b hb
theorem ZG {K k:Nat} {x:Sp} {B P Q:List Sp} (hK:100000<K) (hB:0<B.length) (hl:P.length+1+B.length+Q.length≤80000) (hs:Srt B) :
 ∃ Z,A1.f K (k+1) (P++(([x]:List Sp)++(B++Q))) (P.length:Int) ((P.length+1:Nat):Int) ((P.length+1+B.length:Nat):Int)=some (P++(Z++Q))∧Z.Perm ([x]++B)∧Srt Z:=by
 have hw:IntKind.wrap .i64 (((P.length+1:Nat):Int) - ((P.length:Nat):Int))=1:=by rw [w64 (by omega) (by omega)]; omega
 have hDl:(P++(([x]:List Sp)++(B++Q))).length=P.length+1+B.length+Q.length:=by simp; omega
 rw [A1.f,hw,if_pos (by simp),NL (by omega) (by omega) K (P.length+1) (P.length+1+B.length) (by omega) (by omega)]
 obtain ⟨r,e1,e2,e3,e4,e5⟩:=FV (p:=fun h=>ltS ((P++(([x]:List Sp)++(B++Q))).getD h sp0) ((P++(([x]:List Sp)++(B++Q))).getD P.length sp0)) K (P.length+1) (P.length+1+B.length) (by omega) (by omega)
 have gx:(P++(([x]:List Sp)++(B++Q))).getD P.length sp0=x:=ET rfl
 have gb:∀ i,i<B.length→(P++(([x]:List Sp)++(B++Q))).getD (P.length+1+i) sp0=B.getD i sp0:=fun i hi=>by
  have:P++(([x]:List Sp)++(B++Q))=(P++[x])++(B++Q):=by simp
  rw [this]; exact JQ (by simp) hi
 rw [e1,Option.map_some,Option.bind_some]
 have h1:∀ y∈B.take (r - (P.length+1)),leS y x:=by
  intro y hy
  obtain ⟨i,i1,i2,rfl⟩:=K3 hy
  rcases e4 with e4 | e4
  ·omega
  ·simp only [gx] at e4
   rw [show r - 1=P.length+1+(r - (P.length+1) - 1) by omega,gb _ (by omega)] at e4
   refine K0 ?_
   rcases Nat.lt_or_ge i (r - (P.length+1) - 1) with h | h
   ·exact YC (F0 hs h (by omega)) e4
   ·rw [show i=r - (P.length+1) - 1 by omega]; exact e4
 have h2:∀ y∈B.drop (r - (P.length+1)),leS x y:=by
  intro y hy
  obtain ⟨i,i1,i2,rfl⟩:=K2 hy
  rcases e5 with e5 | e5
  ·omega
  ·simp only [gx] at e5
   rw [show r=P.length+1+(r - (P.length+1)) by omega,gb _ (by omega)] at e5
   rcases Nat.lt_or_ge (r - (P.length+1)) i with h | h
   ·exact FG e5 (F0 hs h (by omega))
   ·rw [show i=r - (P.length+1) by omega]; exact e5
 refine ⟨B.take (r - (P.length+1))++x :: B.drop (r - (P.length+1)),?_,?_,TD (by rw [List.take_append_drop]; exact hs) h1 h2⟩
 ·have hm:=TQ (K:=K) (i:=r) (x:=x) (B.take (r - (P.length+1))) P (B.drop (r - (P.length+1))++Q) K (by rw [List.length_take]; omega) (by rw [List.length_take]; omega) (by simp only [List.length_append,List.length_take,List.length_drop]; omega)
  rw [← List.append_assoc (B.take _) (B.drop _) Q,List.take_append_drop] at hm
  rw [List.cons_append,List.nil_append,hm]
  simp
 ·refine RT.trans ?_
  rw [List.take_append_drop]; exact List.Perm.refl _
theorem ZH {K k:Nat} {x:Sp} {A P Q:List Sp} (hK:100000<K) (hA:1<A.length) (hl:P.length+A.length+1+Q.length≤80000) (hs:Srt A) :
 ∃ Z,A1.f K (k+1) (P++(A++(([x]:List Sp)++Q))) (P.length:Int) ((P.length+A.length:Nat):Int) ((P.length+A.length+1:Nat):Int)=some (P++(Z++Q))∧Z.Perm (A++[x])∧Srt Z:=by
 have hw:IntKind.wrap .i64 (((P.length+A.length:Nat):Int) - ((P.length:Nat):Int))=(A.length:Int):=by rw [w64 (by omega) (by omega)]; omega
 have hw2:IntKind.wrap .i64 (((P.length+A.length+1:Nat):Int) - ((P.length+A.length:Nat):Int))=1:=by rw [w64 (by omega) (by omega)]; omega
 have hDl:(P++(A++(([x]:List Sp)++Q))).length=P.length+A.length+1+Q.length:=by simp; omega
 rw [A1.f,hw,if_neg (by simp; omega),hw2,if_pos (by simp),NM (by omega) (by omega) K P.length (P.length+A.length) (by omega) (by omega)]
 obtain ⟨r,e1,e2,e3,e4,e5⟩:=FV (p:=fun h=>!ltS ((P++(A++(([x]:List Sp)++Q))).getD (P.length+A.length) sp0) ((P++(A++(([x]:List Sp)++Q))).getD h sp0)) K P.length (P.length+A.length) (by omega) (by omega)
 have gx:(P++(A++(([x]:List Sp)++Q))).getD (P.length+A.length) sp0=x:=by
  rw [← List.append_assoc]; exact ET (by simp)
 have ga:∀ i,i<A.length→(P++(A++(([x]:List Sp)++Q))).getD (P.length+i) sp0=A.getD i sp0:=fun i hi=>JQ rfl hi
 rw [e1,Option.map_some,Option.bind_some]
 have h1:∀ y∈A.take (r - P.length),leS y x:=by
  intro y hy
  obtain ⟨i,i1,i2,rfl⟩:=K3 hy
  rcases e4 with e4 | e4
  ·omega
  ·simp only [gx] at e4
   rw [show r - 1=P.length+(r - P.length - 1) by omega,ga _ (by omega),Bool.not_eq_true'] at e4
   rcases Nat.lt_or_ge i (r - P.length - 1) with h | h
   ·exact FG (F0 hs h (by omega)) e4
   ·rw [show i=r - P.length - 1 by omega]; exact e4
 have h2:∀ y∈A.drop (r - P.length),leS x y:=by
  intro y hy
  obtain ⟨i,i1,i2,rfl⟩:=K2 hy
  rcases e5 with e5 | e5
  ·omega
  ·simp only [gx] at e5
   rw [show r=P.length+(r - P.length) by omega,ga _ (by omega),Bool.not_eq_false'] at e5
   refine K0 ?_
   rcases Nat.lt_or_ge (r - P.length) i with h | h
   ·exact YL e5 (F0 hs h (by omega))
   ·rw [show i=r - P.length by omega]; exact e5
 refine ⟨A.take (r - P.length)++x :: A.drop (r - P.length),?_,?_,TD (by rw [List.take_append_drop]; exact hs) h1 h2⟩
 ·have hm:=TR (K:=K) (i:=r) (x:=x) (P:=P++A.take (r - P.length)) (by simp only [List.length_append,List.length_take]; omega) _ (A.drop (r - P.length)) Q K rfl (by rw [List.length_drop]; omega) (by simp only [List.length_append,List.length_take,List.length_drop]; omega)
  rw [show (P++A.take (r - P.length)).length+(A.drop (r - P.length)).length=P.length+A.length by simp only [List.length_append,List.length_take,List.length_drop]; omega] at hm
  simp only [List.append_assoc] at hm
  rw [← List.append_assoc (A.take _) (A.drop _) (x :: Q),List.take_append_drop] at hm
  rw [List.cons_append,List.nil_append,hm]
  simp
 ·refine RT.trans ?_
  rw [List.take_append_drop]
  exact (List.perm_append_singleton x A).symm
theorem d3 {A B:List Sp} (h1:Srt A) (h2:Srt B) (h:∀ x∈A,∀ y∈B,leS x y):Srt (A++B):=List.pairwise_append.2 ⟨h1,h2,h⟩
theorem dG {K mid:Nat} (hK:100000<K) {A B P Q:List Sp} (hmid:mid=(P.length+(P.length+A.length+B.length)) / 2) (hA:0<A.length) (hB:0<B.length) (hl:P.length+A.length+B.length+Q.length≤80000) (sA:Srt A) (sB:Srt B) :
 ∃ lo hi r:Nat,(if (decide (((P.length+A.length:Nat):Int) > (mid:Int)))=true then some (IntKind.wrap .i64 (((mid+(P.length+A.length):Nat):Int) - ((P.length+A.length+B.length:Nat):Int)),(mid:Int)) else some ((P.length:Int),((P.length+A.length:Nat):Int)))=some ((lo:Int),(hi:Int))∧
   A1.l4 K (P++(A++(B++Q))) (P.length:Int) ((P.length+A.length+B.length:Nat):Int) ((P.length+A.length:Nat):Int) K (lo:Int) (hi:Int)=some (r:Int)∧
   P.length≤r∧r≤P.length+A.length∧r≤mid∧mid+(P.length+A.length)≤r+(P.length+A.length+B.length)∧
   (∀ x∈A.take (r - P.length),∀ y∈B.drop (mid - r),leS x y)∧(∀ y∈B.take (mid - r),∀ x∈A.drop (r - P.length),leS y x):=by
 have hDl:(P++(A++(B++Q))).length=P.length+A.length+B.length+Q.length:=by simp; omega
 obtain ⟨lo,hi,hlh,hlo1,hhi1,hlo2,hhi2,hlo3,hhi3⟩:∃ lo hi:Nat,(if (decide (((P.length+A.length:Nat):Int) > (mid:Int)))=true then some (IntKind.wrap .i64 (((mid+(P.length+A.length):Nat):Int) - ((P.length+A.length+B.length:Nat):Int)),(mid:Int)) else some ((P.length:Int),((P.length+A.length:Nat):Int)))=some ((lo:Int),(hi:Int))∧
  P.length≤lo∧hi≤P.length+A.length∧mid+(P.length+A.length)≤lo+(P.length+A.length+B.length)∧hi≤mid∧(lo=P.length∨mid+(P.length+A.length)=lo+(P.length+A.length+B.length))∧(hi=P.length+A.length∨hi=mid):=by
  by_cases h:P.length+A.length > mid
  ·rw [if_pos (by simp; omega)]
   refine ⟨mid+(P.length+A.length) - (P.length+A.length+B.length),mid,?_,by omega,by omega,by omega,by omega,.inr (by omega),.inr rfl⟩
   rw [w64 (by omega) (by omega)]
   congr 2; omega
  ·rw [if_neg (by simp; omega)]
   exact ⟨P.length,P.length+A.length,rfl,by omega,by omega,by omega,by omega,.inl rfl,.inl rfl⟩
 have hlehi:lo≤hi:=by omega
 have e0:=NN (K:=K) (a:=P.length) (b:=P.length+A.length+B.length) (m:=P.length+A.length) (D:=P++(A++(B++Q))) (by omega) (by omega) (by omega) K lo hi hlehi (by omega) (fun c h1 h2=>by omega)
 obtain ⟨r,e1,e2,e3,e4,e5⟩:=FV (p:=fun h=>!ltS ((P++(A++(B++Q))).getD ((P.length+(P.length+A.length+B.length)) / 2+(P.length+A.length) - 1 - h) sp0) ((P++(A++(B++Q))).getD h sp0)) K lo hi (by omega) hlehi
 rw [e1,Option.map_some] at e0
 rw [← hmid] at e4 e5
 have ga:∀ i,i<A.length→(P++(A++(B++Q))).getD (P.length+i) sp0=A.getD i sp0:=fun i hi=>JQ rfl hi
 have gb:∀ i,i<B.length→(P++(A++(B++Q))).getD (P.length+A.length+i) sp0=B.getD i sp0:=fun i hi=>by
  rw [← List.append_assoc]; exact JQ (by simp) hi
 refine ⟨lo,hi,r,hlh,e0,by omega,by omega,by omega,by omega,?_,?_⟩
 ·intro x hx y hy
  obtain ⟨i,i1,i2,rfl⟩:=K3 hx
  obtain ⟨j,j1,j2,rfl⟩:=K2 hy
  rcases e4 with e4 | e4
  ·omega
  ·rw [show mid+(P.length+A.length) - 1 - (r - 1)=P.length+A.length+(mid - r) by omega,gb (mid - r) (by omega),show r - 1=P.length+(r - P.length - 1) by omega,ga _ (by omega),Bool.not_eq_true'] at e4
   have h1:leS (A.getD i sp0) (A.getD (r - P.length - 1) sp0):=by
    rcases Nat.lt_or_ge i (r - P.length - 1) with h | h
    ·exact F0 sA h (by omega)
    ·rw [show i=r - P.length - 1 by omega]; exact JV _
   have h2:leS (B.getD (mid - r) sp0) (B.getD j sp0):=by
    rcases Nat.lt_or_ge (mid - r) j with h | h
    ·exact F0 sB h (by omega)
    ·rw [show j=mid - r by omega]; exact JV _
   exact FG h1 (FG e4 h2)
 ·intro y hy x hx
  obtain ⟨i,i1,i2,rfl⟩:=K2 hx
  obtain ⟨j,j1,j2,rfl⟩:=K3 hy
  rcases e5 with e5 | e5
  ·omega
  ·rw [show mid+(P.length+A.length) - 1 - r=P.length+A.length+(mid - r - 1) by omega,gb (mid - r - 1) (by omega),show r=P.length+(r - P.length) by omega,ga _ (by omega),Bool.not_eq_false'] at e5
   have h1:leS (A.getD (r - P.length) sp0) (A.getD i sp0):=by
    rcases Nat.lt_or_ge (r - P.length) i with h | h
    ·exact F0 sA h (by omega)
    ·rw [show i=r - P.length by omega]; exact JV _
   have h2:leS (B.getD j sp0) (B.getD (mid - r - 1) sp0):=by
    rcases Nat.lt_or_ge j (mid - r - 1) with h | h
    ·exact F0 sB h (by omega)
    ·rw [show j=mid - r - 1 by omega]; exact JV _
   refine FG h2 (FG (K0 ?_) h1)
   rw [show P.length+(r - P.length)=r by omega] at e5
   exact e5
theorem PX {p q:Prop} [Decidable p] [Decidable q]:(if (decide p)=true then some (decide q) else some false)=some (decide (p∧q)):=by
 by_cases h:p
 ·rw [if_pos (by simpa using h)]; simp [h]
 ·rw [if_neg (by simpa using h)]; simp [h]
theorem dI {K:Nat} (hK:100000<K) {P A B Q:List Sp} {a m b:Nat} (ha:a=P.length) (hm:m=P.length+A.length) (hb:b=P.length+A.length+B.length) (hl:P.length+A.length+B.length+Q.length≤90000) {D:List Sp} (hD:D=P++(A++(B++Q))) :
 ((if (decide ((a:Int)<(m:Int)))=true then some (decide ((m:Int)<(b:Int))) else some false).bind fun z=>if z=true then (C9 K D (a:Int) (m:Int) (b:Int)).bind (fun r_96=>some r_96) else some D)=some (P++(B++(A++Q))):=by
 subst hD
 rw [PX,Option.bind_some]
 by_cases h:0<A.length∧0<B.length
 ·rw [if_pos (by rw [decide_eq_true_eq]; omega),bE hK h.1 h.2 ha hm hb hl,Option.bind_some]
 ·rw [if_neg (by rw [decide_eq_true_eq]; omega)]
  have:A=[]∨B=[]:=by
   rcases Nat.eq_zero_or_pos A.length with h' | h'
   ·exact .inl (List.eq_nil_of_length_eq_zero h')
   ·exact .inr (List.eq_nil_of_length_eq_zero (by omega))
  rcases this with h' | h' <;> subst h' <;> simp
def IZ (K k:Nat):Prop:=∀ (A B P Q:List Sp),0<A.length→0<B.length→A.length+B.length<k→P.length+A.length+B.length+Q.length≤80000→Srt A→Srt B→
    ∃ Z,A1.f K k (P++(A++(B++Q))) (P.length:Int) ((P.length+A.length:Nat):Int) ((P.length+A.length+B.length:Nat):Int)=some (P++(Z++Q))∧Z.Perm (A++B)∧Srt Z
theorem TT {K k:Nat} (ih:IZ K k) {P A B Q:List Sp} {a m b:Nat} (ha:a=P.length) (hm:m=P.length+A.length) (hb:b=P.length+A.length+B.length) (hk:A.length+B.length<k) (hl:P.length+A.length+B.length+Q.length≤80000) (sA:Srt A) (sB:Srt B) {D:List Sp} (hD:D=P++(A++(B++Q))) :
 ∃ Z,((if (decide ((a:Int)<(m:Int)))=true then some (decide ((m:Int)<(b:Int))) else some false).bind fun z=>if z=true then (A1.f K k D (a:Int) (m:Int) (b:Int)).bind (fun r=>some r) else some D)=some (P++(Z++Q))∧Z.Perm (A++B)∧Srt Z:=by
 subst hD
 rw [PX,Option.bind_some]
 by_cases h:0<A.length∧0<B.length
 ·obtain ⟨Z,z1,z2,z3⟩:=ih A B P Q h.1 h.2 hk hl sA sB
  rw [if_pos (by rw [decide_eq_true_eq]; omega),ha,hm,hb,z1,Option.bind_some]
  exact ⟨Z,rfl,z2,z3⟩
 ·rw [if_neg (by rw [decide_eq_true_eq]; omega)]
  have:A=[]∨B=[]:=by
   rcases Nat.eq_zero_or_pos A.length with h' | h'
   ·exact .inl (List.eq_nil_of_length_eq_zero h')
   ·exact .inr (List.eq_nil_of_length_eq_zero (by omega))
  refine ⟨A++B,by simp,List.Perm.refl _,?_⟩
  rcases this with h' | h' <;> subst h'
  ·exact sB
  ·rw [List.append_nil]; exact sA
theorem OG {α β γ:Type} (c:Option α) (F:α→Option β) (G:β→Option γ):(c.bind fun z=>(F z).bind G)=(c.bind F).bind G:=by cases c <;> rfl
theorem dH {K k:Nat} (hK:100000<K) (ih:IZ K k):IZ K (k+1):=by
 intro A B P Q hA hB hk hl sA sB
 by_cases ha1:A.length=1
 ·obtain ⟨x,rfl⟩:=List.length_eq_one_iff.1 ha1
  exact ZG hK hB (by simp at hl; omega) sB
 by_cases hb1:B.length=1
 ·obtain ⟨x,rfl⟩:=List.length_eq_one_iff.1 hb1
  exact ZH hK (by omega) (by simp at hl; omega) sA
 have hw1:IntKind.wrap .i64 (((P.length+A.length:Nat):Int) - ((P.length:Nat):Int))=(A.length:Int):=by rw [w64 (by omega) (by omega)]; omega
 have hw2:IntKind.wrap .i64 (((P.length+A.length+B.length:Nat):Int) - ((P.length+A.length:Nat):Int))=(B.length:Int):=by rw [w64 (by omega) (by omega)]; omega
 obtain ⟨mid,hmid⟩:∃ mid,mid=(P.length+(P.length+A.length+B.length)) / 2:=⟨_,rfl⟩
 have hh:=G2 (i:=P.length) (j:=P.length+A.length+B.length) (by omega)
 rw [← hmid] at hh
 have hn:IntKind.wrap .i64 ((mid:Int)+((P.length+A.length:Nat):Int))=((mid+(P.length+A.length):Nat):Int):=by rw [w64 (by omega) (by omega)]; omega
 obtain ⟨lo,hi,r,e1,e2,r1,r2,r3,r4,f1,f2⟩:=dG (Q:=Q) hK hmid hA hB hl sA sB
 have hend:IntKind.wrap .i64 (((mid+(P.length+A.length):Nat):Int) - (r:Int))=((mid+(P.length+A.length) - r:Nat):Int):=by rw [w64 (by omega) (by omega)]; omega
 rw [A1.f,hw1,if_neg (by simp; omega),hw2,if_neg (by simp; omega)]
 simp only [hh,hn]
 rw [e1,Option.bind_some]
 simp only
 rw [e2,Option.bind_some]
 simp only [hend]
 obtain ⟨s,hs⟩:∃ s,s=r - P.length:=⟨_,rfl⟩
 obtain ⟨t,ht⟩:∃ t,t=mid - r:=⟨_,rfl⟩
 rw [← hs,← ht] at f1 f2
 have eA:A.take s++A.drop s=A:=List.take_append_drop _ _
 have eB:B.take t++B.drop t=B:=List.take_append_drop _ _
 have lA1:(A.take s).length=s:=by rw [List.length_take]; omega
 have lA2:(A.drop s).length=A.length - s:=List.length_drop
 have lB1:(B.take t).length=t:=by rw [List.length_take]; omega
 have lB2:(B.drop t).length=B.length - t:=List.length_drop
 have hturn:=dI (K:=K) hK (P:=P++A.take s) (A:=A.drop s) (B:=B.take t) (Q:=B.drop t++Q) (a:=r) (m:=P.length+A.length) (b:=mid+(P.length+A.length) - r) (by rw [List.length_append]; omega) (by rw [List.length_append]; omega) (by rw [List.length_append]; omega) (by simp only [List.length_append]; omega) (D:=P++(A++(B++Q))) (by
  rw [← List.append_assoc (B.take t),eB,List.append_assoc,← List.append_assoc (A.take s),eA])
 rw [List.append_assoc] at hturn
 obtain ⟨Z1,z1,z2,z3⟩:=TT ih (P:=P) (A:=A.take s) (B:=B.take t) (Q:=A.drop s++(B.drop t++Q)) (a:=P.length) (m:=r) (b:=mid) rfl (by omega) (by omega) (by omega) (by simp only [List.length_append]; omega) (TE sA s) (TE sB t) rfl
 have hz1:Z1.length=s+t:=by rw [z2.length_eq,List.length_append]; omega
 obtain ⟨Z2,y1,y2,y3⟩:=TT ih (P:=P++Z1) (A:=A.drop s) (B:=B.drop t) (Q:=Q) (a:=mid) (m:=mid+(P.length+A.length) - r) (b:=P.length+A.length+B.length) (by rw [List.length_append]; omega) (by rw [List.length_append]; omega) (by rw [List.length_append]; omega) (by omega) (by simp only [List.length_append]; omega) (TC sA s) (TC sB t) (D:=P++(Z1++(A.drop s++(B.drop t++Q)))) (by simp)
 refine ⟨Z1++Z2,?_,?_,d3 z3 y3 fun x hx y hy=>?_⟩
 ·rw [OG,hturn,Option.bind_some,OG,z1,Option.bind_some,y1]
  simp
 ·refine (z2.append y2).trans ?_
  rw [List.append_assoc]
  refine ((List.perm_append_comm_assoc (B.take t) (A.drop s) (B.drop t)).append_left (A.take s)).trans ?_
  rw [eB,← List.append_assoc,eA]
 ·have sAB:∀ x∈A.take s,∀ y∈A.drop s,leS x y:=(List.pairwise_append.1 (show (A.take s++A.drop s).Pairwise leS by rw [eA]; exact sA)).2.2
  have sBB:∀ x∈B.take t,∀ y∈B.drop t,leS x y:=(List.pairwise_append.1 (show (B.take t++B.drop t).Pairwise leS by rw [eB]; exact sB)).2.2
  rcases List.mem_append.1 (z2.mem_iff.1 hx) with hx | hx <;> rcases List.mem_append.1 (y2.mem_iff.1 hy) with hy | hy
  ·exact sAB x hx y hy
  ·exact f1 x hx y hy
  ·exact f2 x hx y hy
  ·exact sBB x hx y hy
theorem TS {K:Nat} (hK:100000<K):∀ k,IZ K k
 | 0 => fun _ _ _ _ _ _ h => by omega
 | k+1 => dH hK (TS hK k)
theorem TU {K:Nat} (hK:100000<K) {A B P Q:List Sp} {a m b:Nat} (hA:0<A.length) (hB:0<B.length) (hl:P.length+A.length+B.length+Q.length≤80000) (sA:Srt A) (sB:Srt B) (ha:a=P.length) (hm:m=P.length+A.length) (hb:b=P.length+A.length+B.length) :
 ∃ Z,A1 K (P++(A++(B++Q))) (a:Int) (m:Int) (b:Int)=some (P++(Z++Q))∧Z.Perm (A++B)∧Srt Z:=by
 subst ha hm hb
 unfold A1
 exact TS hK K A B P Q hA hB (by omega) hl sA sB
def Chs (s:Nat) (cs:List (List Sp)):Prop:=∀ c∈cs,c.length=s∧Srt c
theorem LA {s:Nat}:∀ {cs:List (List Sp)},Chs s cs→cs.flatten.length=cs.length * s
 | [],_ => by simp
 | c :: cs,h => by
   have h1:=(h c (by simp)).1
   have h2:=LA (cs:=cs) fun d hd=>h d (by simp [hd])
   rw [List.flatten_cons,List.length_append,h1,h2,List.length_cons,Nat.succ_mul]
   omega
theorem TG {K:Nat} (hK:100000<K):∀ (n:Nat) (cs:List (List Sp)) (X:List Sp) (k:Nat),X.length≤n→n<k→Chs 20 cs→cs.flatten.length+X.length≤60000→
 ∃ cs' L,AH.l0 K ((cs.flatten.length+X.length:Nat):Int) k (cs.flatten++X) (cs.flatten.length:Int) ((cs.flatten.length+20:Nat):Int)=some (cs'.flatten++L,(cs'.flatten.length:Int))∧Chs 20 cs'∧L.length<20∧(cs'.flatten++L).Perm (cs.flatten++X)
 | n,cs,X,k,hn,hk,hc,hl => by
   obtain ⟨k,rfl⟩:∃ m,k=m+1:=⟨k - 1,by omega⟩
   rw [AH.l0]
   by_cases h:20≤X.length
   ·obtain ⟨n,rfl⟩:∃ m,n=m+1:=⟨n - 1,by omega⟩
    have h1:(X.take 20).length=20:=by rw [List.length_take]; omega
    have h2:(X.drop 20).length=X.length - 20:=List.length_drop
    obtain ⟨Z,e1,e2,e3⟩:=QD (K:=K) (A:=cs.flatten) (X:=X.take 20) (B:=X.drop 20) (by omega) (by omega)
    rw [List.take_append_drop,h1] at e1
    have hw:IntKind.wrap .i64 (((cs.flatten.length+20:Nat):Int)+20)=((cs.flatten.length+20+20:Nat):Int):=by rw [w64 (by omega) (by omega)]; omega
    rw [if_pos (by simp [-List.length_flatten]; omega),e1,Option.bind_some,hw]
    have hZ:Z.length=20:=by rw [e2.length_eq,h1]
    have hf:(cs++[Z]).flatten=cs.flatten++Z:=by simp
    obtain ⟨cs',L,f1,f2,f3,f4⟩:=TG (K:=K) hK n (cs++[Z]) (X.drop 20) k (by omega) (by omega) (fun c hc'=>by
     rcases List.mem_append.1 hc' with h' | h'
     ·exact hc c h'
     ·rw [List.mem_singleton.1 h']; exact ⟨hZ,e3⟩) (by rw [hf,List.length_append]; omega)
    rw [hf,List.length_append,hZ,h2,List.append_assoc] at f1
    refine ⟨cs',L,?_,f2,f3,f4.trans ?_⟩
    ·rw [← f1]; congr 1; omega
    ·rw [hf,List.append_assoc]
     refine List.Perm.append_left _ ?_
     refine (e2.append_right _).trans ?_
     rw [List.take_append_drop]
   ·rw [if_neg (by simp [-List.length_flatten]; omega)]
    exact ⟨cs,X,rfl,hc,by omega,List.Perm.refl _⟩
theorem TI {K s:Nat} (hK:100000<K) (hs:0<s) (hs2:s≤60000) {L:List Sp} (hL:L.length<s):∀ (m:Nat) (cs ds:List (List Sp)) (k:Nat),cs.length≤m→m<k→Chs s cs→Chs (2 * s) ds→ds.flatten.length+cs.flatten.length+L.length≤60000→
 ∃ cs' ds',AH.l2 K ((ds.flatten.length+cs.flatten.length+L.length:Nat):Int) (s:Int) k (ds.flatten++(cs.flatten++L)) (ds.flatten.length:Int) ((ds.flatten.length+2 * s:Nat):Int)=some (ds'.flatten++(cs'.flatten++L),(ds'.flatten.length:Int))∧
   cs'.length≤1∧Chs s cs'∧Chs (2 * s) ds'∧(ds'.flatten++(cs'.flatten++L)).Perm (ds.flatten++(cs.flatten++L))
 | m,[],ds,k,hm,hk,hc,hd,hl => by
   obtain ⟨k,rfl⟩:∃ m,k=m+1:=⟨k - 1,by omega⟩
   rw [AH.l2,if_neg (by simp [-List.length_flatten]; omega)]
   exact ⟨[],ds,rfl,by simp,hc,hd,List.Perm.refl _⟩
 | m,[c],ds,k,hm,hk,hc,hd,hl => by
   obtain ⟨k,rfl⟩:∃ m,k=m+1:=⟨k - 1,by omega⟩
   have h1:=(hc c (by simp)).1
   rw [AH.l2,if_neg (by simp [-List.length_flatten]; omega)]
   exact ⟨[c],ds,rfl,by simp,hc,hd,List.Perm.refl _⟩
 | 0,c :: d :: cs,ds,k,hm,hk,hc,hd,hl => by simp at hm
 | m+1,c :: d :: cs,ds,k,hm,hk,hc,hd,hl => by
   obtain ⟨k,rfl⟩:∃ m,k=m+1:=⟨k - 1,by omega⟩
   obtain ⟨h1,h2⟩:=hc c (by simp)
   obtain ⟨h3,h4⟩:=hc d (by simp)
   simp only [List.flatten_cons,List.length_append,List.length_cons] at hl hm
   have hw1:IntKind.wrap .i64 ((ds.flatten.length:Int)+(s:Int))=((ds.flatten.length+s:Nat):Int):=by rw [w64 (by omega) (by omega)]; omega
   have hw2:IntKind.wrap .i64 (2 * (s:Int))=((2 * s:Nat):Int):=by rw [w64 (by omega) (by omega)]; omega
   have hw3:IntKind.wrap .i64 (((ds.flatten.length+2 * s:Nat):Int)+((2 * s:Nat):Int))=((ds.flatten.length+2 * s+2 * s:Nat):Int):=by rw [w64 (by omega) (by omega)]; omega
   obtain ⟨Z,e1,e2,e3⟩:=TU (K:=K) hK (A:=c) (B:=d) (P:=ds.flatten) (Q:=cs.flatten++L) (a:=ds.flatten.length) (m:=ds.flatten.length+s) (b:=ds.flatten.length+2 * s) (by omega) (by omega) (by rw [List.length_append]; omega) h2 h4 rfl (by omega) (by omega)
   have eD:ds.flatten++((c :: d :: cs).flatten++L)=ds.flatten++(c++(d++(cs.flatten++L))):=by simp
   have hZ:Z.length=2 * s:=by rw [e2.length_eq,List.length_append]; omega
   have hf:(ds++[Z]).flatten=ds.flatten++Z:=by simp
   rw [eD,AH.l2,if_pos (by simp only [List.flatten_cons,List.length_append,decide_eq_true_eq]; omega),hw1,e1,Option.bind_some,hw2,hw3]
   obtain ⟨cs',ds',f1,f2,f3,f4,f5⟩:=TI (K:=K) hK hs hs2 hL m cs (ds++[Z]) k (by omega) (by omega) (fun x hx=>hc x (by simp [hx])) (fun x hx=>by
    rcases List.mem_append.1 hx with h' | h'
    ·exact hd x h'
    ·rw [List.mem_singleton.1 h']; exact ⟨hZ,e3⟩) (by rw [hf,List.length_append]; omega)
   rw [hf,List.length_append,hZ,List.append_assoc] at f1
   refine ⟨cs',ds',?_,f2,f3,f4,f5.trans ?_⟩
   ·rw [← f1]; congr 1
    simp only [List.flatten_cons,List.length_append]; omega
   ·rw [hf,List.append_assoc]
    refine List.Perm.append_left _ ((e2.append_right _).trans ?_)
    rw [List.append_assoc]
theorem TH {K:Nat} (hK:100000<K):∀ (j s k:Nat) (cs:List (List Sp)) (L:List Sp),cs.flatten.length+L.length≤s+j→j<k→0<s→s≤120000→Chs s cs→L.length<s→Srt L→cs.flatten.length+L.length≤30000→
 ∃ Z,AH.l1 K ((cs.flatten.length+L.length:Nat):Int) k (cs.flatten++L) (s:Int)=some Z∧Z.Perm (cs.flatten++L)∧Srt Z
 | j,s,k,cs,L,hj,hk,hs,hs2,hc,hL,sL,hl => by
   obtain ⟨k,rfl⟩:∃ m,k=m+1:=⟨k - 1,by omega⟩
   rw [AH.l1]
   have hcl:=LA hc
   by_cases h:s<cs.flatten.length+L.length
   ·obtain ⟨j,rfl⟩:∃ m,j=m+1:=⟨j - 1,by omega⟩
    have hw2:IntKind.wrap .i64 (2 * (s:Int))=((2 * s:Nat):Int):=by rw [w64 (by omega) (by omega)]; omega
    have hw4:IntKind.wrap .i64 ((s:Int) * 2)=((2 * s:Nat):Int):=by rw [w64 (by omega) (by omega)]; omega
    have hcs:cs.length<K:=by
     have:cs.length * 1≤cs.length * s:=Nat.mul_le_mul_left _ hs
     omega
    obtain ⟨cs',ds',f1,f2,f3,f4,f5⟩:=TI (K:=K) hK hs (by omega) hL cs.length cs [] K (Nat.le_refl _) hcs hc (fun c hc'=>by cases hc') (by simp [-List.length_flatten]; omega)
    simp only [List.flatten_nil,List.nil_append,List.length_nil,Nat.zero_add,Int.natCast_zero] at f1 f5
    have hlen:ds'.flatten.length+cs'.flatten.length+L.length=cs.flatten.length+L.length:=by
     have:=f5.length_eq
     simp only [List.length_append] at this; omega
    have hcl':=LA f3
    have hw1:IntKind.wrap .i64 ((ds'.flatten.length:Int)+(s:Int))=((ds'.flatten.length+s:Nat):Int):=by rw [w64 (by omega) (by omega)]; omega
    rw [if_pos (by simp [-List.length_flatten]; omega),hw2,f1,Option.bind_some]
    simp only [hw1,hw4]
    suffices hN:∃ L',(if decide (((ds'.flatten.length+s:Nat):Int)<((cs.flatten.length+L.length:Nat):Int))=true then (A1 K (ds'.flatten++(cs'.flatten++L)) (ds'.flatten.length:Int) ((ds'.flatten.length+s:Nat):Int) ((cs.flatten.length+L.length:Nat):Int)).bind (fun r_99=>some r_99) else some (ds'.flatten++(cs'.flatten++L)))=some (ds'.flatten++L')∧L'.Perm (cs'.flatten++L)∧Srt L'∧L'.length<2 * s by
     obtain ⟨L',g1,g2,g3,g4⟩:=hN
     rw [g1,Option.bind_some]
     have hll:ds'.flatten.length+L'.length=cs.flatten.length+L.length:=by
      have:=g2.length_eq
      rw [List.length_append] at this; omega
     obtain ⟨Z,z1,z2,z3⟩:=TH (K:=K) hK j (2 * s) k ds' L' (by omega) (by omega) (by omega) (by omega) f4 g4 g3 (by omega)
     rw [hll] at z1
     exact ⟨Z,z1,z2.trans ((g2.append_left _).trans f5),z3⟩
    match cs',f2,f3,hcl',hlen with
    | [],_,_,_,hlen =>
      simp only [List.flatten_nil,List.length_nil] at hlen
      rw [if_neg (by simp [-List.length_flatten]; omega)]
      exact ⟨L,by simp,by simp,sL,by omega⟩
    | [c],_,f3,hcl',hlen =>
      obtain ⟨h1,h2⟩:=f3 c (by simp)
      simp only [List.flatten_cons,List.flatten_nil,List.append_nil] at hlen ⊢
      by_cases hL0:0<L.length
      ·obtain ⟨Z,e1,e2,e3⟩:=TU (K:=K) hK (A:=c) (B:=L) (P:=ds'.flatten) (Q:=[]) (a:=ds'.flatten.length) (m:=ds'.flatten.length+s) (b:=cs.flatten.length+L.length) (by omega) hL0 (by simp [-List.length_flatten]; omega) h2 sL rfl (by omega) (by omega)
       rw [List.append_nil,List.append_nil] at e1
       rw [if_pos (by simp [-List.length_flatten]; omega),e1,Option.bind_some]
       exact ⟨Z,rfl,e2,e3,by rw [e2.length_eq,List.length_append]; omega⟩
      ·have:L=[]:=List.eq_nil_of_length_eq_zero (by omega)
       subst this
       rw [if_neg (by simp [-List.length_flatten] at hlen ⊢; omega),List.append_nil]
       exact ⟨c,rfl,List.Perm.refl _,h2,by omega⟩
    | _ :: _ :: _,f2,_,_,_ => simp at f2
   ·rw [if_neg (by simp [-List.length_flatten]; omega)]
    match cs,hc,hcl,h with
    | [],_,_,_ => exact ⟨L,by simp,by simp,sL⟩
    | [c],hc,hcl,h =>
      obtain ⟨h1,h2⟩:=hc c (by simp)
      simp only [List.flatten_cons,List.flatten_nil,List.append_nil] at h ⊢
      have:L=[]:=List.eq_nil_of_length_eq_zero (by omega)
      subst this
      rw [List.append_nil]
      exact ⟨c,rfl,List.Perm.refl _,h2⟩
    | c :: d :: cs,hc,hcl,h =>
      have h1:=(hc c (by simp)).1
      have h3:=(hc d (by simp)).1
      simp only [List.flatten_cons,List.length_append] at h
      omega
theorem d6 {K:Nat} {X:List Sp} (hK:100000<K) (hl:X.length≤30000):∃ Z,ID K X=some Z∧Z.Perm X∧Srt Z:=by
 unfold ID AH
 obtain ⟨cs,L,f1,f2,f3,f4⟩:=TG (K:=K) hK X.length [] X K (Nat.le_refl _) (by omega) (fun c hc=>by cases hc) (by simp [-List.length_flatten]; omega)
 simp only [List.flatten_nil,List.nil_append,List.length_nil,Nat.zero_add,Int.natCast_zero] at f1 f4
 rw [show ((20:Nat):Int)=20 from rfl] at f1
 rw [f1,Option.bind_some]
 simp only
 have hlen:cs.flatten.length+L.length=X.length:=by rw [← f4.length_eq,List.length_append]
 obtain ⟨Z,e1,e2,e3⟩:=QD (K:=K) (A:=cs.flatten) (X:=L) (B:=[]) (by omega) (by simp [-List.length_flatten]; omega)
 rw [List.append_nil,List.append_nil,hlen] at e1
 rw [e1,Option.bind_some]
 have hZ:Z.length=L.length:=e2.length_eq
 obtain ⟨W,w1,w2,w3⟩:=TH (K:=K) hK X.length 20 K cs Z (by omega) (by omega) (by omega) (by omega) f2 (by omega) e3 (by omega)
 rw [show cs.flatten.length+Z.length=X.length by omega,show ((20:Nat):Int)=20 from rfl] at w1
 rw [w1,Option.bind_some]
 exact ⟨W,rfl,w2.trans ((e2.append_left _).trans f4),w3⟩
def AE (n:Int):Int→Int→List Sp→Bool
 | _,_,[] => true
 | to,st,x :: l => decide (1 ≤ x.2.2 ∧ x.2.2 ≤ 100 ∧ to ≤ x.1 ∧ x.1<x.2.1 ∧ x.2.1 ≤ n ∧ ¬ (x.1=to ∧ x.2.2=st)) && AE n x.2.1 x.2.2 l
def C0 (n:Int) (l:List Sp):Bool:=decide (l.length≤60)&&AE (min n 20000) 0 0 l
def atS:List Sp→Int→Int
 | [],_ => 0
 | x :: l,k => if x.1 ≤ k ∧ k<x.2.1 then x.2.2 else atS l k
def Fn (n:Int) (x:Sp):Prop:=0≤x.1∧x.1<x.2.1∧x.2.1≤n∧1≤x.2.2∧x.2.2≤100
def Dj (x y:Sp):Prop:=x.2.1≤y.1∨y.2.1≤x.1
def Od (x y:Sp):Prop:=x.2.1≤y.1
theorem D1 {n to st:Int} {x:Sp} {l:List Sp}:AE n to st (x :: l)=true↔(1≤x.2.2∧x.2.2≤100∧to≤x.1∧x.1<x.2.1∧x.2.1≤n∧¬ (x.1=to∧x.2.2=st))∧AE n x.2.1 x.2.2 l=true:=by
 rw [AE,Bool.and_eq_true,decide_eq_true_eq]
theorem DU {n:Int}:∀ {l:List Sp} {to st:Int},AE n to st l=true→0≤to→∀ x∈l,Fn n x∧to≤x.1
 | [],_,_,_,_,x,hx => by cases hx
 | y :: l,to,st,h,h0,x,hx => by
   rw [D1] at h
   obtain ⟨⟨h1,h2,h3,h4,h5,h6⟩,h7⟩:=h
   rcases List.mem_cons.1 hx with rfl | hx
   ·exact ⟨⟨by omega,h4,h5,h1,h2⟩,h3⟩
   ·have:=DU h7 (by omega) x hx
    exact ⟨this.1,by omega⟩
theorem K9 {n:Int}:∀ {l:List Sp} {to st:Int},AE n to st l=true→0≤to→l.Pairwise Od
 | [],_,_,_,_ => List.Pairwise.nil
 | x :: l,to,st,h,h0 => by
   rw [D1] at h
   obtain ⟨⟨h1,h2,h3,h4,h5,h6⟩,h7⟩:=h
   exact List.pairwise_cons.2 ⟨fun y hy=>(DU h7 (by omega) y hy).2,K9 h7 (by omega)⟩
theorem MN {l:List Sp} (h:l.Pairwise Od):l.Pairwise Dj:=h.imp fun h=>.inl h
theorem RL {n m:Int} (hnm:n≤m):∀ {l:List Sp} {to st:Int},AE n to st l=true→AE m to st l=true
 | [],_,_,_ => rfl
 | x :: l,to,st,h => by
   rw [D1] at h ⊢
   exact ⟨⟨h.1.1,h.1.2.1,h.1.2.2.1,h.1.2.2.2.1,by have:=h.1.2.2.2.2.1; omega,h.1.2.2.2.2.2⟩,RL hnm h.2⟩
theorem FR {n:Int}:∀ {l:List Sp} {k v:Int},l.Pairwise Dj→(∀ x∈l,Fn n x)→v≠0→(atS l k=v↔∃ x∈l,x.1≤k∧k<x.2.1∧x.2.2=v)
 | [],k,v,_,_,hv => by simp [atS]; omega
 | x :: l,k,v,hd,hf,hv => by
   rw [List.pairwise_cons] at hd
   rw [atS]
   have ih:=FR (l:=l) (k:=k) hd.2 (fun y hy=>hf y (by simp [hy])) hv
   by_cases h:x.1≤k∧k<x.2.1
   ·rw [if_pos h]
    constructor
    ·intro e; exact ⟨x,by simp,h.1,h.2,e⟩
    ·rintro ⟨y,hy,h1,h2,h3⟩
     rcases List.mem_cons.1 hy with rfl | hy
     ·exact h3
     ·rcases hd.1 y hy with h' | h' <;> omega
   ·rw [if_neg h,ih]
    constructor
    ·rintro ⟨y,hy,h'⟩; exact ⟨y,by simp [hy],h'⟩
    ·rintro ⟨y,hy,h1,h2,h3⟩
     rcases List.mem_cons.1 hy with rfl | hy
     ·exact (h ⟨h1,h2⟩).elim
     ·exact ⟨y,hy,h1,h2,h3⟩
theorem PA {f g:Int} (h:∀ v,v≠0→(f=v↔g=v)):f=g:=by
 by_cases hf:f=0
 ·by_cases hg:g=0
  ·rw [hf,hg]
  ·exact (h g hg).2 rfl
 ·exact ((h f hf).1 rfl).symm
theorem L4:∀ {l r:List Sp} {k:Int},(∀ x∈l,1≤x.2.2)→atS (l++r) k=if atS l k=0 then atS r k else atS l k
 | [],r,k,_ => by simp [atS]
 | x :: l,r,k,h => by
   have hx:=h x (by simp)
   rw [List.cons_append,atS,atS,L4 fun y hy=>h y (by simp [hy])]
   by_cases h1:x.1≤k∧k<x.2.1
   ·rw [if_pos h1,if_pos h1,if_neg (by omega)]
   ·rw [if_neg h1,if_neg h1]
def AV (out:List Sp) (x:Sp):List Sp:=
 if out≠[]∧(out.getD (out.length - 1) sp0).2.2=x.2.2∧(out.getD (out.length - 1) sp0).2.1=x.1 then out.set (out.length - 1) ((out.getD (out.length - 1) sp0).1,(x.2.1,(out.getD (out.length - 1) sp0).2.2)) else out++[x]
theorem d7 (x:Sp):AV [] x=[x]:=rfl
theorem TJ (l:List Sp) (p x:Sp):AV (l++[p]) x=if p.2.2=x.2.2∧p.2.1=x.1 then l++[(p.1,(x.2.1,p.2.2))] else l++[p]++[x]:=by
 unfold AV
 have e1:(l++[p]).length - 1=l.length:=by simp
 have e2:(l++[p]).getD l.length sp0=p:=by simp [List.getD]
 rw [e1,e2]
 by_cases h:p.2.2=x.2.2∧p.2.1=x.1
 ·rw [if_pos ⟨by simp,h.1,h.2⟩,if_pos h,List.set_append_right _ _ (Nat.le_refl _)]
  simp
 ·rw [if_neg (fun h'=>h h'.2),if_neg h]
theorem TK {l:List Sp} {x:Sp}:(AV l x).length≤l.length+1:=by unfold AV; split <;> simp
theorem K8 {n:Int}:∀ {l:List Sp} {p:Sp} {to st:Int},AE n to st (l++[p])=true↔∃ t s,AE n to st l=true∧(l=[]→t=to∧s=st)∧(∀ m q,l=m++[q]→t=q.2.1∧s=q.2.2)∧AE n t s [p]=true
 | [],p,to,st => by
   constructor
   ·intro h; exact ⟨to,st,rfl,fun _=>⟨rfl,rfl⟩,fun m q e=>by simp at e,h⟩
   ·rintro ⟨t,s,-,h,-,h'⟩
    obtain ⟨rfl,rfl⟩:=h rfl
    exact h'
 | x :: l,p,to,st => by
   rw [List.cons_append,D1,K8]
   constructor
   ·rintro ⟨h1,t,s,h2,h3,h4,h5⟩
    refine ⟨t,s,D1.2 ⟨h1,h2⟩,fun e=>(by cases e),fun m q e=>?_,h5⟩
    cases m with
    | nil =>
      simp only [List.nil_append,List.cons.injEq] at e
      obtain ⟨rfl,rfl⟩:=e
      exact h3 rfl
    | cons z m =>
      simp only [List.cons_append,List.cons.injEq] at e
      exact h4 m q e.2
   ·rintro ⟨t,s,h1,h2,h3,h4⟩
    rw [D1] at h1
    refine ⟨h1.1,t,s,h1.2,fun e=>?_,fun m q e=>h3 (x :: m) q (by rw [e]; rfl),h4⟩
    subst e
    exact h3 [] x rfl
theorem dA {n:Int} {acc:List Sp} {x:Sp} (h:AE n 0 0 acc=true) (hx:Fn n x) (ho:∀ y∈acc,Od y x):AE n 0 0 (AV acc x)=true∧(∀ y,Od x y→∀ z∈AV acc x,(∀ w∈acc,Od w y)→Od z y):=by
 by_cases he:acc=[]
 ·subst he
  rw [d7]
  unfold Fn at hx
  refine ⟨by rw [D1]; exact ⟨by omega,rfl⟩,fun y hy z hz _=>?_⟩
  rw [List.mem_singleton.1 hz]; exact hy
 ·obtain ⟨l,p,rfl⟩:=DZ he
  have hp:=ho p (by simp)
  have hpm:=(DU h (Int.le_refl _) p (by simp)).1
  unfold Od at hp
  unfold Fn at hx hpm
  rw [TJ]
  obtain ⟨t,s,h1,h2,h3,h4⟩:=K8.1 h
  rw [D1] at h4
  split
  ·rename_i hc
   refine ⟨K8.2 ⟨t,s,h1,h2,h3,D1.2 ⟨by simp only; omega,rfl⟩⟩,fun y hy z hz hw=>?_⟩
   rcases List.mem_append.1 hz with hz | hz
   ·exact hw z (by simp [hz])
   ·rw [List.mem_singleton.1 hz]; exact hy
  ·rename_i hc
   refine ⟨K8.2 ⟨p.2.1,p.2.2,h,fun e=>by simp at e,fun m q e=>?_,D1.2 ⟨by omega,rfl⟩⟩,fun y hy z hz hw=>?_⟩
   ·obtain ⟨-,e⟩:=List.append_inj' e rfl
    cases e; exact ⟨rfl,rfl⟩
   ·rcases List.mem_append.1 hz with hz | hz
    ·exact hw z hz
    ·rw [List.mem_singleton.1 hz]; exact hy
theorem d8 {n:Int} {acc rest:List Sp} {x:Sp} {k:Int} (h:AE n 0 0 acc=true) (hx:Fn n x):atS (AV acc x++rest) k=atS (acc++x :: rest) k:=by
 by_cases he:acc=[]
 ·subst he; rfl
 ·obtain ⟨l,p,rfl⟩:=DZ he
  have hm:=DU h (Int.le_refl _)
  have hpm:=(hm p (by simp)).1
  have hl:∀ y∈l,1≤y.2.2:=fun y hy=>by have:=(hm y (by simp [hy])).1; unfold Fn at this; omega
  unfold Fn at hx hpm
  rw [TJ]
  split
  ·rename_i hc
   rw [List.append_assoc,List.append_assoc,L4 hl,L4 hl]
   simp only [List.cons_append,List.nil_append,atS]
   split
   ·by_cases h1:p.1≤k∧k<p.2.1
    ·rw [if_pos h1,if_pos (by omega)]
    ·rw [if_neg h1]
     by_cases h2:x.1≤k∧k<x.2.1
     ·rw [if_pos h2,if_pos (by omega)]; exact hc.1
     ·rw [if_neg h2,if_neg (by omega)]
   ·rfl
  ·simp
theorem PQ {n:Int}:∀ {r acc:List Sp},AE n 0 0 acc=true→(∀ x∈r,Fn n x)→r.Pairwise Od→(∀ x∈acc,∀ y∈r,Od x y)→AE n 0 0 (r.foldl AV acc)=true∧∀ k,atS (r.foldl AV acc) k=atS (acc++r) k
 | [],acc,h,_,_,_ => ⟨h,fun k => by simp⟩
 | x :: r,acc,h,hf,ho,ha => by
   rw [List.pairwise_cons] at ho
   have hx:=hf x (by simp)
   have hs:=dA h hx fun y hy=>ha y hy x (by simp)
   have ih:=PQ (r:=r) (acc:=AV acc x) hs.1 (fun y hy=>hf y (by simp [hy])) ho.2 (fun z hz y hy=>hs.2 y (ho.1 y hy) z hz fun w hw=>ha w hw y (by simp [hy]))
   rw [List.foldl_cons]
   exact ⟨ih.1,fun k=>by rw [ih.2,d8 h hx]⟩
theorem PP:∀ {r acc:List Sp},(r.foldl AV acc).length≤acc.length+r.length
 | [],acc => by simp
 | x :: r,acc => by
   have:=PP (r:=r) (acc:=AV acc x)
   have:=TK (l:=acc) (x:=x)
   rw [List.foldl_cons,List.length_cons]; omega
theorem d4 {n:Int} {l:List Sp} (hs:Srt l) (hd:l.Pairwise Dj) (hf:∀ x∈l,Fn n x):l.Pairwise Od:=by
 refine List.Pairwise.imp_of_mem ?_ (hs.and hd)
 rintro a b ha hb ⟨h1,h2⟩
 have fa:=hf a ha
 have fb:=hf b hb
 unfold leS ltS at h1
 rw [decide_eq_false_iff_not] at h1
 unfold Dj at h2
 unfold Fn at fa fb
 unfold Od
 omega
theorem W2 {x y:Sp} (h:Dj x y):Dj y x:=h.symm
theorem V7 {n:Int} {r Z:List Sp} (hp:Z.Perm r) (hs:Srt Z) (hd:r.Pairwise Dj) (hf:∀ x∈r,Fn n x):AE n 0 0 (Z.foldl AV [])=true∧∀ k,atS (Z.foldl AV []) k=atS r k:=by
 have hdZ:Z.Pairwise Dj:=hp.symm.pairwise hd fun h=>W2 h
 have hfZ:∀ x∈Z,Fn n x:=fun x hx=>hf x (hp.mem_iff.1 hx)
 have h:=PQ (n:=n) (r:=Z) (acc:=[]) rfl hfZ (d4 hs hdZ hfZ) (fun x hx=>by cases hx)
 refine ⟨h.1,fun k=>?_⟩
 rw [h.2,List.nil_append]
 refine PA fun v hv=>?_
 rw [FR hdZ hfZ hv,FR hd hf hv]
 constructor
 ·rintro ⟨x,hx,h⟩; exact ⟨x,hp.mem_iff.1 hx,h⟩
 ·rintro ⟨x,hx,h⟩; exact ⟨x,hp.mem_iff.2 hx,h⟩
theorem HR {a b:Int}:mn2 a b=min a b:=by unfold mn2; split <;> omega
theorem K7 {a b:Int}:mx2 a b=max a b:=by unfold mx2; split <;> omega
theorem O6 {K:Nat} {n a b:Int}:GO K n a b=some (decide (a≤n∧n≤b)):=by
 unfold GO
 by_cases h:a≤n
 ·rw [if_pos (by simpa using h)]; simp [h]
 ·rw [if_neg (by simpa using h)]; simp [h]
def B3 (l:List Sp) (j:Nat):Int×Int:=if j=0 then (0,0) else (l.getD (j - 1) sp0).2
theorem RX {l:List Sp} {j:Nat} {x:Sp} (h:l.getD j sp0=x):B3 l (j+1)=x.2:=by
 unfold B3; rw [if_neg (by omega),show j+1 - 1=j by omega,h]
theorem QQ {K:Nat} {l:List Sp} {n:Int} (hl:l.length≤60):∀ (rest:List Sp) (j k:Nat),l.drop j=rest→rest.length<k→0≤(B3 l j).1→
 CA.l0 K l n k (j:Int)=some (AE (min n 20000) (B3 l j).1 (B3 l j).2 rest)
 | [],j,k,hd,hk,h0 => by
   obtain ⟨k,rfl⟩:∃ m,k=m+1:=⟨k - 1,by omega⟩
   have:=A6 hd
   rw [CA.l0,if_neg (by simp; omega)]; rfl
 | x :: rest,j,k,hd,hk,h0 => by
   obtain ⟨k,rfl⟩:∃ m,k=m+1:=⟨k - 1,by omega⟩
   obtain ⟨hj,hx,hd'⟩:=A4 hd sp0
   rw [List.length_cons] at hk
   have hw:IntKind.wrap .i64 ((j:Int)+1)=((j+1:Nat):Int):=by rw [w64 (by omega) (by omega)]; omega
   rw [CA.l0,if_pos (by simp; omega),if_pos (by omega)]
   simp only [Int.toNat_natCast,hx,O6,Option.bind_some,hw,HR]
   have hc:∀ (c d:Bool) (F:Bool→Option Bool),(if c=true then some true else some d:Option Bool).bind F=F (c||d):=fun c d F=>by cases c <;> rfl
   have e1:(if (!decide (1≤x.2.2∧x.2.2≤100))=true then some true else if decide (x.1<0)=true then some true else if decide (x.1≥x.2.1)=true then some true else some (decide (x.2.1 > min n 20000)))=some (decide (¬ (1≤x.2.2∧x.2.2≤100∧0≤x.1∧x.1<x.2.1∧x.2.1≤min n 20000))):=by
    by_cases h1:1≤x.2.2∧x.2.2≤100
    ·rw [if_neg (by simp [h1])]
     by_cases h2:x.1<0
     ·rw [if_pos (by simpa using h2)]; congr 1; symm; rw [decide_eq_true_eq]; omega
     ·rw [if_neg (by simpa using h2)]
      by_cases h3:x.1≥x.2.1
      ·rw [if_pos (by simpa using h3)]; congr 1; symm; rw [decide_eq_true_eq]; omega
      ·rw [if_neg (by simpa using h3)]; congr 1; rw [decide_eq_decide]; omega
    ·rw [if_pos (by simp only [Bool.not_eq_true',decide_eq_false_iff_not]; exact h1)]; congr 1; symm; rw [decide_eq_true_eq]; omega
   rw [e1,Option.bind_some]
   by_cases hA:1≤x.2.2∧x.2.2≤100∧0≤x.1∧x.1<x.2.1∧x.2.1≤min n 20000
   ·rw [if_neg (by simp only [decide_eq_true_eq]; exact fun h=>h hA)]
    have ih:=QQ (K:=K) (n:=n) hl rest (j+1) k hd' (by omega) (by rw [RX hx]; omega)
    rw [RX hx] at ih
    by_cases hj0:j=0
    ·subst hj0
     rw [if_neg (by simp),Option.bind_some,if_neg (by simp),ih,AE]
     rw [show B3 l 0=(0,0) from rfl]
     simp only
     rw [decide_eq_true (by omega),Bool.true_and]
    ·have hw2:IntKind.wrap .i64 ((j:Int) - 1)=((j - 1:Nat):Int):=by rw [w64 (by omega) (by omega)]; omega
     have hp:B3 l j=(l.getD (j - 1) sp0).2:=by unfold B3; rw [if_neg hj0]
     rw [if_pos (by simp; omega)]
     simp only [hw2,Int.toNat_natCast,← hp]
     have e2:(if decide (x.1<(B3 l j).1)=true then if (0:Int)≤((j - 1:Nat):Int)∧((j - 1:Nat):Int)<(l.length:Int) then some true else none else if (x.1==(B3 l j).1)=true then if (0:Int)≤((j - 1:Nat):Int)∧((j - 1:Nat):Int)<(l.length:Int) then some (x.2.2==(B3 l j).2) else none else if (0:Int)≤((j - 1:Nat):Int)∧((j - 1:Nat):Int)<(l.length:Int) then some false else none)=some (decide (¬ ((B3 l j).1≤x.1∧¬ (x.1=(B3 l j).1∧x.2.2=(B3 l j).2)))):=by
      have hb:(0:Int)≤((j - 1:Nat):Int)∧((j - 1:Nat):Int)<(l.length:Int):=by omega
      rw [if_pos hb,if_pos hb,if_pos hb]
      by_cases h1:x.1<(B3 l j).1
      ·rw [if_pos (by simpa using h1)]; congr 1; symm; rw [decide_eq_true_eq]; omega
      ·rw [if_neg (by simpa using h1)]
       by_cases h2:x.1=(B3 l j).1
       ·rw [if_pos (by simpa using h2)]; congr 1
        rw [Bool.eq_iff_iff,beq_iff_eq,decide_eq_true_eq]; omega
       ·rw [if_neg (by simpa using h2)]; congr 1; symm; rw [decide_eq_false_iff_not]; omega
     rw [e2,Option.bind_some,AE]
     by_cases hB:(B3 l j).1≤x.1∧¬ (x.1=(B3 l j).1∧x.2.2=(B3 l j).2)
     ·rw [if_neg (by simp only [decide_eq_true_eq]; exact fun h=>h hB),ih,decide_eq_true (by omega),Bool.true_and]
     ·rw [if_pos (by simp only [decide_eq_true_eq]; exact hB),decide_eq_false (by omega),Bool.false_and]
   ·rw [if_pos (by simp only [decide_eq_true_eq]; exact hA),AE,decide_eq_false (by omega),Bool.false_and]
theorem JT {K:Nat} {l:List Sp} {n:Int} (hK:1000≤K):CA K l n=some (C0 n l):=by
 unfold CA C0
 by_cases h:l.length≤60
 ·rw [if_neg (by simp; omega),decide_eq_true h,Bool.true_and]
  exact QQ h l 0 K rfl (by omega) (by simp [B3])
 ·rw [if_pos (by simp; omega),decide_eq_false h,Bool.false_and]
theorem GV {K:Nat} {r:List Sp} {a b s:Int} (hr:r.length≤1000000):DY K r a b s=some (r++if a<b then [(a,(b,s))] else []):=by
 unfold DY
 by_cases h:a<b
 ·rw [if_pos (by simpa using h),if_pos (by simp; omega),if_pos h]
 ·rw [if_neg (by simpa using h),if_neg h,List.append_nil]
theorem T0 {K:Nat} {Z W:List Sp} {r:List Sp×List Sp}:∀ (rest:List Sp) (j k:Nat) (out:List Sp),Z.drop j=rest→rest.length<k→Z.length≤100000→out.length≤j→
 CU.l0 K Z k out (j:Int)=some (rest.foldl AV out,Z)
 | [],j,k,out,hd,hk,hl,ho => by
   obtain ⟨k,rfl⟩:∃ m,k=m+1:=⟨k - 1,by omega⟩
   have:=A6 hd
   rw [CU.l0,if_neg (by simp; omega)]; rfl
 | x :: rest,j,k,out,hd,hk,hl,ho => by
   obtain ⟨k,rfl⟩:∃ m,k=m+1:=⟨k - 1,by omega⟩
   obtain ⟨hj,hx,hd'⟩:=A4 hd sp0
   rw [List.length_cons] at hk
   have hw:IntKind.wrap .i64 ((j:Int)+1)=((j+1:Nat):Int):=by rw [w64 (by omega) (by omega)]; omega
   rw [CU.l0,if_pos (by simp; omega),if_pos (by omega)]
   simp only [Int.toNat_natCast,hx,hw,G0]
   have hsl:=TK (l:=out) (x:=x)
   rw [List.foldl_cons,← T0 (K:=K) (W:=W) (r:=r) rest (j+1) k (AV out x) hd' (by omega) hl (by omega)]
   cases ho':out with
   | nil =>
     rw [if_neg (by rw [List.length_nil]; decide),Option.bind_some,if_neg (by simp),if_pos (by simp)]
     rfl
   | cons y out' =>
     have hne:out≠[]:=by rw [ho']; simp
     rw [← ho']
     have hlen:1≤out.length:=by rw [ho']; simp
     have hw2:IntKind.wrap .i64 ((out.length:Int) - 1)=((out.length - 1:Nat):Int):=by rw [w64 (by omega) (by omega)]; omega
     rw [hw2]
     have hb:(0:Int)≤((out.length - 1:Nat):Int)∧((out.length - 1:Nat):Int)<(out.length:Int):=by omega
     rw [if_pos hb,if_pos hb,if_pos hb,if_pos (by simp)]
     simp only [Int.toNat_natCast]
     unfold AV
     by_cases h1:(out.getD (out.length - 1) sp0).2.2=x.2.2
     ·rw [if_pos (by simpa using h1),Option.bind_some]
      by_cases h2:(out.getD (out.length - 1) sp0).2.1=x.1
      ·rw [if_pos (by simpa using h2),if_pos ⟨hne,h1,h2⟩]
      ·rw [if_neg (by simpa using h2),if_pos (by simp; omega),if_neg (fun h=>h2 h.2.2)]
     ·rw [if_neg (by simpa using h1),Option.bind_some,if_neg (by simp),if_pos (by simp; omega),if_neg (fun h=>h1 h.2.1)]
theorem U1 {K:Nat} {r:List Sp×List Sp} (hl:r.1.length≤1000000):∀ (rest:List Sp) (j k:Nat) (out:List Sp),r.1.drop j=rest→rest.length<k→out.length≤j→
 CB.l0 K r k out (j:Int)=some (out++rest,(0,r.2))
 | [],j,k,out,hd,hk,ho => by
   obtain ⟨k,rfl⟩:∃ m,k=m+1:=⟨k - 1,by omega⟩
   have:=A6 hd
   rw [CB.l0,if_neg (by simp; omega),List.append_nil]
 | x :: rest,j,k,out,hd,hk,ho => by
   obtain ⟨k,rfl⟩:∃ m,k=m+1:=⟨k - 1,by omega⟩
   obtain ⟨hj,hx,hd'⟩:=A4 hd sp0
   rw [List.length_cons] at hk
   have hw:IntKind.wrap .i64 ((j:Int)+1)=((j+1:Nat):Int):=by rw [w64 (by omega) (by omega)]; omega
   rw [CB.l0,if_pos (by simp; omega),if_pos (by simp; omega)]
   simp only [Int.toNat_natCast,hx,hw,G0]
   rw [U1 hl rest (j+1) k (out++[x]) hd' (by omega) (by simp; omega)]
   simp
theorem U0 {K:Nat} {n:Int} {r:List Sp} (hK:100000<K) (hl:r.length≤30000) (hd:r.Pairwise Dj) (hf:∀ x∈r,Fn n x) :
 ∃ C Z,AE n 0 0 C=true∧(∀ k,atS C k=atS r k)∧C.length≤r.length∧CB K r=some (if C.length > 60 then ([],(70,Z)) else (C,(0,Z))):=by
 obtain ⟨Z,e1,e2,e3⟩:=d6 (K:=K) (X:=r) hK hl
 obtain ⟨c1,c2⟩:=V7 e2 e3 hd hf
 have hZ:Z.length=r.length:=e2.length_eq
 have hfl:=PP (r:=Z) (acc:=[])
 rw [List.length_nil] at hfl
 refine ⟨Z.foldl AV [],Z,c1,c2,by omega,?_⟩
 unfold CB CU
 have hs:=T0 (K:=K) (W:=[]) (r:=([],[])) Z 0 K [] rfl (by omega) (by omega) (by simp)
 rw [show ((0:Nat):Int)=0 from rfl] at hs
 rw [e1,Option.bind_some,hs,Option.bind_some]
 by_cases h:(Z.foldl AV []).length > 60
 ·rw [if_pos (by simp only [decide_eq_true_eq]; omega),if_pos h]
 ·rw [if_neg (by simp only [decide_eq_true_eq]; omega),if_neg h]
  have:=U1 (K:=K) (r:=(Z.foldl AV [],Z)) (by simp only; omega) (Z.foldl AV []) 0 K [] rfl (by omega) (by simp)
  rw [List.nil_append] at this
  exact this
def AI (a b:Int):List Sp→List Sp
 | [] => []
 | x :: l => (if a=b then [x] else (if x.1<min x.2.1 a then [(x.1,(min x.2.1 a,x.2.2))] else []) ++ (if max x.1 b<x.2.1 then [(max x.1 b,(x.2.1,x.2.2))] else [])) ++ AI a b l
theorem OY {a b:Int} (hab:a≤b):∀ {l:List Sp},(∀ x∈l,b≤x.1)→(AI a b l).length≤l.length
 | [],_ => by simp [AI]
 | x :: l,h => by
   have:=OY hab (l:=l) fun y hy=>h y (by simp [hy])
   have hx:=h x (by simp)
   rw [AI,List.length_append,List.length_cons]
   split
   ·simp; omega
   ·rw [if_neg (by omega)]
    split <;> simp <;> omega
theorem OX {n a b:Int} (hab:a≤b):∀ {l:List Sp} {to st:Int},AE n to st l=true→0≤to→(AI a b l).length≤l.length+1
 | [],_,_,_,_ => by simp [AI]
 | x :: l,to,st,h,h0 => by
   rw [D1] at h
   rw [AI,List.length_append,List.length_cons]
   by_cases hc:x.1<min x.2.1 a∧max x.1 b<x.2.1
   ·have:=OY hab (l:=l) fun y hy=>by have:=(DU h.2 (by omega) y hy).2; omega
    split
    ·simp; omega
    ·rw [if_pos hc.1,if_pos hc.2]; simp; omega
   ·have:=OX hab h.2 (by omega)
    split
    ·simp; omega
    ·split <;> split <;> simp <;> omega
theorem MW {K:Nat} {l:List Sp} {a b:Int} (hl:l.length≤60):∀ (rest:List Sp) (j k:Nat) (out:List Sp),l.drop j=rest→rest.length<k→out.length≤2 * j→(∀ x∈rest,x.1<x.2.1)→
 B5.l0 K l a b k out (j:Int)=some (out++AI a b rest)
 | [],j,k,out,hd,hk,ho,hn => by
   obtain ⟨k,rfl⟩:∃ m,k=m+1:=⟨k - 1,by omega⟩
   have:=A6 hd
   rw [B5.l0,if_neg (by simp; omega),AI,List.append_nil]
 | x :: rest,j,k,out,hd,hk,ho,hn => by
   obtain ⟨k,rfl⟩:∃ m,k=m+1:=⟨k - 1,by omega⟩
   obtain ⟨hj,hx,hd'⟩:=A4 hd sp0
   rw [List.length_cons] at hk
   have hw:IntKind.wrap .i64 ((j:Int)+1)=((j+1:Nat):Int):=by rw [w64 (by omega) (by omega)]; omega
   have hx0:=hn x (by simp)
   rw [B5.l0,if_pos (by simp; omega),if_pos (by omega)]
   simp only [Int.toNat_natCast,hx,hw,HR,K7]
   by_cases h:a=b
   ·rw [if_pos (by simpa using h),GV (by omega),Option.bind_some,if_pos hx0,MW hl rest (j+1) k _ hd' (by omega) (by simp; omega) (fun y hy=>hn y (by simp [hy])),AI,if_pos h]
    simp
   ·rw [if_neg (by simpa using h),GV (by omega),Option.bind_some,GV (by rw [List.length_append]; split <;> simp <;> omega),Option.bind_some,
     MW hl rest (j+1) k _ hd' (by omega) (by simp only [List.length_append]; split <;> split <;> simp <;> omega) (fun y hy=>hn y (by simp [hy])),AI,if_neg h]
    simp
theorem H4 {a b:Int} {y:Sp}:∀ {l:List Sp},y∈AI a b l→∃ x∈l,x.1≤y.1∧y.2.1≤x.2.1∧y.2.2=x.2.2∧(a≠b→y.1<y.2.1∧(y.2.1≤a∨b≤y.1))∧(a=b→y=x)
 | [],h => by cases h
 | x :: l,h => by
   rw [AI] at h
   rcases List.mem_append.1 h with h | h
   ·refine ⟨x,by simp,?_⟩
    split at h
    ·rename_i hab
     rw [List.mem_singleton.1 h]
     exact ⟨Int.le_refl _,Int.le_refl _,rfl,fun h=>(h hab).elim,fun _=>rfl⟩
    ·rename_i hab
     rcases List.mem_append.1 h with h | h
     ·split at h
      ·rw [List.mem_singleton.1 h]
       exact ⟨Int.le_refl _,by simp only; omega,rfl,fun _=>⟨by simp only; omega,.inl (by simp only; omega)⟩,fun h=>(hab h).elim⟩
      ·cases h
     ·split at h
      ·rw [List.mem_singleton.1 h]
       exact ⟨by simp only; omega,Int.le_refl _,rfl,fun _=>⟨by simp only; omega,.inr (by simp only; omega)⟩,fun h=>(hab h).elim⟩
      ·cases h
   ·obtain ⟨z,hz,h'⟩:=H4 h
    exact ⟨z,by simp [hz],h'⟩
theorem OW {n a b:Int} (hab:a≤b):∀ {l:List Sp} {to st:Int},AE n to st l=true→0≤to→(AI a b l).Pairwise Dj
 | [],_,_,_,_ => List.Pairwise.nil
 | x :: l,to,st,h,h0 => by
   have hm:=DU h h0
   rw [D1] at h
   rw [AI]
   refine List.pairwise_append.2 ⟨?_,OW hab h.2 (by omega),fun y hy z hz=>?_⟩
   ·split
    ·exact List.pairwise_singleton _ _
    ·split <;> split <;> simp [Dj] <;> omega
   ·obtain ⟨w,hw,w1,w2,w3,w4,w5⟩:=H4 hz
    have:=(DU h.2 (by omega) w hw).2
    have hy2:y.2.1≤x.2.1:=by
     split at hy
     ·rw [List.mem_singleton.1 hy]; omega
     ·rcases List.mem_append.1 hy with hy | hy <;> split at hy
      ·rw [List.mem_singleton.1 hy]; simp only; omega
      ·cases hy
      ·rw [List.mem_singleton.1 hy]; simp only; omega
      ·cases hy
    exact .inl (by omega)
theorem OV {a b k:Int} {x:Sp} (hk:x.1≤k∧k<x.2.1) (ho:¬ (a≤k∧k<b)) (hab:a≤b):∀ {l:List Sp},x∈l→∃ y∈AI a b l,y.1≤k∧k<y.2.1∧y.2.2=x.2.2
 | [],h => by cases h
 | z :: l,h => by
   rw [AI]
   rcases List.mem_cons.1 h with rfl | h
   ·by_cases e:a=b
    ·exact ⟨x,by rw [if_pos e]; simp,hk.1,hk.2,rfl⟩
    ·rw [if_neg e]
     by_cases h1:k<a
     ·exact ⟨(x.1,(min x.2.1 a,x.2.2)),by rw [if_pos (by omega)]; simp,hk.1,by simp only; omega,rfl⟩
     ·refine ⟨(max x.1 b,(x.2.1,x.2.2)),?_,by simp only; omega,hk.2,rfl⟩
      rw [if_pos (show max x.1 b<x.2.1 by omega)]
      simp
   ·obtain ⟨y,hy,h'⟩:=OV hk ho hab h
    exact ⟨y,List.mem_append.2 (.inr hy),h'⟩
def NP (f:Int→Int) (a b s k:Int):Int:=if a≤k∧k<b then s else f k
theorem aH {n a b s:Int} {l:List Sp} (hl:AE n 0 0 l=true) (h0:0≤a) (hab:a≤b) (hb:b≤n) (hs:0≤s∧s≤100) :
 (AI a b l++if s > 0 then (if a<b then [(a,(b,s))] else []) else []).Pairwise Dj∧(∀ x∈AI a b l++(if s > 0 then (if a<b then [(a,(b,s))] else []) else []),Fn n x)∧
  ∀ k,atS (AI a b l++if s > 0 then (if a<b then [(a,(b,s))] else []) else []) k=NP (atS l) a b s k:=by
 have hm:=DU hl (Int.le_refl 0)
 have hmem:∀ x∈(if s > 0 then (if a<b then [(a,(b,s))] else []) else []:List Sp),x=(a,(b,s))∧s > 0∧a<b:=by
  intro x hx
  split at hx
  ·split at hx
   ·rename_i h1 h2; exact ⟨List.mem_singleton.1 hx,h1,h2⟩
   ·cases hx
  ·cases hx
 have hpw:(AI a b l++if s > 0 then (if a<b then [(a,(b,s))] else []) else []).Pairwise Dj:=by
  refine List.pairwise_append.2 ⟨OW hab hl (Int.le_refl 0),?_,fun y hy z hz=>?_⟩
  ·split
   ·split <;> simp
   ·simp
  ·obtain ⟨rfl,h1,h2⟩:=hmem z hz
   obtain ⟨x,hx,w1,w2,w3,w4,w5⟩:=H4 hy
   rcases (w4 (by omega)).2 with h | h
   ·exact .inl h
   ·exact .inr h
 have hfn:∀ x∈AI a b l++(if s > 0 then (if a<b then [(a,(b,s))] else []) else []),Fn n x:=by
  intro y hy
  rcases List.mem_append.1 hy with hy | hy
  ·obtain ⟨x,hx,w1,w2,w3,w4,w5⟩:=H4 hy
   have hx':=(hm x hx).1
   unfold Fn at hx' ⊢
   by_cases e:a=b
   ·rw [w5 e]; exact hx'
   ·have:=w4 e; omega
  ·obtain ⟨rfl,h1,h2⟩:=hmem y hy
   exact ⟨h0,h2,hb,by simp only; omega,hs.2⟩
 refine ⟨hpw,hfn,fun k=>PA fun v hv=>?_⟩
 rw [FR hpw hfn hv]
 unfold NP
 constructor
 ·rintro ⟨y,hy,y1,y2,y3⟩
  rcases List.mem_append.1 hy with hy | hy
  ·obtain ⟨x,hx,w1,w2,w3,w4,w5⟩:=H4 hy
   rw [if_neg (by
    intro hk
    by_cases e:a=b
    ·omega
    ·have:=(w4 e).2; omega),FR (MN (K9 hl (Int.le_refl 0))) (fun x hx=>(hm x hx).1) hv]
   exact ⟨x,hx,by omega,by omega,by omega⟩
  ·obtain ⟨rfl,h1,h2⟩:=hmem y hy
   rw [if_pos ⟨y1,y2⟩]; exact y3
 ·intro h
  split at h
  ·rename_i hk
   subst h
   exact ⟨(a,(b,s)),List.mem_append.2 (.inr (by rw [if_pos (by omega),if_pos (by omega)]; simp)),hk.1,hk.2,rfl⟩
  ·rename_i hk
   obtain ⟨x,hx,x1,x2,x3⟩:=(FR (MN (K9 hl (Int.le_refl 0))) (fun x hx=>(hm x hx).1) hv).1 h
   obtain ⟨y,hy,y1,y2,y3⟩:=OV ⟨x1,x2⟩ hk hab hx
   exact ⟨y,List.mem_append.2 (.inl hy),y1,y2,by rw [y3,x3]⟩
theorem ZV {K:Nat} {l:List Sp} {a b s:Int} (hK:100000<K) (h:¬ (C0 20000 l=true∧0≤s∧s≤100∧0≤a∧a≤b∧b≤20000)):B5 K l a b s=some ([],12):=by
 unfold B5
 rw [JT (by omega),Option.bind_some,O6,Option.bind_some]
 have:(if (!C0 20000 l)=true then some true else if (!decide ((0:Int)≤s∧s≤100))=true then some true else if decide (a<0)=true then some true else if decide (a > b)=true then some true else some (decide (b > 20000)))=some true:=by
  cases hi:C0 20000 l with
  | false => rfl
  | true =>
    rw [if_neg (by simp)]
    by_cases h1:(0:Int)≤s∧s≤100
    ·rw [if_neg (by simp [h1])]
     by_cases h2:a<0
     ·rw [if_pos (by simpa using h2)]
     ·rw [if_neg (by simpa using h2)]
      by_cases h3:a > b
      ·rw [if_pos (by simpa using h3)]
      ·rw [if_neg (by simpa using h3)]
       congr 1; rw [decide_eq_true_eq]
       rcases Int.lt_or_le 20000 b with h4 | h4
       ·exact h4
       ·exact (h ⟨hi,h1.1,h1.2,by omega,by omega,h4⟩).elim
    ·rw [if_pos (by simp only [Bool.not_eq_true',decide_eq_false_iff_not]; exact h1)]
 rw [this,Option.bind_some,if_pos rfl]
theorem QO {n:Int} {l:List Sp} (h:C0 n l=true):l.length≤60∧AE (min n 20000) 0 0 l=true:=by
 unfold C0 at h
 rw [Bool.and_eq_true,decide_eq_true_eq] at h
 exact h
theorem ZW {K:Nat} {l:List Sp} {a b s n:Int} (hK:100000<K) (hll:l.length≤60) (hl:AE n 0 0 l=true) (hn:n≤20000) (hs:0≤s∧s≤100) (ha:0≤a) (hab:a≤b) (hb:b≤n) :
 ∃ C,AE n 0 0 C=true∧(∀ k,atS C k=NP (atS l) a b s k)∧C.length≤l.length+2∧B5 K l a b s=some (if C.length > 60 then ([],70) else (C,0)):=by
 obtain ⟨p1,p2,p3⟩:=aH hl ha hab hb hs
 have hcl:=OX (a:=a) (b:=b) hab hl (Int.le_refl 0)
 have hm:=DU hl (Int.le_refl 0)
 have hadd:(AI a b l++if s > 0 then (if a<b then [(a,(b,s))] else []) else []).length≤l.length+2:=by
  rw [List.length_append]; split
  ·split <;> simp <;> omega
  ·simp; omega
 obtain ⟨C,Z,c1,c2,c3,c4⟩:=U0 (K:=K) hK (by omega) p1 p2
 refine ⟨C,c1,fun k=>by rw [c2,p3],by omega,?_⟩
 unfold B5
 have hi:C0 20000 l=true:=by unfold C0; rw [decide_eq_true hll,Bool.true_and]; exact RL (by omega) hl
 rw [JT (by omega),Option.bind_some,hi,O6,Option.bind_some]
 have e1:(if (!true)=true then some true else if (!decide ((0:Int)≤s∧s≤100))=true then some true else if decide (a<0)=true then some true else if decide (a > b)=true then some true else some (decide (b > 20000)))=some false:=by
  rw [if_neg (by simp),if_neg (by simp [hs]),if_neg (by simp; omega),if_neg (by simp; omega)]
  congr 1; rw [decide_eq_false_iff_not]; omega
 have hpl:=MW (K:=K) (a:=a) (b:=b) hll l 0 K [] rfl (by omega) (by simp) (fun x hx=>(hm x hx).1.2.1)
 rw [show ((0:Nat):Int)=0 from rfl] at hpl
 rw [e1,Option.bind_some,if_neg (by simp),hpl,Option.bind_some,List.nil_append]
 have e2:(if decide (s > 0)=true then (DY K (AI a b l) a b s).bind (fun r_66=>some r_66) else some (AI a b l))=some (AI a b l++if s > 0 then (if a<b then [(a,(b,s))] else []) else []):=by
  by_cases h:s > 0
  ·rw [if_pos (by simpa using h),GV (by omega),Option.bind_some,if_pos h]
  ·rw [if_neg (by simpa using h),if_neg h,List.append_nil]
 rw [e2,Option.bind_some,c4,Option.bind_some]
 split <;> rfl
def neS (x:Sp):Bool:=decide (x.1<x.2.1∧x.2.2≠0)
def okB (n:Int):Int→List Int→Bool
 | _,[] => true
 | p,x :: l => decide (p<x ∧ x<n) && okB n x l
def isB (n:Int) (l:List Int):Bool:=okB (min n 20000) 0 l&&decide (l.length≤60)
def DV (l:List Int) (j:Nat):Int:=if j=0 then 0 else l.getD (j - 1) 0
theorem RW {l:List Int} {j:Nat} {x:Int} (h:l.getD j 0=x):DV l (j+1)=x:=by
 unfold DV; rw [if_neg (by omega),show j+1 - 1=j by omega,h]
theorem RJ {n p x:Int} {l:List Int}:okB n p (x :: l)=true↔(p<x∧x<n)∧okB n x l=true:=by
 rw [okB,Bool.and_eq_true,decide_eq_true_eq]
theorem RK {n:Int}:∀ {l:List Int} {p:Int},okB n p l=true→∀ x∈l,p<x∧x<n
 | [],_,_,x,hx => by cases hx
 | y :: l,p,h,x,hx => by
   rw [RJ] at h
   rcases List.mem_cons.1 hx with rfl | hx
   ·exact h.1
   ·have:=RK h.2 x hx; omega
theorem MO {n:Int}:∀ {l:List Int} {p:Int},okB n p l=true→l.Pairwise (·< ·)
 | [],_,_ => List.Pairwise.nil
 | x :: l,p,h => by
   rw [RJ] at h
   exact List.pairwise_cons.2 ⟨fun y hy=>(RK h.2 y hy).1,MO h.2⟩
theorem QI {K:Nat} {l:List Int} {n:Int} (hl:l.length≤1000000000000):∀ (rest:List Int) (j k:Nat),l.drop j=rest→rest.length<k→0≤DV l j→
 CE.l0 K l n k (j:Int)=some (okB (min n 20000) (DV l j) rest&&decide (l.length≤60))
 | [],j,k,hd,hk,h0 => by
   obtain ⟨k,rfl⟩:∃ m,k=m+1:=⟨k - 1,by omega⟩
   have:=A6 hd
   rw [CE.l0,if_neg (by simp; omega),okB,Bool.true_and]
   congr 1; rw [decide_eq_decide]; omega
 | x :: rest,j,k,hd,hk,h0 => by
   obtain ⟨k,rfl⟩:∃ m,k=m+1:=⟨k - 1,by omega⟩
   obtain ⟨hj,hx,hd'⟩:=A4 hd (0:Int)
   rw [List.length_cons] at hk
   have hw:IntKind.wrap .i64 ((j:Int)+1)=((j+1:Nat):Int):=by rw [w64 (by omega) (by omega)]; omega
   rw [CE.l0,if_pos (by simp; omega),if_pos (by omega)]
   simp only [Int.toNat_natCast,hx,hw,HR]
   have e:(if decide (x≤0)=true then some true else if decide (x≥min n 20000)=true then some true else if decide ((j:Int) > 0)=true then if 0≤IntKind.wrap .i64 ((j:Int) - 1)∧IntKind.wrap .i64 ((j:Int) - 1)<((l.length:Nat):Int) then some (decide (x≤l.getD (IntKind.wrap .i64 ((j:Int) - 1)).toNat 0)) else none else some false)=some (decide (¬ (DV l j<x∧x<min n 20000))):=by
    by_cases h1:x≤0
    ·rw [if_pos (by simpa using h1)]; congr 1; symm; rw [decide_eq_true_eq]; omega
    rw [if_neg (by simpa using h1)]
    by_cases h2:x≥min n 20000
    ·rw [if_pos (by simpa using h2)]; congr 1; symm; rw [decide_eq_true_eq]; omega
    rw [if_neg (by simpa using h2)]
    by_cases h3:j=0
    ·subst h3
     rw [if_neg (by simp)]; congr 1; symm; rw [decide_eq_false_iff_not]
     rw [show DV l 0=0 from rfl]; omega
    ·have hw2:IntKind.wrap .i64 ((j:Int) - 1)=((j - 1:Nat):Int):=by rw [w64 (by omega) (by omega)]; omega
     rw [if_pos (by simp; omega),hw2,if_pos (by omega),Int.toNat_natCast]
     have:DV l j=l.getD (j - 1) 0:=by unfold DV; rw [if_neg h3]
     rw [this]
     congr 1; rw [decide_eq_decide]; omega
   rw [e,Option.bind_some,okB]
   by_cases h:DV l j<x∧x<min n 20000
   ·have ih:=QI (K:=K) (n:=n) hl rest (j+1) k hd' (by omega) (by rw [RW hx]; omega)
    rw [RW hx] at ih
    rw [if_neg (by simp only [decide_eq_true_eq]; exact fun h'=>h' h),ih,decide_eq_true h,Bool.true_and]
   ·rw [if_pos (by simp only [decide_eq_true_eq]; exact h),decide_eq_false h,Bool.false_and,Bool.false_and]
theorem M5 {K:Nat} {l:List Int} {n:Int} (hl:l.length≤1000000000000) (hK:l.length<K):CE K l n=some (isB n l):=
 QI hl l 0 K rfl hK (by simp [DV])
theorem Y0 {K:Nat} {a b:Int}:GZ K a b=some (decide (a<b)):=by
 unfold GZ E4
 rw [Option.bind_some,bne_self_eq_false,if_neg (by simp)]
theorem L8 {K:Nat} {l:List Int} {t:Int} (hD:l.length≤100000):∀ (k i j:Nat),i≤j→j≤l.length→CQ.l0 K l t k (i:Int) (j:Int)=(bs (fun h=>decide (l.getD h 0<t)) k i j).map (fun n:Nat=>(n:Int))
 | 0,i,j,hij,hj => rfl
 | k+1,i,j,hij,hj => by
   rw [CQ.l0,bs]
   by_cases h:i<j
   ·have hw:IntKind.wrap .i64 ((((i+j) / 2:Nat):Int)+1)=(((i+j) / 2+1:Nat):Int):=by rw [w64 (by omega) (by omega)]; omega
    rw [if_pos (by simp; omega),if_pos h]
    simp only [G2 (i:=i) (j:=j) (by omega),Int.toNat_natCast,hw,Y0,Option.bind_some]
    rw [if_pos (by omega),L8 hD k _ _ (by omega) hj,L8 hD k _ _ (by omega) (by omega)]
    split <;> rfl
   ·rw [if_neg (by simp; omega),if_neg h]; rfl
theorem MC {l:List Int} (h:l.Pairwise (·< ·)) {i j:Nat} (hij:i<j) (hj:j<l.length):l.getD i 0<l.getD j 0:=by
 have:=List.pairwise_iff_getElem.1 h i j (by omega) hj hij
 simpa [List.getD,List.getElem?_eq_getElem hj,List.getElem?_eq_getElem (show i<l.length by omega)] using this
theorem dK {l:List Int} {n:Nat} {x:Int} (h:x∈l.take n):∃ i,i<n∧i<l.length∧l.getD i 0=x:=by
 obtain ⟨i,hi,rfl⟩:=List.mem_iff_getElem.1 h
 rw [List.length_take] at hi
 exact ⟨i,by omega,by omega,by rw [List.getElem_take]; simp [List.getD,List.getElem?_eq_getElem (show i<l.length by omega)]⟩
theorem P2 {l:List Int} {n:Nat} {x:Int} (h:x∈l.drop n):∃ i,n≤i∧i<l.length∧l.getD i 0=x:=by
 obtain ⟨i,hi,rfl⟩:=List.mem_iff_getElem.1 h
 rw [List.length_drop] at hi
 exact ⟨n+i,by omega,by omega,by rw [List.getElem_drop]; simp [List.getD,List.getElem?_eq_getElem (show n+i<l.length by omega)]⟩
theorem XR {l:List Int} {j r:Nat} (h:j<l.length) (hr:r≤j):l.getD j 0∈l.drop r:=
 List.mem_iff_getElem.2 ⟨j - r,by rw [List.length_drop]; omega,by rw [List.getElem_drop]; simp [List.getD,List.getElem?_eq_getElem h,show r+(j - r)=j by omega]⟩
theorem bN {K:Nat} {l:List Int} {t:Int} (hK:100000<K) (hl:l.length≤100000) (hs:l.Pairwise (·< ·)) :
 ∃ r:Nat,r≤l.length∧CQ K l t=some ((r:Int),decide (r<l.length∧l.getD r 0=t))∧(∀ x∈l.take r,x<t)∧∀ x∈l.drop r,t≤x:=by
 have e0:=L8 (K:=K) (t:=t) hl K 0 l.length (by omega) (Nat.le_refl _)
 obtain ⟨r,e1,e2,e3,e4,e5⟩:=FV (p:=fun h=>decide (l.getD h 0<t)) K 0 l.length (by omega) (by omega)
 rw [e1,Option.map_some] at e0
 refine ⟨r,e3,?_,fun x hx=>?_,fun x hx=>?_⟩
 ·unfold CQ IE
  rw [show ((0:Nat):Int)=0 from rfl] at e0
  rw [e0,Option.bind_some]
  simp only [Int.toNat_natCast,bne_self_eq_false,Option.bind_some]
  by_cases h:r<l.length
  ·have hr:(0:Int)≤(r:Int)∧(r:Int)<((l.length:Nat):Int):=by omega
   simp only [if_pos hr]
   rw [if_pos (by simp; omega)]
   by_cases h2:l.getD r 0=t
   ·rw [if_pos (by rw [beq_iff_eq]; exact h2),decide_eq_true ⟨h,h2⟩]
   ·rw [if_neg (by rw [beq_iff_eq]; exact h2),if_neg (by simp),decide_eq_false fun h'=>h2 h'.2]
  ·rw [if_neg (by simp; omega),decide_eq_false fun h'=>h h'.1]
 ·obtain ⟨i,i1,i2,rfl⟩:=dK hx
  rcases e4 with e4 | e4
  ·omega
  ·rw [decide_eq_true_eq] at e4
   rcases Nat.lt_or_ge i (r - 1) with h | h
   ·have:=MC hs h (by omega); omega
   ·rw [show i=r - 1 by omega]; exact e4
 ·obtain ⟨i,i1,i2,rfl⟩:=P2 hx
  rcases e5 with e5 | e5
  ·omega
  ·rw [decide_eq_false_iff_not] at e5
   rcases Nat.lt_or_ge r i with h | h
   ·have:=MC hs h (by omega); omega
   ·rw [show i=r by omega]; omega
def E9 (l:List Int) (t:Int):List Int:=l.filter (fun x=>decide (x<t))++t :: l.filter (fun x=>decide (t<x))
theorem aE {l:List Int} {t x:Int}:x∈E9 l t↔x=t∨x∈l:=by
 unfold E9
 simp only [List.mem_append,List.mem_cons,List.mem_filter,decide_eq_true_eq]
 constructor
 ·rintro (h | h | h)
  ·exact .inr h.1
  ·exact .inl h
  ·exact .inr h.1
 ·rintro (h | h)
  ·exact .inr (.inl h)
  ·rcases Int.lt_trichotomy x t with h' | h' | h'
   ·exact .inl ⟨h,h'⟩
   ·exact .inr (.inl h')
   ·exact .inr (.inr ⟨h,h'⟩)
theorem aD {l:List Int} {t:Int} (h:l.Pairwise (·< ·)):(E9 l t).Pairwise (·< ·):=by
 unfold E9
 refine List.pairwise_append.2 ⟨h.sublist List.filter_sublist,List.pairwise_cons.2 ⟨fun y hy=>?_,h.sublist List.filter_sublist⟩,fun x hx y hy=>?_⟩
 ·rw [List.mem_filter,decide_eq_true_eq] at hy; exact hy.2
 ·rw [List.mem_filter,decide_eq_true_eq] at hx
  rcases List.mem_cons.1 hy with rfl | hy
  ·exact hx.2
  ·rw [List.mem_filter,decide_eq_true_eq] at hy; omega
theorem aF {l:List Int} {t:Int} {r:Nat} (hn:t∉l) (h1:∀ x∈l.take r,x<t) (h2:∀ x∈l.drop r,t≤x):E9 l t=l.take r++t :: l.drop r:=by
 unfold E9
 have e:l.filter (fun x=>decide (x<t))=(l.take r++l.drop r).filter (fun x=>decide (x<t)):=by rw [List.take_append_drop]
 have e2:l.filter (fun x=>decide (t<x))=(l.take r++l.drop r).filter (fun x=>decide (t<x)):=by rw [List.take_append_drop]
 rw [e,e2,List.filter_append,List.filter_append]
 rw [List.filter_eq_self.2 (fun x hx=>by rw [decide_eq_true_eq]; exact h1 x hx),List.filter_eq_nil_iff.2 (fun x hx=>by rw [decide_eq_true_eq]; have:=h2 x hx; omega),List.append_nil,
  List.filter_eq_nil_iff.2 (fun x hx=>by rw [decide_eq_true_eq]; have:=h1 x hx; omega),List.nil_append,List.filter_eq_self.2 (fun x hx=>?_)]
 rw [decide_eq_true_eq]
 have:=h2 x hx
 have:x≠t:=fun e=>hn (e▸List.mem_of_mem_drop hx)
 omega
theorem aC {l:List Int} {t:Int} (hs:l.Pairwise (·< ·)) (hn:t∉l):(E9 l t).length=l.length+1:=by
 have hp:(E9 l t).Perm (t :: l):=by
  refine (List.perm_ext_iff_of_nodup ?_ ?_).2 fun x=>by rw [aE,List.mem_cons]
  ·exact (aD hs).imp fun h=>by omega
  ·exact List.nodup_cons.2 ⟨hn,hs.imp fun h=>by omega⟩
 rw [hp.length_eq]; rfl
theorem YQ {l:List Int} {t:Int} {r:Nat} (h1:∀ x∈l.take r,x<t) (h2:∀ x∈l.drop r,t≤x) (hs:l.Pairwise (·< ·)):(r<l.length∧l.getD r 0=t)↔t∈l:=by
 constructor
 ·rintro ⟨h,e⟩
  rw [← e]
  simp [List.getD,List.getElem?_eq_getElem h]
 ·intro h
  rw [← List.take_append_drop r l] at h
  rcases List.mem_append.1 h with h | h
  ·have:=h1 t h; omega
  ·obtain ⟨i,i1,i2,e⟩:=P2 h
   refine ⟨by omega,?_⟩
   rcases Nat.lt_or_ge r i with hi | hi
   ·have:=MC hs hi i2
    have:=h2 _ (XR (show r<l.length by omega) (Nat.le_refl r))
    omega
   ·rw [show r=i by omega]; exact e
theorem ZY {α:Type} {xs ys:List α} (h:ys.length=xs.length):putAt xs ys 0=ys:=by
 unfold putAt
 rw [List.take_zero,List.nil_append,List.drop_eq_nil_of_le (by omega),List.append_nil]
theorem ZZ {K:Nat} {l:List Int} {t:Int} (hK:1000<K) (hl:l.length≤100) (h:¬ (isB 20000 l=true∧0<t∧t<20000)):DF K l t=some ([],12):=by
 unfold DF
 rw [M5 (by omega) (by omega),Option.bind_some]
 have:(if (!isB 20000 l)=true then some true else if decide (t≤0)=true then some true else some (decide (t≥20000)))=some true:=by
  cases hi:isB 20000 l with
  | false => rfl
  | true =>
    rw [if_neg (by simp)]
    by_cases h1:t≤0
    ·rw [if_pos (by simpa using h1)]
    ·rw [if_neg (by simpa using h1)]
     congr 1; rw [decide_eq_true_eq]
     rcases Int.lt_or_le t 20000 with h2 | h2
     ·exact (h ⟨hi,by omega,h2⟩).elim
     ·exact h2
 rw [this,Option.bind_some,if_pos rfl]
theorem QJ {n:Int} {l:List Int} (h:isB n l=true):okB (min n 20000) 0 l=true∧l.length≤60:=by
 unfold isB at h
 rw [Bool.and_eq_true,decide_eq_true_eq] at h
 exact h
theorem aB {K:Nat} {l:List Int} {t:Int} (hK:100000<K) (hi:isB 20000 l=true) (h1:0<t) (h2:t<20000) :
 DF K l t=some (if t∈l then (l,0) else if 60≤l.length then ([],70) else (E9 l t,0)):=by
 obtain ⟨hok,hl⟩:=QJ hi
 have hs:=MO hok
 obtain ⟨r,r1,r2,r3,r4⟩:=bN (K:=K) (t:=t) hK (by omega) hs
 have hmem:=YQ r3 r4 hs
 unfold DF
 rw [M5 (by omega) (by omega),Option.bind_some,hi,if_neg (by simp),if_neg (by simp; omega),Option.bind_some,if_neg (by simp; omega),r2,Option.bind_some,w64 (n:=((l.length:Nat):Int)+1) (by omega) (by omega),if_pos (by omega)]
 have hrep:(List.replicate (Int.toNat ((l.length:Nat):Int)) (0:Int)).length=l.length:=by rw [List.length_replicate]; omega
 rw [hrep,List.take_length,ZY (by omega)]
 by_cases hm:t∈l
 ·rw [decide_eq_true (hmem.2 hm),if_pos rfl,if_pos hm]
 ·rw [decide_eq_false fun h=>hm (hmem.1 h),if_neg (by simp),if_neg hm]
  by_cases h60:60≤l.length
  ·rw [if_pos (by simp; omega),if_pos h60]
  ·rw [if_neg (by simp; omega),if_neg h60]
   unfold KN
   rw [if_pos (by simp; omega),Option.bind_some,Int.toNat_natCast,aF hm r3 r4]
   rfl
def stB (e:Int) (out:List Int) (x:Int):List Int:=if 0<x∧x<e∧(out.length=0∨out.getD (out.length - 1) 0≠x) then out++[x] else out
theorem TF {e x:Int} {out:List Int}:(stB e out x).length≤out.length+1:=by
 unfold stB; split <;> simp
theorem PO {e:Int}:∀ {r out:List Int},(r.foldl (stB e) out).length≤out.length+r.length
 | [],out => Nat.le_refl _
 | x :: r,out => by
   have:=PO (e:=e) (r:=r) (out:=stB e out x)
   have:=TF (e:=e) (x:=x) (out:=out)
   rw [List.foldl_cons,List.length_cons]; omega
theorem d5 {out:List Int} {e x:Int} (ho:out.length≤1000000) :
 (if decide (x > 0)=true then if decide (x<e)=true then if (((out.length:Nat):Int)==(0:Int))=true then some true else if 0≤IntKind.wrap .i64 (((out.length:Nat):Int) - 1)∧IntKind.wrap .i64 (((out.length:Nat):Int) - 1)<((out.length:Nat):Int) then some (out.getD (IntKind.wrap .i64 (((out.length:Nat):Int) - 1)).toNat 0 !=x) else none else some false else some false)=some (decide (0<x∧x<e∧(out.length=0∨out.getD (out.length - 1) 0≠x))):=by
 by_cases h1:x > 0
 ·rw [if_pos (by simpa using h1)]
  by_cases h2:x<e
  ·rw [if_pos (by simpa using h2)]
   by_cases h3:out.length=0
   ·rw [if_pos (by simp [h3])]; congr 1; symm; rw [decide_eq_true_eq]; exact ⟨h1,h2,.inl h3⟩
   ·have hw:IntKind.wrap .i64 (((out.length:Nat):Int) - 1)=((out.length - 1:Nat):Int):=by rw [w64 (by omega) (by omega)]; omega
    rw [if_neg (by rw [beq_iff_eq]; omega),hw,if_pos (by omega),Int.toNat_natCast]
    congr 1
    by_cases h4:out.getD (out.length - 1) 0=x
    ·rw [h4,bne_self_eq_false]; symm; rw [decide_eq_false_iff_not]; exact fun h=>h.2.2.elim h3 fun h'=>h' rfl
    ·rw [show (out.getD (out.length - 1) 0 !=x)=true by rw [bne_iff_ne]; exact h4]; symm; rw [decide_eq_true_eq]; exact ⟨h1,h2,.inr h4⟩
  ·rw [if_neg (by simpa using h2)]; congr 1; symm; rw [decide_eq_false_iff_not]; exact fun h=>h2 h.2.1
 ·rw [if_neg (by simpa using h1)]; congr 1; symm; rw [decide_eq_false_iff_not]; exact fun h=>h1 h.1
theorem P5 {K:Nat} {l:List Int} {base e:Int} {d:List El} (hK:30000≤K) (hl:l.length≤100000):∀ (rest:List Int) (j k:Nat) (out:List Int),l.drop j=rest→rest.length<k→out.length≤j→
 C5.l0 K l base d e k out (j:Int)=some ((rest.map fun x=>mv base d x false).foldl (stB e) out,0)
 | [],j,k,out,hd,hk,ho => by
   obtain ⟨k,rfl⟩:∃ m,k=m+1:=⟨k - 1,by omega⟩
   have:=A6 hd
   rw [C5.l0,if_neg (by simp; omega)]; rfl
 | x :: rest,j,k,out,hd,hk,ho => by
   obtain ⟨k,rfl⟩:∃ m,k=m+1:=⟨k - 1,by omega⟩
   obtain ⟨hj,hx,hd'⟩:=A4 hd (0:Int)
   rw [List.length_cons] at hk
   have hw:IntKind.wrap .i64 ((j:Int)+1)=((j+1:Nat):Int):=by rw [w64 (by omega) (by omega)]; omega
   have ih:=fun o h=>P5 (base:=base) (e:=e) (d:=d) hK hl rest (j+1) k o hd' (by omega) h
   have hs:=TF (e:=e) (x:=mv base d x false) (out:=out)
   rw [C5.l0,if_pos (by simp; omega),if_pos (by omega)]
   simp only [Int.toNat_natCast,hx,hw,K4 hK,Option.bind_some]
   rw [d5 (by omega),Option.bind_some,List.map_cons,List.foldl_cons,← ih (stB e out (mv base d x false)) (by omega)]
   by_cases h:0<mv base d x false∧mv base d x false<e∧(out.length=0∨out.getD (out.length - 1) 0≠mv base d x false)
   ·rw [if_pos (by rw [decide_eq_true_eq]; exact h),if_pos (by simp; omega)]; unfold stB; rw [if_pos h]
   ·rw [if_neg (by rw [decide_eq_true_eq]; exact h)]; unfold stB; rw [if_neg h]
def edB (base:Int) (d:List El) (l:List Int):List Int:=(l.map fun x=>mv base d x false).foldl (stB (AG d+A9 d)) []
theorem W6 {base:Int} {d:List El} {l:List Int}:(edB base d l).length≤l.length:=by
 have:=PO (e:=AG d+A9 d) (r:=l.map fun x=>mv base d x false) (out:=[])
 simpa [edB] using this
abbrev Rg:=Int×Int
abbrev rg0:Rg:=((0:Int),(0:Int))
def loR (x:Rg):Int:=min x.1 x.2
def hiR (x:Rg):Int:=max x.1 x.2
def ltR (a b:Rg):Bool:=decide (loR a<loR b∨(loR a=loR b∧hiR a<hiR b))
theorem HP (x:Rg):loR x≤hiR x:=by unfold loR hiR; omega
theorem DJ {K:Nat} {x:Rg}:BQ K x.1 x.2=some (loR x,hiR x):=by
 unfold BQ; rw [HR,K7]; rfl
theorem ON {K:Nat} {a b:Int}:EN K a b=some (if a<b then -1 else if a > b then 1 else 0):=by
 unfold EN E4
 rw [Option.bind_some,Option.bind_some,bne_self_eq_false,if_neg (by simp),bne_self_eq_false,if_neg (by simp)]
 by_cases h:a<b
 ·rw [if_pos (by simpa using h),if_pos h]
 ·rw [if_neg (by simpa using h),if_neg h]
  by_cases h2:a > b
  ·rw [if_pos (by simpa using h2),if_pos h2]
  ·rw [if_neg (by simpa using h2),if_neg h2]
theorem V9 {K:Nat} (hK:10≤K) {a b:Rg}:∃ c,EV K a.1 a.2 b.1 b.2=some c∧decide (c<0)=ltR a b:=by
 obtain ⟨k,rfl⟩:∃ k,K=k+1+1+1:=⟨K - 3,by omega⟩
 unfold EV CZ
 rw [DJ,Option.bind_some,DJ,Option.bind_some]
 simp only
 rw [ON,Option.bind_some,ON,Option.bind_some,CZ.l0,if_pos (by simp),if_pos (by simp)]
 simp only [show Int.toNat 0=0 from rfl,List.getD_cons_zero]
 unfold ltR
 by_cases h1:loR a<loR b
 ·rw [if_pos h1,if_pos (by decide),Option.bind_some]
  exact ⟨_,rfl,by rw [decide_eq_decide]; omega⟩
 ·rw [if_neg h1]
  by_cases h2:loR a > loR b
  ·rw [if_pos h2,if_pos (by decide),Option.bind_some]
   exact ⟨_,rfl,by rw [decide_eq_decide]; omega⟩
  ·rw [if_neg h2,if_neg (by decide),show IntKind.wrap .i64 ((0:Int)+1)=1 by decide,CZ.l0,if_pos (by simp),if_pos (by simp)]
   simp only [show Int.toNat 1=1 from rfl,List.getD_cons_succ,List.getD_cons_zero]
   by_cases h3:hiR a<hiR b
   ·rw [if_pos h3,if_pos (by decide),Option.bind_some]
    exact ⟨_,rfl,by rw [decide_eq_decide]; omega⟩
   ·rw [if_neg h3]
    by_cases h4:hiR a > hiR b
    ·rw [if_pos h4,if_pos (by decide),Option.bind_some]
     exact ⟨_,rfl,by rw [decide_eq_decide]; omega⟩
    ·rw [if_neg h4,if_neg (by decide),show IntKind.wrap .i64 ((1:Int)+1)=2 by decide,CZ.l0,if_neg (by simp),Option.bind_some]
     exact ⟨_,rfl,by rw [decide_eq_decide]; omega⟩
def HM (x:Rg):List Rg→List Rg
 | [] => [x]
 | z :: l => if ltR x z=true then z :: HM x l else x :: z :: l
def CI (x:Rg) (S:List Rg):List Rg:=(HM x S.reverse).reverse
theorem M4 (x z:Rg) (S:List Rg):CI x (S++[z])=if ltR x z=true then CI x S++[z] else S++[z]++[x]:=by
 unfold CI
 rw [List.reverse_append,List.reverse_singleton,List.singleton_append,HM]
 split <;> simp
theorem QE (x:Rg):∀ S:List Rg,(HM x S).Perm (x :: S)
 | [] => List.Perm.refl _
 | z :: l => by
   rw [HM]
   split
   ·exact ((QE x l).cons z).trans (List.Perm.swap x z l)
   ·exact List.Perm.refl _
theorem M3 (x:Rg) (S:List Rg):(CI x S).Perm (x :: S):=by
 unfold CI
 refine (List.reverse_perm _).trans ((QE x S.reverse).trans ?_)
 exact (List.reverse_perm S).cons x
theorem Q8 (x:Rg) (S:List Rg):(CI x S).length=S.length+1:=by rw [(M3 x S).length_eq]; rfl
def B6 (X S:List Rg):List Rg:=X.foldl (fun S x=>CI x S) S
theorem KQ:∀ {X S:List Rg},(B6 X S).Perm (X++S)
 | [],S => List.Perm.refl _
 | x :: X,S => by
   show (B6 X (CI x S)).Perm _
   refine KQ.trans ?_
   refine ((M3 x S).append_left X).trans ?_
   rw [List.cons_append]
   exact List.perm_middle
theorem Q7 {K:Nat} {x:Rg} (hK:10≤K):∀ (n:Nat) (S2 T S:List Rg) (k:Nat),S.length=n→n<k→S.length+S2.length+T.length≤100000→
 AT.l1 K 0 k (S++x :: (S2++T)) (S.length:Int)=some (CI x S++(S2++T))
 | 0,S2,T,S,k,hn,hk,hl => by
   obtain ⟨k,rfl⟩:∃ m,k=m+1:=⟨k - 1,by omega⟩
   have:S=[]:=List.eq_nil_of_length_eq_zero hn
   subst this
   rw [AT.l1,if_neg (by simp),Option.bind_some,if_neg (by simp)]
   rfl
 | n+1,S2,T,S,k,hn,hk,hl => by
   obtain ⟨k,rfl⟩:∃ m,k=m+1:=⟨k - 1,by omega⟩
   obtain ⟨S',z,rfl⟩:=DZ (l:=S) (by intro e; rw [e] at hn; simp at hn)
   rw [List.length_append,List.length_singleton] at hn hl
   have eD:(S'++[z])++x :: (S2++T)=S'++z :: x :: (S2++T):=by simp
   have g1:(S'++z :: x :: (S2++T)).getD (S'.length+1) rg0=x:=PU rfl
   have g2:(S'++z :: x :: (S2++T)).getD S'.length rg0=z:=ET rfl
   have hw:IntKind.wrap .i64 (((S'.length+1:Nat):Int) - 1)=(S'.length:Int):=by rw [w64 (by omega) (by omega)]; omega
   have hDl:(S'++z :: x :: (S2++T)).length=S'.length+2+S2.length+T.length:=by simp only [List.length_append,List.length_cons]; omega
   obtain ⟨c,hc1,hc2⟩:=V9 (K:=K) hK (a:=x) (b:=z)
   rw [List.length_append,List.length_singleton,AT.l1,eD]
   simp only [hw,Int.toNat_natCast,g1,g2]
   rw [if_pos (by rw [decide_eq_true_eq]; omega),hc1,Option.bind_some,if_pos ⟨by omega,by omega,by omega,by omega⟩,hc2,Option.bind_some,M4]
   cases hlt:ltR x z with
   | true =>
     rw [if_pos rfl,if_pos ⟨by omega,by omega,by omega,by omega,by rw [List.length_set]; omega⟩,if_pos rfl]
     have e:=Q7 (K:=K) (x:=x) hK n (z :: S2) T S' k (by omega) (by omega) (by simp only [List.length_cons]; omega)
     rw [show ((S'++z :: x :: (S2++T)).set (S'.length+1) (z.1,z.2)).set S'.length (x.1,x.2)=S'++x :: z :: (S2++T) from TP rfl rfl]
     rw [List.cons_append] at e
     rw [e]
     simp
   | false =>
     rw [if_neg (by simp),if_neg (by simp)]
     simp
theorem Q6 {K:Nat} (hK:100000≤K):∀ (X S:List Rg) (k:Nat),X.length<k→S.length+X.length≤90000→
 AT.l0 K ((S.length+X.length:Nat):Int) 0 k (S++X) (S.length:Int)=some (B6 X S)
 | [],S,k,hk,hl => by
   obtain ⟨k,rfl⟩:∃ m,k=m+1:=⟨k - 1,by omega⟩
   rw [AT.l0,if_neg (by simp),List.append_nil]; rfl
 | x :: X,S,k,hk,hl => by
   obtain ⟨k,rfl⟩:∃ m,k=m+1:=⟨k - 1,by omega⟩
   rw [List.length_cons] at hk hl
   have hw:IntKind.wrap .i64 (((S.length:Nat):Int)+1)=((S.length+1:Nat):Int):=by rw [w64 (by omega) (by omega)]; omega
   have e:=Q7 (K:=K) (x:=x) (by omega) S.length [] X S K rfl (by omega) (by simp only [List.length_nil]; omega)
   rw [List.nil_append] at e
   have e2:=Q6 hK X (CI x S) k (by omega) (by rw [Q8]; omega)
   rw [Q8] at e2
   rw [AT.l0,if_pos (by simp; omega),e,Option.bind_some,hw,List.length_cons,show S.length+(X.length+1)=S.length+1+X.length by omega,e2]
   rfl
theorem cR {K:Nat} {X:List Rg} (hK:100000≤K) (hl:X.length<20):IC K X=some (B6 X []):=by
 obtain ⟨k,rfl⟩:∃ m,K=m+1:=⟨K - 1,by omega⟩
 unfold IC AU AT
 rw [AU.l0,if_neg (by simp; omega),Option.bind_some]
 simp only [show IntKind.wrap .i64 ((0:Int)+1)=1 by decide]
 cases X with
 | nil =>
   rw [AT.l0,if_neg (by simp),Option.bind_some,AU.l1,if_neg (by simp),Option.bind_some]
   rfl
 | cons x X =>
   rw [List.length_cons] at hl
   have e:=Q6 (K:=k+1) hK X [x] (k+1) (by omega) (by simp only [List.length_singleton]; omega)
   simp only [List.length_singleton,List.singleton_append] at e
   rw [show ((1+X.length:Nat):Int)=(((x :: X).length:Nat):Int) by rw [List.length_cons]; omega,show ((1:Nat):Int)=1 from rfl] at e
   rw [e,Option.bind_some,AU.l1,if_neg (by simp; omega),Option.bind_some]
   rfl
def leR (a b:Rg):Prop:=ltR b a=false
theorem YB {a b c:Rg} (h1:leR a b) (h2:leR b c):leR a c:=by
 unfold leR ltR at *
 rw [decide_eq_false_iff_not] at *
 omega
theorem YK {a b:Rg} (h:ltR a b=true):leR a b:=by
 unfold leR ltR at *
 rw [decide_eq_true_eq] at h
 rw [decide_eq_false_iff_not]
 omega
theorem YA {a b:Rg} (h:leR a b):loR a≤loR b:=by
 unfold leR ltR at h
 rw [decide_eq_false_iff_not] at h
 omega
theorem Q9 {x:Rg}:∀ (n:Nat) (S:List Rg),S.length=n→S.Pairwise leR→(CI x S).Pairwise leR
 | 0,S,hn,hs => by
   have:S=[]:=List.eq_nil_of_length_eq_zero hn
   subst this
   exact List.pairwise_singleton _ _
 | n+1,S,hn,hs => by
   obtain ⟨S',z,rfl⟩:=DZ (l:=S) (by intro e; rw [e] at hn; simp at hn)
   rw [List.length_append,List.length_singleton] at hn
   have hs':=List.pairwise_append.1 hs
   rw [M4]
   cases hlt:ltR x z with
   | true =>
     rw [if_pos rfl]
     refine List.pairwise_append.2 ⟨Q9 n S' (by omega) hs'.1,List.pairwise_singleton _ _,fun a ha b hb=>?_⟩
     rw [List.mem_singleton.1 hb]
     rcases List.mem_cons.1 ((M3 x S').mem_iff.1 ha) with rfl | ha
     ·exact YK hlt
     ·exact hs'.2.2 a ha z (by simp)
   | false =>
     rw [if_neg (by simp)]
     refine List.pairwise_append.2 ⟨hs,List.pairwise_singleton _ _,fun a ha b hb=>?_⟩
     rw [List.mem_singleton.1 hb]
     rcases List.mem_append.1 ha with ha | ha
     ·exact YB (hs'.2.2 a ha z (by simp)) hlt
     ·rw [List.mem_singleton.1 ha]; exact hlt
theorem TB:∀ {X S:List Rg},S.Pairwise leR→(B6 X S).Pairwise leR
 | [],S,h => h
 | x :: X,S,h => TB (X := X) (Q9 S.length S rfl h)
def mgR (c x:Rg):Rg:=if c.2<c.1 then (max (hiR x) (hiR c),loR c) else (loR c,max (hiR x) (hiR c))
def DT:Rg→List Rg→List Rg
 | c,[] => [c]
 | c,x :: l => if loR x > hiR c then c :: DT x l else DT (mgR c x) l
def jnR:List Rg→List Rg
 | [] => []
 | x :: l => DT x l
theorem YS {c x:Rg}:loR (mgR c x)=loR c:=by
 have:=HP c
 unfold mgR
 split <;> (unfold loR hiR at *; simp only; omega)
theorem dR {K:Nat} {c x:Rg}:I0 K c.1 c.2 x.1 x.2=some (decide (hiR c≥loR x∧hiR x≥loR c)):=by
 unfold I0 JS
 rw [DJ,Option.bind_some,DJ,Option.bind_some]
 simp only
 by_cases h:hiR c≥loR x
 ·rw [if_pos (by simpa using h),Option.bind_some]; congr 1; rw [decide_eq_decide]; omega
 ·rw [if_neg (by simpa using h),Option.bind_some]; congr 1; symm; rw [decide_eq_false_iff_not]; omega
theorem YR {K:Nat} {c x:Rg} (h:loR c≤loR x):I6 K c.1 c.2 x.1 x.2=some (mgR c x):=by
 unfold I6 JR mgR
 rw [DJ,Option.bind_some,DJ,Option.bind_some]
 simp only [HR,K7,Option.bind_some,decide_eq_true_eq]
 rw [show min (loR c) (loR x)=loR c by omega,Int.max_comm]
 split <;> rfl
theorem M0 {K:Nat} {l:List Rg} (hl:l.length≤10000):∀ (rest:List Rg) (j k:Nat) (O:List Rg) (c:Rg),l.drop j=rest→rest.length<k→O.length+1≤j→(∀ x∈rest,loR c≤loR x)→rest.Pairwise (fun a b=>loR a≤loR b)→
 BZ.l0 K l k (O++[c]) (j:Int)=some (O++DT c rest)
 | [],j,k,O,c,hd,hk,hO,_,_ => by
   obtain ⟨k,rfl⟩:∃ m,k=m+1:=⟨k - 1,by omega⟩
   have:=A6 hd
   rw [BZ.l0,if_neg (by simp; omega)]; rfl
 | x :: rest,j,k,O,c,hd,hk,hO,hc1,hc2 => by
   obtain ⟨k,rfl⟩:∃ m,k=m+1:=⟨k - 1,by omega⟩
   obtain ⟨hj,hx,hd'⟩:=A4 hd rg0
   rw [List.length_cons] at hk
   rw [List.pairwise_cons] at hc2
   have hcx:=hc1 x (by simp)
   have hlx:=HP x
   have hw:IntKind.wrap .i64 ((j:Int)+1)=((j+1:Nat):Int):=by rw [w64 (by omega) (by omega)]; omega
   have hol:(O++[c]).length=O.length+1:=by simp
   have hw2:IntKind.wrap .i64 ((((O++[c]).length:Nat):Int) - 1)=(O.length:Int):=by rw [w64 (by omega) (by omega)]; omega
   have g:(O++[c]).getD O.length rg0=c:=ET rfl
   have hc:(0:Int)≤(O.length:Int)∧(O.length:Int)<(((O++[c]).length:Nat):Int):=by omega
   have st:∀ v:Rg,(O++[c]).set O.length v=O++[v]:=fun v=>FL rfl
   rw [BZ.l0,if_pos (by simp; omega)]
   simp only [hw2,Int.toNat_natCast,hx,hw,dR,YR hcx,Option.bind_some,g,if_pos hc,st]
   rw [if_pos (by omega),if_pos (by rw [decide_eq_true_eq]; omega),Option.bind_some]
   simp only [decide_eq_true_eq]
   rw [DT]
   by_cases h:loR x > hiR c
   ·rw [if_neg (by omega),if_pos h,if_pos (by simp only [List.length_singleton]; omega)]
    have e:=M0 (K:=K) hl rest (j+1) k (O++[c]) x hd' (by omega) (by omega) hc2.1 hc2.2
    rw [e]; simp
   ·rw [if_pos (by omega),if_neg h]
    exact M0 (K:=K) hl rest (j+1) k O (mgR c x) hd' (by omega) (by omega) (fun y hy=>by rw [YS]; exact hc1 y (by simp [hy])) hc2.2
theorem OA {K:Nat} {l:List Rg} (hK:100000≤K) (hl:l.length<20):FJ K l=some (jnR (B6 l [])):=by
 unfold FJ KK
 rw [if_pos (by simp; omega),Option.bind_some,List.nil_append,cR hK hl,Option.bind_some]
 have hlen:(B6 l []).length=l.length:=by rw [KQ.length_eq,List.append_nil]
 have hs:(B6 l []).Pairwise (fun a b=>loR a≤loR b):=(TB (X:=l) List.Pairwise.nil).imp YA
 unfold BZ
 obtain ⟨k,rfl⟩:∃ m,K=m+1:=⟨K - 1,by omega⟩
 cases hS:B6 l [] with
 | nil => rw [BZ.l0,if_neg (by simp)]; rfl
 | cons x S =>
   rw [hS] at hlen hs
   rw [List.length_cons] at hlen
   rw [List.pairwise_cons] at hs
   have e2:=M0 (K:=k+1) (l:=x :: S) (by rw [List.length_cons]; omega) S 1 k [] x rfl (by omega) (by simp) hs.1 hs.2
   rw [List.nil_append,List.nil_append] at e2
   rw [BZ.l0,if_pos (by simp),if_pos (by simp),if_neg (by decide),Option.bind_some,if_neg (by simp)]
   simp only [show Int.toNat 0=0 from rfl,List.getD_cons_zero]
   rw [if_pos (by simp),show IntKind.wrap .i64 ((0:Int)+1)=((1:Nat):Int) by decide]
   rw [show ([]:List Rg)++[(x.1,x.2)]=[x] from rfl,e2]
   rfl
theorem M9:∀ {l:List Rg} {c:Rg},(DT c l).length≤l.length+1
 | [],c => by simp [DT]
 | x :: l,c => by
   rw [DT]
   have h1:=M9 (l:=l) (c:=x)
   have h2:=M9 (l:=l) (c:=mgR c x)
   split
   ·rw [List.length_cons,List.length_cons]; omega
   ·rw [List.length_cons]; omega
theorem QT {l:List Rg}:(jnR l).length≤l.length:=by
 cases l with
 | nil => exact Nat.le_refl _
 | cons x l => exact M9
def inR (n:Int) (x:Rg):Bool:=decide (0≤loR x∧hiR x≤n)
def edR (s:ByteArray) (x:Rg):Bool:=isE s x.1&&isE s x.2
theorem QS {K:Nat} {x:Rg} {n:Int}:G4 K (loR x) (hiR x) n=some (inR n x):=by
 have:=HP x
 unfold G4 inR
 by_cases h:loR x≥0
 ·rw [if_pos (by simpa using h),if_pos (by simpa using this)]; congr 1; rw [decide_eq_decide]; omega
 ·rw [if_neg (by simpa using h)]; congr 1; symm; rw [decide_eq_false_iff_not]; omega
theorem XG {K:Nat} {x:Rg} {s:ByteArray}:I3 K x.1 x.2 s=some (!inR s.size x):=by
 unfold I3 KH
 rw [DJ,Option.bind_some]
 simp only [QS,Option.bind_some]
theorem PC {K:Nat} {l:List Rg} {s:ByteArray} (hl:l.length≤1000000):∀ (rest:List Rg) (j k:Nat),l.drop j=rest→rest.length<k→
 ∃ r,BS.l0 K l s k (j:Int)=some r∧decide (r≥0) = !rest.all (inR s.size)
 | [],j,k,hd,hk => by
   obtain ⟨k,rfl⟩:∃ m,k=m+1:=⟨k - 1,by omega⟩
   have:=A6 hd
   rw [BS.l0,if_neg (by simp; omega)]
   exact ⟨_,rfl,rfl⟩
 | x :: rest,j,k,hd,hk => by
   obtain ⟨k,rfl⟩:∃ m,k=m+1:=⟨k - 1,by omega⟩
   obtain ⟨hj,hx,hd'⟩:=A4 hd rg0
   rw [List.length_cons] at hk
   have hw:IntKind.wrap .i64 ((j:Int)+1)=((j+1:Nat):Int):=by rw [w64 (by omega) (by omega)]; omega
   rw [BS.l0,if_pos (by simp; omega)]
   simp only [Int.toNat_natCast,hx,hw]
   rw [XG,Option.bind_some,if_pos (by omega),List.all_cons]
   cases inR s.size x with
   | true =>
     rw [if_neg (by simp)]
     exact PC  hl rest (j+1) k hd' (by omega)
   | false =>
     rw [if_pos (show (!false)=true from rfl)]
     exact ⟨_,rfl,by rw [decide_eq_true (by omega)]; rfl⟩
theorem LY {K:Nat} {l:List Rg} {s:ByteArray} (hl:l.length≤1000000) (hk:l.length<K):EC K l s=some (l.all (inR s.size)):=by
 unfold EC GL BS
 obtain ⟨r,e1,e2⟩:=PC (K:=K) (l:=l) (s:=s)  hl l 0 K rfl hk
 rw [show ((0:Nat):Int)=0 from rfl] at e1
 rw [e1,Option.bind_some,Option.bind_some,e2,Bool.not_not]
theorem XF {K:Nat} {x:Rg} {s:ByteArray} (hK:s.size+10≤K)  (hs:s.size≤1000000):I4 K x.1 x.2 s=some (!edR s x):=by
 unfold I4 KG
 rw [F2 hK hs,Option.bind_some,F2 hK hs]
 unfold edR
 cases isE s x.1 <;> rfl
theorem PB {K:Nat} {l:List Rg} {s:ByteArray} (hK:s.size+10≤K)  (hs:s.size≤1000000) (hl:l.length≤1000000):∀ (rest:List Rg) (j k:Nat),l.drop j=rest→rest.length<k→
 ∃ r,BR.l0 K l s k (j:Int)=some r∧decide (r≥0) = !rest.all (edR s)
 | [],j,k,hd,hk => by
   obtain ⟨k,rfl⟩:∃ m,k=m+1:=⟨k - 1,by omega⟩
   have:=A6 hd
   rw [BR.l0,if_neg (by simp; omega)]
   exact ⟨_,rfl,rfl⟩
 | x :: rest,j,k,hd,hk => by
   obtain ⟨k,rfl⟩:∃ m,k=m+1:=⟨k - 1,by omega⟩
   obtain ⟨hj,hx,hd'⟩:=A4 hd rg0
   rw [List.length_cons] at hk
   have hw:IntKind.wrap .i64 ((j:Int)+1)=((j+1:Nat):Int):=by rw [w64 (by omega) (by omega)]; omega
   rw [BR.l0,if_pos (by simp; omega)]
   simp only [Int.toNat_natCast,hx,hw]
   rw [XF hK hs,Option.bind_some,if_pos (by omega),List.all_cons]
   cases edR s x with
   | true =>
     rw [if_neg (by simp)]
     exact PB hK hs hl rest (j+1) k hd' (by omega)
   | false =>
     rw [if_pos (show (!false)=true from rfl)]
     exact ⟨_,rfl,by rw [decide_eq_true (by omega)]; rfl⟩
theorem LX {K:Nat} {l:List Rg} {s:ByteArray} (hK:s.size+10≤K)  (hs:s.size≤1000000) (hl:l.length≤1000000) (hk:l.length<K):EB K l s=some (l.all (edR s)):=by
 unfold EB GK BR
 obtain ⟨r,e1,e2⟩:=PB (K:=K) (l:=l) (s:=s) hK hs hl l 0 K rfl hk
 rw [show ((0:Nat):Int)=0 from rfl] at e1
 rw [e1,Option.bind_some,Option.bind_some,e2,Bool.not_not]
theorem XI {K:Nat} {x:Rg} {base:Int} {d:List El}:I1 K x.1 x.2 base d=some (!inR base x):=by
 unfold I1 KE
 rw [DJ,Option.bind_some]
 simp only [QS,Option.bind_some]
theorem PD {K:Nat} {l:List Rg} {base:Int} {d:List El} (hl:l.length≤1000000):∀ (rest:List Rg) (j k:Nat),l.drop j=rest→rest.length<k→
 ∃ r,D6.l0 K l base d k (j:Int)=some r∧decide (r≥0) = !rest.all (inR base)
 | [],j,k,hd,hk => by
   obtain ⟨k,rfl⟩:∃ m,k=m+1:=⟨k - 1,by omega⟩
   have:=A6 hd
   rw [D6.l0,if_neg (by simp; omega)]
   exact ⟨_,rfl,rfl⟩
 | x :: rest,j,k,hd,hk => by
   obtain ⟨k,rfl⟩:∃ m,k=m+1:=⟨k - 1,by omega⟩
   obtain ⟨hj,hx,hd'⟩:=A4 hd rg0
   rw [List.length_cons] at hk
   have hw:IntKind.wrap .i64 ((j:Int)+1)=((j+1:Nat):Int):=by rw [w64 (by omega) (by omega)]; omega
   rw [D6.l0,if_pos (by simp; omega)]
   simp only [Int.toNat_natCast,hx,hw]
   rw [XI,Option.bind_some,if_pos (by omega),List.all_cons]
   cases inR base x with
   | true =>
     rw [if_neg (by simp)]
     exact PD  hl rest (j+1) k hd' (by omega)
   | false =>
     rw [if_pos (show (!false)=true from rfl)]
     exact ⟨_,rfl,by rw [decide_eq_true (by omega)]; rfl⟩
theorem XH {K:Nat} {l:List Rg} {base:Int} {d:List El} (hl:l.length≤1000000) (hk:l.length<K):I5 K l base d=some (l.all (inR base)):=by
 unfold I5 KM D6
 obtain ⟨r,e1,e2⟩:=PD (K:=K) (l:=l) (base:=base) (d:=d)  hl l 0 K rfl hk
 rw [show ((0:Nat):Int)=0 from rfl] at e1
 rw [e1,Option.bind_some,Option.bind_some,e2,Bool.not_not]
def mkR (s:ByteArray) (l:List Rg):List Rg×Int:=
 if l.length=0 then ([],12) else if l.length > 8 then ([],70) else if l.all (inR s.size)=false then ([],10) else if l.all (edR s)=false then ([],11) else (jnR (B6 l []),0)
theorem LE {K:Nat} {l:List Rg}:EA K l=some (if l.length=0 then 12 else if l.length > 8 then 70 else 0):=by
 unfold EA
 by_cases h:l.length=0
 ·rw [if_pos (by rw [beq_iff_eq]; omega),if_pos h]
 ·rw [if_neg (by rw [beq_iff_eq]; omega),if_neg h]
  by_cases h2:l.length > 8
  ·rw [if_pos (by rw [decide_eq_true_eq]; omega),if_pos h2]
  ·rw [if_neg (by rw [decide_eq_true_eq]; omega),if_neg h2]
theorem YN {K:Nat} {l:List Rg} {s:ByteArray} (hK:100000≤K) (hs:s.size≤50000) (hl:l.length≤1000):DW K l s=some (mkR s l):=by
 unfold DW mkR EX EW
 rw [LE,Option.bind_some]
 by_cases h:l.length=0
 ·simp only [if_pos h]; rw [if_pos (by decide)]
 ·simp only [if_neg h]
  by_cases h2:l.length > 8
  ·simp only [if_pos h2]; rw [if_pos (by decide)]
  ·simp only [if_neg h2]
   rw [if_neg (by decide),Option.bind_some,LY (by omega) (by omega),Option.bind_some]
   cases h3:l.all (inR s.size) with
   | false => rfl
   | true =>
     rw [if_neg (by simp),if_neg (by simp),Option.bind_some,LX (by omega) (by omega) (by omega) (by omega),Option.bind_some]
     cases h4:l.all (edR s) with
     | false => rfl
     | true => rw [if_neg (by simp),if_neg (by simp),OA hK (by omega),Option.bind_some]
def goR (base:Int) (d:List El) (x:Rg):Rg:=(mv base d x.1 true,mv base d x.2 true)
def mvR (base:Int) (d:List El) (l:List Rg):List Rg×Int:=
 if isD base d=false∨l.length=0∨l.all (inR base)=false then ([],12) else if l.length > 8 then ([],70) else (jnR (B6 (l.map (goR base d)) []),0)
theorem RD {K:Nat} {l:List Rg} {base:Int} {d:List El} (hK:30000≤K) (hl:l.length≤10000):∀ (rest:List Rg) (j k:Nat) (out:List Rg),l.drop j=rest→rest.length<k→out.length≤j→
 CN.l0 K l base d k out (j:Int)=some (out++rest.map (goR base d))
 | [],j,k,out,hd,hk,ho => by
   obtain ⟨k,rfl⟩:∃ m,k=m+1:=⟨k - 1,by omega⟩
   have:=A6 hd
   rw [CN.l0,if_neg (by simp; omega)]; simp
 | x :: rest,j,k,out,hd,hk,ho => by
   obtain ⟨k,rfl⟩:∃ m,k=m+1:=⟨k - 1,by omega⟩
   obtain ⟨hj,hx,hd'⟩:=A4 hd rg0
   rw [List.length_cons] at hk
   have hw:IntKind.wrap .i64 ((j:Int)+1)=((j+1:Nat):Int):=by rw [w64 (by omega) (by omega)]; omega
   rw [CN.l0,if_pos (by simp; omega),if_pos (by omega)]
   simp only [Int.toNat_natCast,hx,hw,K4 hK,Option.bind_some]
   rw [if_pos (by simp only [List.length_singleton]; omega),RD hK hl rest (j+1) k _ hd' (by omega) (by simp; omega),List.map_cons]
   simp [goR]
theorem Z0 {K:Nat} {l:List Rg} {base:Int} {d:List El} (hK:100000≤K) (hl:l.length≤1000):CN K l base d=some (mvR base d l):=by
 unfold CN mvR
 have e1:=RD (K:=K) (l:=l) (base:=base) (d:=d) (by omega) (by omega) l 0 K [] rfl (by omega) (by simp)
 rw [show ((0:Nat):Int)=0 from rfl,List.nil_append] at e1
 rw [G7 (by omega),Option.bind_some,XH (by omega) (by omega),Option.bind_some,LE]
 cases h1:isD base d with
 | false => rfl
 | true =>
   rw [if_neg (by simp)]
   by_cases h2:l.length=0
   ·rw [if_pos (by rw [beq_iff_eq]; omega),Option.bind_some,if_pos rfl,if_pos (.inr (.inl h2))]
   ·rw [if_neg (by rw [beq_iff_eq]; omega)]
    cases h3:l.all (inR base) with
    | false => rw [Option.bind_some,if_pos (show (!false)=true from rfl),if_pos (.inr (.inr rfl))]
    | true =>
      rw [Option.bind_some,if_neg (show ¬ (!true)=true by simp),Option.bind_some,if_neg h2,if_neg (show ¬ (true=false∨l.length=0∨true=false) from fun h=>by rcases h with h | h | h; cases h; exact h2 h; cases h)]
      by_cases h4:l.length > 8
      ·rw [if_pos h4,if_pos (by decide),if_pos h4]
      ·rw [if_neg h4,if_neg (by decide),if_neg h4,e1,Option.bind_some,OA hK (by rw [List.length_map]; omega),Option.bind_some]
def chR:Rg→List Rg→Bool
 | _,[] => true
 | p,x :: l => decide (hiR p<loR x) && chR x l
def isR (s:ByteArray):List Rg→Bool
 | [] => false
 | x :: r => decide ((x :: r).length ≤ 8) && ((x :: r).all (edR s) && chR x r)
theorem P3 {s:ByteArray} {x:Rg} (h:edR s x=true):inR s.size x=true:=by
 unfold edR isE at h
 unfold inR loR hiR
 simp only [Bool.and_eq_true,decide_eq_true_eq] at h ⊢
 omega
theorem QN {K:Nat} {l:List Rg} (hl:l.length≤100000):∀ (rest:List Rg) (j k:Nat) (p:Rg),l.drop j=rest→rest.length<k→0<j→l.getD (j - 1) rg0=p→
 CM.l0 K l k (j:Int)=some (chR p rest)
 | [],j,k,p,hd,hk,h0,hp => by
   obtain ⟨k,rfl⟩:∃ m,k=m+1:=⟨k - 1,by omega⟩
   have:=A6 hd
   rw [CM.l0,if_neg (by simp; omega)]; rfl
 | x :: rest,j,k,p,hd,hk,h0,hp => by
   obtain ⟨k,rfl⟩:∃ m,k=m+1:=⟨k - 1,by omega⟩
   obtain ⟨hj,hx,hd'⟩:=A4 hd rg0
   rw [List.length_cons] at hk
   have hw:IntKind.wrap .i64 ((j:Int)+1)=((j+1:Nat):Int):=by rw [w64 (by omega) (by omega)]; omega
   have hw2:IntKind.wrap .i64 ((j:Int) - 1)=((j - 1:Nat):Int):=by rw [w64 (by omega) (by omega)]; omega
   rw [CM.l0,if_pos (by simp; omega)]
   simp only [hw,hw2,Int.toNat_natCast,hx,hp,DJ,Option.bind_some]
   rw [if_pos (by omega),QN hl rest (j+1) k x hd' (by omega) (by omega) (by rw [Nat.add_sub_cancel]; exact hx),chR]
   by_cases h:loR x≤hiR p
   ·rw [if_pos (by simpa using h),decide_eq_false (by omega),Bool.false_and]
   ·rw [if_neg (by simpa using h),decide_eq_true (by omega),Bool.true_and]
theorem Y1 {K:Nat} {l:List Rg} {s:ByteArray} (hK:100000≤K) (hs:s.size≤50000) (hl:l.length≤1000):CM K l s=some (isR s l):=by
 unfold CM EX EW
 rw [LY (by omega) (by omega),LX (by omega) (by omega) (by omega) (by omega)]
 cases l with
 | nil => rfl
 | cons x r =>
   rw [if_neg (by rw [decide_eq_true_eq,List.length_cons]; omega)]
   have e:=QN (K:=K) (l:=x :: r) (by omega) r 1 K x rfl (by rw [List.length_cons] at hl; omega) (by omega) rfl
   rw [show ((1:Nat):Int)=1 from rfl] at e
   rw [isR]
   by_cases h:(x :: r).length > 8
   ·rw [if_pos (by rw [decide_eq_true_eq]; omega),Option.bind_some,if_pos rfl,decide_eq_false (by omega),Bool.false_and]
   ·rw [if_neg (by rw [decide_eq_true_eq]; omega),Option.bind_some,Option.bind_some,Option.bind_some,Option.bind_some,decide_eq_true (by omega),Bool.true_and,e]
    cases h2:(x :: r).all (edR s) with
    | true =>
      have h3:(x :: r).all (inR s.size)=true:=List.all_eq_true.2 fun y hy=>P3 (List.all_eq_true.1 h2 y hy)
      rw [h3]; rfl
    | false =>
      cases (x :: r).all (inR s.size) <;> rfl
theorem YY {s:ByteArray} {l:List Rg}:(mkR s l).1.length≤l.length:=by
 unfold mkR
 split
 ·simp
 ·split
  ·simp
  ·split
   ·simp
   ·split
    ·simp
    ·simp only
     have h1:=QT (l:=B6 l [])
     have h2:(B6 l []).length=l.length:=by rw [KQ.length_eq,List.append_nil]
     omega
theorem Z3 {base:Int} {d:List El} {l:List Rg}:(mvR base d l).1.length≤l.length:=by
 unfold mvR
 split
 ·simp
 ·split
  ·simp
  ·simp only
   have h1:=QT (l:=B6 (l.map (goR base d)) [])
   have h2:(B6 (l.map (goR base d)) []).length=l.length:=by rw [KQ.length_eq,List.append_nil,List.length_map]
   omega
def apR:List Rg→Bool
 | [] => true
 | x :: l => chR x l
theorem OJ:∀ {l:List Rg} {p:Rg},chR p l=true→∀ x∈l,hiR p<loR x
 | [],_,_,x,hx => by cases hx
 | y :: l,p,h,x,hx => by
   rw [chR,Bool.and_eq_true,decide_eq_true_eq] at h
   rcases List.mem_cons.1 hx with rfl | hx
   ·exact h.1
   ·have:=OJ h.2 x hx
    have:=HP y
    omega
theorem V8 {l:List Rg} {p:Rg} (h:chR p l=true):apR l=true:=by
 cases l with
 | nil => rfl
 | cons y l => rw [chR,Bool.and_eq_true] at h; exact h.2
theorem TA:∀ {l S:List Rg},apR l=true→(∀ z∈S,∀ x∈l,hiR z<loR x)→B6 l S=S++l
 | [],S,_,_ => by simp [B6]
 | x :: l,S,h,hS => by
   have e:CI x S=S++[x]:=by
    rcases List.eq_nil_or_concat S with rfl | ⟨S',z,rfl⟩
    ·rfl
    ·rw [List.concat_eq_append,M4,if_neg]
     have h1:=hS z (by simp) x (by simp)
     have h2:=HP z
     unfold ltR
     rw [decide_eq_true_eq]; omega
   show B6 l (CI x S)=_
   rw [e,TA (V8 h) fun z hz y hy=>?_,List.append_assoc]
   ·rfl
   ·rcases List.mem_append.1 hz with hz | hz
    ·exact hS z hz y (by simp [hy])
    ·rw [List.mem_singleton.1 hz]; exact OJ h y hy
theorem QU:∀ {l:List Rg} {c:Rg},chR c l=true→DT c l=c :: l
 | [],_,_ => rfl
 | x :: l,c,h => by
   rw [chR,Bool.and_eq_true,decide_eq_true_eq] at h
   rw [DT,if_pos (by omega),QU h.2]
theorem YM {l:List Rg} (h:apR l=true):jnR (B6 l [])=l:=by
 rw [TA h (fun z hz=>by cases hz),List.nil_append]
 cases l with
 | nil => rfl
 | cons x l => exact QU h
theorem UB {s:ByteArray} {p:Int} (h:usz s p≠0):¬ A0 (bt s p):=by
 intro hc
 unfold A0 at hc
 refine h ?_
 unfold usz AL
 split
 ·rfl
 ·rw [if_neg (by omega),if_neg (by omega),if_neg (by omega),if_neg (by omega)]
theorem S0 {s:ByteArray} {p:Int} (hp:p=s.size∨¬ A0 (bt s p)) (h1:p≤s.size):∀ (m:Nat) (a:Int),A3 s m a=true→0≤a→a≤p→(s.size:Int) - a≤m→∃ m',A3 s m' p=true∧(s.size:Int) - p≤m'
 | 0,a,h,h0,ha,hm => ⟨0,rfl,by omega⟩
 | m+1,a,h,h0,ha,hm => by
   by_cases e:a=p
   ·exact ⟨m+1,e▸h,by omega⟩
   ·have hlt:a<s.size:=by omega
    have hu:=CC (s:=s) (a:=a)
    have hu3:=hu.2.2 h0 hlt
    rw [A3,if_pos hlt] at h
    by_cases hz:usz s a=0
    ·rw [if_pos hz] at h; cases h
    ·rw [if_neg hz] at h
     by_cases c:a+usz s a≤p
     ·exact S0 hp h1 m _ h (by omega) c (by omega)
     ·exfalso
      have hc:=NR (s:=s) (i:=a.toNat) (j:=p.toNat) (by omega) (by rw [show ((a.toNat:Nat):Int)=a by omega]; omega)
      rw [show ((p.toNat:Nat):Int)=p by omega] at hc
      rcases hp with hp | hp
      ·omega
      ·exact hp hc
theorem d9 {s:ByteArray} {p:Int} (h:isE s p=true):isE s (p+usz s p)=true∧(p<s.size→usz s p≠0):=by
 obtain ⟨h0,h1,hv,hc⟩:=G6 h
 obtain ⟨m,m1,m2⟩:=S0 hc h1 s.size 0 hv (Int.le_refl 0) h0 (by omega)
 by_cases e:p<s.size
 ·obtain ⟨m,rfl⟩:∃ k,m=k+1:=⟨m - 1,by omega⟩
  rw [A3,if_pos e] at m1
  have hz:usz s p≠0:=fun hz=>by rw [if_pos hz] at m1; cases m1
  rw [if_neg hz] at m1
  have hu:=CC (s:=s) (a:=p)
  have hu3:=hu.2.2 h0 e
  refine ⟨M6 hv (by omega) hu3 ?_,fun _=>hz⟩
  by_cases e2:p+usz s p=s.size
  ·exact .inl e2
  ·right
   obtain ⟨m,rfl⟩:∃ k,m=k+1:=⟨m - 1,by omega⟩
   rw [A3,if_pos (by omega)] at m1
   exact UB fun hz'=>by rw [if_pos hz'] at m1; cases m1
 ·have hz:usz s p=0:=by unfold usz; rw [if_pos (by omega)]
  rw [hz]
  exact ⟨by rw [Int.add_zero]; exact h,fun h'=>(e h').elim⟩
theorem PM {s:ByteArray} (hv:A8 s=true) (h:0<s.size):¬ A0 (bt s 0):=by
 have:isE s 0=true:=by
  by_cases hc:A0 (bt s 0)
  ·exfalso
   unfold A8 at hv
   obtain ⟨m,hm⟩:∃ k,s.size=k+1:=⟨s.size - 1,by omega⟩
   rw [hm,A3,if_pos (by omega)] at hv
   have hz:usz s 0≠0:=fun hz=>by rw [if_pos hz] at hv; cases hv
   exact UB hz hc
  ·exact M6 hv (Int.le_refl 0) (by omega) (.inr hc)
 rcases (G6 this).2.2.2 with e | e
 ·omega
 ·exact e
def bcF (s:ByteArray):Nat→Nat
 | 0 => 0
 | k+1 => if A0 (bt s ((k+1:Nat):Int)) then bcF s k else k+1
theorem OE {s:ByteArray}:∀ {k:Nat},bcF s k≤k∧(bcF s k=0∨¬ A0 (bt s (bcF s k:Int)))∧∀ j,bcF s k<j→j≤k→A0 (bt s (j:Int))
 | 0 => ⟨Nat.le_refl 0,.inl rfl,fun j h1 h2 => by omega⟩
 | k+1 => by
   obtain ⟨h1,h2,h3⟩:=OE (s:=s) (k:=k)
   rw [bcF]
   by_cases c:A0 (bt s ((k+1:Nat):Int))
   ·rw [if_pos c]
    refine ⟨by omega,h2,fun j j1 j2=>?_⟩
    by_cases e:j=k+1
    ·rw [e]; exact c
    ·exact h3 j j1 (by omega)
   ·rw [if_neg c]
    exact ⟨Nat.le_refl _,.inr c,fun j j1 j2=>by omega⟩
def bkP (s:ByteArray) (p:Int):Int:=if 1≤p∧isE s p=true then (bcF s (p - 1).toNat:Int) else p
theorem U6 {K:Nat} {s:ByteArray} (h0:¬ A0 (bt s 0)) (hs:s.size≤100000):∀ (j k:Nat),j<s.size→j<k→CY.l0 K s k (j:Int)=some (bcF s j:Int)
 | 0,k,hj,hk => by
   obtain ⟨k,rfl⟩:∃ m,k=m+1:=⟨k - 1,by omega⟩
   have hb:=AF (s:=s) (i:=(0:Nat))
   have:=F7 hb.1 hb.2
   rw [CY.l0,if_pos (by omega),if_neg]
   ·rfl
   ·intro e
    rw [beq_iff_eq] at e
    rw [e] at this
    rw [bne_self_eq_false] at this
    rw [decide_eq_false (show ¬ A0 (bt s ((0:Nat):Int)) from h0)] at this
    cases this
 | j+1,k,hj,hk => by
   obtain ⟨k,rfl⟩:∃ m,k=m+1:=⟨k - 1,by omega⟩
   have hb:=AF (s:=s) (i:=((j+1:Nat):Int))
   have h192:=F7 hb.1 hb.2
   have hw:IntKind.wrap .i64 (((j+1:Nat):Int) - 1)=(j:Int):=by rw [w64 (by omega) (by omega)]; omega
   rw [CY.l0,if_pos (by omega),hw,bcF]
   by_cases c:A0 (bt s ((j+1:Nat):Int))
   ·rw [if_pos c,if_pos,U6 h0 hs j k (by omega) (by omega)]
    rw [decide_eq_true c] at h192
    simpa using h192
   ·rw [if_neg c,if_neg]
    rw [decide_eq_false c] at h192
    intro e
    rw [beq_iff_eq] at e
    rw [e,bne_self_eq_false] at h192
    cases h192
theorem eK {K:Nat} {s:ByteArray} {p:Int} (hs:s.size≤100000) (hK:s.size+10≤K):CY K s p=some (bkP s p):=by
 unfold CY bkP
 rw [F2 hK (by omega)]
 by_cases h:p<1
 ·rw [if_pos (by simpa using h),Option.bind_some,if_pos rfl,if_neg (by omega)]
 ·rw [if_neg (by simpa using h),Option.bind_some,Option.bind_some]
  cases he:isE s p with
  | false => rw [if_pos (show (!false)=true from rfl),if_neg (by simp)]
  | true =>
    obtain ⟨e0,e1,e2,-⟩:=G6 he
    have e:=U6 (K:=K) (PM e2 (by omega)) hs (p - 1).toNat K (by omega) (by omega)
    rw [if_neg (by simp),if_pos ⟨by omega,rfl⟩,w64 (n:=p - 1) (by omega) (by omega),← e]
    congr 1; omega
def tyC (t:ByteArray) (x:Rg):El:=(loR x,(hiR x,t))
theorem U5 {K:Nat} {l:List Rg} {t:ByteArray} (hl:l.length≤10000):∀ (rest:List Rg) (j n:Nat) (out:List El),l.drop j=rest→rest.length<n→out.length≤j→
 BX.l0 K l t n out (j:Int)=some (out++rest.map (tyC t))
 | [],j,n,out,hd,hn,ho => by
   obtain ⟨n,rfl⟩:∃ m,n=m+1:=⟨n - 1,by omega⟩
   have:=A6 hd
   rw [BX.l0,if_neg (by simp; omega)]; simp
 | x :: rest,j,n,out,hd,hn,ho => by
   obtain ⟨n,rfl⟩:∃ m,n=m+1:=⟨n - 1,by omega⟩
   obtain ⟨hj,hx,hd'⟩:=A4 hd rg0
   rw [List.length_cons] at hn
   have hw:IntKind.wrap .i64 ((j:Int)+1)=((j+1:Nat):Int):=by rw [w64 (by omega) (by omega)]; omega
   rw [BX.l0,if_pos (by simp; omega),if_pos (by omega)]
   simp only [Int.toNat_natCast,hx,hw,DJ,Option.bind_some]
   rw [if_pos (by simp only [List.length_singleton]; omega),U5 hl rest (j+1) n _ hd' (by omega) (by simp; omega),List.map_cons]
   simp [tyC]
theorem eH {K:Nat} {l:List Rg} {t:ByteArray} (hl:l.length≤10000) (hK:l.length<K):BX K l t=some (l.map (tyC t)):=by
 have e:=U5 (K:=K) (t:=t) hl l 0 K [] rfl hK (by simp)
 rw [List.nil_append] at e
 exact e
def frC (s:ByteArray) (e:Int) (x:Rg):Int:=max (if loR x=hiR x then bkP s (loR x) else loR x) e
def erC (s:ByteArray):Int→List Rg→List El
 | _,[] => []
 | e,x :: l => if frC s e x ≥ hiR x then erC s e l else (frC s e x,(hiR x,ByteArray.empty)) :: erC s (hiR x) l
theorem LT {s:ByteArray}:∀ {l:List Rg} {e:Int},(erC s e l).length≤l.length
 | [],_ => Nat.le_refl 0
 | x :: l,e => by
   have h1:=LT (s:=s) (l:=l) (e:=e)
   have h2:=LT (s:=s) (l:=l) (e:=hiR x)
   rw [erC]
   split
   ·rw [List.length_cons]; omega
   ·rw [List.length_cons,List.length_cons]; omega
end Go.Pal
