/- A style stays on the text that it was put on, however much is typed ahead of it. -/
import Derived.Test.YtidbfmbocikkgaaGreatFunWholeStyles
namespace Go.Pal
open Go
set_option linter.unusedVariables false
set_option linter.unusedSimpArgs false
set_option linter.unnecessarySimpa false
theorem w64 {n:Int} (h1 : -9223372036854775808≤n) (h2:n<9223372036854775808):IntKind.wrap .i64 n=n:=by
 simp only [IntKind.wrap,IntKind.bits,IntKind.signed]
 simp
 omega
theorem A7 {α:Type} {l:List α} {j:Nat} {g:α} {r:List α} (h:l.drop j=g :: r) (d:α):j<l.length∧l.getD j d=g∧l.drop (j+1)=r:=by
 have hj:j<l.length:=by
  rcases Nat.lt_or_ge j l.length with h' | h'
  ·exact h'
  ·rw [List.drop_eq_nil_of_le h'] at h; cases h
 rw [List.drop_eq_getElem_cons hj] at h
 obtain ⟨h1,h2⟩:=List.cons.inj h
 exact ⟨hj,by simp [List.getD,hj,h1],h2⟩
theorem AA {α:Type} {l:List α} {j:Nat} (h:l.drop j=[]):l.length≤j:=List.drop_eq_nil_iff.1 h
theorem BH {P:Int→Prop} (h:∀ m:Fin 256,P ((m.val:Nat):Int)) {c:Int} (h0:0≤c) (h1:c≤255):P c:=by
 have:=h ⟨c.toNat,by omega⟩
 simpa [Int.toNat_of_nonneg h0] using this
theorem AE {s:ByteArray} {i:Int}:0≤bt s i∧bt s i≤255:=by
 unfold bt
 have:=(s[i.toNat]?.getD 0).toNat_lt
 omega
def A0 (b:Int):Prop:=128≤b∧b<192
instance (b:Int):Decidable (A0 b):=inferInstanceAs (Decidable (_∧_))
theorem FO {b:Int} (h0:0≤b) (h1:b≤255):(IntKind.wrap .u8 (BitVec.toNat (BitVec.ofInt (IntKind.bits .u8) b&&& BitVec.ofInt (IntKind.bits .u8) (192:Int))) !=(128:Int)) = !decide (A0 b):=
 BH (P:=fun b=>(IntKind.wrap .u8 (BitVec.toNat (BitVec.ofInt (IntKind.bits .u8) b&&& BitVec.ofInt (IntKind.bits .u8) (192:Int))) !=(128:Int)) = !decide (A0 b)) (by decide +kernel) h0 h1
theorem TP {b:Int} (h0:0≤b) (h1:b≤255):IntKind.wrap .u8 (BitVec.toNat (BitVec.ofInt (IntKind.bits .u8) b&&& ~~~BitVec.ofInt (IntKind.bits .u8) (192:Int)))=b % 64:=
 BH (P:=fun b=>IntKind.wrap .u8 (BitVec.toNat (BitVec.ofInt (IntKind.bits .u8) b&&& ~~~BitVec.ofInt (IntKind.bits .u8) (192:Int)))=b % 64) (by decide +kernel) h0 h1
theorem TO {b:Int} (h0:0≤b) (h1:b≤255):IntKind.wrap .u8 (BitVec.toNat (BitVec.ofInt (IntKind.bits .u8) b&&& ~~~BitVec.ofInt (IntKind.bits .u8) (128:Int)))=b % 128:=
 BH (P:=fun b=>IntKind.wrap .u8 (BitVec.toNat (BitVec.ofInt (IntKind.bits .u8) b&&& ~~~BitVec.ofInt (IntKind.bits .u8) (128:Int)))=b % 128) (by decide +kernel) h0 h1
theorem TQ {b:Int} (h0:0≤b) (h1:b≤255):IntKind.wrap .u8 (BitVec.toNat (BitVec.ofInt (IntKind.bits .u8) b&&& ~~~BitVec.ofInt (IntKind.bits .u8) (224:Int)))=b % 32:=
 BH (P:=fun b=>IntKind.wrap .u8 (BitVec.toNat (BitVec.ofInt (IntKind.bits .u8) b&&& ~~~BitVec.ofInt (IntKind.bits .u8) (224:Int)))=b % 32) (by decide +kernel) h0 h1
theorem TR {b:Int} (h0:0≤b) (h1:b≤255):IntKind.wrap .u8 (BitVec.toNat (BitVec.ofInt (IntKind.bits .u8) b&&& ~~~BitVec.ofInt (IntKind.bits .u8) (240:Int)))=b % 16:=
 BH (P:=fun b=>IntKind.wrap .u8 (BitVec.toNat (BitVec.ofInt (IntKind.bits .u8) b&&& ~~~BitVec.ofInt (IntKind.bits .u8) (240:Int)))=b % 16) (by decide +kernel) h0 h1
theorem TS {b:Int} (h0:0≤b) (h1:b≤255):IntKind.wrap .u8 (BitVec.toNat (BitVec.ofInt (IntKind.bits .u8) b&&& ~~~BitVec.ofInt (IntKind.bits .u8) (248:Int)))=b % 8:=
 BH (P:=fun b=>IntKind.wrap .u8 (BitVec.toNat (BitVec.ofInt (IntKind.bits .u8) b&&& ~~~BitVec.ofInt (IntKind.bits .u8) (248:Int)))=b % 8) (by decide +kernel) h0 h1
theorem SW {b:Int} (h0:0≤b) (h1:b≤255):(IntKind.wrap .u8 (BitVec.toNat (BitVec.ofInt (IntKind.bits .u8) b&&& BitVec.ofInt (IntKind.bits .u8) (128:Int)))==(0:Int))=decide (b<128):=
 BH (P:=fun b=>(IntKind.wrap .u8 (BitVec.toNat (BitVec.ofInt (IntKind.bits .u8) b&&& BitVec.ofInt (IntKind.bits .u8) (128:Int)))==(0:Int))=decide (b<128)) (by decide +kernel) h0 h1
theorem SX {b:Int} (h0:0≤b) (h1:b≤255):(IntKind.wrap .u8 (BitVec.toNat (BitVec.ofInt (IntKind.bits .u8) b&&& BitVec.ofInt (IntKind.bits .u8) (224:Int)))==(192:Int))=decide (192≤b∧b<224):=
 BH (P:=fun b=>(IntKind.wrap .u8 (BitVec.toNat (BitVec.ofInt (IntKind.bits .u8) b&&& BitVec.ofInt (IntKind.bits .u8) (224:Int)))==(192:Int))=decide (192≤b∧b<224)) (by decide +kernel) h0 h1
theorem SY {b:Int} (h0:0≤b) (h1:b≤255):(IntKind.wrap .u8 (BitVec.toNat (BitVec.ofInt (IntKind.bits .u8) b&&& BitVec.ofInt (IntKind.bits .u8) (240:Int)))==(224:Int))=decide (224≤b∧b<240):=
 BH (P:=fun b=>(IntKind.wrap .u8 (BitVec.toNat (BitVec.ofInt (IntKind.bits .u8) b&&& BitVec.ofInt (IntKind.bits .u8) (240:Int)))==(224:Int))=decide (224≤b∧b<240)) (by decide +kernel) h0 h1
theorem SZ {b:Int} (h0:0≤b) (h1:b≤255):(IntKind.wrap .u8 (BitVec.toNat (BitVec.ofInt (IntKind.bits .u8) b&&& BitVec.ofInt (IntKind.bits .u8) (248:Int)))==(240:Int))=decide (240≤b∧b<248):=
 BH (P:=fun b=>(IntKind.wrap .u8 (BitVec.toNat (BitVec.ofInt (IntKind.bits .u8) b&&& BitVec.ofInt (IntKind.bits .u8) (248:Int)))==(240:Int))=decide (240≤b∧b<248)) (by decide +kernel) h0 h1
theorem PP {b:Int} (h0:0≤b) (h1:b≤255):IntKind.wrap .i64 (BitVec.toNat (BitVec.ofInt (IntKind.bits .i64) b&&& BitVec.ofInt (IntKind.bits .i64) (63:Int)))=b % 64:=
 BH (P:=fun b=>IntKind.wrap .i64 (BitVec.toNat (BitVec.ofInt (IntKind.bits .i64) b&&& BitVec.ofInt (IntKind.bits .i64) (63:Int)))=b % 64) (by decide +kernel) h0 h1
theorem PO {b:Int} (h0:0≤b) (h1:b≤255):IntKind.wrap .i64 (BitVec.toNat (BitVec.ofInt (IntKind.bits .i64) b&&& BitVec.ofInt (IntKind.bits .i64) (31:Int)))=b % 32:=
 BH (P:=fun b=>IntKind.wrap .i64 (BitVec.toNat (BitVec.ofInt (IntKind.bits .i64) b&&& BitVec.ofInt (IntKind.bits .i64) (31:Int)))=b % 32) (by decide +kernel) h0 h1
theorem PN {b:Int} (h0:0≤b) (h1:b≤255):IntKind.wrap .i64 (BitVec.toNat (BitVec.ofInt (IntKind.bits .i64) b&&& BitVec.ofInt (IntKind.bits .i64) (15:Int)))=b % 16:=
 BH (P:=fun b=>IntKind.wrap .i64 (BitVec.toNat (BitVec.ofInt (IntKind.bits .i64) b&&& BitVec.ofInt (IntKind.bits .i64) (15:Int)))=b % 16) (by decide +kernel) h0 h1
theorem PQ {b:Int} (h0:0≤b) (h1:b≤255):IntKind.wrap .i64 (BitVec.toNat (BitVec.ofInt (IntKind.bits .i64) b&&& BitVec.ofInt (IntKind.bits .i64) (7:Int)))=b % 8:=
 BH (P:=fun b=>IntKind.wrap .i64 (BitVec.toNat (BitVec.ofInt (IntKind.bits .i64) b&&& BitVec.ofInt (IntKind.bits .i64) (7:Int)))=b % 8) (by decide +kernel) h0 h1
theorem M3 {b:Int} (h0:0≤b) (h1:b≤255):(Int.fdiv b 64 !=2) = !decide (A0 b):=
 BH (P:=fun b=>(Int.fdiv b 64 !=2) = !decide (A0 b)) (by decide +kernel) h0 h1
theorem NE {r x:Nat} (hx:x<64):(r * 64)||| x=r * 64+x:=by
 have:=Nat.two_pow_add_eq_or_of_lt (i:=6) hx r
 rw [Nat.mul_comm] at this
 exact this.symm
theorem w32 {n:Int} (h1 : -2147483648≤n) (h2:n<2147483648):IntKind.wrap .i32 n=n:=by
 simp only [IntKind.wrap,IntKind.bits,IntKind.signed]
 simp
 omega
theorem TX {r x:Int} (h0:0≤r) (h1:r<1048576) (h2:0≤x) (h3:x<64):IntKind.wrap .i32 (BitVec.toNat (BitVec.ofInt (IntKind.bits .i32) (IntKind.wrap .i32 (r * (64:Int)))||| BitVec.ofInt (IntKind.bits .i32) (IntKind.wrap .i32 x)))=r * 64+x:=by
 rw [w32 (n:=r * 64) (by omega) (by omega),w32 (n:=x) (by omega) (by omega)]
 obtain ⟨a,rfl⟩:∃ a:Nat,r=a:=⟨r.toNat,by omega⟩
 obtain ⟨b,rfl⟩:∃ b:Nat,x=b:=⟨x.toNat,by omega⟩
 have e1:(BitVec.ofInt (IntKind.bits .i32) ((a:Int) * 64)||| BitVec.ofInt (IntKind.bits .i32) (b:Int)).toNat=a * 64+b:=by
  rw [BitVec.toNat_or,BitVec.toNat_ofInt,BitVec.toNat_ofInt]
  have h4:((a:Int) * 64 % ((2 ^ IntKind.bits .i32:Nat):Int)).toNat=a * 64:=by
   have:IntKind.bits .i32=32:=rfl
   rw [this]; omega
  have h5:((b:Int) % ((2 ^ IntKind.bits .i32:Nat):Int)).toNat=b:=by
   have:IntKind.bits .i32=32:=rfl
   rw [this]; omega
  rw [h4,h5,NE (by omega)]
 rw [e1,w32 (by omega) (by omega)]
 omega
theorem TY {r x:Int} (h0:0≤r) (h1:r<1048576) (h2:0≤x) (h3:x<64):IntKind.wrap .i64 (BitVec.toNat (BitVec.ofInt (IntKind.bits .i64) (IntKind.wrap .i64 (r * (64:Int)))||| BitVec.ofInt (IntKind.bits .i64) x))=r * 64+x:=by
 rw [w64 (n:=r * 64) (by omega) (by omega)]
 obtain ⟨a,rfl⟩:∃ a:Nat,r=a:=⟨r.toNat,by omega⟩
 obtain ⟨b,rfl⟩:∃ b:Nat,x=b:=⟨x.toNat,by omega⟩
 have e1:(BitVec.ofInt (IntKind.bits .i64) ((a:Int) * 64)||| BitVec.ofInt (IntKind.bits .i64) (b:Int)).toNat=a * 64+b:=by
  rw [BitVec.toNat_or,BitVec.toNat_ofInt,BitVec.toNat_ofInt]
  have h4:((a:Int) * 64 % ((2 ^ IntKind.bits .i64:Nat):Int)).toNat=a * 64:=by
   have:IntKind.bits .i64=64:=rfl
   rw [this]; omega
  have h5:((b:Int) % ((2 ^ IntKind.bits .i64:Nat):Int)).toNat=b:=by
   have:IntKind.bits .i64=64:=rfl
   rw [this]; omega
  rw [h4,h5,NE (by omega)]
 rw [e1,w64 (by omega) (by omega)]
 omega
def AG (n c d e f:Int):Int:=
 if c<128 then 1
 else if 192≤c∧c<224 then (if 2≤n∧A0 d∧128≤c % 32 * 64+d % 64 then 2 else 0)
 else if 224≤c∧c<240 then (if 3≤n∧A0 d∧A0 e∧2048≤(c % 16 * 64+d % 64) * 64+e % 64∧¬ (55296≤(c % 16 * 64+d % 64) * 64+e % 64∧(c % 16 * 64+d % 64) * 64+e % 64<57344) then 3 else 0)
 else if 240≤c∧c<248 then (if 4≤n∧A0 d∧A0 e∧A0 f∧65536≤((c % 8 * 64+d % 64) * 64+e % 64) * 64+f % 64∧((c % 8 * 64+d % 64) * 64+e % 64) * 64+f % 64≤1114111 then 4 else 0)
 else 0
theorem HZ {K:Nat} {s:ByteArray} {a:Int} {n r i:Int} {k:Nat} (h:¬ i<n):AI.l0 K n a s (k+1) r i=some (.inr r):=by
 rw [AI.l0,if_neg (by simpa using h)]
theorem EW {K:Nat} {s:ByteArray} {a:Int} (h0:0≤a) (hs:(s.size:Int)≤1000000000000) {n r i:Int} {k:Nat} (h:i<n) (hi:0≤i) (hr:a+i<s.size) (hc:¬ A0 (bt s (a+i))):AI.l0 K n a s (k+1) r i=some (.inl (0,0)):=by
 rw [AI.l0,w64 (n:=a+i) (by omega) (by omega),if_pos (by simpa using h),if_pos ⟨by omega,by omega⟩,FO AE.1 AE.2,if_pos (by simpa using hc)]
theorem EX {K:Nat} {s:ByteArray} {a:Int} (h0:0≤a) (hs:(s.size:Int)≤1000000000000) {n r i:Int} {k:Nat} (h:i<n) (hi:0≤i) (hr:a+i<s.size) (hc:A0 (bt s (a+i))) (r0:0≤r) (r1:r<1048576):AI.l0 K n a s (k+1) r i=AI.l0 K n a s k (r * 64+bt s (a+i) % 64) (i+1):=by
 have hb:=AE (s:=s) (i:=a+i)
 rw [AI.l0,w64 (n:=a+i) (by omega) (by omega),if_pos (by simpa using h),if_pos ⟨by omega,by omega⟩,FO hb.1 hb.2,if_neg (by simpa using hc),TP hb.1 hb.2,TX r0 r1 (by omega) (by omega),w64 (n:=i+1) (by omega) (by omega)]
theorem FA {K:Nat} {s:ByteArray} {a:Int} (h0:0≤a) (hs:(s.size:Int)≤1000000000000) {n r i:Int} {k:Nat} (h:i<n) (hi:0≤i) (hr:a+i<s.size) (hc:¬ A0 (bt s (a+i))):AK.l0 K n a s (k+1) r i=some (.inl 0):=by
 have hb:=AE (s:=s) (i:=a+i)
 rw [AK.l0,w64 (n:=a+i) (by omega) (by omega),if_pos (by simpa using h),if_pos ⟨by omega,by omega⟩,w64 (n:=bt s (a+i)) (by omega) (by omega),M3 hb.1 hb.2,if_pos (by simpa using hc)]
theorem KC {K:Nat} {s:ByteArray} {a:Int} {n r i:Int} {k:Nat} (h:¬ i<n):AK.l0 K n a s (k+1) r i=some (.inr r):=by
 rw [AK.l0,if_neg (by simpa using h)]
theorem FB {K:Nat} {s:ByteArray} {a:Int} (h0:0≤a) (hs:(s.size:Int)≤1000000000000) {n r i:Int} {k:Nat} (h:i<n) (hi:0≤i) (hr:a+i<s.size) (hc:A0 (bt s (a+i))) (r0:0≤r) (r1:r<1048576):AK.l0 K n a s (k+1) r i=AK.l0 K n a s k (r * 64+bt s (a+i) % 64) (i+1):=by
 have hb:=AE (s:=s) (i:=a+i)
 rw [AK.l0,w64 (n:=a+i) (by omega) (by omega),if_pos (by simpa using h),if_pos ⟨by omega,by omega⟩,w64 (n:=bt s (a+i)) (by omega) (by omega),M3 hb.1 hb.2,if_neg (by simpa using hc),PP hb.1 hb.2,TY r0 r1 (by omega) (by omega),w64 (n:=i+1) (by omega) (by omega)]
def usz (s:ByteArray) (a:Int):Int:=if a<0∨a≥s.size then 0 else AG (s.size - a) (bt s a) (bt s (a+1)) (bt s (a+2)) (bt s (a+3))
theorem X5 {n c d e f:Int} (hn:1≤n):0≤AG n c d e f∧AG n c d e f≤4∧AG n c d e f≤n:=by
 unfold AG
 split
 ·omega
 ·split
  ·split <;> omega
  ·split
   ·split <;> omega
   ·split
    ·split <;> omega
    ·omega
theorem BL {s:ByteArray} {a:Int}:0≤usz s a∧usz s a≤4∧(0≤a→a<s.size→a+usz s a≤s.size):=by
 unfold usz
 split
 ·rename_i h; exact ⟨by omega,by omega,fun h1 h2=>by omega⟩
 ·have:=X5 (n:=s.size - a) (c:=bt s a) (d:=bt s (a+1)) (e:=bt s (a+2)) (f:=bt s (a+3)) (by omega)
  exact ⟨by omega,by omega,fun h1 h2=>by omega⟩
theorem U7 {K:Nat} {r:Int} (h0:0≤r):EF K r=some (decide (r≤1114111∧¬ (55296≤r∧r<57344))):=by
 unfold EF
 rw [if_pos (by simpa using h0)]
 by_cases h1:r≤1114111
 ·rw [if_pos (by simpa using h1)]
  by_cases h2:r<55296
  ·rw [if_pos (by simpa using h2)]
   congr 1; symm; simp; omega
  ·rw [if_neg (by simpa using h2)]
   congr 1
   by_cases h3:r > 57343
   ·simp [h3]; omega
   ·simp [h3]; omega
 ·rw [if_neg (by simpa using h1)]
  congr 1; symm; simp; omega
def C1 (n v least:Int):Int×Int:=if least≤v∧v≤1114111∧¬ (55296≤v∧v<57344) then (v,n) else (0,0)
theorem I0 {K:Nat} {n v least:Int} (h0:0≤v):((if decide (v<least)=true then some true else (EF K v).bind fun r_28=>some (!r_28)).bind fun z_39=>if z_39=true then some ((0:Int),(0:Int)) else some (v,n))=some (C1 n v least):=by
 unfold C1
 rw [U7 h0]
 by_cases h1:v<least
 ·rw [if_pos (by simpa using h1),Option.bind_some,if_pos rfl,if_neg (by omega)]
 ·rw [if_neg (by simpa using h1),Option.bind_some,Option.bind_some]
  by_cases h2:v≤1114111∧¬ (55296≤v∧v<57344)
  ·rw [if_neg (by simp; omega),if_pos (by omega)]
  ·rw [if_pos (by simp; omega),if_neg (by omega)]
theorem T4 {K:Nat} {s:ByteArray} {a:Int} (hK:10≤K) (h0:0≤a) (hs:(s.size:Int)≤1000000000000) (ha:a<s.size) (hc:bt s a<128):AI K s a 1 128 0 0=some (bt s a,1):=by
 obtain ⟨k,rfl⟩:∃ k,K=k+5:=⟨K - 5,by omega⟩
 have hb:=AE (s:=s) (i:=a)
 unfold AI
 rw [w64 (by omega) (by omega),if_neg (by simp; omega),if_pos ⟨h0,ha⟩,TO hb.1 hb.2,w32 (by omega) (by omega),HZ (by omega),Option.bind_some]
 simp only [Sum.elim_inr]
 rw [I0 (by omega)]
 unfold C1
 rw [if_pos (by omega)]
 congr 2
 omega
theorem T5 {K:Nat} {s:ByteArray} {a:Int} (hK:10≤K) (h0:0≤a) (hs:(s.size:Int)≤1000000000000) (ha:a<s.size):AI K s a 2 224 192 128 =
 some (if 2≤(s.size:Int) - a∧A0 (bt s (a+1)) then C1 2 (bt s a % 32 * 64+bt s (a+1) % 64) 128 else (0,0)):=by
 obtain ⟨k,rfl⟩:∃ k,K=k+5:=⟨K - 5,by omega⟩
 have hb:=AE (s:=s) (i:=a)
 have hb1:=AE (s:=s) (i:=a+1)
 unfold AI
 rw [w64 (by omega) (by omega)]
 by_cases hn:(s.size:Int) - a<2
 ·rw [if_pos (by simpa using hn),if_neg (by omega)]
 ·rw [if_neg (by simpa using hn),if_pos ⟨h0,ha⟩,TQ hb.1 hb.2,w32 (by omega) (by omega)]
  by_cases c1:A0 (bt s (a+1))
  ·rw [EX h0 hs (by omega) (by omega) (by omega) c1 (by omega) (by omega),HZ (by omega),Option.bind_some]
   simp only [Sum.elim_inr]
   rw [I0 (by omega),if_pos ⟨by omega,c1⟩]
  ·rw [EW h0 hs (by omega) (by omega) (by omega) c1,Option.bind_some,if_neg (fun h=>c1 h.2)]
   rfl
theorem T6 {K:Nat} {s:ByteArray} {a:Int} (hK:10≤K) (h0:0≤a) (hs:(s.size:Int)≤1000000000000) (ha:a<s.size):AI K s a 3 240 224 2048 =
 some (if 3≤(s.size:Int) - a∧A0 (bt s (a+1))∧A0 (bt s (a+2)) then C1 3 ((bt s a % 16 * 64+bt s (a+1) % 64) * 64+bt s (a+2) % 64) 2048 else (0,0)):=by
 obtain ⟨k,rfl⟩:∃ k,K=k+5:=⟨K - 5,by omega⟩
 have hb:=AE (s:=s) (i:=a)
 have hb1:=AE (s:=s) (i:=a+1)
 have hb2:=AE (s:=s) (i:=a+2)
 unfold AI
 rw [w64 (by omega) (by omega)]
 by_cases hn:(s.size:Int) - a<3
 ·rw [if_pos (by simpa using hn),if_neg (by omega)]
 ·rw [if_neg (by simpa using hn),if_pos ⟨h0,ha⟩,TR hb.1 hb.2,w32 (by omega) (by omega)]
  by_cases c1:A0 (bt s (a+1))
  ·rw [EX h0 hs (by omega) (by omega) (by omega) c1 (by omega) (by omega)]
   by_cases c2:A0 (bt s (a+2))
   ·rw [show (1:Int)+1=2 from rfl,EX h0 hs (by omega) (by omega) (by omega) c2 (by omega) (by omega),HZ (by omega),Option.bind_some]
    simp only [Sum.elim_inr]
    rw [I0 (by omega),if_pos ⟨by omega,c1,c2⟩]
   ·rw [show (1:Int)+1=2 from rfl,EW h0 hs (by omega) (by omega) (by omega) c2,Option.bind_some,if_neg (fun h=>c2 h.2.2)]
    rfl
  ·rw [EW h0 hs (by omega) (by omega) (by omega) c1,Option.bind_some,if_neg (fun h=>c1 h.2.1)]
   rfl
theorem T7 {K k:Nat} {s:ByteArray} {a:Int} (h0:0≤a) (hs:(s.size:Int)≤1000000000000) (hn:¬ (s.size:Int) - a<4):AI.l0 K 4 a s (k+4) (bt s a % 8) 1 =
 some (if A0 (bt s (a+1))∧A0 (bt s (a+2))∧A0 (bt s (a+3)) then .inr (((bt s a % 8 * 64+bt s (a+1) % 64) * 64+bt s (a+2) % 64) * 64+bt s (a+3) % 64) else .inl (0,0)):=by
 have hb:=AE (s:=s) (i:=a)
 have hb1:=AE (s:=s) (i:=a+1)
 have hb2:=AE (s:=s) (i:=a+2)
 have hb3:=AE (s:=s) (i:=a+3)
 have r1:0≤bt s a % 8∧bt s a % 8<8:=by omega
 have r2:0≤bt s (a+1) % 64∧bt s (a+1) % 64<64:=by omega
 have r3:0≤bt s (a+2) % 64∧bt s (a+2) % 64<64:=by omega
 by_cases c1:A0 (bt s (a+1))
 ·have g1:=EX (K:=K) h0 hs (n:=4) (r:=bt s a % 8) (i:=1) (k:=k+3) (by omega) (by omega) (by omega) c1 (by omega) (by omega)
  rw [g1,show (1:Int)+1=2 from rfl]
  by_cases c2:A0 (bt s (a+2))
  ·have g2:=EX (K:=K) h0 hs (n:=4) (r:=bt s a % 8 * 64+bt s (a+1) % 64) (i:=2) (k:=k+2) (by omega) (by omega) (by omega) c2 (by omega) (by omega)
   rw [g2,show (2:Int)+1=3 from rfl]
   by_cases c3:A0 (bt s (a+3))
   ·have g3:=EX (K:=K) h0 hs (n:=4) (r:=(bt s a % 8 * 64+bt s (a+1) % 64) * 64+bt s (a+2) % 64) (i:=3) (k:=k+1) (by omega) (by omega) (by omega) c3 (by omega) (by omega)
    rw [g3,HZ (by omega),if_pos ⟨c1,c2,c3⟩]
   ·have g3:=EW (K:=K) h0 hs (n:=4) (r:=(bt s a % 8 * 64+bt s (a+1) % 64) * 64+bt s (a+2) % 64) (i:=3) (k:=k+1) (by omega) (by omega) (by omega) c3
    rw [g3,if_neg (fun h=>c3 h.2.2)]
  ·have g2:=EW (K:=K) h0 hs (n:=4) (r:=bt s a % 8 * 64+bt s (a+1) % 64) (i:=2) (k:=k+2) (by omega) (by omega) (by omega) c2
   rw [g2,if_neg (fun h=>c2 h.2.1)]
 ·have g1:=EW (K:=K) h0 hs (n:=4) (r:=bt s a % 8) (i:=1) (k:=k+3) (by omega) (by omega) (by omega) c1
  rw [g1,if_neg (fun h=>c1 h.1)]
theorem T8 {K:Nat} {s:ByteArray} {a least:Int} (hK:10≤K) (h0:0≤a) (hs:(s.size:Int)≤1000000000000) (ha:a<s.size):AI K s a 4 248 240 least =
 some (if 4≤(s.size:Int) - a∧A0 (bt s (a+1))∧A0 (bt s (a+2))∧A0 (bt s (a+3)) then C1 4 (((bt s a % 8 * 64+bt s (a+1) % 64) * 64+bt s (a+2) % 64) * 64+bt s (a+3) % 64) least else (0,0)):=by
 obtain ⟨k,rfl⟩:∃ k,K=k+4:=⟨K - 4,by omega⟩
 have hb:=AE (s:=s) (i:=a)
 have r0:0≤bt s a % 8∧bt s a % 8<8:=by omega
 have r1:0≤bt s (a+1) % 64:=by omega
 have r2:0≤bt s (a+2) % 64:=by omega
 have r3:0≤bt s (a+3) % 64:=by omega
 unfold AI
 rw [w64 (n:=(s.size:Int) - a) (by omega) (by omega)]
 by_cases hn:(s.size:Int) - a<4
 ·rw [if_pos (by simpa using hn),if_neg (by omega)]
 ·rw [if_neg (by simpa using hn),if_pos ⟨h0,ha⟩,TS hb.1 hb.2,w32 (n:=bt s a % 8) (by omega) (by omega),T7 h0 hs hn]
  by_cases c:A0 (bt s (a+1))∧A0 (bt s (a+2))∧A0 (bt s (a+3))
  ·rw [if_pos c,Option.bind_some,if_pos ⟨by omega,c⟩]
   simp only [Sum.elim_inr]
   generalize bt s a % 8=x0 at *
   generalize bt s (a+1) % 64=x1 at *
   generalize bt s (a+2) % 64=x2 at *
   generalize bt s (a+3) % 64=x3 at *
   rw [I0 (by omega)]
  ·rw [if_neg c,Option.bind_some,if_neg (fun h=>c h.2)]
   simp only [Sum.elim_inl]
def upt (s:ByteArray) (a:Int):Int×Int:=
 if a<0∨a≥s.size then (0,0)
 else if bt s a<128 then (bt s a,1)
 else if 192≤bt s a∧bt s a<224 then (if 2≤(s.size:Int) - a∧A0 (bt s (a+1)) then C1 2 (bt s a % 32 * 64+bt s (a+1) % 64) 128 else (0,0))
 else if 224≤bt s a∧bt s a<240 then (if 3≤(s.size:Int) - a∧A0 (bt s (a+1))∧A0 (bt s (a+2)) then C1 3 ((bt s a % 16 * 64+bt s (a+1) % 64) * 64+bt s (a+2) % 64) 2048 else (0,0))
 else if 240≤bt s a∧bt s a<248 then (if 4≤(s.size:Int) - a∧A0 (bt s (a+1))∧A0 (bt s (a+2))∧A0 (bt s (a+3)) then C1 4 (((bt s a % 8 * 64+bt s (a+1) % 64) * 64+bt s (a+2) % 64) * 64+bt s (a+3) % 64) 65536 else (0,0))
 else (0,0)
theorem IF {n v least:Int}:(C1 n v least).2=if least≤v∧v≤1114111∧¬ (55296≤v∧v<57344) then n else 0:=by
 unfold C1; split <;> rfl
theorem P8 {s:ByteArray} {a:Int}:(upt s a).2=usz s a:=by
 unfold upt usz AG
 have hb:=AE (s:=s) (i:=a)
 have hb1:=AE (s:=s) (i:=a+1)
 have hb2:=AE (s:=s) (i:=a+2)
 have hb3:=AE (s:=s) (i:=a+3)
 by_cases h:a<0∨a≥s.size
 ·rw [if_pos h,if_pos h]
 ·rw [if_neg h,if_neg h]
  by_cases h1:bt s a<128
  ·rw [if_pos h1,if_pos h1]
  ·rw [if_neg h1,if_neg h1]
   by_cases h2:192≤bt s a∧bt s a<224
   ·rw [if_pos h2,if_pos h2]
    by_cases c:2≤(s.size:Int) - a∧A0 (bt s (a+1))
    ·rw [if_pos c,IF]
     congr 1
     apply propext
     constructor
     ·intro h; exact ⟨c.1,c.2,h.1⟩
     ·intro h; exact ⟨h.2.2,by omega,by omega⟩
    ·rw [if_neg c,if_neg (fun h=>c ⟨h.1,h.2.1⟩)]
   ·rw [if_neg h2,if_neg h2]
    by_cases h3:224≤bt s a∧bt s a<240
    ·rw [if_pos h3,if_pos h3]
     by_cases c:3≤(s.size:Int) - a∧A0 (bt s (a+1))∧A0 (bt s (a+2))
     ·rw [if_pos c,IF]
      congr 1
      apply propext
      constructor
      ·intro h; exact ⟨c.1,c.2.1,c.2.2,h.1,h.2.2⟩
      ·intro h; exact ⟨h.2.2.2.1,by omega,h.2.2.2.2⟩
     ·rw [if_neg c,if_neg (fun h=>c ⟨h.1,h.2.1,h.2.2.1⟩)]
    ·rw [if_neg h3,if_neg h3]
     by_cases h4:240≤bt s a∧bt s a<248
     ·rw [if_pos h4,if_pos h4]
      by_cases c:4≤(s.size:Int) - a∧A0 (bt s (a+1))∧A0 (bt s (a+2))∧A0 (bt s (a+3))
      ·rw [if_pos c,IF]
       congr 1
       apply propext
       constructor
       ·intro h; exact ⟨c.1,c.2.1,c.2.2.1,c.2.2.2,h.1,h.2.1⟩
       ·intro h; exact ⟨h.2.2.2.2.1,h.2.2.2.2.2,by omega⟩
      ·rw [if_neg c,if_neg (fun h=>c ⟨h.1,h.2.1,h.2.2.1,h.2.2.2.1⟩)]
     ·rw [if_neg h4,if_neg h4]
theorem X0 {K:Nat} {s:ByteArray} {a:Int} (hK:10≤K) (hs:(s.size:Int)≤1000000000000):CD K s a=some (upt s a):=by
 obtain ⟨k,hk⟩:∃ k,K=k+5:=⟨K - 5,by omega⟩
 have hb:=AE (s:=s) (i:=a)
 unfold CD upt
 by_cases h:a<0∨a≥s.size
 ·have:(if decide (a<0)=true then some true else some (decide (a≥((s.size:Nat):Int))))=some true:=by
   by_cases h1:a<0
   ·rw [if_pos (by simpa using h1)]
   ·rw [if_neg (by simpa using h1)]; simp; omega
  rw [this,Option.bind_some,if_pos rfl,if_pos h]
 ·have:(if decide (a<0)=true then some true else some (decide (a≥((s.size:Nat):Int))))=some false:=by
   rw [if_neg (by simp; omega)]; simp; omega
  rw [this,Option.bind_some,if_neg (by simp),if_neg h]
  unfold IL
  rw [Option.bind_some]
  have hin:0≤a∧a<((s.size:Nat):Int):=⟨by omega,by omega⟩
  have hw0:IntKind.wrap .i64 ((0:Int)+1)=1:=by decide
  have hw1:IntKind.wrap .i64 ((1:Int)+1)=2:=by decide
  have hw2:IntKind.wrap .i64 ((2:Int)+1)=3:=by decide
  have hw3:IntKind.wrap .i64 ((3:Int)+1)=4:=by decide
  rw [hk]
  simp only [CD.l0,if_pos hin,hw0,hw1,hw2,hw3]
  simp only [show ((0:Int)).toNat=0 from rfl,show ((1:Int)).toNat=1 from rfl,show ((2:Int)).toNat=2 from rfl,show ((3:Int)).toNat=3 from rfl,List.getD_cons_zero,List.getD_cons_succ,SW hb.1 hb.2,SX hb.1 hb.2,SY hb.1 hb.2,SZ hb.1 hb.2]
  rw [← hk]
  simp only [decide_eq_true_eq]
  by_cases h1:bt s a<128
  ·rw [if_pos (by omega),if_pos (by omega),if_pos h1,if_pos h1,T4 hK (by omega) hs (by omega) h1]; rfl
  ·rw [if_pos (by omega),if_pos (by omega),if_neg h1,if_neg h1,if_pos (by omega),if_pos (by omega)]
   by_cases h2:192≤bt s a∧bt s a<224
   ·rw [if_pos h2,if_pos h2,T5 hK (by omega) hs (by omega)]; rfl
   ·rw [if_neg h2,if_neg h2,if_pos (by omega),if_pos (by omega)]
    by_cases h3:224≤bt s a∧bt s a<240
    ·rw [if_pos h3,if_pos h3,T6 hK (by omega) hs (by omega)]; rfl
    ·rw [if_neg h3,if_neg h3,if_pos (by omega),if_pos (by omega)]
     by_cases h4:240≤bt s a∧bt s a<248
     ·rw [if_pos h4,if_pos h4,T8 hK (by omega) hs (by omega)]; rfl
     ·rw [if_neg h4,if_neg h4,if_neg (by omega)]
theorem X1 {K:Nat} {s:ByteArray} {a:Int} (hK:10≤K) (hs:(s.size:Int)≤1000000000000):GU K s a=some (usz s a):=by
 unfold GU
 rw [X0 hK hs,Option.bind_some,P8]
theorem VB {n v least:Int}:((if decide (v<least)=true then some true else if decide (v > 1114111)=true then some true else if decide (v≥55296)=true then some (decide (v<57344)) else some false).bind fun z_76=>if z_76=true then some (0:Int) else some n)=some (C1 n v least).2:=by
 rw [IF]
 by_cases h1:v<least
 ·rw [if_pos (by simpa using h1),Option.bind_some,if_pos rfl,if_neg (by omega)]
 ·rw [if_neg (by simpa using h1)]
  by_cases h2:v > 1114111
  ·rw [if_pos (by simpa using h2),Option.bind_some,if_pos rfl,if_neg (by omega)]
  ·rw [if_neg (by simpa using h2)]
   by_cases h3:v≥55296
   ·rw [if_pos (by simpa using h3),Option.bind_some]
    by_cases h4:v<57344
    ·rw [if_pos (by simpa using h4),if_neg (by omega)]
    ·rw [if_neg (by simpa using h4),if_pos (by omega)]
   ·rw [if_neg (by simpa using h3),Option.bind_some,if_neg (by simp),if_pos (by omega)]
theorem V7 {K k:Nat} {s:ByteArray} {a r:Int} (h0:0≤a) (hs:(s.size:Int)≤1000000000000) (hn:¬ (s.size:Int) - a<2) (hr:0≤r∧r<64):AK.l0 K 2 a s (k+4) r 1 =
 some (if A0 (bt s (a+1)) then .inr (r * 64+bt s (a+1) % 64) else .inl 0):=by
 by_cases c1:A0 (bt s (a+1))
 ·have g1:=FB (K:=K) h0 hs (n:=2) (r:=r) (i:=1) (k:=k+3) (by omega) (by omega) (by omega) c1 (by omega) (by omega)
  rw [g1,KC (by omega),if_pos c1]
 ·have g1:=FA (K:=K) h0 hs (n:=2) (r:=r) (i:=1) (k:=k+3) (by omega) (by omega) (by omega) c1
  rw [g1,if_neg c1]
theorem V8 {K k:Nat} {s:ByteArray} {a r:Int} (h0:0≤a) (hs:(s.size:Int)≤1000000000000) (hn:¬ (s.size:Int) - a<3) (hr:0≤r∧r<64):AK.l0 K 3 a s (k+4) r 1 =
 some (if A0 (bt s (a+1))∧A0 (bt s (a+2)) then .inr ((r * 64+bt s (a+1) % 64) * 64+bt s (a+2) % 64) else .inl 0):=by
 have r2:0≤bt s (a+1) % 64∧bt s (a+1) % 64<64:=by omega
 by_cases c1:A0 (bt s (a+1))
 ·have g1:=FB (K:=K) h0 hs (n:=3) (r:=r) (i:=1) (k:=k+3) (by omega) (by omega) (by omega) c1 (by omega) (by omega)
  rw [g1,show (1:Int)+1=2 from rfl]
  by_cases c2:A0 (bt s (a+2))
  ·have g2:=FB (K:=K) h0 hs (n:=3) (r:=r * 64+bt s (a+1) % 64) (i:=2) (k:=k+2) (by omega) (by omega) (by omega) c2 (by omega) (by omega)
   rw [g2,KC (by omega),if_pos ⟨c1,c2⟩]
  ·have g2:=FA (K:=K) h0 hs (n:=3) (r:=r * 64+bt s (a+1) % 64) (i:=2) (k:=k+2) (by omega) (by omega) (by omega) c2
   rw [g2,if_neg (fun h=>c2 h.2)]
 ·have g1:=FA (K:=K) h0 hs (n:=3) (r:=r) (i:=1) (k:=k+3) (by omega) (by omega) (by omega) c1
  rw [g1,if_neg (fun h=>c1 h.1)]
theorem V9 {K k:Nat} {s:ByteArray} {a r:Int} (h0:0≤a) (hs:(s.size:Int)≤1000000000000) (hn:¬ (s.size:Int) - a<4) (hr:0≤r∧r<64):AK.l0 K 4 a s (k+4) r 1 =
 some (if A0 (bt s (a+1))∧A0 (bt s (a+2))∧A0 (bt s (a+3)) then .inr (((r * 64+bt s (a+1) % 64) * 64+bt s (a+2) % 64) * 64+bt s (a+3) % 64) else .inl 0):=by
 have r2:0≤bt s (a+1) % 64∧bt s (a+1) % 64<64:=by omega
 have r3:0≤bt s (a+2) % 64∧bt s (a+2) % 64<64:=by omega
 by_cases c1:A0 (bt s (a+1))
 ·have g1:=FB (K:=K) h0 hs (n:=4) (r:=r) (i:=1) (k:=k+3) (by omega) (by omega) (by omega) c1 (by omega) (by omega)
  rw [g1,show (1:Int)+1=2 from rfl]
  by_cases c2:A0 (bt s (a+2))
  ·have g2:=FB (K:=K) h0 hs (n:=4) (r:=r * 64+bt s (a+1) % 64) (i:=2) (k:=k+2) (by omega) (by omega) (by omega) c2 (by omega) (by omega)
   rw [g2,show (2:Int)+1=3 from rfl]
   by_cases c3:A0 (bt s (a+3))
   ·have g3:=FB (K:=K) h0 hs (n:=4) (r:=(r * 64+bt s (a+1) % 64) * 64+bt s (a+2) % 64) (i:=3) (k:=k+1) (by omega) (by omega) (by omega) c3 (by omega) (by omega)
    rw [g3,KC (by omega),if_pos ⟨c1,c2,c3⟩]
   ·have g3:=FA (K:=K) h0 hs (n:=4) (r:=(r * 64+bt s (a+1) % 64) * 64+bt s (a+2) % 64) (i:=3) (k:=k+1) (by omega) (by omega) (by omega) c3
    rw [g3,if_neg (fun h=>c3 h.2.2)]
  ·have g2:=FA (K:=K) h0 hs (n:=4) (r:=r * 64+bt s (a+1) % 64) (i:=2) (k:=k+2) (by omega) (by omega) (by omega) c2
   rw [g2,if_neg (fun h=>c2 h.2.1)]
 ·have g1:=FA (K:=K) h0 hs (n:=4) (r:=r) (i:=1) (k:=k+3) (by omega) (by omega) (by omega) c1
  rw [g1,if_neg (fun h=>c1 h.1)]
theorem KD {n r least:Int} {K:Nat} {s:ByteArray} {a:Int} {C:Prop} [Decidable C] {v:Int} (hw:IntKind.wrap .i64 ((s.size:Int) - a)=(s.size:Int) - a) (hg:¬ (s.size:Int) - a<n→AK.l0 K n a s K r 1=some (if C then .inr v else .inl 0)) :
 (if decide (IntKind.wrap .i64 ((((ByteArray.size s):Nat):Int) - a)<n)=true then some (0:Int) else (AK.l0 K n a s K r 1).bind (Sum.elim (fun z_74=>some z_74) (fun z_75=>(if (decide (z_75<least))=true then some true else if (decide (z_75 > (1114111:Int)))=true then some true else if (decide (z_75≥(55296:Int)))=true then some (decide (z_75<(57344:Int))) else some false).bind (fun z_76=>if z_76=true then some (0:Int) else some n)))) =
  some (if n≤(s.size:Int) - a∧C then C1 n v least else (0,0)).2:=by
 rw [hw]
 by_cases h:(s.size:Int) - a<n
 ·rw [if_pos (by simpa using h),if_neg (fun h'=>by omega)]
 ·rw [if_neg (by simpa using h),hg h]
  by_cases c:C
  ·rw [if_pos c,Option.bind_some,if_pos ⟨by omega,c⟩]
   simp only [Sum.elim_inr]
   rw [VB]
  ·rw [if_neg c,Option.bind_some,if_neg (fun h'=>c h'.2)]
   simp only [Sum.elim_inl]
theorem V4 {K:Nat} {s:ByteArray} {a:Int} (hK:10≤K) (hs:(s.size:Int)≤1000000000000):AK K s a=some (usz s a):=by
 obtain ⟨k,hk⟩:∃ k,K=k+4:=⟨K - 4,by omega⟩
 have hb:=AE (s:=s) (i:=a)
 rw [← P8]
 unfold AK upt
 by_cases h:a<0∨a≥s.size
 ·have:(if decide (a<0)=true then some true else some (decide (a≥((s.size:Nat):Int))))=some true:=by
   by_cases h1:a<0
   ·rw [if_pos (by simpa using h1)]
   ·rw [if_neg (by simpa using h1)]; simp; omega
  rw [this,Option.bind_some,if_pos rfl,if_pos h]
 ·have:(if decide (a<0)=true then some true else some (decide (a≥((s.size:Nat):Int))))=some false:=by
   rw [if_neg (by simp; omega)]; simp; omega
  have hw:IntKind.wrap .i64 ((s.size:Int) - a)=(s.size:Int) - a:=w64 (by omega) (by omega)
  have e2:=KD (least:=128) (K:=K) (s:=s) (a:=a) (n:=2) (r:=bt s a % 32) hw (fun hn=>by rw [hk]; exact V7 (by omega) hs hn (by omega))
  have e3:=KD (least:=2048) (K:=K) (s:=s) (a:=a) (n:=3) (r:=bt s a % 16) hw (fun hn=>by rw [hk]; exact V8 (by omega) hs hn (by omega))
  have e4:=KD (least:=65536) (K:=K) (s:=s) (a:=a) (n:=4) (r:=bt s a % 8) hw (fun hn=>by rw [hk]; exact V9 (by omega) hs hn (by omega))
  rw [this,Option.bind_some,if_neg (by simp),if_neg h,if_pos ⟨by omega,by omega⟩,w64 (n:=bt s a) (by omega) (by omega),PO hb.1 hb.2,PN hb.1 hb.2,PQ hb.1 hb.2]
  by_cases h1:bt s a<128
  ·rw [if_pos (by simpa using h1),if_pos h1]
  ·rw [if_neg (by simpa using h1),if_neg h1]
   by_cases h2:192≤bt s a∧bt s a<224
   ·rw [if_pos (by simp; omega),Option.bind_some,if_pos (by simp; omega),Option.bind_some,if_pos h2]
    simp only [Sum.elim_inr]
    exact e2
   ·have c2:(if decide (bt s a≥192)=true then some (decide (bt s a<224)) else some false)=some false:=by
     by_cases g:bt s a≥192
     ·rw [if_pos (by simpa using g)]; simp; omega
     ·rw [if_neg (by simpa using g)]
    rw [c2,Option.bind_some,if_neg (by simp),if_neg h2]
    by_cases h3:224≤bt s a∧bt s a<240
    ·rw [if_pos (by simp; omega),Option.bind_some,if_pos (by simp; omega),Option.bind_some,if_pos h3]
     simp only [Sum.elim_inr]
     exact e3
    ·have c3:(if decide (bt s a≥224)=true then some (decide (bt s a<240)) else some false)=some false:=by
      by_cases g:bt s a≥224
      ·rw [if_pos (by simpa using g)]; simp; omega
      ·rw [if_neg (by simpa using g)]
     rw [c3,Option.bind_some,if_neg (by simp),if_neg h3]
     by_cases h4:240≤bt s a∧bt s a<248
     ·rw [if_pos (by simp; omega),Option.bind_some,if_pos (by simp; omega),Option.bind_some,if_pos h4]
      simp only [Sum.elim_inr]
      exact e4
     ·have c4:(if decide (bt s a≥240)=true then some (decide (bt s a<248)) else some false)=some false:=by
       by_cases g:bt s a≥240
       ·rw [if_pos (by simpa using g)]; simp; omega
       ·rw [if_neg (by simpa using g)]
      rw [c4,Option.bind_some,if_neg (by simp),if_neg h4,Option.bind_some]
      simp only [Sum.elim_inl]
def A3 (s:ByteArray):Nat→Int→Bool
 | 0,_ => true
 | m+1,a => if a<s.size then (if usz s a=0 then false else A3 s m (a+usz s a)) else true
def A1 (s:ByteArray):Bool:=A3 s s.size 0
theorem XK {K:Nat} {s:ByteArray} (hK:10≤K) (hs:(s.size:Int)≤1000000000000):∀ (d k m:Nat) (a:Int),0≤a→(s.size:Int) - a≤d→a≤s.size→d<k→d≤m→AR.l0 K s k a=some (A3 s m a):=by
 intro d
 induction d with
 | zero =>
   intro k m a h0 h1 h2 hk hm
   obtain ⟨k,rfl⟩:∃ l,k=l+1:=⟨k - 1,by omega⟩
   rw [AR.l0,if_neg (by simp; omega)]
   cases m with
   | zero => rfl
   | succ m => rw [A3,if_neg (by omega)]
 | succ d ih =>
   intro k m a h0 h1 h2 hk hm
   obtain ⟨k,rfl⟩:∃ l,k=l+1:=⟨k - 1,by omega⟩
   obtain ⟨m,rfl⟩:∃ l,m=l+1:=⟨m - 1,by omega⟩
   have hu:=BL (s:=s) (a:=a)
   rw [AR.l0,A3]
   by_cases h:a<s.size
   ·have hu3:=hu.2.2 h0 h
    rw [if_pos (by simpa using h),if_pos h,X1 hK hs,Option.bind_some]
    by_cases hz:usz s a=0
    ·rw [if_pos (by simpa using hz),if_pos hz]
    ·rw [if_neg (by simpa using hz),if_neg hz,w64 (by omega) (by omega)]
     exact ih k m _ (by omega) (by omega) (by omega) (by omega) (by omega)
   ·rw [if_neg (by simpa using h),if_neg h]
theorem GV {K:Nat} {s:ByteArray} (hK:s.size+10≤K) (hs:(s.size:Int)≤1000000000000):AR K s=some (A1 s):=by
 unfold AR A1
 exact XK (by omega) hs s.size K s.size 0 (by omega) (by omega) (by omega) (by omega) (by omega)
theorem V6 {K:Nat} {s:ByteArray} (hK:10≤K) (hs:(s.size:Int)≤1000000000000):∀ (d k m:Nat) (a:Int),0≤a→(s.size:Int) - a≤d→a≤s.size→d<k→d≤m→BX.l0 K s k a=some (A3 s m a):=by
 intro d
 induction d with
 | zero =>
   intro k m a h0 h1 h2 hk hm
   obtain ⟨k,rfl⟩:∃ l,k=l+1:=⟨k - 1,by omega⟩
   rw [BX.l0,if_neg (by simp; omega)]
   cases m with
   | zero => rfl
   | succ m => rw [A3,if_neg (by omega)]
 | succ d ih =>
   intro k m a h0 h1 h2 hk hm
   obtain ⟨k,rfl⟩:∃ l,k=l+1:=⟨k - 1,by omega⟩
   obtain ⟨m,rfl⟩:∃ l,m=l+1:=⟨m - 1,by omega⟩
   have hu:=BL (s:=s) (a:=a)
   rw [BX.l0,A3]
   by_cases h:a<s.size
   ·have hu3:=hu.2.2 h0 h
    rw [if_pos (by simpa using h),if_pos h,V4 hK hs,Option.bind_some]
    by_cases hz:usz s a=0
    ·rw [if_pos (by simpa using hz),if_pos hz]
    ·rw [if_neg (by simpa using hz),if_neg hz,w64 (by omega) (by omega)]
     exact ih k m _ (by omega) (by omega) (by omega) (by omega) (by omega)
   ·rw [if_neg (by simpa using h),if_neg h]
theorem V5 {K:Nat} {s:ByteArray} (hK:s.size+10≤K) (hs:(s.size:Int)≤1000000000000):BX K s=some (A1 s):=by
 unfold BX A1
 exact V6 (by omega) hs s.size K s.size 0 (by omega) (by omega) (by omega) (by omega) (by omega)
theorem CZ {s:ByteArray} (i:Nat):bt s (i:Int)=((s.get! i).toNat:Int):=by
 unfold bt
 rw [Int.toNat_natCast]
 by_cases h:i<s.size
 ·rw [getElem?_pos s i h,Option.getD_some]
  congr 2
  show s.data[i]=s.data[i]!
  rw [getElem!_pos s.data i h]
 ·rw [getElem?_neg s i h,Option.getD_none]
  show ((0:UInt8).toNat:Int)=((s.data[i]!).toNat:Int)
  rw [getElem!_neg s.data i h]; rfl
theorem HL {c:Nat} (hc:c≤1114111∧¬ (55296≤c∧c<57344)):(Utf8.encode (c:Int)).size=if c<128 then 1 else if c<2048 then 2 else if c<65536 then 3 else 4:=by
 have hv:Utf8.valid (c:Int)=true:=by
  unfold Utf8.valid
  simp only [Bool.or_eq_true,Bool.and_eq_true,decide_eq_true_eq]; omega
 unfold Utf8.encode
 simp only [hv,if_true,Int.toNat_natCast]
 by_cases h1:c<128
 ·rw [if_pos h1,if_pos h1]; rfl
 ·rw [if_neg h1,if_neg h1]
  by_cases h2:c<2048
  ·rw [if_pos h2,if_pos h2]; rfl
  ·rw [if_neg h2,if_neg h2]
   by_cases h3:c<65536
   ·rw [if_pos h3,if_pos h3]; rfl
   ·rw [if_neg h3,if_neg h3]; rfl
theorem SP {s:ByteArray} {i:Nat}:(s.get! i).toNat<256:=(s.get! i).toNat_lt
def dcd (n t b0 b1 b2 b3:Nat):Nat×Nat:=
 if b0<128 then (b0,1)
 else if b0 / 32==6&&(decide (t+1<n)&&b1 / 64==2) then
  (if b0 % 32 * 64+b1 % 64≥128 then (b0 % 32 * 64+b1 % 64,2) else (65533,1))
 else if b0 / 16==14&&(decide (t+1<n)&&b1 / 64==2)&&(decide (t+2<n)&&b2 / 64==2) then
  (if decide (b0 % 16 * 4096+b1 % 64 * 64+b2 % 64≥2048)&&Utf8.valid (b0 % 16 * 4096+b1 % 64 * 64+b2 % 64:Nat) then (b0 % 16 * 4096+b1 % 64 * 64+b2 % 64,3) else (65533,1))
 else if b0 / 8==30&&(decide (t+1<n)&&b1 / 64==2)&&(decide (t+2<n)&&b2 / 64==2)&&(decide (t+3<n)&&b3 / 64==2) then
  (if decide (b0 % 8 * 262144+b1 % 64 * 4096+b2 % 64 * 64+b3 % 64≥65536)&&Utf8.valid (b0 % 8 * 262144+b1 % 64 * 4096+b2 % 64 * 64+b3 % 64:Nat) then (b0 % 8 * 262144+b1 % 64 * 4096+b2 % 64 * 64+b3 % 64,4) else (65533,1))
 else (65533,1)
theorem M2 {s:ByteArray} {t:Nat}:Utf8.decode s t=dcd s.size t (s.get! t).toNat (s.get! (t+1)).toNat (s.get! (t+2)).toNat (s.get! (t+3)).toNat:=rfl
theorem QW {n t b0 b1 b2 b3:Nat} (ht:t<n) (h0:b0<256) (hz:AG ((n:Int) - t) b0 b1 b2 b3≠0) :
 ∃ c z:Nat,dcd n t b0 b1 b2 b3=(c,z)∧AG ((n:Int) - t) b0 b1 b2 b3=z∧(Utf8.encode (c:Int)).size=z∧(c=10↔b0=10):=by
 unfold AG A0 at *
 unfold dcd
 by_cases h1:b0<128
 ·rw [if_pos h1,if_pos (show (b0:Int)<128 by omega)]
  refine ⟨b0,1,rfl,rfl,?_,Iff.rfl⟩
  rw [HL (by omega),if_pos h1]
 rw [if_neg (show ¬ (b0:Int)<128 by omega)] at hz ⊢
 rw [if_neg h1]
 by_cases h2:192≤b0∧b0<224
 ·rw [if_pos (show (192:Int)≤b0∧(b0:Int)<224 by omega)] at hz ⊢
  by_cases c:2≤(n:Int) - t∧((128:Int)≤b1∧(b1:Int)<192)∧(128:Int)≤b0 % 32 * 64+b1 % 64
  ·rw [if_pos c,if_pos (by simp; omega),if_pos (by omega)]
   refine ⟨_,2,rfl,rfl,?_,by omega⟩
   rw [HL (by omega),if_neg (by omega),if_pos (by omega)]
  ·rw [if_neg c] at hz; exact (hz rfl).elim
 rw [if_neg (show ¬ ((192:Int)≤b0∧(b0:Int)<224) by omega)] at hz ⊢
 rw [if_neg (by simp; omega)]
 by_cases h3:224≤b0∧b0<240
 ·rw [if_pos (show (224:Int)≤b0∧(b0:Int)<240 by omega)] at hz ⊢
  by_cases c:3≤(n:Int) - t∧((128:Int)≤b1∧(b1:Int)<192)∧((128:Int)≤b2∧(b2:Int)<192)∧(2048:Int)≤(b0 % 16 * 64+b1 % 64) * 64+b2 % 64∧¬ ((55296:Int)≤(b0 % 16 * 64+b1 % 64) * 64+b2 % 64∧((b0:Int) % 16 * 64+b1 % 64) * 64+b2 % 64<57344)
  ·have hc:b0 % 16 * 4096+b1 % 64 * 64+b2 % 64≤1114111∧¬ (55296≤b0 % 16 * 4096+b1 % 64 * 64+b2 % 64∧b0 % 16 * 4096+b1 % 64 * 64+b2 % 64<57344):=by omega
   have hv:Utf8.valid ((b0 % 16 * 4096+b1 % 64 * 64+b2 % 64:Nat):Int)=true:=by
    unfold Utf8.valid
    simp only [Bool.or_eq_true,Bool.and_eq_true,decide_eq_true_eq]; omega
   rw [if_pos c,if_pos (by simp; omega),hv,if_pos (by simp; omega)]
   refine ⟨_,3,rfl,rfl,?_,by omega⟩
   rw [HL hc,if_neg (by omega),if_neg (by omega),if_pos (by omega)]
  ·rw [if_neg c] at hz; exact (hz rfl).elim
 rw [if_neg (show ¬ ((224:Int)≤b0∧(b0:Int)<240) by omega)] at hz ⊢
 rw [if_neg (by simp; omega)]
 by_cases h4:240≤b0∧b0<248
 ·rw [if_pos (show (240:Int)≤b0∧(b0:Int)<248 by omega)] at hz ⊢
  by_cases c:4≤(n:Int) - t∧((128:Int)≤b1∧(b1:Int)<192)∧((128:Int)≤b2∧(b2:Int)<192)∧((128:Int)≤b3∧(b3:Int)<192)∧(65536:Int)≤((b0 % 8 * 64+b1 % 64) * 64+b2 % 64) * 64+b3 % 64∧(((b0:Int) % 8 * 64+b1 % 64) * 64+b2 % 64) * 64+b3 % 64≤1114111
  ·have hc:b0 % 8 * 262144+b1 % 64 * 4096+b2 % 64 * 64+b3 % 64≤1114111∧¬ (55296≤b0 % 8 * 262144+b1 % 64 * 4096+b2 % 64 * 64+b3 % 64∧b0 % 8 * 262144+b1 % 64 * 4096+b2 % 64 * 64+b3 % 64<57344):=by omega
   have hv:Utf8.valid ((b0 % 8 * 262144+b1 % 64 * 4096+b2 % 64 * 64+b3 % 64:Nat):Int)=true:=by
    unfold Utf8.valid
    simp only [Bool.or_eq_true,Bool.and_eq_true,decide_eq_true_eq]; omega
   rw [if_pos c,if_pos (by simp; omega),hv,if_pos (by simp; omega)]
   refine ⟨_,4,rfl,rfl,?_,by omega⟩
   rw [HL hc,if_neg (by omega),if_neg (by omega),if_neg (by omega)]
  ·rw [if_neg c] at hz; exact (hz rfl).elim
 rw [if_neg (show ¬ ((240:Int)≤b0∧(b0:Int)<248) by omega)] at hz
 exact (hz rfl).elim
theorem HF {s:ByteArray} {t:Nat} (ht:t<s.size) (hz:usz s t≠0) :
 ∃ c z:Nat,Utf8.decode s t=(c,z)∧usz s t=z∧(Utf8.encode (c:Int)).size=z∧(c=10↔bt s t=10):=by
 unfold usz at *
 rw [if_neg (by omega)] at hz ⊢
 rw [show (t:Int)+1=((t+1:Nat):Int) by omega,show (t:Int)+2=((t+2:Nat):Int) by omega,show (t:Int)+3=((t+3:Nat):Int) by omega,CZ,CZ,CZ,CZ] at hz
 rw [show (t:Int)+1=((t+1:Nat):Int) by omega,show (t:Int)+2=((t+2:Nat):Int) by omega,show (t:Int)+3=((t+3:Nat):Int) by omega,CZ,CZ,CZ,CZ,M2]
 obtain ⟨c,z,h1,h2,h3,h4⟩:=QW ht SP hz
 exact ⟨c,z,h1,h2,h3,by rw [h4]; omega⟩
def isE (s:ByteArray) (p:Int):Bool:=decide (0≤p∧p≤s.size)&&(A1 s&&(decide (p=s.size)||!decide (A0 (bt s p))))
theorem FJ {K:Nat} {s:ByteArray} {p:Int} (hK:s.size+10≤K) (hs:s.size≤1000000):B7 K s p=some (isE s p):=by
 unfold B7 isE
 have hb:=AE (s:=s) (i:=p)
 by_cases h0:0≤p
 ·rw [if_pos (by simpa using h0)]
  by_cases h1:p≤s.size
  ·rw [if_pos (by simpa using h1),decide_eq_true ⟨h0,h1⟩,Bool.true_and,GV hK (by omega)]
   by_cases h2:p=s.size
   ·rw [if_pos (by simpa using h2),Option.bind_some,decide_eq_true h2,Bool.true_or,Bool.and_true]
   ·rw [if_neg (by simpa using h2),FO hb.1 hb.2,decide_eq_false h2,Bool.false_or,Option.bind_some]
    have hr:0≤p∧p<(s.size:Int):=⟨h0,by omega⟩
    simp only [if_pos hr]
    by_cases hc:A0 (bt s p)
    ·rw [decide_eq_true hc,if_neg (by simp)]; simp
    ·rw [decide_eq_false hc,if_pos (by simp)]; simp
  ·rw [if_neg (by simpa using h1),decide_eq_false (by omega),Bool.false_and]
 ·rw [if_neg (by simpa using h0),decide_eq_false (by omega),Bool.false_and]
theorem ET {s:ByteArray} {p:Int} (hv:A1 s=true) (h0:0≤p) (h1:p≤s.size) (hc:p=s.size∨¬ A0 (bt s p)):isE s p=true:=by
 unfold isE
 rw [decide_eq_true ⟨h0,h1⟩,hv,Bool.true_and,Bool.true_and]
 rcases hc with hc | hc
 ·rw [decide_eq_true hc,Bool.true_or]
 ·rw [decide_eq_false hc]; simp
theorem HW {s:ByteArray} {p:Int} (h:isE s p=true):0≤p∧p≤s.size∧A1 s=true∧(p=s.size∨¬ A0 (bt s p)):=by
 unfold isE at h
 simp only [Bool.and_eq_true,decide_eq_true_eq,Bool.or_eq_true,Bool.not_eq_true',decide_eq_false_iff_not] at h
 exact ⟨h.1.1,h.1.2,h.2.1,h.2.2⟩
theorem T1 (n:Nat):GH (n+40)=some true:=by kernel_rfl
abbrev Atm:=ByteArray×(Int×(Int×(Int×List (Int×Int))))
abbrev zA:Atm:=(ByteArray.empty,((0:Int),((0:Int),((0:Int),([]:List (Int×Int))))))
abbrev Chg:=Int×(Int×ByteArray)
abbrev zC:Chg:=((0:Int),((0:Int),ByteArray.empty))
theorem up1 {j:Nat} (h:j<1000000):IntKind.wrap .i64 ((j:Int)+1)=((j+1:Nat):Int):=by
 rw [w64 (by omega) (by omega)]; omega
theorem MO {K:Nat} {l:List Int} {v:Int} (hl:l.length≤50000):∀ (r:List Int) (j k:Nat),l.drop j=r→r.length<k→∃ n,B5.l0 K l v k (j:Int)=some n∧decide (n≥0)=r.contains v
 | [],j,k+1,h,_ => by
   have:=AA h
   refine ⟨-1,?_,rfl⟩
   rw [B5.l0,if_neg (by simp; omega)]
 | g :: r,j,k+1,h,hk => by
   obtain ⟨h1,h2,h3⟩:=A7 h (0:Int)
   rw [B5.l0,if_pos (by simp; omega),if_pos ⟨by omega,by omega⟩,Int.toNat_natCast,h2]
   by_cases e:v=g
   ·exact ⟨j,by rw [if_pos (by simpa using e)],by simp [e]⟩
   ·obtain ⟨n,h4,h5⟩:=MO hl r (j+1) k h3 (by simpa using hk)
    refine ⟨n,by rw [if_neg (by simpa using e),up1 (by omega)]; exact h4,by rw [h5]; simp [e]⟩
theorem QI {K:Nat} {l:List Int} {v:Int} (hK:100000≤K) (hl:l.length≤50000):C6 K l v=some (l.contains v):=by
 obtain ⟨n,h1,h2⟩:=MO (K:=K) (v:=v) hl l 0 K rfl (by omega)
 have h1:B5.l0 K l v K 0=some n:=h1
 rw [C6,B5,h1,Option.bind_some,← h2]
def holds (g:Int) (u:List Int):Bool:=g==-1||!u.contains g
theorem MN {K:Nat} {u:List Int} {g:Int} (hK:100000≤K) (hu:u.length≤50000):EK K g u=some (holds g u):=by
 rw [EK,QI hK hu,Option.bind_some]
 unfold holds
 by_cases h:g = -1 <;> simp [h]
def EO (rev:Int) (u:List Int) (c:Int×Int):Bool:=decide (c.1≤rev)&&holds c.2 u
theorem QV {K:Nat} {u:List Int} {c d rev:Int} (hK:100000≤K) (hu:u.length≤50000):FP K c d rev u=some (EO rev u (c,d)):=by
 rw [FP,MN hK hu,Option.bind_some]
 unfold EO
 by_cases h:c≤rev <;> simp [h]
theorem M0 {K:Nat} {l:List (Int×Int)} {u:List Int} {rev:Int} (hK:100000≤K) (hu:u.length≤50000) (hl:l.length≤50000):∀ (r:List (Int×Int)) (j k:Nat),l.drop j=r→r.length<k→∃ n,C7.l0 K l rev u k (j:Int)=some n∧decide (n≥0)=r.any (EO rev u)
 | [],j,k+1,h,_ => by
   have:=AA h
   refine ⟨-1,?_,rfl⟩
   rw [C7.l0,if_neg (by simp; omega)]
 | g :: r,j,k+1,h,hk => by
   obtain ⟨h1,h2,h3⟩:=A7 h ((0:Int),(0:Int))
   rw [C7.l0,if_pos (by simp; omega),Int.toNat_natCast,h2,QV hK hu,Option.bind_some,if_pos ⟨by omega,by omega⟩]
   cases e:EO rev u g with
   | true => exact ⟨j,by rw [if_pos rfl],by simp [e]⟩
   | false =>
     obtain ⟨n,h4,h5⟩:=M0 hK hu hl r (j+1) k h3 (by simpa using hk)
     refine ⟨n,by rw [if_neg (by simp [e]),up1 (by omega)]; exact h4,by rw [h5]; simp [e]⟩
def vis (rev:Int) (u:List Int) (a:Atm):Bool:=decide (a.2.1≤rev)&&holds a.2.2.1 u&&!a.2.2.2.2.any (EO rev u)
theorem FM {K:Nat} {a:Atm} {u:List Int} {rev:Int} (hK:100000≤K) (hu:u.length≤50000) (hl:a.2.2.2.2.length≤50000):CL K a.1 a.2.1 a.2.2.1 a.2.2.2.1 a.2.2.2.2 rev u=some (vis rev u a):=by
 obtain ⟨n,h1,h2⟩:=M0 (rev:=rev) hK hu hl a.2.2.2.2 0 K rfl (by omega)
 rw [CL,MN hK hu,IB,C7,show (0:Int)=((0:Nat):Int) from rfl,h1]
 simp only [Option.bind_some]
 unfold vis
 rw [← h2]
 by_cases h:a.2.1≤rev
 ·have:¬ a.2.1 > rev:=by omega
  cases hh:holds a.2.2.1 u <;> simp [h,this]
 ·have:a.2.1 > rev:=by omega
  simp [h,this]
def Aok (l:List Atm):Prop:=l.length≤20000∧∀ a∈l,a.1.size≤10∧a.2.2.2.2.length≤1000
theorem Aok.tl {a:Atm} {l:List Atm} (h:Aok (a :: l)):Aok l:=⟨by have:=h.1; simp at this; omega,fun b hb=>h.2 b (List.mem_cons_of_mem _ hb)⟩
theorem AS {s:ByteArray}:(bytesL s).length=s.size:=by simp [bytesL]
def vtx (rev:Int) (u:List Int):List Atm→List Int
 | [] => []
 | a :: l => if vis rev u a then bytesL a.1 ++ vtx rev u l else vtx rev u l
theorem KV {K:Nat} {l:List Atm} {u:List Int} {rev:Int} (hK:100000≤K) (hu:u.length≤50000) (hl:Aok l):∀ (r:List Atm) (j k:Nat) (x:List Int),l.drop j=r→r.length<k→x.length+10 * r.length≤1000000→
 AZ.l0 K l rev u k x (j:Int)=some (x++vtx rev u r)
 | [],j,k+1,x,h,_,_ => by
   have:=AA h
   rw [AZ.l0,if_neg (by simp; omega)]
   simp [vtx]
 | g :: r,j,k+1,x,h,hk,hx => by
   obtain ⟨h1,h2,h3⟩:=A7 h zA
   have hlen:=hl.1
   have hg:=hl.2 g (by have:g∈l.drop j:=by rw [h]; exact List.mem_cons_self
                       exact List.mem_of_mem_drop this)
   simp only [List.length_cons] at hx
   rw [AZ.l0,if_pos (by simp; omega),if_pos ⟨by omega,by omega⟩,Int.toNat_natCast,h2,FM hK hu (by omega),Option.bind_some,up1 (by omega)]
   cases hv:vis rev u g with
   | true =>
     rw [if_pos rfl,FI,GR,Option.bind_some,if_pos (by rw [AS]; omega),Option.bind_some,KV hK hu hl r (j+1) k _ h3 (by simpa using hk) (by simp [AS]; omega)]
     simp [vtx,hv]
   | false =>
     rw [if_neg (by simp),KV hK hu hl r (j+1) k _ h3 (by simpa using hk) (by omega)]
     simp [vtx,hv]
theorem JL {s:ByteArray}:inB (bytesL s)=true:=by
 unfold inB bytesL
 rw [List.all_eq_true]
 intro x hx
 obtain ⟨b,_,rfl⟩:=List.mem_map.1 hx
 have:=b.toNat_lt
 simp
 omega
theorem MP {x y:List Int}:inB (x++y)=(inB x&&inB y):=by simp [inB]
theorem JM {rev:Int} {u:List Int}:∀ {l:List Atm},inB (vtx rev u l)=true
 | [] => rfl
 | a :: l => by
   simp only [vtx]
   split
   ·rw [MP,JL,JM]; rfl
   ·exact JM
theorem IG {K:Nat} {l:List Atm} {u:List Int} {rev:Int} (hK:100000≤K) (hu:u.length≤50000) (hl:Aok l):AZ K l rev u=some (ofBytes (vtx rev u l)):=by
 have hlen:=hl.1
 rw [AZ,show (0:Int)=((0:Nat):Int) from rfl,KV hK hu hl l 0 K [] rfl (by omega) (by simp; omega),Option.bind_some,List.nil_append,FH,if_pos JM,Option.bind_some]
def plc (rev:Int) (u:List Int):Int→List Atm→List Int
 | p,[] => [p]
 | p,a :: l => p :: plc rev u (if vis rev u a then p+a.1.size else p) l
theorem K2 {rev:Int} {u:List Int}:∀ {l:List Atm} {p:Int},(plc rev u p l).length=l.length+1
 | [],_ => rfl
 | a :: l,p => by simp [plc,K2]
theorem K3 {K:Nat} {l:List Atm} {u:List Int} {rev:Int} (hK:100000≤K) (hu:u.length≤50000) (hl:Aok l):∀ (r:List Atm) (j k:Nat) (x:List Int) (p:Int),l.drop j=r→r.length<k→x.length+r.length≤1000000→0≤p→p+10 * r.length≤1000000→
 BG.l0 K l rev u k x p (j:Int)=some (x++plc rev u p r)
 | [],j,k+1,x,p,h,_,hx,_,_ => by
   have:=AA h
   rw [BG.l0,if_neg (by simp; omega),if_pos (by simp at hx ⊢; omega)]
   simp [plc]
 | g :: r,j,k+1,x,p,h,hk,hx,h0,hp => by
   obtain ⟨h1,h2,h3⟩:=A7 h zA
   have hlen:=hl.1
   have hg:=hl.2 g (by have:g∈l.drop j:=by rw [h]; exact List.mem_cons_self
                       exact List.mem_of_mem_drop this)
   simp only [List.length_cons] at hx hp
   rw [BG.l0,if_pos (by simp; omega),if_pos ⟨by omega,by omega,by simp; omega⟩,Int.toNat_natCast,h2,FM hK hu (by omega),Option.bind_some,up1 (by omega)]
   cases hv:vis rev u g with
   | true =>
     rw [if_pos rfl,w64 (by omega) (by omega),K3 hK hu hl r (j+1) k _ _ h3 (by simpa using hk) (by simp; omega) (by omega) (by omega)]
     simp [plc,hv]
   | false =>
     rw [if_neg (by simp),K3 hK hu hl r (j+1) k _ _ h3 (by simpa using hk) (by simp; omega) (by omega) (by omega)]
     simp [plc,hv]
theorem NH {K:Nat} {l:List Atm} {u:List Int} {rev:Int} (hK:100000≤K) (hu:u.length≤50000) (hl:Aok l):BG K l rev u=some (plc rev u 0 l):=by
 have hlen:=hl.1
 rw [BG,w64 (by omega) (by omega),if_pos ⟨by omega,by omega,by omega⟩]
 have:=K3 (rev:=rev) hK hu hl l 0 K [] 0 rfl (by omega) (by simp; omega) (by omega) (by omega)
 simpa using this
theorem QC {K:Nat} {c:List (Int×Int)} (h:c.length≤1000):DQ K c=some c:=by
 rw [DQ,if_pos (by simp; omega),List.nil_append]
theorem VA {l:List Atm} {j:Nat}:setCut l j (l.getD j zA).2.2.2.2=l:=by
 unfold setCut
 rcases Nat.lt_or_ge j l.length with h | h
 ·rw [List.getD_eq_getElem?_getD,List.getElem?_eq_getElem h,Option.getD_some]
  exact List.set_getElem_self h
 ·exact List.set_eq_of_length_le h
theorem EA {α:Type} {xs ys:List α} (h:ys.length=xs.length):putAt xs ys 0=ys:=by
 simp [putAt,h]
theorem LW {K:Nat} {l:List Atm} (hK:100000≤K) (hl:Aok l):∀ (d j k:Nat),j+d=l.length→d<k→BB.l0 K l k j l (j:Int)=some l
 | 0,j,k+1,h,_ => by
   rw [BB.l0,EA (by simp),if_neg (by simp; omega),if_pos (by omega)]
 | d+1,j,k+1,h,hk => by
   have hlen:=hl.1
   have hj:j<l.length:=by omega
   have hg:=hl.2 (l.getD j zA) (by rw [List.getD_eq_getElem?_getD,List.getElem?_eq_getElem hj]; simp)
   rw [BB.l0,EA (by simp),if_pos (by simp; omega),Int.toNat_natCast,QC hg.2,Option.bind_some,if_pos ⟨by omega,by omega,by omega,rfl⟩,up1 (by omega),VA]
   exact LW hK hl d (j+1) k (by omega) (by omega)
theorem J4 {K:Nat} {l:List Atm} (hK:100000≤K) (hl:Aok l):BB K l=some l:=by
 have hlen:=hl.1
 rw [BB,if_pos ⟨by omega,by omega,by omega,by omega⟩,EA (by simp)]
 have:=LW hK hl l.length 0 K (by omega) (by omega)
 simpa using this
theorem QN {K:Nat} (hK:100000≤K):CX K=some []:=by
 obtain ⟨k,rfl⟩:∃ k,K=k+1:=⟨K - 1,by omega⟩
 rfl
theorem QO {K:Nat} (hK:100000≤K):CY K=some []:=by
 obtain ⟨k,rfl⟩:∃ k,K=k+1:=⟨K - 1,by omega⟩
 rfl
structure Rok (us:List (List Int)) (f:Int) (g o:List Int):Prop where
 ne:0<us.length
 len:us.length≤1000
 lo:0≤f
 hi:f≤1000
 u:∀ u∈us,u.length≤100
 g:g.length≤100
 o:o.length≤100
def hdR (us:List (List Int)) (f:Int):Int:=f+us.length - 1
def lvR (us:List (List Int)) (f r:Int):Bool:=decide (f≤r)&&decide (r≤hdR us f)
def unR (us:List (List Int)) (f r:Int):List Int:=if lvR us f r=true then us.getD (r - f).toNat [] else []
def lsR (us:List (List Int)):List Int:=us.getD (us.length - 1) []
theorem GC {α:Type} {l:List α} {i:Nat} {d:α} (h:i<l.length):l.getD i d∈l:=by
 rw [List.getD_eq_getElem?_getD,List.getElem?_eq_getElem h]; simp
theorem IJ {us:List (List Int)} {f:Int} {g:List Int} {o:List Int} (h:Rok us f g o) {r:Int}:(unR us f r).length≤100:=by
 unfold unR
 split
 ·rename_i hl
  simp only [lvR,Bool.and_eq_true,decide_eq_true_eq] at hl
  unfold hdR at hl
  have hi:(r - f).toNat<us.length:=by omega
  exact h.u _ (GC hi)
 ·simp
theorem TA {us:List (List Int)} {f:Int} {g:List Int} {o:List Int} (h:Rok us f g o):(lsR us).length≤100:=by
 have:=h.ne
 have hi:us.length - 1<us.length:=by omega
 exact h.u _ (GC hi)
theorem HV {K:Nat} {us:List (List Int)} {f:Int} {g:List Int} {o:List Int} (h:Rok us f g o):CS K us f g o=some (hdR us f):=by
 have:=h.len; have:=h.lo; have:=h.hi; have:=h.ne
 rw [CS,w64 (n:=f+_) (by omega) (by omega),w64 (by omega) (by omega)]
 rfl
theorem HY {K:Nat} {us:List (List Int)} {f:Int} {g:List Int} {o:List Int} (h:Rok us f g o) {r:Int}:F5 K us f g o r=some (lvR us f r):=by
 rw [F5,HV h,Option.bind_some]
 unfold lvR
 by_cases h1:f≤r
 ·rw [if_pos (by simpa using h1)]; simp [h1]
 ·rw [if_neg (by simpa using h1)]; simp [h1]
theorem W7 {K:Nat} {us:List (List Int)} {i:Nat} (hi:i<us.length) (hu:(us.getD i []).length≤1000):GN K us i=some (us.getD i []):=by
 rw [GN,if_pos ⟨hi,by omega,by omega,by omega,by omega⟩,JV,if_pos hi,Option.bind_some,KK,if_pos ⟨hi,by omega⟩,Option.bind_some]
 congr 1
 generalize us.getD i []=x
 rw [show (List.replicate (Int.toNat ((x.length:Nat):Int)) (0:Int)).length=x.length by simp,List.take_length]
 exact EA (by simp)
theorem IK {K:Nat} {us:List (List Int)} {f:Int} {g:List Int} {o:List Int} (h:Rok us f g o) {r:Int}:F6 K us f g o r=some (unR us f r):=by
 rw [F6,HY h,Option.bind_some]
 unfold unR
 cases hl:lvR us f r with
 | false => rfl
 | true =>
   simp only [lvR,Bool.and_eq_true,decide_eq_true_eq] at hl
   unfold hdR at hl
   have:=h.len; have:=h.lo; have:=h.hi
   have hi:(r - f).toNat<us.length:=by omega
   have:=h.u _ (GC (d:=[]) hi)
   rw [if_neg (by simp),w64 (n:=r - f) (by omega) (by omega),W7 hi (by omega),Option.bind_some,if_pos ⟨by omega,by omega⟩,if_pos rfl]
theorem NM {K:Nat} {us:List (List Int)} {g:List Int} {o:List Int} (h:us.length≤1000):∀ (r:List (List Int)) (j k:Nat) (x:List (List Int)),us.drop j=r→r.length<k→x.length+r.length≤10000→C0.l0 K us g o k x (j:Int)=some (x++r,g,o)
 | [],j,k+1,x,e,_,_ => by
   have:=AA e
   rw [C0.l0,if_neg (by simp; omega)]
   simp
 | a :: r,j,k+1,x,e,hk,hx => by
   obtain ⟨h1,h2,h3⟩:=A7 e []
   simp only [List.length_cons] at hx
   rw [C0.l0,if_pos (by simp; omega),if_pos ⟨by omega,by omega⟩,Int.toNat_natCast,E9,if_pos h1,Option.bind_some,if_pos (by omega),up1 (by omega),h2,NM h r (j+1) k _ h3 (by simpa using hk) (by simp; omega)]
   simp
theorem UD {K:Nat} {us:List (List Int)} {f:Int} {g:List Int} {o:List Int} (hK:100000≤K) (h:Rok us f g o):C0 K us f g o=some (us,g,o):=by
 have:=h.len
 rw [C0,GE,GE,Option.bind_some,Option.bind_some]
 have:=NM (K:=K) (g:=g) (o:=o) h.len us 0 K [] rfl (by omega) (by simp; omega)
 simpa using this
theorem TM {K:Nat} {us:List (List Int)} {f:Int} {g:List Int} {o:List Int} (h:Rok us f g o):DP K us f g o=if 200≤hdR us f then some () else none:=by
 have:=h.len; have:=h.ne
 rw [DP,HV h,Option.bind_some]
 by_cases hh:200≤hdR us f
 ·rw [if_pos (by simpa using hh),if_pos hh]
 ·rw [if_neg (by simpa using hh),if_neg hh,w64 (by omega) (by omega),E9,if_pos (by omega),Option.bind_some]
  repeat' split
  all_goals rfl
theorem TN {K:Nat} {us:List (List Int)} {f:Int} {g:List Int} {o:List Int} (h:Rok us f g o) (hh:¬ 200≤hdR us f):F7 K us f g o=some (lsR us,us):=by
 have:=h.len; have:=h.ne
 rw [F7,HV h,Option.bind_some,if_neg (by simpa using hh),w64 (by omega) (by omega),E9,if_pos (by omega),Option.bind_some,if_pos ⟨by omega,by omega⟩,if_pos (by omega)]
 unfold lsR
 rw [show Int.toNat ((us.length:Int) - 1)=us.length - 1 by omega]
def adR (us:List (List Int)) (f:Int) (g o:List Int) (x:Int):Int×Int×List (List Int)×List Int:=
 if o.contains x=true∨x<0∨60≤x then (0,210,us,g) else if 200≤hdR us f then (0,70,us,g) else (hdR us f+1,0,us++[lsR us],insS x g)
theorem PM {K:Nat} {us:List (List Int)} {f:Int} {g:List Int} {o:List Int} (h:Rok us f g o) {x:Int}:GM K us f g o x=some (adR us f g o x):=by
 have:=h.len; have:=h.lo; have:=h.hi
 rw [GM]
 unfold adR
 by_cases hx:o.contains x=true∨x<0∨60≤x
 ·have:(if o.contains x=true then some true else if decide (x<0)=true then some true else some (decide (x≥60)))=some true:=by
   rcases hx with h | h | h
   ·rw [if_pos h]
   ·split <;> simp [h]
   ·split
    ·rfl
    ·split
     ·rfl
     ·simpa using h
  rw [this,Option.bind_some,if_pos rfl,if_pos hx]
 ·have:(if o.contains x=true then some true else if decide (x<0)=true then some true else some (decide (x≥60)))=some false:=by
   rw [if_neg (fun h=>hx (.inl h)),if_neg (fun h=>hx (.inr (.inl (by simpa using h))))]
   simp; omega
  rw [this,Option.bind_some,if_neg (by simp),if_neg hx,TM h]
  by_cases hh:200≤hdR us f
  ·rw [if_pos hh,Option.isSome_some,if_pos rfl,Option.bind_some,if_pos hh]
  ·rw [if_neg hh,if_neg (by simp),if_neg hh,TN h hh,Option.bind_some,if_pos ⟨by omega,by omega⟩,I8,Option.bind_some]
   dsimp only
   rw [w64 (n:=f+_) (by omega) (by omega),w64 (by omega) (by omega)]
   unfold hdR
   congr 2
   omega
def bdC (s:ByteArray) (c:Chg):Bool:=decide (c.1<0)||(decide (c.1 > c.2.1)||decide (c.2.1 > s.size))
def egC (s:ByteArray) (c:Chg):Bool:=!isE s c.1||!isE s c.2.1
def orC:List Chg→Bool
 | [] => false
 | a :: l => (match l with | [] => false | b :: _ => decide (b.1<a.2.1) || (a.1 == b.1 && a.2.1 == b.1)) || orC l
def lgA (n:Int) (l:List Chg):Int:=l.foldr (fun c r=>mn2 (mx2 (IntKind.wrap .i64 (c.2.1 - c.1)) 0) n+r) 0
def lgB:Int→List Chg→Int
 | left,[] => if left<0 then 13 else 0
 | left,c :: l => if (c.2.2.size:Int) > left then 13 else lgB (left - c.2.2.size) l
def f5:List Int→Int
 | [] => 0
 | x :: l => if x=0 then f5 l else x
def BO (s:ByteArray) (c:List Chg):Int:=
 if A1 s=false then 12 else if 8<c.length then 70 else f5 [if c.any (bdC s) then 10 else 0,if c.any (egC s) then 11 else 0,if orC c then 180 else 0,if c.any (fun x=>!A1 x.2.2) then 12 else 0,lgB (20000 - s.size+lgA s.size c) c]
def Cok (c:List Chg):Prop:=c.length≤1000∧∀ x∈c,x.2.2.size≤30000
theorem Q0 {K:Nat} {s:ByteArray} {a b:Int} {t:ByteArray}:G3 K a b t s=some (bdC s (a,b,t)):=by
 unfold G3 bdC
 by_cases h1:a<0
 ·rw [if_pos (by simpa using h1)]; simp [h1]
 ·rw [if_neg (by simpa using h1)]
  by_cases h2:a > b
  ·rw [if_pos (by simpa using h2)]; simp [h2]
  ·rw [if_neg (by simpa using h2)]; simp [h1,h2]
theorem S1 {K:Nat} {s:ByteArray} {a b:Int} {t:ByteArray} (hK:100000≤K) (hs:s.size≤50000):G4 K a b t s=some (egC s (a,b,t)):=by
 unfold G4 G2 egC
 rw [FJ (by omega) (by omega),FJ (by omega) (by omega)]
 simp only [Option.bind_some]
 cases isE s a <;> simp
theorem MI {K:Nat} {s:ByteArray} {c:List Chg} {e:Int} (hl:c.length≤1000):∀ (r:List Chg) (j k:Nat),c.drop j=r→r.length<k→B2.l0 K c s e k (j:Int)=some (if r.any (bdC s)=true then e else 0)
 | [],j,k+1,h,_ => by
   have:=AA h
   rw [B2.l0,if_neg (by simp; omega)]
   rfl
 | x :: r,j,k+1,h,hk => by
   obtain ⟨h1,h2,h3⟩:=A7 h zC
   rw [B2.l0,if_pos (by simp; omega),if_pos ⟨by omega,by omega⟩,Int.toNat_natCast,h2,Q0,Option.bind_some,up1 (by omega)]
   cases hb:bdC s x with
   | true => rw [if_pos rfl]; simp [hb]
   | false => rw [if_neg (by simp),MI hl r (j+1) k h3 (by simpa using hk),List.any_cons,hb]; rfl
theorem MJ {K:Nat} {s:ByteArray} {c:List Chg} {e:Int} (hK:100000≤K) (hs:s.size≤50000) (hl:c.length≤1000):∀ (r:List Chg) (j k:Nat),c.drop j=r→r.length<k→B3.l0 K c s e k (j:Int)=some (if r.any (egC s)=true then e else 0)
 | [],j,k+1,h,_ => by
   have:=AA h
   rw [B3.l0,if_neg (by simp; omega)]
   rfl
 | x :: r,j,k+1,h,hk => by
   obtain ⟨h1,h2,h3⟩:=A7 h zC
   rw [B3.l0,if_pos (by simp; omega),if_pos ⟨by omega,by omega⟩,Int.toNat_natCast,h2,S1 hK hs,Option.bind_some,up1 (by omega)]
   cases hb:egC s x with
   | true => rw [if_pos rfl]; simp [hb]
   | false => rw [if_neg (by simp),MJ hK hs hl r (j+1) k h3 (by simpa using hk),List.any_cons,hb]; rfl
theorem MK {K:Nat} {c:List Chg} {e:Int} (hK:100000≤K) (hc:Cok c):∀ (r:List Chg) (j k:Nat),c.drop j=r→r.length<k→B4.l0 K c e k (j:Int)=some (if r.any (fun x=>!A1 x.2.2)=true then e else 0)
 | [],j,k+1,h,_ => by
   have:=AA h
   rw [B4.l0,if_neg (by simp; omega)]
   rfl
 | x :: r,j,k+1,h,hk => by
   obtain ⟨h1,h2,h3⟩:=A7 h zC
   have hl:=hc.1
   have hx:=hc.2 x (by have:x∈c.drop j:=by rw [h]; exact List.mem_cons_self
                       exact List.mem_of_mem_drop this)
   rw [B4.l0,if_pos (by simp; omega),if_pos ⟨by omega,by omega⟩,Int.toNat_natCast,h2,HI,GV (by omega) (by omega),Option.bind_some,Option.bind_some,up1 (by omega)]
   cases hb:A1 x.2.2 with
   | false => rw [if_pos (by simp)]; simp [hb]
   | true => rw [if_neg (by simp),MK hK hc r (j+1) k h3 (by simpa using hk),List.any_cons,hb]; rfl
theorem NF {K:Nat} {c:List Chg} (hl:c.length≤1000):∀ (r:List Chg) (j k:Nat) (a:Chg),c.drop j=a :: r→r.length<k→AV.l0 K c k ((j+1:Nat):Int)=some (if orC (a :: r)=true then 180 else 0)
 | [],j,k+1,a,h,_ => by
   obtain ⟨h1,h2,h3⟩:=A7 h zC
   have:=AA h3
   rw [AV.l0,if_neg (by simp; omega)]
   rfl
 | b :: r,j,k+1,a,h,hk => by
   obtain ⟨h1,h2,h3⟩:=A7 h zC
   obtain ⟨h4,h5,h6⟩:=A7 h3 zC
   rw [AV.l0,w64 (n:=((j+1:Nat):Int) - 1) (by omega) (by omega),show ((j+1:Nat):Int) - 1=(j:Int) by omega,if_pos (by simp; omega),if_pos ⟨by omega,by omega,by omega,by omega⟩,Int.toNat_natCast,Int.toNat_natCast,h2,h5,up1 (by omega)]
   have ih:=NF (K:=K) hl r (j+1) k b h3 (by simpa using hk)
   rw [ih]
   simp only [orC]
   by_cases e1:b.1<a.2.1
   ·simp [e1]
   ·by_cases e2:a.1=b.1
    ·by_cases e3:a.2.1=b.1 <;> simp [e1,e2,e3]
    ·simp [e1,e2]
theorem TZ {K:Nat} {c:List Chg} (hK:100000≤K) (hl:c.length≤1000):AV K c=some (if orC c=true then 180 else 0):=by
 unfold AV
 cases c with
 | nil =>
   obtain ⟨k,rfl⟩:∃ k,K=k+1:=⟨K - 1,by omega⟩
   rw [AV.l0,if_neg (by simp)]
   rfl
 | cons a r => exact NF hl r 0 K a rfl (by simp at hl; omega)
theorem N9 {x n:Int} (h:0≤n):0≤mn2 (mx2 x 0) n∧mn2 (mx2 x 0) n≤n:=by
 unfold mn2 mx2
 split <;> split <;> omega
theorem JS {n:Int} (h:0≤n):∀ {r:List Chg},0≤lgA n r∧lgA n r≤r.length * n
 | [] => by simp [lgA]
 | x :: r => by
   have:=JS h (r:=r)
   have:=N9 (x:=IntKind.wrap .i64 (x.2.1 - x.1)) h
   simp only [lgA,List.foldr_cons,List.length_cons] at *
   have:((r.length+1:Nat):Int) * n=r.length * n+n:=by rw [Int.natCast_add,Int.add_mul]; simp
   omega
theorem MZ {K:Nat} {s:ByteArray} {c:List Chg} (hs:s.size≤50000) (hl:c.length≤1000):∀ (r:List Chg) (j k:Nat) (left:Int),c.drop j=r→r.length<k→-1000000≤left→left+r.length * (s.size:Int)≤1000000000→
 AC.l0 K c s k left (j:Int)=some (left+lgA s.size r)
 | [],j,k+1,left,h,_,_,_ => by
   have:=AA h
   rw [AC.l0,if_neg (by simp; omega)]
   simp [lgA]
 | x :: r,j,k+1,left,h,hk,h4,h5 => by
   obtain ⟨h1,h2,h3⟩:=A7 h zC
   have hm:=N9 (x:=IntKind.wrap .i64 (x.2.1 - x.1)) (n:=s.size) (by omega)
   have e:((r.length+1:Nat):Int) * (s.size:Int)=r.length * (s.size:Int)+s.size:=by rw [Int.natCast_add,Int.add_mul]; simp
   have e0:0≤(r.length:Int) * (s.size:Int):=Int.mul_nonneg (by omega) (by omega)
   simp only [List.length_cons,e] at h5
   rw [AC.l0,if_pos (by simp; omega),if_pos ⟨by omega,by omega⟩,Int.toNat_natCast,h2,up1 (by omega),w64 (n:=left+_) (by omega) (by omega),MZ hs hl r (j+1) k _ h3 (by simpa using hk) (by omega) (by omega)]
   simp only [lgA,List.foldr_cons]
   congr 1
   omega
theorem N0 {K:Nat} {c:List Chg} (hc:Cok c):∀ (r:List Chg) (j k:Nat) (left:Int),c.drop j=r→r.length<k→-100000000≤left - r.length * 30000→left≤1000000000→
 (AC.l1 K c k left (j:Int)).bind (Sum.elim (fun z=>some z) (fun z=>if (decide (z<(0:Int)))=true then some (13:Int) else some (0:Int)))=some (lgB left r)
 | [],j,k+1,left,h,_,_,_ => by
   have:=AA h
   rw [AC.l1,if_neg (by simp; omega),Option.bind_some]
   simp only [Sum.elim_inr,lgB]
   by_cases h:left<0 <;> simp [h]
 | x :: r,j,k+1,left,h,hk,h4,h5 => by
   obtain ⟨h1,h2,h3⟩:=A7 h zC
   have hl:=hc.1
   have hx:=hc.2 x (by have:x∈c.drop j:=by rw [h]; exact List.mem_cons_self
                       exact List.mem_of_mem_drop this)
   simp only [List.length_cons] at h4
   rw [AC.l1,if_pos (by simp; omega),if_pos ⟨by omega,by omega⟩,Int.toNat_natCast,h2,up1 (by omega)]
   unfold lgB
   by_cases e:(x.2.2.size:Int) > left
   ·rw [if_pos (by simpa using e),if_pos e]; rfl
   ·rw [if_neg (by simpa using e),if_neg e,w64 (by omega) (by omega)]
    exact N0 hc r (j+1) k _ h3 (by simpa using hk) (by omega) (by omega)
theorem SJ {K:Nat} (a b x d e:Int) (hK:100000≤K):AN.l0 K a b x d e K 0=some (f5 [a,b,x,d,e]):=by
 obtain ⟨k,rfl⟩:∃ k,K=k+6:=⟨K - 6,by omega⟩
 have key:∀ (K:Nat) (r:List Int) (j k:Nat),[a,b,x,d,e].drop j=r→r.length<k→AN.l0 K a b x d e k (j:Int)=some (f5 r):=by
  intro K r
  induction r with
  | nil =>
    intro j k h hk
    obtain ⟨k,rfl⟩:∃ k',k=k'+1:=⟨k - 1,by simp at hk; omega⟩
    have:=AA h
    rw [AN.l0,if_neg (by simp at this ⊢; omega)]
    rfl
  | cons y r ih =>
    intro j k h hk
    obtain ⟨k,rfl⟩:∃ k',k=k'+1:=⟨k - 1,by simp at hk; omega⟩
    obtain ⟨h1,h2,h3⟩:=A7 h (0:Int)
    simp only [List.length_cons,List.length_nil] at h1
    rw [AN.l0,if_pos (by simp; omega),if_pos ⟨by omega,by simp; omega⟩,Int.toNat_natCast,h2,up1 (by omega),ih (j+1) k h3 (by simpa using hk)]
    unfold f5
    by_cases e:y=0
    ·rw [if_neg (by simpa using e),if_pos e]
     cases r <;> rfl
    ·rw [if_pos (by simpa using e),if_neg e]
 exact key _ _ 0 (k+6) rfl (by simp)
theorem HB {K:Nat} {s:ByteArray} {c:List Chg} (hK:100000≤K) (hs:s.size≤50000) (hc:Cok c):AN K s c=some (BO s c):=by
 have hl:=hc.1
 rw [AN,GV (by omega) (by omega),Option.bind_some]
 unfold BO
 cases hv:A1 s with
 | false => rfl
 | true =>
   rw [if_neg (by simp),if_neg (show ¬ (true=false) by simp)]
   by_cases h8:8<c.length
   ·rw [if_pos (by simp; omega)]; simp [h8]
   ·have e2:=MI (K:=K) (s:=s) (e:=10) hl c 0 K rfl (by omega)
    have e3:=MJ (K:=K) (s:=s) (e:=11) hK hs hl c 0 K rfl (by omega)
    have e4:=MK (K:=K) (e:=12) hK hc c 0 K rfl (by omega)
    have hn:((c.length:Nat):Int) * (s.size:Int)≤8 * 50000:=Int.mul_le_mul (by omega) (by omega) (by omega) (by omega)
    have hn0:0≤((c.length:Nat):Int) * (s.size:Int):=Int.mul_nonneg (by omega) (by omega)
    have ha:=JS (n:=s.size) (by omega) (r:=c)
    have e5:=MZ (K:=K) hs hl c 0 K (20000 - s.size) rfl (by omega) (by omega) (by omega)
    have e6:=N0 (K:=K) hc c 0 K (20000 - s.size+lgA s.size c) rfl (by omega) (by omega) (by omega)
    have e5:AC.l0 K c s K (20000 - s.size) 0=_:=e5
    have e7:AC K s c=some (lgB (20000 - s.size+lgA s.size c) c):=by
     rw [AC,w64 (by omega) (by omega),e5,Option.bind_some]
     exact e6
    rw [if_neg (by simp; omega),B2,B3,B4,TZ hK hl,e7]
    have e2:B2.l0 K c s 10 K 0=_:=e2
    have e3:B3.l0 K c s 11 K 0=_:=e3
    have e4:B4.l0 K c 12 K 0=_:=e4
    rw [e2,e3,e4]
    simp only [Option.bind_some,h8,if_false]
    exact SJ _ _ _ _ _ hK
def ptL (s:ByteArray) (w g r:Int):Nat→Nat→List Atm
 | 0,_ => []
 | m+1,t => if t<s.size then (Utf8.encode (((Utf8.decode s t).1:Nat):Int),(w,(g,(r,[])))) :: ptL s w g r m (t+(Utf8.decode s t).2) else []
def AD (s:ByteArray) (w g r:Int):List Atm:=ptL s w g r s.size 0
theorem NK {K:Nat} {s:ByteArray} {w g r:Int} (hs:s.size≤30000):∀ (m t k:Nat) (x:List Atm),A3 s m t=true→s.size≤t+m→m<k→x.length+m≤100000→BT.l0 K s w g r k x t=some (x++ptL s w g r m t)
 | 0,t,k+1,x,_,h,_,_ => by
   rw [BT.l0,if_neg (by simp; omega)]
   simp [ptL]
 | m+1,t,k+1,x,hu,h,hk,hx => by
   rw [BT.l0]
   by_cases ht:t<s.size
   ·have hz:usz s t≠0:=fun hz=>by
     rw [A3,if_pos (by omega),if_pos hz] at hu; cases hu
    have hu2:A3 s m (t+usz s t)=true:=by
     rw [A3,if_pos (by omega),if_neg hz] at hu; exact hu
    obtain ⟨c,z,h1,h2,h3,_⟩:=HF ht hz
    rw [if_pos (by simpa using ht),if_pos (by simp; omega),NK hs m _ k _ (by rw [h1]; simp only; rw [show ((t+z:Nat):Int)=t+usz s t by omega]; exact hu2) (by rw [h1]; simp only; omega) (by omega) (by simp; omega)]
    simp [ptL,ht]
   ·rw [if_neg (by simpa using ht)]
    simp [ptL,ht]
theorem EY {s:ByteArray} {w g r:Int}:∀ {m t:Nat},(ptL s w g r m t).length≤m
 | 0,_ => by simp [ptL]
 | m+1,t => by
   simp only [ptL]
   split
   ·have:=EY (s:=s) (w:=w) (g:=g) (r:=r) (m:=m) (t:=t+(Utf8.decode s t).2)
    simp; omega
   ·simp
theorem K4 {s:ByteArray} {w g r:Int}:∀ {m t:Nat},A3 s m t=true→∀ a∈ptL s w g r m t,1≤a.1.size∧a.1.size≤4∧a.2=(w,(g,(r,[])))
 | 0,_,_,a,ha => by simp [ptL] at ha
 | m+1,t,hu,a,ha => by
   simp only [ptL] at ha
   split at ha
   ·rename_i ht
    have hz:usz s t≠0:=fun hz=>by
     rw [A3,if_pos (by omega),if_pos hz] at hu; cases hu
    have hu2:A3 s m (t+usz s t)=true:=by
     rw [A3,if_pos (by omega),if_neg hz] at hu; exact hu
    obtain ⟨c,z,h1,h2,h3,_⟩:=HF ht hz
    have hok:=BL (s:=s) (a:=t)
    rcases List.mem_cons.1 ha with rfl | ha
    ·refine ⟨?_,?_,rfl⟩
     ·rw [h1]; simp only; rw [h3]; omega
     ·rw [h1]; simp only; rw [h3]; omega
    ·refine K4 (m:=m) ?_ a ha
     rw [h1]; simp only; rw [show ((t+z:Nat):Int)=t+usz s t by omega]; exact hu2
   ·simp at ha
theorem J1 {K:Nat} {s:ByteArray} (hK:100000≤K) (hs:s.size≤30000) (hv:A1 s=true):EE K s=some s:=by
 rw [EE,GV (by omega) (by omega),Option.bind_some,hv,if_pos rfl]
theorem U9 {K:Nat} {s:ByteArray} {w g r:Int} (hK:100000≤K) (hs:s.size≤30000) (hv:A1 s=true):BT K [] 0 s w g r=some (AD s w g r):=by
 have hl:=EY (s:=s) (w:=w) (g:=g) (r:=r) (m:=s.size) (t:=0)
 rw [BT,QN hK,Option.bind_some,if_pos (by decide),J1 hK hs hv,Option.bind_some,NK hs s.size 0 K [] hv (by omega) (by omega) (by simp; omega),Option.bind_some,QO hK,Option.bind_some,List.nil_append,if_pos (by simp; omega),List.append_nil]
 rfl
def cvr (p:Int) (c:List Chg):Bool:=c.any fun x=>decide (p≥x.1)&&decide (p<x.2.1)
def ctB (rev:Int) (u:List Int) (c:List Chg):Int→List Atm→List Bool
 | _,[] => []
 | p,a :: l => if vis rev u a then cvr p c :: ctB rev u c (p+a.1.size) l else false :: ctB rev u c p l
def AQ:Nat→List Bool→List Int
 | _,[] => []
 | i,b :: l => if b then (i:Int) :: AQ (i+1) l else AQ (i+1) l
theorem HE {rev:Int} {u:List Int} {c:List Chg}:∀ {l:List Atm} {p:Int},(ctB rev u c p l).length=l.length
 | [],_ => rfl
 | a :: l,p => by simp only [ctB]; split <;> simp [HE]
theorem LZ {K:Nat} {c:List Chg} {ps:List Int} {t:Int} {x:List Int} {p:Int} (hc:c.length≤1000) (hp:ps.getD t.toNat 0=p) (ht:t<ps.length) (hx:x.length≤100000):∀ (r:List Chg) (j k:Nat),c.drop j=r→r.length<k→
 AB.l1 K c ps t x k (j:Int)=some (if cvr p r=true then x++[t] else x)
 | [],j,k+1,h,_ => by
   have:=AA h
   rw [AB.l1,if_neg (by simp; omega)]
   rfl
 | y :: r,j,k+1,h,hk => by
   obtain ⟨h1,h2,h3⟩:=A7 h zC
   rw [AB.l1,if_pos (by simp; omega),if_pos ⟨by omega,by omega⟩,Int.toNat_natCast,h2,hp,if_pos ht,if_pos ht,up1 (by omega),LZ hc hp ht hx r (j+1) k h3 (by simpa using hk)]
   by_cases e1:p≥y.1
   ·by_cases e2:p<y.2.1
    ·rw [if_pos (by simpa using e1),Option.bind_some,if_pos (by simpa using e2),if_pos (by simp; omega),if_pos (by simp [cvr,e1,e2])]
    ·have hn:cvr p (y :: r)=cvr p r:=by simp [cvr,e2]
     rw [if_pos (by simpa using e1),Option.bind_some,if_neg (by simpa using e2),hn]
   ·have hn:cvr p (y :: r)=cvr p r:=by simp [cvr,e1]
    rw [if_neg (by simpa using e1),Option.bind_some,if_neg (by simp),hn]
theorem J7 {K:Nat} {l:List Atm} {u:List Int} {rev:Int} {c:List Chg} {ps:List Int} (hK:100000≤K) (hu:u.length≤50000) (hl:Aok l) (hc:c.length≤1000) (hps:ps.length≤30000):∀ (r:List Atm) (j k:Nat) (x:List Int) (p:Int),l.drop j=r→ps.drop j=plc rev u p r→r.length<k→x.length+r.length≤100000→
 AB.l0 K l rev u c ps k x (j:Int)=some (x++AQ j (ctB rev u c p r))
 | [],j,k+1,x,p,h,_,_,_ => by
   have:=AA h
   rw [AB.l0,if_neg (by simp; omega)]
   simp [ctB,AQ]
 | a :: r,j,k+1,x,p,h,hp,hk,hx => by
   obtain ⟨h1,h2,h3⟩:=A7 h zA
   have hg:=hl.2 a (by have:a∈l.drop j:=by rw [h]; exact List.mem_cons_self
                       exact List.mem_of_mem_drop this)
   obtain ⟨h4,h5,h6⟩:=A7 hp (0:Int)
   simp only [List.length_cons] at hx
   have hlen:=hl.1
   rw [AB.l0,if_pos (by simp; omega),if_pos ⟨by omega,by omega⟩,Int.toNat_natCast,h2,FM hK hu (by omega),Option.bind_some,up1 (by omega)]
   have e1:=LZ (K:=K) (ps:=ps) (t:=(j:Int)) (x:=x) (p:=p) hc (by rw [Int.toNat_natCast]; exact h5) (by omega) (by omega) c 0 K rfl (by omega)
   have e1:AB.l1 K c ps j x K 0=_:=e1
   rw [e1]
   cases hv:vis rev u a with
   | false =>
     rw [if_pos (by simp),Option.bind_some,J7 hK hu hl hc hps r (j+1) k x p h3 (by rw [h6,hv]; simp) (by simpa using hk) (by omega)]
     simp [ctB,hv,AQ]
   | true =>
     have hx2:(if cvr p c=true then x++[(j:Int)] else x).length+r.length≤100000:=by
      split
      ·simp; omega
      ·omega
     rw [if_neg (by simp),Option.bind_some,J7 hK hu hl hc hps r (j+1) k _ (p+a.1.size) h3 (by rw [h6,hv]; simp) (by simpa using hk) hx2]
     simp only [ctB,hv,if_true,AQ]
     cases cvr p c <;> simp
theorem QU {K:Nat} {l:List Atm} {u:List Int} {rev:Int} {c:List Chg} (hK:100000≤K) (hu:u.length≤50000) (hl:Aok l) (hc:Cok c) (ht:(vtx rev u l).length≤50000) (h0:BO (ofBytes (vtx rev u l)) c=0):AB K l rev u c=some (AQ 0 (ctB rev u c 0 l)):=by
 have hlen:=hl.1
 rw [AB,IG hK hu hl,Option.bind_some,HB hK (by simpa [ofBytes,ByteArray.size] using ht) hc,Option.bind_some,h0,if_neg (by simp),NH hK hu hl,Option.bind_some]
 have:=J7 (K:=K) (rev:=rev) hK hu hl hc.1 (ps:=plc rev u 0 l) (by rw [K2]; omega) l 0 K [] 0 rfl rfl (by omega) (by simp; omega)
 simpa using this
def spA (rev:Int) (u:List Int) (f:Int):Int→List Atm→Nat
 | _,[] => 0
 | p,a :: l =>
   let n:=spA rev u f (if vis rev u a then p+a.1.size else p) l
   if n=0 then (if decide (p<f)&&vis rev u a then 1 else 0) else n+1
def skp (rev rank:Int) (l:List Atm):Nat:=(l.takeWhile fun a=>decide (a.2.1 > rev)&&decide (a.2.2.2.1≤rank)).length
def spt (rev:Int) (u:List Int) (rank f:Int) (l:List Atm):Nat:=spA rev u f 0 l+skp rev rank (l.drop (spA rev u f 0 l))
theorem EB {rev:Int} {u:List Int} {f p:Int} {a:Atm} {l:List Atm}:spA rev u f p (a :: l)=if spA rev u f (if vis rev u a=true then p+(a.1.size:Int) else p) l=0 then (if (decide (p<f)&&vis rev u a)=true then 1 else 0) else spA rev u f (if vis rev u a=true then p+(a.1.size:Int) else p) l+1:=rfl
theorem KO {rev:Int} {u:List Int} {f:Int}:∀ {l:List Atm} {p:Int},spA rev u f p l≤l.length
 | [],_ => Nat.le_refl _
 | a :: l,p => by
   have:=KO (rev:=rev) (u:=u) (f:=f) (l:=l) (p:=if vis rev u a then p+a.1.size else p)
   rw [EB,List.length_cons]
   generalize spA rev u f (if vis rev u a=true then p+(a.1.size:Int) else p) l=n at *
   repeat' split
   all_goals omega
theorem OS {α:Type} {q:α→Bool}:∀ {l:List α},(l.takeWhile q).length≤l.length
 | [] => Nat.le_refl _
 | a :: l => by
   have:=OS (q:=q) (l:=l)
   simp only [List.takeWhile_cons]
   split <;> simp <;> omega
theorem WC {rev:Int} {u:List Int} {rank f:Int} {l:List Atm}:spt rev u rank f l≤l.length:=by
 have:=KO (rev:=rev) (u:=u) (f:=f) (l:=l) (p:=0)
 have:=OS (q:=fun a:Atm=>decide (a.2.1 > rev)&&decide (a.2.2.2.1≤rank)) (l:=l.drop (spA rev u f 0 l))
 unfold spt skp
 simp only [List.length_drop] at this
 omega
theorem OK {K:Nat} {l:List Atm} {u:List Int} {rev f:Int} {ps:List Int} (hK:100000≤K) (hu:u.length≤50000) (hl:Aok l) (hps:ps.length≤30000):∀ (r:List Atm) (j k:Nat) (x p:Int),l.drop j=r→ps.drop j=plc rev u p r→r.length<k→
 AJ.l0 K l ps f rev u k x (j:Int)=some (if spA rev u f p r=0 then x else ((j+spA rev u f p r:Nat):Int))
 | [],j,k+1,x,p,h,_,_ => by
   have:=AA h
   rw [AJ.l0,if_neg (by simp; omega)]
   rfl
 | a :: r,j,k+1,x,p,h,hp,hk => by
   obtain ⟨h1,h2,h3⟩:=A7 h zA
   have hg:=hl.2 a (by have:a∈l.drop j:=by rw [h]; exact List.mem_cons_self
                       exact List.mem_of_mem_drop this)
   obtain ⟨h4,h5,h6⟩:=A7 hp (0:Int)
   have hlen:=hl.1
   rw [AJ.l0,if_pos (by simp; omega),if_pos ⟨by omega,by omega⟩,Int.toNat_natCast,h2,h5,FM hK hu (by omega),Option.bind_some,up1 (by omega)]
   have hj:(j:Int)<ps.length:=by omega
   simp only [if_pos hj]
   have ih:=fun x=>OK (f:=f) hK hu hl hps r (j+1) k x _ h3 h6 (by simpa using hk)
   rw [ih,ih]
   rw [EB]
   generalize spA rev u f (if vis rev u a=true then p+(a.1.size:Int) else p) r=n
   have e:(if decide (p<f)=true then some (vis rev u a) else some false)=some (decide (p<f)&&vis rev u a):=by
    by_cases h:p<f <;> simp [h]
   rw [e,Option.bind_some]
   cases (decide (p<f)&&vis rev u a) <;> by_cases hn:n=0 <;> simp [hn] <;> omega
theorem OL {K:Nat} {l:List Atm} {rev rank:Int} (hl:Aok l):∀ (r:List Atm) (j k:Nat),l.drop j=r→j≤l.length→r.length<k→AJ.l1 K l rev rank k (j:Int)=some ((j+skp rev rank r:Nat):Int)
 | [],j,k+1,h,hj,_ => by
   have:=AA h
   rw [AJ.l1,if_neg (by simp; omega),Option.bind_some,if_neg (by simp)]
   rfl
 | a :: r,j,k+1,h,hj,hk => by
   obtain ⟨h1,h2,h3⟩:=A7 h zA
   have hlen:=hl.1
   have hb:0≤(j:Int)∧(j:Int)<l.length:=⟨by omega,by omega⟩
   rw [AJ.l1,if_pos (by simp; omega),Int.toNat_natCast,h2,up1 (by omega),OL hl r (j+1) k h3 (by omega) (by simpa using hk)]
   simp only [if_pos hb]
   by_cases e1:a.2.1 > rev
   ·by_cases e2:a.2.2.2.1≤rank
    ·rw [if_pos (by simpa using e1),Option.bind_some,if_pos (by simpa using e2)]
     simp only [skp,List.takeWhile_cons,decide_eq_true e1,decide_eq_true e2]
     simp; omega
    ·rw [if_pos (by simpa using e1),Option.bind_some,if_neg (by simpa using e2)]
     simp only [skp,List.takeWhile_cons,decide_eq_false e2]
     simp
   ·rw [if_neg (by simpa using e1),Option.bind_some,if_neg (by simp)]
    simp only [skp,List.takeWhile_cons,decide_eq_false e1]
    simp
theorem WA {K:Nat} {l:List Atm} {u:List Int} {rev f rank:Int} (hK:100000≤K) (hu:u.length≤50000) (hl:Aok l):AJ K l (plc rev u 0 l) rev u f rank=some ((spt rev u rank f l:Nat):Int):=by
 have hlen:=hl.1
 have e:=OK (K:=K) (rev:=rev) (f:=f) hK hu hl (ps:=plc rev u 0 l) (by rw [K2]; omega) l 0 K 0 0 rfl rfl (by omega)
 have e:AJ.l0 K l (plc rev u 0 l) f rev u K 0 0=_:=e
 rw [AJ,e,Option.bind_some]
 have hle:=KO (rev:=rev) (u:=u) (f:=f) (l:=l) (p:=0)
 have e2:(if spA rev u f 0 l=0 then (0:Int) else ((0+spA rev u f 0 l:Nat):Int))=((spA rev u f 0 l:Nat):Int):=by
  split <;> omega
 rw [e2,OL hl _ _ K rfl hle (by simp; omega)]
 rfl
theorem OM {K:Nat} {l:List Atm} {u:List Int} {rev rank:Int} {c:List Chg} (hK:100000≤K) (hu:u.length≤50000) (hl:Aok l) (hc:c.length≤1000):∀ (r:List Chg) (j k:Nat) (x:List Int),c.drop j=r→r.length<k→x.length+r.length≤100000→
 B1.l0 K c l (plc rev u 0 l) rev u rank k x (j:Int)=some (x++r.map fun y=>((spt rev u rank y.1 l:Nat):Int))
 | [],j,k+1,x,h,_,_ => by
   have:=AA h
   rw [B1.l0,if_neg (by simp; omega)]
   simp
 | y :: r,j,k+1,x,h,hk,hx => by
   obtain ⟨h1,h2,h3⟩:=A7 h zC
   simp only [List.length_cons] at hx
   rw [B1.l0,if_pos (by simp; omega),if_pos ⟨by omega,by omega⟩,Int.toNat_natCast,h2,WA hK hu hl,Option.bind_some,if_pos (by simp; omega),up1 (by omega),OM hK hu hl hc r (j+1) k _ h3 (by simpa using hk) (by simp; omega)]
   simp
theorem WB {K:Nat} {l:List Atm} {u:List Int} {rev rank:Int} {c:List Chg} (hK:100000≤K) (hu:u.length≤50000) (hl:Aok l) (hc:Cok c) (ht:(vtx rev u l).length≤50000) (h0:BO (ofBytes (vtx rev u l)) c=0):B1 K l rev u c rank=some (c.map fun y=>((spt rev u rank y.1 l:Nat):Int)):=by
 have hlen:=hl.1
 have hcl:=hc.1
 rw [B1,IG hK hu hl,Option.bind_some,HB hK (by simpa [ofBytes,ByteArray.size] using ht) hc,Option.bind_some,h0,if_neg (by simp),NH hK hu hl,Option.bind_some]
 have:=OM (K:=K) (rev:=rev) (rank:=rank) hK hu hl hc.1 c 0 K [] rfl (by omega) (by simp; omega)
 simpa using this
def DH (a:Atm) (c:Int×Int):Atm:=(a.1,(a.2.1,(a.2.2.1,(a.2.2.2.1,a.2.2.2.2++[c]))))
def ctA (c:Int×Int):List Bool→List Atm→List Atm
 | b :: bs,a :: l => (if b then DH a c else a) :: ctA c bs l
 | _,l => l
def spl (old:List Atm):Nat→List (Nat×List Atm)→List Atm
 | p,[] => old.drop p
 | p,(s,x) :: r => (old.drop p).take (s - p) ++ (x ++ spl old s r)
def upS (rev:Int) (u:List Int) (c:List Chg) (w g rank:Int) (l:List Atm):List Atm:=
 spl (ctA (w,g) (ctB rev u c 0 l) l) 0 (c.map fun y=>(spt rev u rank y.1 l,AD y.2.2 w g rank))
theorem LY {c:Int×Int}:∀ {bs:List Bool} {l:List Atm},(ctA c bs l).length=l.length
 | [],l => by simp [ctA]
 | b :: bs,[] => by simp [ctA]
 | b :: bs,a :: l => by simp [ctA,LY]
theorem KB:∀ {bs:List Bool} {pre:List Bool} {i:Nat},pre.length=i→(AQ i bs).foldl (fun acc (x:Int)=>acc.set x.toNat true) (pre++List.replicate bs.length false)=pre++bs
 | [],pre,i,h => by simp [AQ]
 | b :: bs,pre,i,h => by
   have e:pre++List.replicate (b :: bs).length false=(pre++[false])++List.replicate bs.length false:=by
    simp [List.replicate_succ]
   cases b with
   | false =>
     have:=KB (bs:=bs) (pre:=pre++[false]) (i:=i+1) (by simp [h])
     simp only [AQ,Bool.false_eq_true,if_false]
     rw [e,this]
     simp
   | true =>
     have:=KB (bs:=bs) (pre:=pre++[true]) (i:=i+1) (by simp [h])
     simp only [AQ,if_true,List.foldl_cons,Int.toNat_natCast]
     have e2:(pre++List.replicate (true :: bs).length false).set i true=(pre++[true])++List.replicate bs.length false:=by
      rw [e,← h]
      simp
     rw [e2,this]
     simp
theorem OX:∀ {bs:List Bool} {i:Nat} {x:Int},x∈AQ i bs→(i:Int)≤x∧x<i+bs.length
 | [],_,_,h => by simp [AQ] at h
 | b :: bs,i,x,h => by
   have ih:=fun h=>OX (bs:=bs) (i:=i+1) (x:=x) h
   simp only [AQ] at h
   split at h
   ·rcases List.mem_cons.1 h with rfl | h
    ·simp; omega
    ·have:=ih h
     simp only [List.length_cons]; omega
   ·have:=ih h
    simp only [List.length_cons]; omega
theorem OW:∀ {bs:List Bool} {i:Nat},(AQ i bs).length≤bs.length
 | [],_ => by simp [AQ]
 | b :: bs,i => by
   have:=OW (bs:=bs) (i:=i+1)
   simp only [AQ]
   split <;> simp <;> omega
theorem P6 {K:Nat} {ts:List Int} (hts:ts.length≤50000):∀ (r:List Int) (j k:Nat) (acc:List Bool),ts.drop j=r→r.length<k→(∀ x∈r,0≤x∧x<acc.length)→
 A6.l0 K ts k acc (j:Int)=some (r.foldl (fun acc (x:Int)=>acc.set x.toNat true) acc)
 | [],j,k+1,acc,h,_,_ => by
   have:=AA h
   rw [A6.l0,if_neg (by simp; omega)]
   rfl
 | x :: r,j,k+1,acc,h,hk,hb => by
   obtain ⟨h1,h2,h3⟩:=A7 h (0:Int)
   have hx:=hb x List.mem_cons_self
   rw [A6.l0,if_pos (by simp; omega),Int.toNat_natCast,h2,if_pos ⟨by omega,by omega,hx.1,hx.2⟩,up1 (by omega),P6 hts r (j+1) k _ h3 (by simpa using hk) (fun y hy=>by rw [List.length_set]; exact hb y (List.mem_cons_of_mem _ hy))]
   rfl
theorem KX {K:Nat} {l:List Atm} {cut:List Bool} {w g:Int} (hl:l.length≤20000) (hcl:cut.length=l.length):∀ (r:List Atm) (j k:Nat) (pre:List Atm) (bs:List Bool),cut.drop j=bs→pre.length=j→j+r.length=l.length→r.length<k→(∀ a∈r,a.2.2.2.2.length≤1000)→
 A6.l1 K l cut w g k (pre++r) (j:Int)=some (pre++ctA (w,g) bs r)
 | [],j,k+1,pre,bs,hb,hp,h,_,_ => by
   rw [A6.l1,if_neg (by simp at h ⊢; omega)]
   cases bs <;> simp [ctA]
 | a :: r,j,k+1,pre,[],hb,hp,h,hk,_ => by
   have:=AA hb
   simp at h
   omega
 | a :: r,j,k+1,pre,b :: bs,hb,hp,h,hk,ha => by
   obtain ⟨h1,h2,h3⟩:=A7 hb false
   simp only [List.length_cons] at h
   have hga:(pre++a :: r).getD j zA=a:=by
    rw [List.getD_eq_getElem?_getD,List.getElem?_append_right (by omega),hp]; simp
   have hcu:=ha a List.mem_cons_self
   rw [A6.l1,if_pos (by simp; omega),if_pos ⟨by omega,by omega⟩,Int.toNat_natCast,h2,hga,up1 (by omega)]
   have e:∀ y:Atm,pre++y :: r=(pre++[y])++r:=fun y=>by simp
   cases b with
   | false =>
     rw [if_neg (by simp),e,KX hl hcl r (j+1) k (pre++[a]) bs h3 (by simp [hp]) (by omega) (by simpa using hk) (fun x hx=>ha x (List.mem_cons_of_mem _ hx))]
     simp [ctA]
   | true =>
     have es:setCut (pre++a :: r) j (a.2.2.2.2++[(w,g)])=(pre++[DH a (w,g)])++r:=by
      unfold setCut
      rw [hga,List.set_append_right _ _ (by omega),hp]
      simp [DH]
     rw [if_pos rfl,if_pos ⟨by simp; omega,by simp; omega,by simp; omega,rfl⟩,es,KX hl hcl r (j+1) k (pre++[DH a (w,g)]) bs h3 (by simp [hp]) (by omega) (by simpa using hk) (fun x hx=>ha x (List.mem_cons_of_mem _ hx))]
     simp [ctA]
theorem OE {rev:Int} {u:List Int} {f f':Int} (h:f≤f'):∀ {l:List Atm} {p:Int},spA rev u f p l≤spA rev u f' p l
 | [],_ => Nat.le_refl _
 | a :: l,p => by
   have:=OE h (rev:=rev) (u:=u) (l:=l) (p:=if vis rev u a=true then p+(a.1.size:Int) else p)
   rw [EB,EB]
   generalize spA rev u f (if vis rev u a=true then p+(a.1.size:Int) else p) l=n at *
   generalize spA rev u f' (if vis rev u a=true then p+(a.1.size:Int) else p) l=n' at *
   by_cases e:n'=0
   ·rw [if_pos e,if_pos (by omega)]
    by_cases e2:p<f
    ·have:p<f':=by omega
     rw [decide_eq_true e2,decide_eq_true this]
     exact Nat.le_refl _
    ·rw [decide_eq_false e2,Bool.false_and,if_neg (by simp)]
     omega
   ·rw [if_neg e]
    repeat' split
    all_goals omega
theorem OF {rev:Int} {u:List Int} {f:Int}:∀ {l:List Atm} {p:Int} {n:Nat},spA rev u f p l=n+1→∃ a,l[n]? = some a∧vis rev u a=true
 | [],_,_,h => by simp [spA] at h
 | a :: l,p,n,h => by
   rw [EB] at h
   generalize (if vis rev u a=true then p+(a.1.size:Int) else p)=q at h
   by_cases e:spA rev u f q l=0
   ·rw [if_pos e] at h
    by_cases hv:(decide (p<f)&&vis rev u a)=true
    ·rw [if_pos hv] at h
     have:n=0:=by omega
     subst this
     exact ⟨a,rfl,by simp only [Bool.and_eq_true] at hv; exact hv.2⟩
    ·rw [if_neg hv] at h; omega
   ·rw [if_neg e] at h
    obtain ⟨m,hm⟩:∃ m,n=m+1:=⟨n - 1,by omega⟩
    subst hm
    have h3:spA rev u f q l=m+1:=by omega
    obtain ⟨b,h1,h2⟩:=OF h3
    exact ⟨b,by simpa using h1,h2⟩
theorem O7 {rev rank:Int}:∀ {l:List Atm} {i:Nat} {a:Atm},l[i]? = some a→a.2.1≤rev→skp rev rank l≤i
 | [],_,_,h,_ => by simp at h
 | b :: l,0,a,h,ha => by
   simp at h
   subst h
   simp only [skp,List.takeWhile_cons]
   rw [decide_eq_false (by omega)]
   simp
 | b :: l,i+1,a,h,ha => by
   have:=O7 (rank:=rank) (l:=l) (i:=i) (a:=a) (by simpa using h) ha
   simp only [skp,List.takeWhile_cons] at *
   split
   ·simp; omega
   ·simp
theorem Y2 {rev:Int} {u:List Int} {a:Atm} (h:vis rev u a=true):a.2.1≤rev:=by
 simp only [vis,Bool.and_eq_true,decide_eq_true_eq] at h
 exact h.1.1
theorem WD {rev:Int} {u:List Int} {rank f f':Int} {l:List Atm} (h:f≤f'):spt rev u rank f l≤spt rev u rank f' l:=by
 have hm:=OE (rev:=rev) (u:=u) (l:=l) (p:=0) h
 unfold spt
 by_cases e:spA rev u f 0 l=spA rev u f' 0 l
 ·rw [e]; exact Nat.le_refl _
 ·obtain ⟨n,hn⟩:∃ n,spA rev u f' 0 l=n+1:=⟨spA rev u f' 0 l - 1,by omega⟩
  obtain ⟨a,h1,h2⟩:=OF hn
  have:=O7 (rank:=rank) (l:=l.drop (spA rev u f 0 l)) (i:=n - spA rev u f 0 l) (a:=a) (by rw [List.getElem?_drop,show spA rev u f 0 l+(n - spA rev u f 0 l)=n by omega]; exact h1) (Y2 h2)
  omega
theorem SK {l:List Int} (h:f5 l=0):∀ x∈l,x=0:=by
 induction l with
 | nil => simp
 | cons y l ih =>
   unfold f5 at h
   split at h
   ·rename_i e
    intro x hx
    rcases List.mem_cons.1 hx with rfl | hx
    ·exact e
    ·exact ih h x hx
   ·rename_i e; exact absurd h e
structure Gok (s:ByteArray) (c:List Chg):Prop where
 v:A1 s=true
 len:c.length≤8
 bd:∀ x∈c,0≤x.1∧x.1≤x.2.1∧x.2.1≤s.size
 eg:∀ x∈c,isE s x.1=true∧isE s x.2.1=true
 od:orC c=false
 vt:∀ x∈c,A1 x.2.2=true
theorem J0 {s:ByteArray} {c:List Chg} (h:BO s c=0):Gok s c:=by
 unfold BO at h
 split at h
 ·omega
 ·rename_i h1
  split at h
  ·omega
  ·rename_i h2
   have h3:=SK h
   have a1:=h3 _ (List.mem_cons_self)
   have a2:=h3 _ (List.mem_cons_of_mem _ List.mem_cons_self)
   have a3:=h3 _ (List.mem_cons_of_mem _ (List.mem_cons_of_mem _ List.mem_cons_self))
   have a4:=h3 _ (List.mem_cons_of_mem _ (List.mem_cons_of_mem _ (List.mem_cons_of_mem _ List.mem_cons_self)))
   refine ⟨by simpa using h1,by omega,fun x hx=>?_,fun x hx=>?_,?_,fun x hx=>?_⟩
   ·split at a1
    ·omega
    ·rename_i e
     have:bdC s x=false:=by
      cases hb:bdC s x with
      | false => rfl
      | true => exact absurd (List.any_eq_true.2 ⟨x,hx,hb⟩) e
     simp only [bdC,Bool.or_eq_false_iff,decide_eq_false_iff_not] at this
     omega
   ·split at a2
    ·omega
    ·rename_i e
     have:egC s x=false:=by
      cases hb:egC s x with
      | false => rfl
      | true => exact absurd (List.any_eq_true.2 ⟨x,hx,hb⟩) e
     simpa [egC] using this
   ·split at a3
    ·omega
    ·rename_i e; simpa using e
   ·split at a4
    ·omega
    ·rename_i e
     cases hb:A1 x.2.2 with
     | true => rfl
     | false => exact absurd (List.any_eq_true.2 ⟨x,hx,by simp [hb]⟩) e
theorem ND {a b:Chg} {l:List Chg} (h:orC (a :: b :: l)=false):a.2.1≤b.1∧orC (b :: l)=false:=by
 rw [orC] at h
 simp only [Bool.or_eq_false_iff,decide_eq_false_iff_not] at h
 exact ⟨by omega,h.2⟩
theorem P7 {K:Nat} {l old:List Atm} {u:List Int} {rev rank w g:Int} {c:List Chg} (hK:100000≤K) (hl:l.length≤20000) (ho:old.length=l.length) (hc:c.length≤8) (hv:∀ x∈c,A1 x.2.2=true) (hz:∀ x∈c,x.2.2.size≤30000) (hb:∀ x∈c,x.1≤x.2.1) :
 ∀ (r:List Chg) (j k p:Nat) (out:List Atm),c.drop j=r→r.length<k→p≤l.length→(∀ y,r.head? = some y→p≤spt rev u rank y.1 l)→orC r=false→out.length+r.length * 60000+20000≤10000000→
 A6.l2 K c (c.map fun y=>((spt rev u rank y.1 l:Nat):Int)) old w g rank k out (p:Int) (j:Int)=some (out++spl old p (r.map fun y=>(spt rev u rank y.1 l,AD y.2.2 w g rank)))
 | [],j,k+1,p,out,h,_,hp,_,_,hout => by
   have:=AA h
   rw [A6.l2,if_neg (by simp; omega),if_pos ⟨by omega,by omega,by simp; omega⟩]
   simp only [List.map_nil,spl,Int.toNat_natCast]
   rw [← List.length_drop,List.take_length]
 | y :: r,j,k+1,p,out,h,hk,hp,hh,hod,hout => by
   obtain ⟨h1,h2,h3⟩:=A7 h zC
   have hy:y∈c:=by have:y∈c.drop j:=by rw [h]; exact List.mem_cons_self
                   exact List.mem_of_mem_drop this
   have hs:=hh y rfl
   have hle:=WC (rev:=rev) (u:=u) (rank:=rank) (f:=y.1) (l:=l)
   have hg:(c.map fun y=>((spt rev u rank y.1 l:Nat):Int)).getD j 0=((spt rev u rank y.1 l:Nat):Int):=by
    rw [List.getD_eq_getElem?_getD,List.getElem?_map]
    have:c[j]? = some y:=by rw [← h2,List.getD_eq_getElem?_getD,List.getElem?_eq_getElem h1]; rfl
    rw [this]; rfl
   simp only [List.length_cons] at hout
   have hpl:=EY (s:=y.2.2) (w:=w) (g:=g) (r:=rank) (m:=y.2.2.size) (t:=0)
   have hpl:(AD y.2.2 w g rank).length≤y.2.2.size:=hpl
   have hzy:=hz y hy
   have htl:(List.take ((spt rev u rank y.1 l) - p) (List.drop p old)).length≤20000:=by simp; omega
   rw [A6.l2,if_pos (by simp; omega),Int.toNat_natCast,h2,hg,Int.toNat_natCast,Int.toNat_natCast,if_pos ⟨by omega,by omega,by simp; omega,by omega,by omega,by omega,by omega⟩,U9 hK hzy (hv y hy),Option.bind_some,if_pos (by rw [List.length_append]; omega),up1 (by omega),
    P7 hK hl ho hc hv hz hb r (j+1) k _ _ h3 (by simpa using hk) hle (fun z hz'=>by
     cases r with
     | nil => simp at hz'
     | cons z' r =>
       simp at hz'
       subst hz'
       have:=ND hod
       exact WD (Int.le_trans (hb y hy) this.1)) (by
     cases r with
     | nil => rfl
     | cons z' r => exact (ND hod).2) (by rw [List.length_append,List.length_append]; omega)]
   simp [spl]
theorem WZ {K:Nat} {l:List Atm} {u:List Int} {rev rank w g:Int} {c:List Chg} (hK:100000≤K) (hu:u.length≤50000) (hl:Aok l) (hc:Cok c) (ht:(vtx rev u l).length≤50000) (h0:BO (ofBytes (vtx rev u l)) c=0):A6 K l rev u c w g rank=some (upS rev u c w g rank l):=by
 have hlen:=hl.1
 have G:=J0 h0
 have hbl:=HE (rev:=rev) (u:=u) (c:=c) (l:=l) (p:=0)
 rw [A6,WB hK hu hl hc ht h0,Option.bind_some,IG hK hu hl,Option.bind_some,HB hK (by simpa [ofBytes,ByteArray.size] using ht) hc,Option.bind_some,h0,if_neg (by simp),if_pos ⟨by omega,by omega,by omega,by omega,by omega⟩,QU hK hu hl hc ht h0,Option.bind_some]
 have htl:=OW (bs:=ctB rev u c 0 l) (i:=0)
 have e0:=P6 (K:=K) (ts:=AQ 0 (ctB rev u c 0 l)) (by omega) (AQ 0 (ctB rev u c 0 l)) 0 K (List.replicate l.length false) rfl (by omega) (fun x hx=>by
  have:=OX hx
  simp; omega)
 have e0:A6.l0 K (AQ 0 (ctB rev u c 0 l)) K (List.replicate l.length false) 0=_:=e0
 have e1:=KB (bs:=ctB rev u c 0 l) (pre:=[]) (i:=0) rfl
 rw [List.nil_append,List.nil_append,hbl] at e1
 rw [Int.toNat_natCast,e0,e1,Option.bind_some,J4 hK hl,Option.bind_some,if_pos (by simp)]
 have e2:=KX (K:=K) (l:=l) (cut:=ctB rev u c 0 l) (w:=w) (g:=g) hlen hbl l 0 K [] _ rfl rfl (by omega) (by omega) (fun a ha=>(hl.2 a ha).2)
 have e2:A6.l1 K l (ctB rev u c 0 l) w g K l 0=_:=e2
 rw [e2,Option.bind_some,List.nil_append]
 have e3:=P7 (K:=K) (l:=l) (old:=ctA (w,g) (ctB rev u c 0 l) l) (u:=u) (rev:=rev) (rank:=rank) (w:=w) (g:=g) (c:=c) hK hlen LY G.len G.vt hc.2 (fun x hx=>(G.bd x hx).2.1) c 0 K 0 [] rfl (by have:=G.len; omega) (by omega) (fun _ _=>by omega) G.od (by have:=G.len; simp; omega)
 have e3:A6.l2 K c _ _ w g rank K [] 0 0=_:=e3
 exact e3
def Grp (g:List Int):Prop:=g.Pairwise (·< ·)∧∀ x∈g,0≤x∧x<60
theorem OC:∀ {l:List Int} {lo hi:Int},l.Pairwise (·< ·)→(∀ x∈l,lo≤x∧x<hi)→lo≤hi→(l.length:Int)≤hi - lo
 | [],lo,hi,_,_,h => by simp; omega
 | a :: l,lo,hi,hp,hb,h => by
   obtain ⟨h1,h2⟩:=List.pairwise_cons.1 hp
   have ha:=hb a List.mem_cons_self
   have:=OC (l:=l) (lo:=a+1) (hi:=hi) h2 (fun x hx=>⟨by have:=h1 x hx; omega,(hb x (List.mem_cons_of_mem _ hx)).2⟩) (by omega)
   simp only [List.length_cons]
   omega
theorem Grp.len {g:List Int} (h:Grp g):g.length≤60:=by
 have:=OC h.1 h.2 (by omega)
 omega
theorem Grp.ins {g:List Int} {x:Int} (h:Grp g) (hx:0≤x∧x<60):Grp (insS x g):=⟨insS_sorted h.1,fun y hy=>by
 rcases mem_insS.1 hy with rfl | hy
 ·exact hx
 ·exact h.2 y hy⟩
theorem Grp.filter {g:List Int} {q:Int→Bool} (h:Grp g):Grp (g.filter q):=⟨h.1.filter q,fun y hy=>h.2 y (List.mem_filter.1 hy).1⟩
theorem Grp.del {g:List Int} {x:Int} (h:Grp g):Grp (delS x g):=h.filter
structure Atk (h:Int) (a:Atm):Prop where
 s1:1≤a.1.size
 s4:a.1.size≤4
 r0:0≤a.2.1
 r1:a.2.1≤h
 g0 : -1≤a.2.2.1
 g1:a.2.2.1<60
 n:(a.2.2.2.2.length:Int)≤h
 c:∀ c∈a.2.2.2.2,0≤c.1∧c.1≤h∧-1≤c.2∧c.2<60
structure Ivt (l:List Atm) (us:List (List Int)) (f:Int) (g o:List Int):Prop where
 ne:0<us.length
 lo:0≤f
 hi:hdR us f≤200
 gg:Grp g
 oo:Grp o
 uu:∀ u∈us,u.Pairwise (·< ·)∧∀ x∈u,x∈g
 len:l.length≤4000
 aa:∀ a∈l,Atk (hdR us f) a
theorem Ivt.rok {l:List Atm} {us:List (List Int)} {f:Int} {g o:List Int} (h:Ivt l us f g o):Rok us f g o:=by
 have h1:=h.ne; have h2:=h.lo; have h3:=h.hi
 unfold hdR at h3
 refine ⟨h1,by omega,h2,by omega,fun u hu=>?_,by have:=h.gg.len; omega,by have:=h.oo.len; omega⟩
 have:Grp u:=⟨(h.uu u hu).1,fun x hx=>h.gg.2 x ((h.uu u hu).2 x hx)⟩
 have:=this.len
 omega
theorem Ivt.aok {l:List Atm} {us:List (List Int)} {f:Int} {g o:List Int} (h:Ivt l us f g o):Aok l:=by
 refine ⟨by have:=h.len; omega,fun a ha=>?_⟩
 have:=h.aa a ha
 have h1:=this.s4; have h2:=this.n; have h3:=h.hi
 exact ⟨by omega,by omega⟩
theorem LE {rev:Int} {u:List Int}:∀ {l:List Atm},(∀ a∈l,a.1.size≤4)→(vtx rev u l).length≤4 * l.length
 | [],_ => by simp [vtx]
 | a :: l,h => by
   have:=LE (rev:=rev) (u:=u) (l:=l) fun b hb=>h b (List.mem_cons_of_mem _ hb)
   have:=h a List.mem_cons_self
   simp only [vtx]
   split <;> simp [AS] <;> omega
theorem CJ {x:List Int}:(ofBytes x).size=x.length:=by simp [ofBytes,ByteArray.size]
theorem Ivt.vtx {l:List Atm} {us:List (List Int)} {f:Int} {g o:List Int} (h:Ivt l us f g o) {rev:Int} {u:List Int}:(vtx rev u l).length≤16000:=by
 have:=LE (rev:=rev) (u:=u) (l:=l) fun a ha=>(h.aa a ha).s4
 have:=h.len
 omega
theorem JA {K:Nat} {l:List Atm} {us:List (List Int)} {f:Int} {g o:List Int} (h:Rok us f g o):D2 K l us f g o=some (hdR us f):=by
 rw [D2,HV h,Option.bind_some]
def CW (l:List Atm) (us:List (List Int)) (f r:Int):ByteArray×Int:=if lvR us f r=true then (ofBytes (vtx r (unR us f r) l),0) else (ByteArray.mk #[],190)
theorem G6 {K:Nat} {l:List Atm} {us:List (List Int)} {f:Int} {g o:List Int} {r:Int} (hK:100000≤K) (h:Rok us f g o) (hl:Aok l):CN K l us f g o r=some (CW l us f r):=by
 have:=IJ h (r:=r)
 rw [CN,DK,HY h,Option.bind_some,Option.bind_some,CO,IK h,Option.bind_some,Option.bind_some,IG hK (by omega) hl,Option.bind_some]
 unfold CW
 cases lvR us f r <;> rfl
theorem I1 {us:List (List Int)} {f:Int} (h:0<us.length):lvR us f (hdR us f)=true:=by
 unfold lvR hdR
 simp
 omega
theorem KW {us:List (List Int)} {f:Int} (h:0<us.length):unR us f (hdR us f)=lsR us:=by
 unfold unR
 rw [if_pos (I1 h)]
 unfold lsR hdR
 rw [show (f+(us.length:Int) - 1 - f).toNat=us.length - 1 by omega]
def AH (l:List Atm) (us:List (List Int)) (f:Int):List Int:=vtx (hdR us f) (lsR us) l
theorem MC {K:Nat} {l:List Atm} {us:List (List Int)} {f:Int} {g o:List Int} (hK:100000≤K) (h:Rok us f g o) (hl:Aok l):E7 K l us f g o=some (l,us,g,o):=by
 rw [E7,J4 hK hl,Option.bind_some,UD hK h,Option.bind_some]
theorem SL {K:Nat} {l:List Atm} {us:List (List Int)} {f:Int} {g o:List Int} (hK:100000≤K) (h:Rok us f g o) (hl:Aok l):EQ K l us f g o=some (decide ((AH l us f).length≤20000)):=by
 rw [EQ,JA h,Option.bind_some,G6 hK h hl,Option.bind_some]
 unfold CW AH
 rw [if_pos (I1 h.ne),KW h.ne,CJ]
 congr 1
 rw [decide_eq_decide]
 omega
def C4 (l:List Atm) (us:List (List Int)) (f:Int) (g o:List Int) (base grp rank:Int) (c:List Chg):Int×Int×List Atm×List (List Int)×List Int×List Int:=
 if lvR us f base=false then (0,190,l,us,g,o)
 else if BO (ofBytes (vtx base (unR us f base) l)) c≠0 then (0,BO (ofBytes (vtx base (unR us f base) l)) c,l,us,g,o)
 else if (adR us f g o grp).2.1≠0 then (0,(adR us f g o grp).2.1,l,us,g,o)
 else if rank<0∨1000000<rank then (0,10,l,us,g,o)
 else if 4000<(upS base (unR us f base) c (hdR us f+1) grp rank l).length then (0,70,l,us,g,o)
 else (hdR us f+1,0,upS base (unR us f base) c (hdR us f+1) grp rank l,us++[lsR us],insS grp g,o)
theorem LF {us:List (List Int)} {f:Int} {g o:List Int} {x:Int} (h:(adR us f g o x).2.1=0):adR us f g o x=(hdR us f+1,0,us++[lsR us],insS x g)∧o.contains x=false∧0≤x∧x<60∧hdR us f<200:=by
 unfold adR at *
 split at h
 ·simp at h
 ·rename_i h1
  split at h
  ·simp at h
  ·rename_i h2
   rw [if_neg h1,if_neg h2]
   refine ⟨rfl,?_,?_,?_,by omega⟩
   ·cases e:o.contains x with
    | false => rfl
    | true => exact absurd (.inl e) h1
   ·omega
   ·omega
theorem T9 {us:List (List Int)} {u:List Int}:lsR (us++[u])=u:=by
 unfold lsR
 simp [List.getD_eq_getElem?_getD]
theorem HU {us:List (List Int)} {u:List Int} {f:Int}:hdR (us++[u]) f=hdR us f+1:=by
 unfold hdR
 simp
 omega
theorem TB {us:List (List Int)} (h:0<us.length):lsR us∈us:=by
 have hi:us.length - 1<us.length:=by omega
 exact GC hi
theorem JW {c:Int×Int}:∀ {bs:List Bool} {l:List Atm} {a:Atm},a∈ctA c bs l→∃ b∈l,a=b∨a=DH b c
 | [],l,a,h => ⟨a,by simpa [ctA] using h,.inl rfl⟩
 | _ :: _,[],a,h => by simp [ctA] at h
 | b :: bs,x :: l,a,h => by
   simp only [ctA] at h
   rcases List.mem_cons.1 h with rfl | h
   ·refine ⟨x,List.mem_cons_self,?_⟩
    split
    ·exact .inr rfl
    ·exact .inl rfl
   ·obtain ⟨y,h1,h2⟩:=JW h
    exact ⟨y,List.mem_cons_of_mem _ h1,h2⟩
theorem JX {old:List Atm}:∀ {r:List (Nat×List Atm)} {p:Nat} {a:Atm},a∈spl old p r→a∈old∨∃ q∈r,a∈q.2
 | [],p,a,h => .inl (List.mem_of_mem_drop h)
 | (s,x) :: r,p,a,h => by
   simp only [spl] at h
   rcases List.mem_append.1 h with h | h
   ·exact .inl (List.mem_of_mem_drop (List.mem_of_mem_take h))
   ·rcases List.mem_append.1 h with h | h
    ·exact .inr ⟨_,List.mem_cons_self,h⟩
    ·rcases JX h with h | ⟨q,h1,h2⟩
     ·exact .inl h
     ·exact .inr ⟨q,List.mem_cons_of_mem _ h1,h2⟩
theorem P5 {rev:Int} {u:List Int} {c:List Chg} {w g rank h:Int} {l:List Atm} (hl:∀ a∈l,Atk h a) (hw:w=h+1) (h0:0≤h) (hg:0≤g∧g<60) (hv:∀ x∈c,A1 x.2.2=true):∀ a∈upS rev u c w g rank l,Atk w a:=by
 intro a ha
 rcases JX ha with h1 | ⟨q,h1,h2⟩
 ·obtain ⟨b,hb,e⟩:=JW h1
  have A:=hl b hb
  have t1:=A.s1; have t2:=A.s4; have t3:=A.r0; have t4:=A.r1; have t5:=A.g0; have t6:=A.g1; have t7:=A.n
  rcases e with rfl | rfl
  ·exact ⟨t1,t2,t3,by omega,t5,t6,by omega,fun c hc=>by have:=A.c c hc; omega⟩
  ·refine ⟨t1,t2,t3,by simp only [DH]; omega,t5,t6,by simp [DH]; omega,fun c hc=>?_⟩
   rcases List.mem_append.1 (show c∈b.2.2.2.2++[(w,g)] from hc) with hc | hc
   ·have:=A.c c hc; omega
   ·simp at hc
    subst hc
    exact ⟨by omega,by omega,by omega,by omega⟩
 ·obtain ⟨x,hx,rfl⟩:=List.mem_map.1 h1
  obtain ⟨k1,k2,k3⟩:=K4 (hv x hx) a h2
  refine ⟨k1,k2,?_,?_,?_,?_,?_,fun c hc=>?_⟩
  ·rw [k3]; simp only; omega
  ·rw [k3]; simp only; omega
  ·rw [k3]; simp only; omega
  ·rw [k3]; simp only; omega
  ·rw [k3]; simp; omega
  ·rw [k3] at hc; simp at hc
theorem RV {K:Nat} {l:List Atm} {us:List (List Int)} {f:Int} {g o:List Int} {base grp rank:Int} {c:List Chg} (hK:100000≤K) (h:Ivt l us f g o) (hc:Cok c) :
 BJ K l us f g o base grp rank c=some (C4 l us f g o base grp rank c):=by
 have R:=h.rok
 have A:=h.aok
 have hul:=IJ R (r:=base)
 have htl:=h.vtx (rev:=base) (u:=unR us f base)
 rw [BJ,G6 hK R A,Option.bind_some]
 unfold C4 CW
 cases hlv:lvR us f base with
 | false => rfl
 | true =>
   rw [if_pos rfl]
   simp only [bne_self_eq_false,Bool.false_eq_true,if_false,Bool.true_eq_false]
   rw [HB hK (by rw [CJ]; omega) hc,Option.bind_some]
   by_cases hch:BO (ofBytes (vtx base (unR us f base) l)) c=0
   ·have n1:¬ (BO (ofBytes (vtx base (unR us f base) l)) c≠0):=by simpa using hch
    rw [if_neg n1,if_neg (by simpa using hch),MC hK R A,Option.bind_some]
    simp only
    rw [PM R,Option.bind_some]
    by_cases had:(adR us f g o grp).2.1=0
    ·have n2:¬ ((adR us f g o grp).2.1≠0):=by simpa using had
     rw [if_neg n2,if_neg (by simpa using had)]
     obtain ⟨ead,h1,h2,h3,h4⟩:=LF had
     by_cases hrk:rank<0∨1000000<rank
     ·have:(if decide (rank<0)=true then some true else some (decide (rank > 1000000)))=some true:=by
       rcases hrk with h | h
       ·rw [if_pos (by simpa using h)]
       ·split
        ·rfl
        ·simpa using h
      rw [this,Option.bind_some,if_pos rfl,if_pos hrk]
     ·have:(if decide (rank<0)=true then some true else some (decide (rank > 1000000)))=some false:=by
       rw [if_neg (by simp; omega)]
       simp; omega
      have G:=J0 hch
      have haT:=P5 (rev:=base) (u:=unR us f base) (c:=c) (w:=hdR us f+1) (g:=grp) (rank:=rank) h.aa rfl (by have:=h.lo; have:=h.ne; unfold hdR; omega) ⟨h2,h3⟩ G.vt
      rw [this,Option.bind_some,if_neg (by simp),if_neg hrk,CO,IK R,Option.bind_some,Option.bind_some,ead]
      simp only
      rw [WZ hK (by omega) A hc (by omega) hch,Option.bind_some]
      by_cases hln:4000<(upS base (unR us f base) c (hdR us f+1) grp rank l).length
      ·rw [if_pos (by simp; omega),if_pos hln]
      ·have R2:Rok (us++[lsR us]) f (insS grp g) o:=by
        refine ⟨by simp,?_,R.lo,R.hi,fun u hu=>?_,by have:=(h.gg.ins ⟨h2,h3⟩).len; omega,R.o⟩
        ·have:=h.hi; have:=h.lo; have:=h.ne
         unfold hdR at *
         simp; omega
        ·rcases List.mem_append.1 hu with hu | hu
         ·exact R.u u hu
         ·simp at hu; subst hu; exact TA R
       have A2:Aok (upS base (unR us f base) c (hdR us f+1) grp rank l):=by
        refine ⟨by omega,fun a ha=>?_⟩
        have T:=haT a ha
        have:=T.s4; have:=T.n
        exact ⟨by omega,by omega⟩
       have hfit:(AH (upS base (unR us f base) c (hdR us f+1) grp rank l) (us++[lsR us]) f).length≤20000:=by
        have:=LE (rev:=hdR (us++[lsR us]) f) (u:=lsR (us++[lsR us])) (l:=upS base (unR us f base) c (hdR us f+1) grp rank l) fun a ha=>(haT a ha).s4
        unfold AH
        omega
       rw [if_neg (by simp; omega),if_neg hln,SL hK R2 A2,Option.bind_some,if_neg (by simp; omega)]
    ·rw [if_pos had,if_pos (by simpa using had)]
   ·rw [if_pos hch,if_pos (by simpa using hch)]
theorem Atk.up {h h':Int} {a:Atm} (A:Atk h a) (hh:h≤h'):Atk h' a:=
 ⟨A.s1,A.s4,A.r0,by have:=A.r1; omega,A.g0,A.g1,by have:=A.n; omega,fun c hc=>by have:=A.c c hc; omega⟩
theorem M7 {l:List Atm} {us:List (List Int)} {f:Int} {g o:List Int} {base grp rank:Int} {c:List Chg} (h:Ivt l us f g o) :
 Ivt (C4 l us f g o base grp rank c).2.2.1 (C4 l us f g o base grp rank c).2.2.2.1 f (C4 l us f g o base grp rank c).2.2.2.2.1 (C4 l us f g o base grp rank c).2.2.2.2.2:=by
 unfold C4
 repeat' split
 all_goals first | exact h | skip
 rename_i h1 h2 h3 h4 h5
 obtain ⟨ead,k1,k2,k3,k4⟩:=LF (show (adR us f g o grp).2.1=0 by simpa using h3)
 have G:=J0 (show BO (ofBytes (vtx base (unR us f base) l)) c=0 by simpa using h2)
 have haT:=P5 (rev:=base) (u:=unR us f base) (c:=c) (w:=hdR us f+1) (g:=grp) (rank:=rank) h.aa rfl (by have:=h.lo; have:=h.ne; unfold hdR; omega) ⟨k2,k3⟩ G.vt
 refine ⟨by simp,h.lo,by rw [HU]; omega,h.gg.ins ⟨k2,k3⟩,h.oo,fun u hu=>?_,by simp only; omega,fun a ha=>by rw [HU]; exact haT a ha⟩
 have hsub:∀ u∈us,u.Pairwise (·< ·)∧∀ x∈u,x∈insS grp g:=fun u hu=>⟨(h.uu u hu).1,fun x hx=>mem_insS.2 (.inr ((h.uu u hu).2 x hx))⟩
 rcases List.mem_append.1 hu with hu | hu
 ·exact hsub u hu
 ·simp at hu
  subst hu
  exact hsub _ (TB h.ne)
abbrev Eng:=List Atm×List (List Int)×Int×List Int×List Int
def Iv (e:Eng):Prop:=Ivt e.1 e.2.1 e.2.2.1 e.2.2.2.1 e.2.2.2.2
def NC:Eng:=([],[[]],0,[],[])
theorem TL:Iv NC:=by
 refine ⟨by decide,by decide,by decide,⟨List.Pairwise.nil,fun x hx=>(List.not_mem_nil hx).elim⟩,⟨List.Pairwise.nil,fun x hx=>(List.not_mem_nil hx).elim⟩,fun u hu=>?_,by decide,fun x hx=>(List.not_mem_nil hx).elim⟩
 simp only [NC,List.mem_singleton] at hu
 subst hu
 exact ⟨List.Pairwise.nil,by simp⟩
theorem S4 {K:Nat}:HQ K=some ([[]],[],[]):=rfl
theorem Iv.r {e:Eng} (h:Iv e):Rok e.2.1 e.2.2.1 e.2.2.2.1 e.2.2.2.2:=Ivt.rok h
theorem Iv.k {e:Eng} (h:Iv e):Aok e.1:=Ivt.aok h
theorem T0 {K:Nat} (hK:100000≤K):GH K=some true:=by
 obtain ⟨n,rfl⟩:∃ n,K=n+40:=⟨K - 40,by omega⟩
 exact T1 n
theorem EL {s t:ByteArray}:bytesL (s++t)=bytesL s++bytesL t:=by
 simp [bytesL]
theorem DM {s:ByteArray}:ofBytes (bytesL s)=s:=by
 unfold ofBytes bytesL
 rw [List.map_map]
 have:(fun n:Int=>UInt8.ofNat n.toNat) ∘ (fun b:UInt8=>(b.toNat:Int))=id:=by
  funext b
  simp
 rw [this]
 simp
theorem E3 {s:ByteArray} {i j:Nat}:bytesL (s.extract i j)=((bytesL s).drop i).take (j - i):=by
 unfold bytesL
 rw [ByteArray.data_extract,Array.toList_extract,List.map_take.symm.symm]
 simp [List.extract_eq_take_drop,List.map_drop]
theorem IW {s:ByteArray} {i:Nat} (h:i<s.size):(bytesL s)[i]? = some (bt s (i:Int)):=by
 unfold bytesL bt
 rw [List.getElem?_map,Int.toNat_natCast,getElem?_pos s i h]
 have:s.data.toList[i]? = some s[i]:=by
  rw [Array.getElem?_toList]
  exact getElem?_pos s.data i h
 rw [this]
 rfl
def Asc (s:ByteArray):Prop:=∀ i:Nat,i<s.size→bt s (i:Int)<128
theorem LK {K:Nat} {s:ByteArray} (hs:s.size≤100000):∀ (d j k:Nat),j+d=s.size→d<k→∃ b,BZ.l0 K s k (j:Int)=some b∧(b=true→∀ i:Nat,j≤i→i<s.size→bt s (i:Int)<128)
 | 0,j,k+1,h,_ => by
   refine ⟨true,?_,fun _ i h1 h2=>by omega⟩
   rw [BZ.l0,if_neg (by simp; omega)]
 | d+1,j,k+1,h,hk => by
   obtain ⟨b,h1,h2⟩:=LK hs d (j+1) k (by omega) (by omega)
   rw [BZ.l0,if_pos (by simp; omega),if_pos ⟨by omega,by omega⟩,up1 (by omega),h1]
   by_cases e:bt s j≥128
   ·exact ⟨false,by rw [if_pos (by simpa using e)],fun h=>by cases h⟩
   ·refine ⟨b,by rw [if_neg (by simpa using e)],fun hb i hi1 hi2=>?_⟩
    by_cases ei:i=j
    ·subst ei; omega
    ·exact h2 hb i (by omega) hi2
theorem PT {K:Nat} {s:ByteArray} (hK:100000≤K) (hs:s.size≤10000):∃ b,BZ K s=some b∧(b=true→Asc s):=by
 obtain ⟨b,h1,h2⟩:=LK (K:=K) (s:=s) (by omega) s.size 0 K (by omega) (by omega)
 have h1:BZ.l0 K s K 0=some b:=h1
 exact ⟨b,h1,fun hb i hi=>h2 hb i (Nat.zero_le _) hi⟩
theorem PV {s:ByteArray} (h:Asc s) {i:Nat} (hi:i<s.size):usz s i=1:=by
 have:=h i hi
 unfold usz AG
 rw [if_neg (by omega),if_pos (by omega)]
theorem LM {s:ByteArray} (h:Asc s):∀ (m i:Nat),A3 s m i=true
 | 0,_ => rfl
 | m+1,i => by
   rw [A3]
   split
   ·rename_i hi
    rw [PV h (by omega),if_neg (by decide)]
    exact LM h m (i+1)
   ·rfl
theorem LN {s:ByteArray} (h:Asc s):A1 s=true:=LM h _ 0
theorem LJ {s:ByteArray} (h:Asc s) {i:Nat} (hi:i≤s.size):isE s (i:Int)=true:=by
 refine ET (LN h) (by omega) (by omega) ?_
 by_cases e:i=s.size
 ·exact .inl (by omega)
 ·refine .inr ?_
  have:=h i (by omega)
  unfold A0
  omega
theorem PR {s:ByteArray} (h:Asc s) {i:Nat} (hi:i<s.size):Utf8.decode s i=((bt s i).toNat,1):=by
 have h1:=h i hi
 have h2:=CZ (s:=s) i
 rw [M2]
 unfold dcd
 rw [if_pos (by omega)]
 congr 1
 omega
theorem PS {n:Nat} (h:n<128):bytesL (Utf8.encode (n:Int))=[(n:Int)]:=by
 have:∀ m:Fin 128,bytesL (Utf8.encode ((m.val:Nat):Int))=[((m.val:Nat):Int)]:=by decide +kernel
 exact this ⟨n,h⟩
theorem LL {s:ByteArray} {w g r:Int} (h:Asc s):∀ (m i:Nat),s.size≤i+m→(ptL s w g r m i).map (fun a=>(bytesL a.1,a.2))=((bytesL s).drop i).map fun x=>([x],(w,(g,(r,[]))))
 | 0,i,hm => by
   rw [List.drop_eq_nil_of_le (by rw [AS]; omega)]
   rfl
 | m+1,i,hm => by
   simp only [ptL]
   by_cases hi:i<s.size
   ·have hb:=h i hi
    have hb0:=(AE (s:=s) (i:=i)).1
    have hx:(bytesL s).drop i=bt s i :: (bytesL s).drop (i+1):=by
     have hlt:i<(bytesL s).length:=by rw [AS]; exact hi
     rw [List.drop_eq_getElem_cons hlt]
     congr 1
     have:=IW hi
     rw [List.getElem?_eq_getElem hlt] at this
     exact Option.some.inj this
    rw [if_pos hi,PR h hi,hx,List.map_cons,List.map_cons,LL h m (i+1) (by omega)]
    have he:=PS (n:=(bt s i).toNat) (by omega)
    have e2:(((bt s i).toNat:Nat):Int)=bt s i:=by omega
    rw [e2] at he
    simp only [e2,he]
   ·rw [if_neg hi,List.drop_eq_nil_of_le (by rw [AS]; omega)]
    rfl
def vsz (rev:Int) (u:List Int) (l:List Atm):Int:=((vtx rev u l).length:Nat)
theorem LB {rev:Int} {u:List Int}:vsz rev u []=0:=rfl
theorem IS {rev:Int} {u:List Int} {a:Atm} {l:List Atm}:vsz rev u (a :: l)=(if vis rev u a=true then (a.1.size:Int) else 0)+vsz rev u l:=by
 unfold vsz
 simp only [vtx]
 split
 ·rw [List.length_append,AS]; omega
 ·omega
theorem IT {rev:Int} {u:List Int}:∀ {l m:List Atm},vtx rev u (l++m)=vtx rev u l++vtx rev u m
 | [],_ => rfl
 | a :: l,m => by
   simp only [List.cons_append,vtx]
   split
   ·rw [IT,List.append_assoc]
   ·exact IT
theorem Y5 {rev:Int} {u:List Int} {l m:List Atm}:vsz rev u (l++m)=vsz rev u l+vsz rev u m:=by
 unfold vsz
 rw [IT,List.length_append]
 omega
theorem LC {rev:Int} {u:List Int} {l:List Atm}:0≤vsz rev u l:=by unfold vsz; omega
theorem HD {rev:Int} {u:List Int} {c:List Chg}:∀ {l m:List Atm} {p:Int},ctB rev u c p (l++m)=ctB rev u c p l++ctB rev u c (p+vsz rev u l) m
 | [],m,p => by rw [LB,Int.add_zero]; rfl
 | a :: l,m,p => by
   rw [IS]
   simp only [List.cons_append,ctB]
   split
   ·rw [HD,Int.add_assoc]; rfl
   ·rw [HD,Int.zero_add]; rfl
def EN (rev:Int) (u:List Int) (c:Int×Int) (l:List Atm):List Atm:=l.map fun a=>if vis rev u a=true then DH a c else a
def Vp (rev:Int) (u:List Int) (l:List Atm):Prop:=∀ a∈l,vis rev u a=true→0<a.1.size
theorem HC {rev:Int} {u:List Int} {f t:Int} {s:ByteArray} {c:Int×Int}:∀ {l:List Atm} {p:Int},(p+vsz rev u l≤f∨t≤p)→Vp rev u l→ctA c (ctB rev u [(f,(t,s))] p l) l=l
 | [],_,_,_ => by simp [ctB,ctA]
 | a :: l,p,h,hp => by
   have hp':Vp rev u l:=fun b hb=>hp b (List.mem_cons_of_mem _ hb)
   rw [IS] at h
   have h0:=LC (rev:=rev) (u:=u) (l:=l)
   simp only [ctB]
   split
   ·rename_i hv
    have hs:=hp a List.mem_cons_self hv
    rw [if_pos hv] at h
    have:cvr p [(f,(t,s))]=false:=by
     simp only [cvr,List.any_cons,List.any_nil,Bool.or_false]
     rcases h with h | h
     ·rw [decide_eq_false (show ¬ p≥f by omega),Bool.false_and]
     ·rw [decide_eq_false (show ¬ p<t by omega),Bool.and_false]
    rw [this]
    simp only [ctA,Bool.false_eq_true,if_false]
    rw [HC (by rcases h with h | h; exact .inl (by omega); exact .inr (by omega)) hp']
   ·rename_i hv
    rw [if_neg hv] at h
    simp only [ctA,Bool.false_eq_true,if_false]
    rw [HC (by rcases h with h | h; exact .inl (by omega); exact .inr (by omega)) hp']
theorem J5 {rev:Int} {u:List Int} {f t:Int} {s:ByteArray} {c:Int×Int}:∀ {l:List Atm} {p:Int},f≤p→p+vsz rev u l≤t→Vp rev u l→ctA c (ctB rev u [(f,(t,s))] p l) l=EN rev u c l
 | [],_,_,_,_ => by simp [ctB,ctA,EN]
 | a :: l,p,h1,h2,hp => by
   have hp':Vp rev u l:=fun b hb=>hp b (List.mem_cons_of_mem _ hb)
   rw [IS] at h2
   have h0:=LC (rev:=rev) (u:=u) (l:=l)
   unfold EN
   simp only [ctB,List.map_cons]
   split
   ·rename_i hv
    have hs:=hp a List.mem_cons_self hv
    rw [if_pos hv] at h2
    have:cvr p [(f,(t,s))]=true:=by
     simp only [cvr,List.any_cons,List.any_nil,Bool.or_false]
     rw [decide_eq_true (show p≥f by omega),decide_eq_true (show p<t by omega)]
     rfl
    rw [this]
    simp only [ctA,if_true]
    rw [J5 (by omega) (by omega) hp']
    rfl
   ·rename_i hv
    rw [if_neg hv] at h2
    simp only [ctA,Bool.false_eq_true,if_false]
    rw [J5 (by omega) (by omega) hp']
    rfl
theorem J6 {c:Int×Int}:∀ {bs bs':List Bool} {l m:List Atm},bs.length=l.length→ctA c (bs++bs') (l++m)=ctA c bs l++ctA c bs' m
 | [],bs',[],m,_ => by cases bs' <;> simp [ctA]
 | b :: bs,bs',a :: l,m,h => by
   simp only [List.cons_append,ctA]
   rw [J6 (by simpa using h)]
 | [],_,_ :: _,_,h => by simp at h
 | _ :: _,_,[],_,h => by simp at h
theorem KP {rev:Int} {u:List Int} {f:Int}:∀ {l:List Atm} {p:Int},f≤p→spA rev u f p l=0
 | [],_,_ => rfl
 | a :: l,p,h => by
   rw [EB,KP (by split <;> omega),if_pos rfl,decide_eq_false (show ¬ p<f by omega)]
   rfl
theorem OD {rev:Int} {u:List Int} {f:Int}:∀ {P m:List Atm} {p:Int},p+vsz rev u P=f→Vp rev u P→(P=[]∨∃ P' a,P=P'++[a]∧vis rev u a=true)→spA rev u f p (P++m)=P.length
 | [],m,p,h,_,_ => by
   rw [LB] at h
   exact KP (by omega)
 | a :: P,m,p,h,hp,he => by
   have hp':Vp rev u P:=fun b hb=>hp b (List.mem_cons_of_mem _ hb)
   rw [IS] at h
   rw [List.cons_append,EB]
   have hn:p+(if vis rev u a=true then (a.1.size:Int) else 0)=if vis rev u a=true then p+(a.1.size:Int) else p:=by split <;> omega
   cases P with
   | nil =>
     rcases he with he | ⟨P',b,he,hv⟩
     ·cases he
     ·have:P'=[]∧b=a:=by
       cases P' with
       | nil => simp at he; exact ⟨rfl,he.symm⟩
       | cons x P' => simp at he
      obtain ⟨rfl,rfl⟩:=this
      have hs:=hp b List.mem_cons_self hv
      rw [LB,if_pos hv] at h
      rw [if_pos hv,List.nil_append,KP (by omega),if_pos rfl,hv,decide_eq_true (show p<f by omega)]
      rfl
   | cons b P =>
     have he':b :: P=[]∨∃ P' a,b :: P=P'++[a]∧vis rev u a=true:=by
      rcases he with he | ⟨P',x,he,hv⟩
      ·cases he
      ·cases P' with
       | nil => simp at he
       | cons y P' =>
         simp only [List.cons_append,List.cons.injEq] at he
         exact .inr ⟨P',x,he.2,hv⟩
     rw [OD (P:=b :: P) (by rw [← hn]; omega) hp' he',if_neg (by simp)]
     simp
theorem WY {rev:Int} {u:List Int} {f t:Int} {s:ByteArray} {w g rank:Int} {P M Q:List Atm} (hp:Vp rev u (P++M++Q)) (h1:vsz rev u P=f) (h2:f+vsz rev u M=t)
 (he:P=[]∨∃ P' a,P=P'++[a]∧vis rev u a=true) (hh:∀ a,(M++Q).head? = some a→a.2.1≤rev) :
 upS rev u [(f,(t,s))] w g rank (P++M++Q)=P++(AD s w g rank++(EN rev u (w,g) M++Q)):=by
 have hpP:Vp rev u P:=fun a ha=>hp a (by simp [ha])
 have hpM:Vp rev u M:=fun a ha=>hp a (by simp [ha])
 have hpQ:Vp rev u Q:=fun a ha=>hp a (by simp [ha])
 have hm0:=LC (rev:=rev) (u:=u) (l:=M)
 have e1:ctA (w,g) (ctB rev u [(f,(t,s))] 0 (P++M++Q)) (P++M++Q)=P++(EN rev u (w,g) M++Q):=by
  rw [HD,HD,List.append_assoc,List.append_assoc,J6 HE,J6 HE,HC (.inl (by omega)) hpP,J5 (by omega) (by omega) hpM,HC (.inr (by rw [Y5]; omega)) hpQ]
 have e2:spt rev u rank f (P++M++Q)=P.length:=by
  unfold spt
  rw [List.append_assoc,OD (by omega) hpP he]
  have:skp rev rank ((P++(M++Q)).drop P.length)=0:=by
   rw [List.drop_left]
   cases hx:M++Q with
   | nil => rfl
   | cons a r =>
     have:=hh a (by rw [hx]; rfl)
     simp only [skp,List.takeWhile_cons]
     rw [decide_eq_false (by omega)]
     rfl
  omega
 unfold upS
 rw [e1]
 simp only [List.map_cons,List.map_nil,e2,spl]
 simp
def Blk (w g:Int) (cs:List (Int×Int)) (xs:List Int):List Atm:=xs.map fun x=>(ofBytes [x],(w,(g,(0,cs))))
def PI (rev:Int) (u:List Int) (w g:Int) (cs:List (Int×Int)):Bool:=decide (w≤rev)&&holds g u&&!cs.any (EO rev u)
theorem Q9 {x:Int} (h:0≤x∧x<256):bytesL (ofBytes [x])=[x]:=by
 unfold bytesL ofBytes
 simp
 omega
def Byt (xs:List Int):Prop:=∀ x∈xs,0≤x∧x<256
theorem Q8 {s:ByteArray}:Byt (bytesL s):=fun x hx=>by
 have:=List.all_eq_true.1 (JL (s:=s)) x hx
 simp at this
 omega
theorem Byt.sub {xs ys:List Int} (h:Byt ys) (hs:∀ x∈xs,x∈ys):Byt xs:=fun x hx=>h x (hs x hx)
theorem Byt.take {xs:List Int} {n:Nat} (h:Byt xs):Byt (xs.take n):=h.sub fun _ hx=>List.mem_of_mem_take hx
theorem Byt.drop {xs:List Int} {n:Nat} (h:Byt xs):Byt (xs.drop n):=h.sub fun _ hx=>List.mem_of_mem_drop hx
theorem LS {rev:Int} {u:List Int} {w g:Int} {cs:List (Int×Int)}:∀ {xs:List Int},Byt xs→vtx rev u (Blk w g cs xs)=if PI rev u w g cs=true then xs else []
 | [],_ => by simp [Blk,vtx]
 | x :: xs,h => by
   have ih:=LS (rev:=rev) (u:=u) (w:=w) (g:=g) (cs:=cs) (xs:=xs) fun y hy=>h y (List.mem_cons_of_mem _ hy)
   have e:vis rev u (ofBytes [x],(w,(g,((0:Int),cs))))=PI rev u w g cs:=rfl
   show vtx rev u ((ofBytes [x],(w,(g,(0,cs)))) :: Blk w g cs xs)=_
   simp only [vtx,e,ih,Q9 (h x List.mem_cons_self)]
   split <;> simp
theorem PU {s:ByteArray} {w g:Int} (h:Asc s):AD s w g 0=Blk w g [] (bytesL s):=by
 have e:=LL (w:=w) (g:=g) (r:=0) h s.size 0 (by omega)
 rw [List.drop_zero] at e
 have e2:=congrArg (List.map fun q:List Int×(Int×(Int×(Int×List (Int×Int))))=>((ofBytes q.1,q.2):Atm)) e
 rw [List.map_map,List.map_map] at e2
 have e3:((fun q:List Int×(Int×(Int×(Int×List (Int×Int))))=>((ofBytes q.1,q.2):Atm)) ∘ fun a:Atm=>(bytesL a.1,a.2))=id:=by
  funext a
  simp [DM]
 rw [e3,List.map_id] at e2
 unfold AD
 rw [e2]
 rfl
theorem P3 {x:Int} (h:Kd.ok (.int .u8) x):0≤x∧x<256:=by
 have h8:(Lit.int .u8 x).wf=true:=h
 simp [Lit.wf] at h8
 have e1:IntKind.u8.min=0:=by decide
 have e2:IntKind.u8.max=255:=by decide
 omega
theorem P4 {us:List (List Int)} {u:List Int} {f r:Int} (hr:f≤r) (h:r≤hdR us f+1):unR (us++[u]) f r=if r=hdR us f+1 then u else unR us f r:=by
 unfold unR lvR
 rw [HU,decide_eq_true hr,decide_eq_true h,Bool.true_and,if_pos rfl]
 unfold hdR at *
 split
 ·rename_i e
  rw [show (r - f).toNat=us.length by omega]
  simp [List.getD_eq_getElem?_getD]
 ·rw [decide_eq_true (by omega),Bool.and_self,if_pos rfl]
  rw [List.getD_eq_getElem?_getD,List.getD_eq_getElem?_getD,List.getElem?_append_left (by omega)]
theorem OJ {α:Type}:∀ {l:List α},l≠[]→∃ m x,l=m++[x]:=by
 intro l h
 exact ⟨l.dropLast,l.getLast h,(List.dropLast_concat_getLast h).symm⟩
theorem NB (a b:Int):mx2 a b=max a b:=by unfold mx2; split <;> omega
theorem N7 (a b:Int):mn2 a b=min a b:=by unfold mn2; split <;> omega
def txt (s:ByteArray):List Int:=s.data.toList.map fun b=>(b.toNat:Int)
theorem DV {s:ByteArray}:(txt s).length=s.size:=by simp [txt]
theorem TU {s:ByteArray}:ofBytes (txt s)=s:=by
 cases s with
 | mk d =>
   unfold ofBytes txt
   rw [List.map_map]
   have:((fun n:Int=>UInt8.ofNat n.toNat) ∘ fun b:UInt8=>(b.toNat:Int))=id:=by
    funext b; simp
   rw [this]; simp
theorem X3 {n c d e f:Int}:(2≤AG n c d e f→A0 d)∧(3≤AG n c d e f→A0 e)∧(4≤AG n c d e f→A0 f):=by
 unfold AG
 split
 ·omega
 ·split
  ·split
   ·rename_i h; exact ⟨fun _=>h.2.1,by omega,by omega⟩
   ·omega
  ·split
   ·split
    ·rename_i h; exact ⟨fun _=>h.2.1,fun _=>h.2.2.1,by omega⟩
    ·omega
   ·split
    ·split
     ·rename_i h; exact ⟨fun _=>h.2.1,fun _=>h.2.2.1,fun _=>h.2.2.2.1⟩
     ·omega
    ·omega
theorem P9 {s:ByteArray} {i j:Nat} (h1:i<j) (h2:(j:Int)<i+usz s i):A0 (bt s (j:Int)):=by
 by_cases hi:(i:Int)<s.size
 ·have hu:=BL (s:=s) (a:=i)
  unfold usz at h2 hu
  rw [if_neg (by omega)] at h2 hu
  have hc:=X3 (n:=(s.size:Int) - i) (c:=bt s i) (d:=bt s ((i:Int)+1)) (e:=bt s ((i:Int)+2)) (f:=bt s ((i:Int)+3))
  have h3:j=i+1∨j=i+2∨j=i+3:=by omega
  rcases h3 with rfl | rfl | rfl
  ·have:=hc.1 (by omega); rwa [show ((i+1:Nat):Int)=(i:Int)+1 by omega]
  ·have:=hc.2.1 (by omega); rwa [show ((i+2:Nat):Int)=(i:Int)+2 by omega]
  ·have:=hc.2.2 (by omega); rwa [show ((i+3:Nat):Int)=(i:Int)+3 by omega]
 ·have:usz s (i:Int)=0:=by unfold usz; rw [if_pos (by omega)]
  omega
theorem WI (s:ByteArray):∀ (d i:Nat) (r:List UInt8),s.size - i=d→ByteArray.toList.loop s i r=r.reverse++s.data.toList.drop i:=by
 intro d
 induction d with
 | zero =>
   intro i r h
   unfold ByteArray.toList.loop
   rw [if_neg (by omega),List.drop_eq_nil_of_le (by have:s.data.toList.length=s.size:=by simp
                                                    omega)]
   simp
 | succ d ih =>
   intro i r h
   unfold ByteArray.toList.loop
   have hl:s.data.toList.length=s.size:=by simp
   have hi:i<s.data.toList.length:=by omega
   rw [if_pos (by omega),ih (i+1) _ (by omega),List.drop_eq_getElem_cons hi]
   have:s.get! i=s.data.toList[i]:=by
    have h2:i<s.data.size:=by simpa using hi
    show s.data[i]! = _
    rw [getElem!_pos s.data i h2]
    simp
   rw [this]
   simp
theorem OU (s:ByteArray):ByteArray.toList s=s.data.toList:=by
 unfold ByteArray.toList
 rw [WI s s.size 0 [] rfl]
 simp
theorem ON {a b:ByteArray}:(ByteArray.toList a==ByteArray.toList b)=decide (a=b):=by
 rw [OU,OU]
 by_cases h:a=b
 ·subst h; simp
 ·have:a.data.toList≠b.data.toList:=fun h'=>h (by have:=Array.toList_inj.1 h'; cases a; cases b; simp only at this; rw [this])
  rw [beq_eq_false_iff_ne.2 this]; simp [h]
theorem VC {a:ByteArray}:a=⟨#[]⟩↔a.size=0:=by
 constructor
 ·rintro rfl; rfl
 ·intro h
  rw [← TU (s:=a)]
  have:txt a=[]:=List.eq_nil_of_length_eq_zero (by rw [DV]; exact h)
  rw [this]; rfl
theorem KS {a:ByteArray}:(ByteArray.toList a==ByteArray.toList (ByteArray.mk #[]))=decide (a.size=0):=by
 rw [ON]
 exact decide_eq_decide.2 VC
abbrev El:=Int×(Int×ByteArray)
theorem ES {K:Nat} {x1 x2:Int} {x3:ByteArray}:CI K x1 x2 x3=some (decide (x3.size=0)):=by
 unfold CI
 rw [KS]
theorem S2 {K:Nat} {x1 x2 base to:Int} {x3:ByteArray} {ahead copied:Bool} (hK:30000≤K):FZ K x1 x2 x3 base to ahead copied =
 some (if x3.size=0 then decide (to≤x1∧(to<x1∨copied=false)∧x1<x2∧x2≤base) else decide (x1=0∧x2=0∧(ahead=false∨copied=true)∧x3.size≤20000)&&A1 x3):=by
 unfold FZ
 rw [ES,Option.bind_some]
 by_cases h:x3.size=0
 ·rw [if_pos (by simpa using h),if_pos h]
  by_cases h1:x1≥to
  ·rw [if_pos (by simpa using h1)]
   by_cases h2:x1 > to
   ·rw [if_pos (by simpa using h2)]
    by_cases h3:x1<x2
    ·rw [if_pos (by simpa using h3)]
     congr 1; rw [decide_eq_decide]; omega
    ·rw [if_neg (by simpa using h3)]
     congr 1; symm; rw [decide_eq_false_iff_not]; omega
   ·rw [if_neg (by simpa using h2)]
    cases copied with
    | true => rw [if_neg (by simp)]; congr 1; symm; rw [decide_eq_false_iff_not]; simp; omega
    | false =>
      rw [if_pos (by simp)]
      by_cases h3:x1<x2
      ·rw [if_pos (by simpa using h3)]
       congr 1; rw [decide_eq_decide]; simp; omega
      ·rw [if_neg (by simpa using h3)]
       congr 1; symm; rw [decide_eq_false_iff_not]; omega
  ·rw [if_neg (by simpa using h1)]
   congr 1; symm; rw [decide_eq_false_iff_not]; omega
 ·rw [if_neg (by simpa using h),if_neg h]
  by_cases h1:x1=0∧x2=0
  ·rw [if_pos (by simp [h1])]
   by_cases h2:x3.size≤20000
   ·have hv:AR K x3=some (A1 x3):=GV (by omega) (by omega)
    cases ahead with
    | false => rw [if_pos (by simp),if_pos (by simp; omega),hv,Option.bind_some]; simp [h1,h2]
    | true =>
      rw [if_neg (by simp)]
      cases copied with
      | true => rw [if_pos rfl,if_pos (by simp; omega),hv,Option.bind_some]; simp [h1,h2]
      | false => rw [if_neg (by simp)]; simp
   ·cases ahead with
    | false => rw [if_pos (by simp),if_neg (by simp; omega)]; simp [h2]
    | true =>
      rw [if_neg (by simp)]
      cases copied with
      | true => rw [if_pos rfl,if_neg (by simp; omega)]; simp [h2]
      | false => rw [if_neg (by simp)]; simp
  ·rw [if_neg (by simp; omega)]
   congr 1; symm
   rw [Bool.and_eq_false_iff,decide_eq_false_iff_not]
   left
   exact fun h'=>h1 ⟨h'.1,h'.2.1⟩
def isL (base:Int):Int→Int→Option Bool→List El→Bool
 | _,_,_,[] => true
 | size,to,pre,x :: r =>
   if x.2.2.size=0 then
    decide (to≤x.1∧(to<x.1∨pre≠some true)∧x.1<x.2.1∧x.2.1≤base∧size+(x.2.1 - x.1)≤20000)&&isL base (size+(x.2.1 - x.1)) x.2.1 (some true) r
   else
    (decide (x.1=0∧x.2.1=0∧pre≠some false∧size+x.2.2.size≤20000)&&A1 x.2.2)&&isL base (size+x.2.2.size) to (some false) r
def isD (base:Int) (l:List El):Bool:=decide (0≤base∧base≤20000∧l.length≤60)&&isL base 0 0 none l
def AF (d:List El) (j:Nat):Option Bool:=if j=0 then none else some (decide ((d.getD (j - 1) ((0:Int),((0:Int),ByteArray.empty))).2.2.size=0))
theorem U8 {d:List El} {j:Nat} {x:El} (h:d.getD j ((0:Int),((0:Int),ByteArray.empty))=x):AF d (j+1)=some (decide (x.2.2.size=0)):=by
 unfold AF
 rw [if_neg (by omega),Nat.add_sub_cancel,h]
theorem MV {K:Nat} {d:List El} {base:Int} (hK:30000≤K) (hb:base≤20000) (hl:d.length≤60):∀ (rest:List El) (j k:Nat) (size to:Int),d.drop j=rest→rest.length<k→0≤size→size≤20000→0≤to→to≤20000→
 B0.l0 K d base k size to (j:Int)=some (isL base size to (AF d j) rest)
 | [],j,k,size,to,hd,hk,h0,h1,h2,h3 => by
   obtain ⟨k,rfl⟩:∃ m,k=m+1:=⟨k - 1,by simp at hk; omega⟩
   have:=AA hd
   rw [B0.l0,if_neg (by simp; omega)]
   rfl
 | x :: rest,j,k,size,to,hd,hk,h0,h1,h2,h3 => by
   obtain ⟨k,rfl⟩:∃ m,k=m+1:=⟨k - 1,by simp at hk; omega⟩
   obtain ⟨hj,hgd,hd'⟩:=A7 hd ((0:Int),((0:Int),ByteArray.empty))
   have hk':rest.length<k:=by simp at hk; omega
   have hw:IntKind.wrap .i64 ((j:Int)+1)=((j+1:Nat):Int):=by rw [w64 (by omega) (by omega)]; omega
   have hw1:IntKind.wrap .i64 ((j:Int) - 1)=(j:Int) - 1:=w64 (by omega) (by omega)
   have hps:=U8 hgd
   have hnext:=fun (size' to':Int) (a0:0≤size') (a1:size'≤20000) (a2:0≤to') (a3:to'≤20000)=>MV (K:=K) hK hb hl rest (j+1) k size' to' hd' hk' a0 a1 a2 a3
   rw [hps] at hnext
   have hcp:(if decide ((j:Int) > 0)=true then (CI K (d.getD ((j:Int) - 1).toNat ((0:Int),((0:Int),ByteArray.empty))).1 (d.getD ((j:Int) - 1).toNat ((0:Int),((0:Int),ByteArray.empty))).2.1 (d.getD ((j:Int) - 1).toNat ((0:Int),((0:Int),ByteArray.empty))).2.2).bind fun r_22=>if 0≤(j:Int) - 1∧(j:Int) - 1<((d.length:Nat):Int) then some r_22 else none else some false)=some (AF d j==some true):=by
    unfold AF
    by_cases hj0:j=0
    ·subst hj0; simp
    ·rw [if_pos (by simp; omega),ES,Option.bind_some,if_pos ⟨by omega,by omega⟩,if_neg hj0,show ((j:Int) - 1).toNat=j - 1 by omega]
     simp
   have hah:∀ b:Bool,(decide ((j:Int) > 0)=false∨b=true)↔(AF d j=none∨b=true):=by
    intro b
    unfold AF
    by_cases hj0:j=0
    ·subst hj0; simp
    ·simp [hj0]
   rw [B0.l0]
   simp only [Int.toNat_natCast,hgd,hw,hw1]
   rw [if_pos (by simpa using hj),if_pos ⟨by omega,by omega⟩,hcp,Option.bind_some,S2 hK,Option.bind_some,ES,isL]
   by_cases hz:x.2.2.size=0
   ·rw [if_pos hz,if_pos hz,hz]
    by_cases hc:to≤x.1∧(to<x.1∨(AF d j==some true)=false)∧x.1<x.2.1∧x.2.1≤base
    ·rw [show decide (to≤x.1∧(to<x.1∨(AF d j==some true)=false)∧x.1<x.2.1∧x.2.1≤base)=true from decide_eq_true hc,if_neg (by simp),Option.bind_some,if_pos (by simp),Option.bind_some]
     simp only [Int.natCast_zero,Int.add_zero]
     rw [w64 (n:=x.2.1 - x.1) (by omega) (by omega),w64 (n:=x.2.1 - x.1) (by omega) (by omega),w64 (n:=size+(x.2.1 - x.1)) (by omega) (by omega)]
     have hp:(AF d j==some true)=false↔AF d j≠some true:=by simp
     by_cases hs:size+(x.2.1 - x.1)≤20000
     ·rw [if_neg (by simpa using hs),hnext _ _ (by omega) hs (by omega) (by omega),hz]
      have:decide (to≤x.1∧(to<x.1∨AF d j≠some true)∧x.1<x.2.1∧x.2.1≤base∧size+(x.2.1 - x.1)≤20000)=true:=by
       rw [decide_eq_true_eq]
       rw [hp] at hc
       exact ⟨hc.1,hc.2.1,hc.2.2.1,hc.2.2.2,hs⟩
      rw [this]; simp
     ·rw [if_pos (by simp; omega)]
      have:decide (to≤x.1∧(to<x.1∨AF d j≠some true)∧x.1<x.2.1∧x.2.1≤base∧size+(x.2.1 - x.1)≤20000)=false:=by
       rw [decide_eq_false_iff_not]
       exact fun h=>hs h.2.2.2.2
      rw [this]; rfl
    ·rw [show decide (to≤x.1∧(to<x.1∨(AF d j==some true)=false)∧x.1<x.2.1∧x.2.1≤base)=false from decide_eq_false hc,if_pos (by simp)]
     have hp:(AF d j==some true)=false↔AF d j≠some true:=by simp
     have:decide (to≤x.1∧(to<x.1∨AF d j≠some true)∧x.1<x.2.1∧x.2.1≤base∧size+(x.2.1 - x.1)≤20000)=false:=by
      rw [decide_eq_false_iff_not]
      rw [hp] at hc
      exact fun h=>hc ⟨h.1,h.2.1,h.2.2.1,h.2.2.2.1⟩
     rw [this]; rfl
   ·rw [if_neg hz,if_neg hz]
    have hpre:(decide ((j:Int) > 0)=false∨(AF d j==some true)=true)↔AF d j≠some false:=by
     rw [hah]
     cases AF d j with
     | none => simp
     | some b => cases b <;> simp
    by_cases hc:x.1=0∧x.2.1=0∧(decide ((j:Int) > 0)=false∨(AF d j==some true)=true)∧x.2.2.size≤20000
    ·rw [show decide (x.1=0∧x.2.1=0∧(decide ((j:Int) > 0)=false∨(AF d j==some true)=true)∧x.2.2.size≤20000)=true from by rw [decide_eq_true_eq]; exact hc]
     cases hv:A1 x.2.2 with
     | false => rw [if_pos (by simp)]; simp
     | true =>
       rw [if_neg (by simp),Option.bind_some,if_neg (by simpa using hz),Option.bind_some]
       rw [hc.1,hc.2.1,Int.sub_zero,w64 (n:=0) (by omega) (by omega),Int.zero_add,w64 (n:=(x.2.2.size:Int)) (by omega) (by omega),w64 (n:=size+(x.2.2.size:Int)) (by omega) (by omega)]
       by_cases hs:size+(x.2.2.size:Int)≤20000
       ·rw [if_neg (by simpa using hs),hnext _ _ (by omega) hs (by omega) (by omega)]
        have:decide ((0:Int)=0∧(0:Int)=0∧AF d j≠some false∧size+(x.2.2.size:Int)≤20000)=true:=by
         rw [decide_eq_true_eq]
         exact ⟨rfl,rfl,hpre.1 hc.2.2.1,hs⟩
        rw [this]
        simp [hz]
       ·rw [if_pos (by simp; omega)]
        have:decide ((0:Int)=0∧(0:Int)=0∧AF d j≠some false∧size+(x.2.2.size:Int)≤20000)=false:=by
         rw [decide_eq_false_iff_not]
         exact fun h=>hs h.2.2.2
        rw [this]; rfl
    ·rw [show decide (x.1=0∧x.2.1=0∧(decide ((j:Int) > 0)=false∨(AF d j==some true)=true)∧x.2.2.size≤20000)=false from by rw [decide_eq_false_iff_not]; exact hc]
     rw [if_pos (by simp)]
     have:decide (x.1=0∧x.2.1=0∧AF d j≠some false∧size+(x.2.2.size:Int)≤20000)=false:=by
      rw [decide_eq_false_iff_not]
      exact fun h=>hc ⟨h.1,h.2.1,hpre.2 h.2.2.1,by omega⟩
     rw [this]; rfl
theorem EV {K:Nat} {d:List El} {base:Int} (hK:30000≤K):B0 K base d=some (isD base d):=by
 unfold B0 isD
 by_cases h1:base<0
 ·rw [if_pos (by simpa using h1),Option.bind_some,if_pos rfl]
  congr 1; symm; rw [Bool.and_eq_false_iff,decide_eq_false_iff_not]; left; omega
 ·rw [if_neg (by simpa using h1)]
  by_cases h2:base > 20000
  ·rw [if_pos (by simpa using h2),Option.bind_some,if_pos rfl]
   congr 1; symm; rw [Bool.and_eq_false_iff,decide_eq_false_iff_not]; left; omega
  ·rw [if_neg (by simpa using h2),Option.bind_some]
   by_cases h3:d.length > 60
   ·rw [if_pos (by simp; omega)]
    congr 1; symm; rw [Bool.and_eq_false_iff,decide_eq_false_iff_not]; left; omega
   ·have h:=MV (K:=K) (d:=d) (base:=base) hK (by omega) (by omega) d 0 K 0 0 rfl (by omega) (by omega) (by omega) (by omega) (by omega)
    rw [Int.natCast_zero] at h
    rw [if_neg (by simp; omega),h]
    have:decide (0≤base∧base≤20000∧d.length≤60)=true:=by rw [decide_eq_true_eq]; omega
    rw [this]
    rfl
abbrev el0:El:=((0:Int),((0:Int),ByteArray.empty))
def GD (b:Bool) (l:List El):Prop:=l≠[]∧decide ((l.getD (l.length - 1) el0).2.2.size=0)=b
instance (b:Bool) (l:List El):Decidable (GD b l):=inferInstanceAs (Decidable (_∧_))
def BV (l:List El) (f t:Int):List El:=
 if f=t then l else if GD true l∧(l.getD (l.length - 1) el0).2.1=f then l.set (l.length - 1) ((l.getD (l.length - 1) el0).1,(t,(l.getD (l.length - 1) el0).2.2)) else l++[(f,(t,ByteArray.empty))]
def BW (l:List El) (s:ByteArray):List El:=
 if s.size=0 then l else if GD false l then l.set (l.length - 1) ((l.getD (l.length - 1) el0).1,((l.getD (l.length - 1) el0).2.1,(l.getD (l.length - 1) el0).2.2++s)) else l++[(0,(0,s))]
def A4:List El→Nat
 | [] => 0
 | x :: r => x.2.2.size+A4 r
def AL:List El→Int
 | [] => 0
 | x :: r => (x.2.1 - x.1)+AL r
theorem GS:∀ {l r:List El},A4 (l++r)=A4 l+A4 r
 | [],r => by simp [A4]
 | x :: l,r => by simp only [List.cons_append,A4,GS]; omega
theorem MX:∀ {l:List El} {x:El},x∈l→x.2.2.size≤A4 l
 | y :: l,x,h => by
   rw [A4]
   rcases List.mem_cons.1 h with rfl | h
   ·omega
   ·have:=MX h; omega
theorem MA:ByteArray.empty.size=0:=rfl
theorem JK {l:List El} {p:El}:(l++[p]).getD ((l++[p]).length - 1) el0=p:=by
 simp [List.getD]
theorem O6 {α:Type} {l:List α} {p q:α}:(l++[p]).set ((l++[p]).length - 1) q=l++[q]:=by
 have:(l++[p]).length - 1=l.length:=by simp
 rw [this,List.set_append_right _ _ (Nat.le_refl _),Nat.sub_self,List.set_cons_zero]
theorem N3 {f t:Int}:BV [] f t=if f=t then [] else [(f,(t,ByteArray.empty))]:=by
 unfold BV
 split
 ·rfl
 ·rw [if_neg (fun h=>h.1.1 rfl)]; rfl
theorem HX {b:Bool} {l:List El} {p:El}:GD b (l++[p])↔decide (p.2.2.size=0)=b:=by
 unfold GD
 rw [JK]
 exact ⟨fun h=>h.2,fun h=>⟨by simp,h⟩⟩
theorem JY {l:List El} {p:El} {f t:Int}:BV (l++[p]) f t=if f=t then l++[p] else if p.2.2.size=0∧p.2.1=f then l++[(p.1,(t,p.2.2))] else l++[p]++[(f,(t,ByteArray.empty))]:=by
 unfold BV
 rw [JK,O6]
 by_cases h:f=t
 ·rw [if_pos h,if_pos h]
 ·rw [if_neg h,if_neg h]
  by_cases h2:p.2.2.size=0∧p.2.1=f
  ·rw [if_pos ⟨HX.2 (decide_eq_true h2.1),h2.2⟩,if_pos h2]
  ·rw [if_neg (fun h'=>h2 ⟨of_decide_eq_true (HX.1 h'.1),h'.2⟩),if_neg h2]
theorem N5 {s:ByteArray}:BW [] s=if s.size=0 then [] else [(0,(0,s))]:=by
 unfold BW
 split
 ·rfl
 ·rw [if_neg (fun h=>h.1 rfl)]; rfl
theorem N4 {l:List El} {p:El} {s:ByteArray}:BW (l++[p]) s=if s.size=0 then l++[p] else if p.2.2.size=0 then l++[p]++[(0,(0,s))] else l++[(p.1,(p.2.1,p.2.2++s))]:=by
 unfold BW
 rw [JK,O6]
 by_cases h:s.size=0
 ·rw [if_pos h,if_pos h]
 ·rw [if_neg h,if_neg h]
  by_cases h2:p.2.2.size=0
  ·rw [if_neg (fun h'=>by have:=HX.1 h'; simp [h2] at this),if_pos h2]
  ·rw [if_pos (HX.2 (decide_eq_false h2)),if_neg h2]
theorem AT {a b:ByteArray}:(a++b).size=a.size+b.size:=ByteArray.size_append
theorem TE {l:List El} {f t:Int}:(BV l f t).length≤l.length+1:=by
 unfold BV
 split
 ·omega
 ·split <;> simp
theorem TG {l:List El} {s:ByteArray}:(BW l s).length≤l.length+1:=by
 unfold BW
 split
 ·omega
 ·split <;> simp
theorem TF {l:List El} {f t:Int}:A4 (BV l f t)=A4 l:=by
 by_cases h:l=[]
 ·subst h; rw [N3]; split <;> simp [A4,MA]
 ·obtain ⟨m,p,rfl⟩:=OJ h
  rw [JY]
  split
  ·rfl
  ·split
   ·simp [GS,A4]
   ·simp [GS,A4,MA]
theorem TH {l:List El} {s:ByteArray}:A4 (BW l s)=A4 l+s.size:=by
 by_cases h:l=[]
 ·subst h; rw [N5]; split
  ·simp [A4]; omega
  ·simp [A4]
 ·obtain ⟨m,p,rfl⟩:=OJ h
  rw [N4]
  split
  ·omega
  ·split
   ·simp [GS,A4] <;> omega
   ·simp [GS,A4,AT] <;> omega
theorem QJ {K:Nat} {m f t:Int} {l:List El} (hl:l.length≤1000000000):FW K m l f t=some (BV l f t):=by
 unfold FW BV
 have hw:IntKind.wrap .i64 ((l.length:Int) - 1)=(l.length:Int) - 1:=w64 (by omega) (by omega)
 rw [hw]
 by_cases h:f=t
 ·rw [if_pos (by simpa using h),if_pos h]
 ·rw [if_neg (by simpa using h),if_neg h]
  by_cases he:l=[]
  ·subst he
   rw [if_neg (by simp),Option.bind_some,if_neg (by simp),if_pos (by simp),if_neg (fun h=>h.1.1 rfl)]
  ·have hp:0<l.length:=List.length_pos_iff.2 he
   have hn:((l.length:Int) - 1).toNat=l.length - 1:=by omega
   rw [if_pos (by simp; omega),hn,ES,Option.bind_some]
   by_cases hz:(l.getD (l.length - 1) el0).2.2.size=0
   ·rw [if_pos (decide_eq_true hz),if_pos ⟨by omega,by omega⟩,Option.bind_some]
    by_cases hq:(l.getD (l.length - 1) el0).2.1=f
    ·rw [if_pos (by simpa using hq),if_pos ⟨by omega,by omega⟩,if_pos ⟨⟨he,decide_eq_true hz⟩,hq⟩]
    ·rw [if_neg (by simpa using hq),if_pos (by simp; omega),if_neg (fun h=>hq h.2)]
   ·rw [if_neg (by simpa using hz),if_pos ⟨by omega,by omega⟩,Option.bind_some,if_neg (by simp),if_pos (by simp; omega),if_neg (fun h=>hz (of_decide_eq_true h.1.2))]
theorem UC {K:Nat} {m:Int} {l:List El} {s:ByteArray} (hl:l.length≤1000000000) (ht:A4 l+s.size≤9223372036854775807):FX K m l s=some (BW l s):=by
 unfold FX BW
 have hw:IntKind.wrap .i64 ((l.length:Int) - 1)=(l.length:Int) - 1:=w64 (by omega) (by omega)
 rw [hw,KS]
 by_cases h:s.size=0
 ·rw [if_pos (by simpa using h),if_pos h]
 ·rw [if_neg (by simpa using h),if_neg h]
  by_cases he:l=[]
  ·subst he
   rw [if_neg (by simp),Option.bind_some,if_neg (by simp),if_pos (by simp),if_neg (fun h=>h.1 rfl)]
  ·have hp:0<l.length:=List.length_pos_iff.2 he
   have hn:((l.length:Int) - 1).toNat=l.length - 1:=by omega
   have hm:l.getD (l.length - 1) el0∈l:=by
    rw [List.getD,List.getElem?_eq_getElem (by omega)]
    simp
   have hs:=MX hm
   rw [if_pos (by simp; omega),hn,ES,Option.bind_some,if_pos ⟨by omega,by omega⟩,Option.bind_some]
   by_cases hz:(l.getD (l.length - 1) el0).2.2.size=0
   ·rw [show decide ((l.getD (l.length - 1) ((0:Int),((0:Int),ByteArray.empty))).2.2.size=0)=true from decide_eq_true hz,if_neg (by simp),if_pos (by simp; omega),if_neg (fun h=>by have:=h.2; rw [decide_eq_true hz] at this; cases this)]
   ·have h3:(l.getD (l.length - 1) ((0:Int),((0:Int),ByteArray.empty))).2.2.size≤A4 l:=hs
    rw [show decide ((l.getD (l.length - 1) ((0:Int),((0:Int),ByteArray.empty))).2.2.size=0)=false from decide_eq_false hz,if_pos (by simp),if_pos ⟨by omega,by omega,by omega⟩,if_pos ⟨he,decide_eq_false hz⟩]
def okE (base:Int) (x:El):Prop:=0≤x.1∧x.1≤x.2.1∧x.2.1≤base∧(x.2.2.size=0∨x.1=0∧x.2.1=0)
theorem JQ {base:Int} (hb:0≤base):∀ {l:List El} {size to:Int} {pre:Option Bool},isL base size to pre l=true→0≤to→size≤20000→(∀ x∈l,okE base x)∧size+AL l+A4 l≤20000
 | [],size,to,pre,h,h0,h1 => ⟨by simp,by simp [AL,A4]; omega⟩
 | x :: r,size,to,pre,h,h0,h1 => by
   rw [isL] at h
   split at h
   ·rename_i hz
    rw [Bool.and_eq_true,decide_eq_true_eq] at h
    obtain ⟨⟨c1,c2,c3,c4,c5⟩,hr⟩:=h
    obtain ⟨e1,e2⟩:=JQ hb hr (by omega) c5
    refine ⟨fun y hy=>?_,by simp only [AL,A4,hz]; omega⟩
    rcases List.mem_cons.1 hy with rfl | hy
    ·exact ⟨by omega,by omega,c4,.inl hz⟩
    ·exact e1 y hy
   ·rw [Bool.and_eq_true,Bool.and_eq_true,decide_eq_true_eq] at h
    obtain ⟨⟨⟨c1,c2,c3,c4⟩,hv⟩,hr⟩:=h
    obtain ⟨e1,e2⟩:=JQ hb hr h0 c4
    refine ⟨fun y hy=>?_,by simp only [AL,A4]; omega⟩
    rcases List.mem_cons.1 hy with rfl | hy
    ·exact ⟨by omega,by omega,by omega,.inr ⟨c1,c2⟩⟩
    ·exact e1 y hy
theorem JP {base:Int} {l:List El} (h:isD base l=true):0≤base∧base≤20000∧l.length≤60∧(∀ x∈l,okE base x)∧AL l+A4 l≤20000:=by
 unfold isD at h
 rw [Bool.and_eq_true,decide_eq_true_eq] at h
 obtain ⟨⟨h1,h2,h3⟩,h4⟩:=h
 obtain ⟨e1,e2⟩:=JQ h1 h4 (by omega) (by omega)
 exact ⟨h1,h2,h3,e1,by omega⟩
theorem ED {base:Int}:∀ {l:List El},(∀ x∈l,okE base x)→0≤AL l
 | [],_ => by simp [AL]
 | x :: r,h => by
   have h1:=h x (by simp)
   have h2:=ED (l:=r) fun y hy=>h y (by simp [hy])
   have:=h1.2.1
   simp only [AL]; omega
theorem OR {K:Nat} {d:List El} {base:Int} (hb:base≤20000) (hl:d.length≤1000):∀ (rest:List El) (j k:Nat) (kept put:Int),d.drop j=rest→rest.length<k→(∀ x∈rest,okE base x)→0≤kept→0≤put→kept+AL rest≤1000000→put+A4 rest≤1000000→
 BU.l0 K d k kept put (j:Int)=some (kept+AL rest,put+A4 rest)
 | [],j,k,kept,put,hd,hk,hx,h0,h1,h2,h3 => by
   obtain ⟨k,rfl⟩:∃ m,k=m+1:=⟨k - 1,by simp at hk; omega⟩
   have:=AA hd
   rw [BU.l0,if_neg (by simp; omega)]
   simp [AL,A4]
 | x :: rest,j,k,kept,put,hd,hk,hx,h0,h1,h2,h3 => by
   obtain ⟨k,rfl⟩:∃ m,k=m+1:=⟨k - 1,by simp at hk; omega⟩
   obtain ⟨hj,hgd,hd'⟩:=A7 hd el0
   have hk':rest.length<k:=by simp at hk; omega
   have hw:IntKind.wrap .i64 ((j:Int)+1)=((j+1:Nat):Int):=by rw [w64 (by omega) (by omega)]; omega
   obtain ⟨o1,o2,o3,o4⟩:=hx x (by simp)
   have hr:∀ y∈rest,okE base y:=fun y hy=>hx y (by simp [hy])
   have hn:=ED hr
   simp only [AL,A4] at h2 h3
   rw [BU.l0]
   simp only [Int.toNat_natCast,hgd,hw]
   rw [if_pos (by simpa using hj),if_pos ⟨by omega,by omega⟩,w64 (n:=x.2.1 - x.1) (by omega) (by omega),w64 (n:=kept+(x.2.1 - x.1)) (by omega) (by omega),w64 (n:=put+(x.2.2.size:Int)) (by omega) (by omega),
    OR hb hl rest (j+1) k _ _ hd' hk' hr (by omega) (by omega) (by omega) (by omega)]
   simp only [AL,A4]
   congr 2 <;> omega
theorem WH {K:Nat} {d:List El} {base:Int} (hK:30000≤K):BU K base d=some (if isD base d=true then (AL d,(A4 d:Int)) else (0,0)):=by
 unfold BU
 rw [EV hK,Option.bind_some]
 cases h:isD base d with
 | false => simp
 | true =>
   obtain ⟨h1,h2,h3,h4,h5⟩:=JP h
   have hn:=ED h4
   have e:=OR (K:=K) h2 (by omega) d 0 K 0 0 rfl (by omega) h4 (by omega) (by omega) (by omega) (by omega)
   rw [Int.natCast_zero] at e
   rw [if_neg (by simp),e]
   simp
theorem RF {K:Nat} {d:List El} {base:Int} (hK:30000≤K):FY K base d=some (if isD base d=true then AL d+A4 d else 0):=by
 unfold FY
 rw [WH hK,Option.bind_some]
 by_cases h:isD base d=true
 ·obtain ⟨h1,h2,h3,h4,h5⟩:=JP h
  have hn:=ED h4
  rw [if_pos h,if_pos h,w64 (by simp only; omega) (by simp only; omega)]
 ·rw [if_neg h,if_neg h]; rfl
def mvE (p:Int):Int→Int→List El→Int×Int
 | n,w,[] => (n,w)
 | n,w,x :: r => if x.2.2.size=0 then (if x.1 ≥ p then (n,w) else if x.2.1 > p then (n+(w+min x.2.1 p - x.1),0) else mvE p (n+(w+min x.2.1 p - x.1)) 0 r) else mvE p n (w+x.2.2.size) r
theorem K0 {K:Nat} {d:List El} {a base p:Int} (hp:mn2 (mx2 a 0) base=p) (hb:base≤20000) (hl:d.length≤1000):∀ (rest:List El) (j k:Nat) (n w:Int),d.drop j=rest→rest.length<k→(∀ x∈rest,okE base x)→0≤n→0≤w→n+w+AL rest+A4 rest≤1000000→
 AW.l0 K d a base k n w (j:Int)=some (mvE p n w rest)
 | [],j,k,n,w,hd,hk,hx,h0,h1,h2 => by
   obtain ⟨k,rfl⟩:∃ m,k=m+1:=⟨k - 1,by simp at hk; omega⟩
   have:=AA hd
   rw [AW.l0,if_neg (by simp; omega)]
   rfl
 | x :: rest,j,k,n,w,hd,hk,hx,h0,h1,h2 => by
   obtain ⟨k,rfl⟩:∃ m,k=m+1:=⟨k - 1,by simp at hk; omega⟩
   obtain ⟨hj,hgd,hd'⟩:=A7 hd el0
   have hk':rest.length<k:=by simp at hk; omega
   have hw:IntKind.wrap .i64 ((j:Int)+1)=((j+1:Nat):Int):=by rw [w64 (by omega) (by omega)]; omega
   obtain ⟨o1,o2,o3,o4⟩:=hx x (by simp)
   have hr:∀ y∈rest,okE base y:=fun y hy=>hx y (by simp [hy])
   have hnn:=ED hr
   simp only [AL,A4] at h2
   rw [AW.l0]
   simp only [Int.toNat_natCast,hgd,hw,hp,N7]
   rw [if_pos (by simpa using hj),if_pos ⟨by omega,by omega⟩,ES,Option.bind_some,mvE]
   by_cases hz:x.2.2.size=0
   ·rw [decide_eq_true hz,if_neg (by simp),if_pos hz]
    by_cases c1:x.1≥p
    ·rw [if_pos (by simpa using c1),if_pos c1]
    ·rw [if_neg (by simpa using c1),if_neg c1,w64 (n:=w+min x.2.1 p) (by omega) (by omega),w64 (n:=w+min x.2.1 p - x.1) (by omega) (by omega),w64 (n:=n+(w+min x.2.1 p - x.1)) (by omega) (by omega)]
     by_cases c2:x.2.1 > p
     ·rw [if_pos (by simpa using c2),if_pos c2]
     ·rw [if_neg (by simpa using c2),if_neg c2,K0 hp hb hl rest (j+1) k _ _ hd' hk' hr (by omega) (by omega) (by omega)]
   ·rw [decide_eq_false hz,if_pos (by simp),if_neg hz,w64 (n:=w+(x.2.2.size:Int)) (by omega) (by omega),K0 hp hb hl rest (j+1) k _ _ hd' hk' hr (by omega) (by omega) (by omega)]
theorem K1 {base p:Int} (hp:0≤p):∀ {l:List El} {n w:Int},(∀ x∈l,okE base x)→0≤n→0≤w→n≤(mvE p n w l).1∧0≤(mvE p n w l).2∧(mvE p n w l).1+(mvE p n w l).2≤n+w+AL l+A4 l
 | [],n,w,_,h0,h1 => by simp only [mvE,AL,A4]; omega
 | x :: r,n,w,hx,h0,h1 => by
   obtain ⟨o1,o2,o3,o4⟩:=hx x (by simp)
   have hr:∀ y∈r,okE base y:=fun y hy=>hx y (by simp [hy])
   have hnn:=ED hr
   rw [mvE]
   simp only [AL,A4]
   split
   ·split
    ·simp only; omega
    ·split
     ·simp only; omega
     ·have:=K1 hp (l:=r) (n:=n+(w+min x.2.1 p - x.1)) (w:=0) hr (by omega) (by omega)
      omega
   ·have:=K1 hp (l:=r) (n:=n) (w:=w+x.2.2.size) hr h0 (by omega)
    omega
def mv (base:Int) (d:List El) (a:Int) (after:Bool):Int:=if isD base d=true then (if after=true then (mvE (min (max a 0) base) 0 0 d).1+(mvE (min (max a 0) base) 0 0 d).2 else (mvE (min (max a 0) base) 0 0 d).1) else 0
theorem JZ {K:Nat} {d:List El} {base a:Int} {after:Bool} (hK:30000≤K):AW K base d a after=some (mv base d a after):=by
 unfold AW mv
 rw [EV hK,Option.bind_some]
 by_cases h:isD base d=true
 ·obtain ⟨h1,h2,h3,h4,h5⟩:=JP h
  have hn:=ED h4
  have e:=K0 (K:=K) (d:=d) (a:=a) (base:=base) rfl h2 (by omega) d 0 K 0 0 rfl (by omega) h4 (by omega) (by omega) (by omega)
  rw [Int.natCast_zero,N7,NB] at e
  obtain ⟨m1,m2,m3⟩:=K1 (base:=base) (p:=min (max a 0) base) (by omega) (l:=d) (n:=0) (w:=0) h4 (by omega) (by omega)
  rw [h,if_neg (by simp),if_pos rfl,e,Option.bind_some]
  cases after with
  | false => rfl
  | true => rw [if_pos rfl,if_pos rfl,w64 (by omega) (by omega)]
 ·rw [if_pos (by simpa using h),if_neg h]
def bkE (base:Int):Int→Int→List El→Int
 | _,_,[] => base
 | a,to,x :: r => if a ≥ x.2.1 - x.1+x.2.2.size then bkE base (a - (x.2.1 - x.1+x.2.2.size)) (if x.2.2.size=0 then x.2.1 else to) r else if x.2.2.size=0 then x.1+a else to
def bk (base:Int) (d:List El) (a:Int):Int:=if isD base d=true then bkE base (min (max a 0) (AL d+A4 d)) 0 d else 0
theorem SU {K:Nat} {d:List El} {base a b:Int} (hK:30000≤K):GF K base d a b=some (mv base d a true,max (mv base d a true) (mv base d b false)):=by
 unfold GF
 rw [JZ hK,Option.bind_some,JZ hK,Option.bind_some,NB]
abbrev Sp:=Int×(Int×Int)
abbrev sp0:Sp:=((0:Int),((0:Int),(0:Int)))
def bs (p:Nat→Bool):Nat→Nat→Nat→Option Nat
 | 0,_,_ => none
 | k+1,i,j => if i<j then (if p ((i+j) / 2)=true then bs p k ((i+j) / 2+1) j else bs p k i ((i+j) / 2)) else some i
def D4 (n:Int):Int→Int→List Sp→Bool
 | _,_,[] => true
 | to,st,x :: l => decide (1 ≤ x.2.2 ∧ x.2.2 ≤ 100 ∧ to ≤ x.1 ∧ x.1<x.2.1 ∧ x.2.1 ≤ n ∧ ¬ (x.1=to ∧ x.2.2=st)) && D4 n x.2.1 x.2.2 l
def EU (n:Int) (l:List Sp):Bool:=decide (l.length≤60)&&D4 (min n 20000) 0 0 l
theorem TW {n to st:Int} {x:Sp} {l:List Sp}:D4 n to st (x :: l)=true↔(1≤x.2.2∧x.2.2≤100∧to≤x.1∧x.1<x.2.1∧x.2.1≤n∧¬ (x.1=to∧x.2.2=st))∧D4 n x.2.1 x.2.2 l=true:=by
 rw [D4,Bool.and_eq_true,decide_eq_true_eq]
theorem N8 {a b:Int}:mn2 a b=min a b:=by unfold mn2; split <;> omega
theorem TK {a b:Int}:mx2 a b=max a b:=by unfold mx2; split <;> omega
theorem Y6 {K:Nat} {n a b:Int}:EC K n a b=some (decide (a≤n∧n≤b)):=by
 unfold EC
 by_cases h:a≤n
 ·rw [if_pos (by simpa using h)]; simp [h]
 ·rw [if_neg (by simpa using h)]; simp [h]
def AO (l:List Sp) (j:Nat):Int×Int:=if j=0 then (0,0) else (l.getD (j - 1) sp0).2
theorem NI {l:List Sp} {j:Nat} {x:Sp} (h:l.getD j sp0=x):AO l (j+1)=x.2:=by
 unfold AO; rw [if_neg (by omega),show j+1 - 1=j by omega,h]
theorem MU {K:Nat} {l:List Sp} {n:Int} (hl:l.length≤60):∀ (rest:List Sp) (j k:Nat),l.drop j=rest→rest.length<k→0≤(AO l j).1→
 BS.l0 K l n k (j:Int)=some (D4 (min n 20000) (AO l j).1 (AO l j).2 rest)
 | [],j,k,hd,hk,h0 => by
   obtain ⟨k,rfl⟩:∃ m,k=m+1:=⟨k - 1,by omega⟩
   have:=AA hd
   rw [BS.l0,if_neg (by simp; omega)]; rfl
 | x :: rest,j,k,hd,hk,h0 => by
   obtain ⟨k,rfl⟩:∃ m,k=m+1:=⟨k - 1,by omega⟩
   obtain ⟨hj,hx,hd'⟩:=A7 hd sp0
   rw [List.length_cons] at hk
   have hw:IntKind.wrap .i64 ((j:Int)+1)=((j+1:Nat):Int):=by rw [w64 (by omega) (by omega)]; omega
   rw [BS.l0,if_pos (by simp; omega),if_pos (by omega)]
   simp only [Int.toNat_natCast,hx,Y6,Option.bind_some,hw,N8]
   have hc:∀ (c d:Bool) (F:Bool→Option Bool),(if c=true then some true else some d:Option Bool).bind F=F (c||d):=fun c d F=>by cases c <;> rfl
   have e1:(if (!decide (1≤x.2.2∧x.2.2≤100))=true then some true else if decide (x.1<0)=true then some true else if decide (x.1≥x.2.1)=true then some true else some (decide (x.2.1 > min n 20000)))=some (decide (¬ (1≤x.2.2∧x.2.2≤100∧0≤x.1∧x.1<x.2.1∧x.2.1≤min n 20000))):=by
    by_cases h1:1≤x.2.2∧x.2.2≤100
    ·rw [if_neg (by simp [h1])]
     by_cases h2:x.1<0
     ·rw [if_pos (by simpa using h2)]; congr 1; symm; rw [decide_eq_true_eq]; omega
     ·rw [if_neg (by simpa using h2)]
      by_cases h3:x.1≥x.2.1
      ·rw [if_pos (by simpa using h3)]; congr 1; symm; rw [decide_eq_true_eq]; omega
      ·rw [if_neg (by simpa using h3)]; congr 1; rw [decide_eq_decide]; omega
    ·rw [if_pos (by simp only [Bool.not_eq_true',decide_eq_false_iff_not]; exact h1)]; congr 1; symm; rw [decide_eq_true_eq]; omega
   rw [e1,Option.bind_some]
   by_cases hA:1≤x.2.2∧x.2.2≤100∧0≤x.1∧x.1<x.2.1∧x.2.1≤min n 20000
   ·rw [if_neg (by simp only [decide_eq_true_eq]; exact fun h=>h hA)]
    have ih:=MU (K:=K) (n:=n) hl rest (j+1) k hd' (by omega) (by rw [NI hx]; omega)
    rw [NI hx] at ih
    by_cases hj0:j=0
    ·subst hj0
     rw [if_neg (by simp),Option.bind_some,if_neg (by simp),ih,D4]
     rw [show AO l 0=(0,0) from rfl]
     simp only
     rw [decide_eq_true (by omega),Bool.true_and]
    ·have hw2:IntKind.wrap .i64 ((j:Int) - 1)=((j - 1:Nat):Int):=by rw [w64 (by omega) (by omega)]; omega
     have hp:AO l j=(l.getD (j - 1) sp0).2:=by unfold AO; rw [if_neg hj0]
     rw [if_pos (by simp; omega)]
     simp only [hw2,Int.toNat_natCast,← hp]
     have e2:(if decide (x.1<(AO l j).1)=true then if (0:Int)≤((j - 1:Nat):Int)∧((j - 1:Nat):Int)<(l.length:Int) then some true else none else if (x.1==(AO l j).1)=true then if (0:Int)≤((j - 1:Nat):Int)∧((j - 1:Nat):Int)<(l.length:Int) then some (x.2.2==(AO l j).2) else none else if (0:Int)≤((j - 1:Nat):Int)∧((j - 1:Nat):Int)<(l.length:Int) then some false else none)=some (decide (¬ ((AO l j).1≤x.1∧¬ (x.1=(AO l j).1∧x.2.2=(AO l j).2)))):=by
      have hb:(0:Int)≤((j - 1:Nat):Int)∧((j - 1:Nat):Int)<(l.length:Int):=by omega
      rw [if_pos hb,if_pos hb,if_pos hb]
      by_cases h1:x.1<(AO l j).1
      ·rw [if_pos (by simpa using h1)]; congr 1; symm; rw [decide_eq_true_eq]; omega
      ·rw [if_neg (by simpa using h1)]
       by_cases h2:x.1=(AO l j).1
       ·rw [if_pos (by simpa using h2)]; congr 1
        rw [Bool.eq_iff_iff,beq_iff_eq,decide_eq_true_eq]; omega
       ·rw [if_neg (by simpa using h2)]; congr 1; symm; rw [decide_eq_false_iff_not]; omega
     rw [e2,Option.bind_some,D4]
     by_cases hB:(AO l j).1≤x.1∧¬ (x.1=(AO l j).1∧x.2.2=(AO l j).2)
     ·rw [if_neg (by simp only [decide_eq_true_eq]; exact fun h=>h hB),ih,decide_eq_true (by omega),Bool.true_and]
     ·rw [if_pos (by simp only [decide_eq_true_eq]; exact hB),decide_eq_false (by omega),Bool.false_and]
   ·rw [if_pos (by simp only [decide_eq_true_eq]; exact hA),D4,decide_eq_false (by omega),Bool.false_and]
theorem JR {K:Nat} {l:List Sp} {n:Int} (hK:1000≤K):BS K l n=some (EU n l):=by
 unfold BS EU
 by_cases h:l.length≤60
 ·rw [if_neg (by simp; omega),decide_eq_true h,Bool.true_and]
  exact MU h l 0 K rfl (by omega) (by simp [AO])
 ·rw [if_pos (by simp; omega),decide_eq_false h,Bool.false_and]
theorem LG {K:Nat} {r:List Sp} {a b s:Int} (hr:r.length≤1000000):DD K r a b s=some (r++if a<b then [(a,(b,s))] else []):=by
 unfold DD
 by_cases h:a<b
 ·rw [if_pos (by simpa using h),if_pos (by simp; omega),if_pos h]
 ·rw [if_neg (by simpa using h),if_neg h,List.append_nil]
abbrev Rg:=Int×Int
abbrev rg0:Rg:=((0:Int),(0:Int))
def loR (x:Rg):Int:=min x.1 x.2
def hiR (x:Rg):Int:=max x.1 x.2
theorem T3 (x:Rg):loR x≤hiR x:=by unfold loR hiR; omega
theorem KQ {K:Nat} {x:Rg}:BD K x.1 x.2=some (loR x,hiR x):=by
 unfold BD; rw [N8,TK]; rfl
def inR (n:Int) (x:Rg):Bool:=decide (0≤loR x∧hiR x≤n)
def edR (s:ByteArray) (x:Rg):Bool:=isE s x.1&&isE s x.2
theorem MW {K:Nat} {x:Rg} {n:Int}:ER K (loR x) (hiR x) n=some (inR n x):=by
 have:=T3 x
 unfold ER inR
 by_cases h:loR x≥0
 ·rw [if_pos (by simpa using h),if_pos (by simpa using this)]; congr 1; rw [decide_eq_decide]; omega
 ·rw [if_neg (by simpa using h)]; congr 1; symm; rw [decide_eq_false_iff_not]; omega
theorem SF {K:Nat} {x:Rg} {s:ByteArray}:GJ K x.1 x.2 s=some (!inR s.size x):=by
 unfold GJ I6
 rw [KQ,Option.bind_some]
 simp only [MW,Option.bind_some]
theorem MG {K:Nat} {l:List Rg} {s:ByteArray} (hl:l.length≤1000000):∀ (rest:List Rg) (j k:Nat),l.drop j=rest→rest.length<k→
 ∃ r,BF.l0 K l s k (j:Int)=some r∧decide (r≥0) = !rest.all (inR s.size)
 | [],j,k,hd,hk => by
   obtain ⟨k,rfl⟩:∃ m,k=m+1:=⟨k - 1,by omega⟩
   have:=AA hd
   rw [BF.l0,if_neg (by simp; omega)]
   exact ⟨_,rfl,rfl⟩
 | x :: rest,j,k,hd,hk => by
   obtain ⟨k,rfl⟩:∃ m,k=m+1:=⟨k - 1,by omega⟩
   obtain ⟨hj,hx,hd'⟩:=A7 hd rg0
   rw [List.length_cons] at hk
   have hw:IntKind.wrap .i64 ((j:Int)+1)=((j+1:Nat):Int):=by rw [w64 (by omega) (by omega)]; omega
   rw [BF.l0,if_pos (by simp; omega)]
   simp only [Int.toNat_natCast,hx,hw]
   rw [SF,Option.bind_some,if_pos (by omega),List.all_cons]
   cases inR s.size x with
   | true =>
     rw [if_neg (by simp)]
     exact MG  hl rest (j+1) k hd' (by omega)
   | false =>
     rw [if_pos (show (!false)=true from rfl)]
     exact ⟨_,rfl,by rw [decide_eq_true (by omega)]; rfl⟩
theorem SE {K:Nat} {l:List Rg} {s:ByteArray} (hl:l.length≤1000000) (hk:l.length<K):D7 K l s=some (l.all (inR s.size)):=by
 unfold D7 FE BF
 obtain ⟨r,e1,e2⟩:=MG (K:=K) (l:=l) (s:=s)  hl l 0 K rfl hk
 rw [show ((0:Nat):Int)=0 from rfl] at e1
 rw [e1,Option.bind_some,Option.bind_some,e2,Bool.not_not]
theorem SD {K:Nat} {x:Rg} {s:ByteArray} (hK:s.size+10≤K)  (hs:s.size≤1000000):GK K x.1 x.2 s=some (!edR s x):=by
 unfold GK I5
 rw [FJ hK hs,Option.bind_some,FJ hK hs]
 unfold edR
 cases isE s x.1 <;> rfl
theorem MF {K:Nat} {l:List Rg} {s:ByteArray} (hK:s.size+10≤K)  (hs:s.size≤1000000) (hl:l.length≤1000000):∀ (rest:List Rg) (j k:Nat),l.drop j=rest→rest.length<k→
 ∃ r,BE.l0 K l s k (j:Int)=some r∧decide (r≥0) = !rest.all (edR s)
 | [],j,k,hd,hk => by
   obtain ⟨k,rfl⟩:∃ m,k=m+1:=⟨k - 1,by omega⟩
   have:=AA hd
   rw [BE.l0,if_neg (by simp; omega)]
   exact ⟨_,rfl,rfl⟩
 | x :: rest,j,k,hd,hk => by
   obtain ⟨k,rfl⟩:∃ m,k=m+1:=⟨k - 1,by omega⟩
   obtain ⟨hj,hx,hd'⟩:=A7 hd rg0
   rw [List.length_cons] at hk
   have hw:IntKind.wrap .i64 ((j:Int)+1)=((j+1:Nat):Int):=by rw [w64 (by omega) (by omega)]; omega
   rw [BE.l0,if_pos (by simp; omega)]
   simp only [Int.toNat_natCast,hx,hw]
   rw [SD hK hs,Option.bind_some,if_pos (by omega),List.all_cons]
   cases edR s x with
   | true =>
     rw [if_neg (by simp)]
     exact MF hK hs hl rest (j+1) k hd' (by omega)
   | false =>
     rw [if_pos (show (!false)=true from rfl)]
     exact ⟨_,rfl,by rw [decide_eq_true (by omega)]; rfl⟩
theorem SC {K:Nat} {l:List Rg} {s:ByteArray} (hK:s.size+10≤K)  (hs:s.size≤1000000) (hl:l.length≤1000000) (hk:l.length<K):D6 K l s=some (l.all (edR s)):=by
 unfold D6 FD BE
 obtain ⟨r,e1,e2⟩:=MF (K:=K) (l:=l) (s:=s) hK hs hl l 0 K rfl hk
 rw [show ((0:Nat):Int)=0 from rfl] at e1
 rw [e1,Option.bind_some,Option.bind_some,e2,Bool.not_not]
theorem SH {K:Nat} {x:Rg} {base:Int} {d:List El}:GI K x.1 x.2 base d=some (!inR base x):=by
 unfold GI I3
 rw [KQ,Option.bind_some]
 simp only [MW,Option.bind_some]
theorem MH {K:Nat} {l:List Rg} {base:Int} {d:List El} (hl:l.length≤1000000):∀ (rest:List Rg) (j k:Nat),l.drop j=rest→rest.length<k→
 ∃ r,C8.l0 K l base d k (j:Int)=some r∧decide (r≥0) = !rest.all (inR base)
 | [],j,k,hd,hk => by
   obtain ⟨k,rfl⟩:∃ m,k=m+1:=⟨k - 1,by omega⟩
   have:=AA hd
   rw [C8.l0,if_neg (by simp; omega)]
   exact ⟨_,rfl,rfl⟩
 | x :: rest,j,k,hd,hk => by
   obtain ⟨k,rfl⟩:∃ m,k=m+1:=⟨k - 1,by omega⟩
   obtain ⟨hj,hx,hd'⟩:=A7 hd rg0
   rw [List.length_cons] at hk
   have hw:IntKind.wrap .i64 ((j:Int)+1)=((j+1:Nat):Int):=by rw [w64 (by omega) (by omega)]; omega
   rw [C8.l0,if_pos (by simp; omega)]
   simp only [Int.toNat_natCast,hx,hw]
   rw [SH,Option.bind_some,if_pos (by omega),List.all_cons]
   cases inR base x with
   | true =>
     rw [if_neg (by simp)]
     exact MH  hl rest (j+1) k hd' (by omega)
   | false =>
     rw [if_pos (show (!false)=true from rfl)]
     exact ⟨_,rfl,by rw [decide_eq_true (by omega)]; rfl⟩
theorem SG {K:Nat} {l:List Rg} {base:Int} {d:List El} (hl:l.length≤1000000) (hk:l.length<K):GL K l base d=some (l.all (inR base)):=by
 unfold GL IC C8
 obtain ⟨r,e1,e2⟩:=MH (K:=K) (l:=l) (base:=base) (d:=d)  hl l 0 K rfl hk
 rw [show ((0:Nat):Int)=0 from rfl] at e1
 rw [e1,Option.bind_some,Option.bind_some,e2,Bool.not_not]
theorem LU {K:Nat} {l:List Rg}:D5 K l=some (if l.length=0 then 12 else if l.length > 8 then 70 else 0):=by
 unfold D5
 by_cases h:l.length=0
 ·rw [if_pos (by rw [beq_iff_eq]; omega),if_pos h]
 ·rw [if_neg (by rw [beq_iff_eq]; omega),if_neg h]
  by_cases h2:l.length > 8
  ·rw [if_pos (by rw [decide_eq_true_eq]; omega),if_pos h2]
  ·rw [if_neg (by rw [decide_eq_true_eq]; omega),if_neg h2]
def goR (base:Int) (d:List El) (x:Rg):Rg:=(mv base d x.1 true,mv base d x.2 true)
theorem NA {K:Nat} {l:List Rg} {base:Int} {d:List El} (hK:30000≤K) (hl:l.length≤10000):∀ (rest:List Rg) (j k:Nat) (out:List Rg),l.drop j=rest→rest.length<k→out.length≤j→
 BC.l0 K l base d k out (j:Int)=some (out++rest.map (goR base d))
 | [],j,k,out,hd,hk,ho => by
   obtain ⟨k,rfl⟩:∃ m,k=m+1:=⟨k - 1,by omega⟩
   have:=AA hd
   rw [BC.l0,if_neg (by simp; omega)]; simp
 | x :: rest,j,k,out,hd,hk,ho => by
   obtain ⟨k,rfl⟩:∃ m,k=m+1:=⟨k - 1,by omega⟩
   obtain ⟨hj,hx,hd'⟩:=A7 hd rg0
   rw [List.length_cons] at hk
   have hw:IntKind.wrap .i64 ((j:Int)+1)=((j+1:Nat):Int):=by rw [w64 (by omega) (by omega)]; omega
   rw [BC.l0,if_pos (by simp; omega),if_pos (by omega)]
   simp only [Int.toNat_natCast,hx,hw,JZ hK,Option.bind_some]
   rw [if_pos (by simp only [List.length_singleton]; omega),NA hK hl rest (j+1) k _ hd' (by omega) (by simp; omega),List.map_cons]
   simp [goR]
theorem RG {s:ByteArray} {x:Rg} (h:edR s x=true):inR s.size x=true:=by
 unfold edR isE at h
 unfold inR loR hiR
 simp only [Bool.and_eq_true,decide_eq_true_eq] at h ⊢
 omega
theorem PA {s:ByteArray} {p:Int} (h:usz s p≠0):¬ A0 (bt s p):=by
 intro hc
 unfold A0 at hc
 refine h ?_
 unfold usz AG
 split
 ·rfl
 ·rw [if_neg (by omega),if_neg (by omega),if_neg (by omega),if_neg (by omega)]
theorem NN {s:ByteArray} {p:Int} (hp:p=s.size∨¬ A0 (bt s p)) (h1:p≤s.size):∀ (m:Nat) (a:Int),A3 s m a=true→0≤a→a≤p→(s.size:Int) - a≤m→∃ m',A3 s m' p=true∧(s.size:Int) - p≤m'
 | 0,a,h,h0,ha,hm => ⟨0,rfl,by omega⟩
 | m+1,a,h,h0,ha,hm => by
   by_cases e:a=p
   ·exact ⟨m+1,e▸h,by omega⟩
   ·have hlt:a<s.size:=by omega
    have hu:=BL (s:=s) (a:=a)
    have hu3:=hu.2.2 h0 hlt
    rw [A3,if_pos hlt] at h
    by_cases hz:usz s a=0
    ·rw [if_pos hz] at h; cases h
    ·rw [if_neg hz] at h
     by_cases c:a+usz s a≤p
     ·exact NN hp h1 m _ h (by omega) c (by omega)
     ·exfalso
      have hc:=P9 (s:=s) (i:=a.toNat) (j:=p.toNat) (by omega) (by rw [show ((a.toNat:Nat):Int)=a by omega]; omega)
      rw [show ((p.toNat:Nat):Int)=p by omega] at hc
      rcases hp with hp | hp
      ·omega
      ·exact hp hc
theorem WE {s:ByteArray} {p:Int} (h:isE s p=true):isE s (p+usz s p)=true∧(p<s.size→usz s p≠0):=by
 obtain ⟨h0,h1,hv,hc⟩:=HW h
 obtain ⟨m,m1,m2⟩:=NN hc h1 s.size 0 hv (Int.le_refl 0) h0 (by omega)
 by_cases e:p<s.size
 ·obtain ⟨m,rfl⟩:∃ k,m=k+1:=⟨m - 1,by omega⟩
  rw [A3,if_pos e] at m1
  have hz:usz s p≠0:=fun hz=>by rw [if_pos hz] at m1; cases m1
  rw [if_neg hz] at m1
  have hu:=BL (s:=s) (a:=p)
  have hu3:=hu.2.2 h0 e
  refine ⟨ET hv (by omega) hu3 ?_,fun _=>hz⟩
  by_cases e2:p+usz s p=s.size
  ·exact .inl e2
  ·right
   obtain ⟨m,rfl⟩:∃ k,m=k+1:=⟨m - 1,by omega⟩
   rw [A3,if_pos (by omega)] at m1
   exact PA fun hz'=>by rw [if_pos hz'] at m1; cases m1
 ·have hz:usz s p=0:=by unfold usz; rw [if_pos (by omega)]
  rw [hz]
  exact ⟨by rw [Int.add_zero]; exact h,fun h'=>(e h').elim⟩
theorem JJ {s:ByteArray} (hv:A1 s=true) (h:0<s.size):¬ A0 (bt s 0):=by
 have:isE s 0=true:=by
  by_cases hc:A0 (bt s 0)
  ·exfalso
   unfold A1 at hv
   obtain ⟨m,hm⟩:∃ k,s.size=k+1:=⟨s.size - 1,by omega⟩
   rw [hm,A3,if_pos (by omega)] at hv
   have hz:usz s 0≠0:=fun hz=>by rw [if_pos hz] at hv; cases hv
   exact PA hz hc
  ·exact ET hv (Int.le_refl 0) (by omega) (.inr hc)
 rcases (HW this).2.2.2 with e | e
 ·omega
 ·exact e
def bcF (s:ByteArray):Nat→Nat
 | 0 => 0
 | k+1 => if A0 (bt s ((k+1:Nat):Int)) then bcF s k else k+1
theorem LQ {s:ByteArray}:∀ {k:Nat},bcF s k≤k∧(bcF s k=0∨¬ A0 (bt s (bcF s k:Int)))∧∀ j,bcF s k<j→j≤k→A0 (bt s (j:Int))
 | 0 => ⟨Nat.le_refl 0,.inl rfl,fun j h1 h2 => by omega⟩
 | k+1 => by
   obtain ⟨h1,h2,h3⟩:=LQ (s:=s) (k:=k)
   rw [bcF]
   by_cases c:A0 (bt s ((k+1:Nat):Int))
   ·rw [if_pos c]
    refine ⟨by omega,h2,fun j j1 j2=>?_⟩
    by_cases e:j=k+1
    ·rw [e]; exact c
    ·exact h3 j j1 (by omega)
   ·rw [if_neg c]
    exact ⟨Nat.le_refl _,.inr c,fun j j1 j2=>by omega⟩
def tyC (t:ByteArray) (x:Rg):El:=(loR x,(hiR x,t))
theorem P0 {K:Nat} {l:List Rg} {t:ByteArray} (hl:l.length≤10000):∀ (rest:List Rg) (j n:Nat) (out:List El),l.drop j=rest→rest.length<n→out.length≤j→
 BN.l0 K l t n out (j:Int)=some (out++rest.map (tyC t))
 | [],j,n,out,hd,hn,ho => by
   obtain ⟨n,rfl⟩:∃ m,n=m+1:=⟨n - 1,by omega⟩
   have:=AA hd
   rw [BN.l0,if_neg (by simp; omega)]; simp
 | x :: rest,j,n,out,hd,hn,ho => by
   obtain ⟨n,rfl⟩:∃ m,n=m+1:=⟨n - 1,by omega⟩
   obtain ⟨hj,hx,hd'⟩:=A7 hd rg0
   rw [List.length_cons] at hn
   have hw:IntKind.wrap .i64 ((j:Int)+1)=((j+1:Nat):Int):=by rw [w64 (by omega) (by omega)]; omega
   rw [BN.l0,if_pos (by simp; omega),if_pos (by omega)]
   simp only [Int.toNat_natCast,hx,hw,KQ,Option.bind_some]
   rw [if_pos (by simp only [List.length_singleton]; omega),P0 hl rest (j+1) n _ hd' (by omega) (by simp; omega),List.map_cons]
   simp [tyC]
theorem WW {K:Nat} {l:List Rg} {t:ByteArray} (hl:l.length≤10000) (hK:l.length<K):BN K l t=some (l.map (tyC t)):=by
 have e:=P0 (K:=K) (t:=t) hl l 0 K [] rfl hK (by simp)
 rw [List.nil_append] at e
 exact e
theorem WV {s:ByteArray} {j:Nat} (h:j<(txt s).length) (hs:j<s.size):(txt s)[j]=(s[j].toNat:Int):=by
 have:∀ (l:List Int) (h:j<l.length),l=s.data.toList.map (fun b=>(b.toNat:Int))→l[j]=(s[j].toNat:Int):=by
  intro l h e
  subst e
  rw [List.getElem_map,Array.getElem_toList]
  rfl
 exact this _ h rfl
theorem H9 {s:ByteArray} {j:Nat} (h:j<(txt s).length):bt s (j:Int)=(txt s)[j]:=by
 have hs:j<s.size:=by rw [← DV]; exact h
 rw [WV h hs]
 unfold bt
 simp [hs]
theorem OY {a b:ByteArray}:txt (a++b)=txt a++txt b:=by
 unfold txt
 rw [ByteArray.data_append]
 simp
theorem DI {a b:ByteArray} {i:Nat} (h:i<a.size):bt (a++b) (i:Int)=bt a (i:Int):=by
 have h1:i<(txt a).length:=by rw [DV]; exact h
 have h2:i<(txt (a++b)).length:=by rw [DV,AT]; omega
 rw [H9 h1,H9 h2]
 have:∀ (l:List Int) (hl:i<l.length),l=txt a++txt b→l[i]=(txt a)[i]:=by
  intro l hl e; subst e; rw [List.getElem_append_left]
 exact this _ h2 OY
theorem FR {a b:ByteArray} {i:Nat}:bt (a++b) ((a.size+i:Nat):Int)=bt b (i:Int):=by
 by_cases h:i<b.size
 ·have h1:i<(txt b).length:=by rw [DV]; exact h
  have h2:a.size+i<(txt (a++b)).length:=by rw [DV,AT]; omega
  rw [H9 h1,H9 h2]
  have:∀ (l:List Int) (hl:a.size+i<l.length),l=txt a++txt b→l[a.size+i]=(txt b)[i]:=by
   intro l hl e
   subst e
   rw [List.getElem_append_right (by rw [DV]; omega)]
   congr 1
   rw [DV]; omega
  exact this _ h2 OY
 ·have h1:¬ i<b.size:=h
  have h2:¬ a.size+i<(a++b).size:=by rw [AT]; omega
  unfold bt
  rw [Int.toNat_natCast,Int.toNat_natCast]
  simp [h1,h2]
theorem X4 {n n' c d e f d' e' f':Int} (hn:n≤n') (hd:2≤n→d'=d) (he:3≤n→e'=e) (hf:4≤n→f'=f) (h:AG n c d e f≠0):AG n' c d' e' f'=AG n c d e f:=by
 unfold AG at *
 split
 ·rfl
 ·rename_i h1
  rw [if_neg h1] at h
  split
  ·rename_i h2
   rw [if_pos h2] at h
   by_cases c2:2≤n∧A0 d∧128≤c % 32 * 64+d % 64
   ·rw [hd c2.1,if_pos c2,if_pos ⟨by omega,c2.2⟩]
   ·rw [if_neg c2] at h; exact absurd rfl h
  ·rename_i h2
   rw [if_neg h2] at h
   split
   ·rename_i h3
    rw [if_pos h3] at h
    by_cases c3:3≤n∧A0 d∧A0 e∧2048≤(c % 16 * 64+d % 64) * 64+e % 64∧¬ (55296≤(c % 16 * 64+d % 64) * 64+e % 64∧(c % 16 * 64+d % 64) * 64+e % 64<57344)
    ·rw [hd (by omega),he c3.1,if_pos c3,if_pos ⟨by omega,c3.2⟩]
    ·rw [if_neg c3] at h; exact absurd rfl h
   ·rename_i h3
    rw [if_neg h3] at h
    split
    ·rename_i h4
     rw [if_pos h4] at h
     by_cases c4:4≤n∧A0 d∧A0 e∧A0 f∧65536≤((c % 8 * 64+d % 64) * 64+e % 64) * 64+f % 64∧((c % 8 * 64+d % 64) * 64+e % 64) * 64+f % 64≤1114111
     ·rw [hd (by omega),he (by omega),hf c4.1,if_pos c4,if_pos ⟨by omega,c4.2⟩]
     ·rw [if_neg c4] at h; exact absurd rfl h
    ·first
     | rfl
     | (rename_i h4
        rw [if_neg h4] at h
        exact absurd rfl h)
theorem PB {a b:ByteArray} {i:Nat} (h:usz a (i:Int)≠0):usz (a++b) (i:Int)=usz a (i:Int):=by
 unfold usz at *
 by_cases h1:(i:Int)<0∨(i:Int)≥a.size
 ·rw [if_pos h1] at h; exact absurd rfl h
 ·have hb:=AT (a:=a) (b:=b)
  rw [if_neg h1] at h ⊢
  rw [if_neg (by omega),DI (by omega)]
  refine X4 (by omega) (fun hh=>?_) (fun hh=>?_) (fun hh=>?_) h
  ·have e:(i:Int)+1=((i+1:Nat):Int):=by omega
   rw [e,DI (by omega)]
  ·have e:(i:Int)+2=((i+2:Nat):Int):=by omega
   rw [e,DI (by omega)]
  ·have e:(i:Int)+3=((i+3:Nat):Int):=by omega
   rw [e,DI (by omega)]
theorem PC {a b:ByteArray} {i:Nat}:usz (a++b) ((a.size+i:Nat):Int)=usz b (i:Int):=by
 unfold usz
 have hb:=AT (a:=a) (b:=b)
 by_cases h1:(i:Int)<0∨(i:Int)≥b.size
 ·rw [if_pos h1,if_pos (by omega)]
 ·rw [if_neg h1,if_neg (by omega),FR]
  have e1:((a.size+i:Nat):Int)+1=((a.size+(i+1):Nat):Int):=by omega
  have e2:((a.size+i:Nat):Int)+2=((a.size+(i+2):Nat):Int):=by omega
  have e3:((a.size+i:Nat):Int)+3=((a.size+(i+3):Nat):Int):=by omega
  rw [e1,e2,e3,FR,FR,FR,show ((a++b).size:Int) - ((a.size+i:Nat):Int)=(b.size:Int) - i by omega]
  rfl
theorem L1 {s:ByteArray}:∀ (d m m':Nat) (a:Nat),s.size - a≤d→d≤m→d≤m'→A3 s m (a:Int)=A3 s m' (a:Int):=by
 intro d
 induction d with
 | zero =>
   intro m m' a h hm hm'
   cases m with
   | zero => cases m' with
     | zero => rfl
     | succ m' => rw [A3,A3,if_neg (by omega)]
   | succ m => cases m' with
     | zero => rw [A3,A3,if_neg (by omega)]
     | succ m' => rw [A3,A3,if_neg (by omega),if_neg (by omega)]
 | succ d ih =>
   intro m m' a h hm hm'
   obtain ⟨m,rfl⟩:∃ l,m=l+1:=⟨m - 1,by omega⟩
   obtain ⟨m',rfl⟩:∃ l,m'=l+1:=⟨m' - 1,by omega⟩
   have hu:=BL (s:=s) (a:=a)
   rw [A3,A3]
   split
   ·split
    ·rfl
    ·obtain ⟨n,hn⟩:∃ n:Nat,(a:Int)+usz s a=n:=⟨((a:Int)+usz s a).toNat,by omega⟩
     rw [hn]
     exact ih m m' n (by omega) (by omega) (by omega)
   ·rfl
theorem XF {a b:ByteArray} (hb:A1 b=true):∀ (d i m:Nat),a.size - i=d→i≤a.size→d+b.size≤m→A3 a d (i:Int)=true→A3 (a++b) m (i:Int)=true:=by
 have hsz:=AT (a:=a) (b:=b)
 have right:∀ (e j m:Nat),b.size - j≤e→j≤b.size→e≤m→A3 b e (j:Int)=true→A3 (a++b) m ((a.size+j:Nat):Int)=true:=by
  intro e
  induction e with
  | zero =>
    intro j m h1 h2 h3 h4
    cases m with
    | zero => rfl
    | succ m => rw [A3,if_neg (by omega)]
  | succ e ih =>
    intro j m h1 h2 h3 h4
    obtain ⟨m,rfl⟩:∃ l,m=l+1:=⟨m - 1,by omega⟩
    have hu:=BL (s:=b) (a:=j)
    rw [A3] at h4 ⊢
    by_cases hj:(j:Int)<b.size
    ·have hu3:=hu.2.2 (by omega) hj
     rw [if_pos hj] at h4
     rw [if_pos (by omega),PC]
     by_cases hz:usz b j=0
     ·rw [if_pos hz] at h4; cases h4
     ·rw [if_neg hz] at h4 ⊢
      obtain ⟨n,hn⟩:∃ n:Nat,usz b j=n:=⟨(usz b j).toNat,by omega⟩
      rw [hn] at h4 hu3 hz ⊢
      have e1:((a.size+j:Nat):Int)+(n:Int)=((a.size+(j+n):Nat):Int):=by omega
      have e2:(j:Int)+(n:Int)=((j+n:Nat):Int):=by omega
      rw [e1]
      rw [e2] at h4
      exact ih (j+n) m (by omega) (by omega) (by omega) h4
    ·rw [if_neg (by omega)]
 intro d
 induction d using Nat.strongRecOn with
 | _ d ih =>
   intro i m h1 h2 h3 h4
   by_cases hi:i=a.size
   ·subst hi
    have:=right b.size 0 m (by omega) (by omega) (by omega) hb
    simpa using this
   ·obtain ⟨d,rfl⟩:∃ l,d=l+1:=⟨d - 1,by omega⟩
    obtain ⟨m,rfl⟩:∃ l,m=l+1:=⟨m - 1,by omega⟩
    have hu:=BL (s:=a) (a:=i)
    have hu3:=hu.2.2 (by omega) (by omega)
    rw [A3,if_pos (by omega)] at h4
    rw [A3,if_pos (by omega)]
    by_cases hz:usz a i=0
    ·rw [if_pos hz] at h4; cases h4
    ·rw [if_neg hz] at h4
     rw [PB hz,if_neg hz]
     obtain ⟨n,hn⟩:∃ n:Nat,usz a i=n:=⟨(usz a i).toNat,by omega⟩
     rw [hn] at h4 hu3 hz ⊢
     have e2:(i:Int)+(n:Int)=((i+n:Nat):Int):=by omega
     rw [e2] at h4 ⊢
     refine ih (a.size - (i+n)) (by omega) (i+n) m rfl (by omega) (by omega) ?_
     rw [L1 (a.size - (i+n)) (a.size - (i+n)) d (i+n) (by omega) (by omega) (by omega)]
     exact h4
theorem PF {a b:ByteArray} (ha:A1 a=true) (hb:A1 b=true):A1 (a++b)=true:=by
 unfold A1
 have h:=XF hb a.size 0 (a++b).size (by omega) (by omega) (by rw [AT]; omega) ha
 exact h
theorem X2 {n n' c d e f d' e' f' v:Int} (h:AG n' c d' e' f'=v) (hv:v≠0) (hvn:v≤n) (hd:2≤v→d=d') (he:3≤v→e=e') (hf:4≤v→f=f'):AG n c d e f=v:=by
 unfold AG at h ⊢
 split
 ·rename_i h1; rw [if_pos h1] at h; exact h
 ·rename_i h1
  rw [if_neg h1] at h
  split
  ·rename_i h2
   rw [if_pos h2] at h
   by_cases c2:2≤n'∧A0 d'∧128≤c % 32 * 64+d' % 64
   ·rw [if_pos c2] at h
    rw [hd (by omega),if_pos ⟨by omega,c2.2⟩,h]
   ·rw [if_neg c2] at h; exact absurd h.symm hv
  ·rename_i h2
   rw [if_neg h2] at h
   split
   ·rename_i h3
    rw [if_pos h3] at h
    by_cases c3:3≤n'∧A0 d'∧A0 e'∧2048≤(c % 16 * 64+d' % 64) * 64+e' % 64∧¬ (55296≤(c % 16 * 64+d' % 64) * 64+e' % 64∧(c % 16 * 64+d' % 64) * 64+e' % 64<57344)
    ·rw [if_pos c3] at h
     rw [hd (by omega),he (by omega),if_pos ⟨by omega,c3.2⟩,h]
    ·rw [if_neg c3] at h; exact absurd h.symm hv
   ·rename_i h3
    rw [if_neg h3] at h
    split
    ·rename_i h4
     rw [if_pos h4] at h
     by_cases c4:4≤n'∧A0 d'∧A0 e'∧A0 f'∧65536≤((c % 8 * 64+d' % 64) * 64+e' % 64) * 64+f' % 64∧((c % 8 * 64+d' % 64) * 64+e' % 64) * 64+f' % 64≤1114111
     ·rw [if_pos c4] at h
      rw [hd (by omega),he (by omega),hf (by omega),if_pos ⟨by omega,c4.2⟩,h]
     ·rw [if_neg c4] at h; exact absurd h.symm hv
    ·rename_i h4
     rw [if_neg h4] at h; exact h
theorem X6 {a b:ByteArray} {i:Nat} (hz:usz (a++b) (i:Int)≠0) (h:(i:Int)+usz (a++b) i≤a.size):usz a (i:Int)=usz (a++b) (i:Int):=by
 have hu:=BL (s:=a++b) (a:=i)
 have hb:=AT (a:=a) (b:=b)
 have hia:(i:Int)<a.size:=by omega
 generalize hv:usz (a++b) (i:Int)=v at *
 unfold usz at hv ⊢
 rw [if_neg (by omega)] at hv ⊢
 rw [DI (by omega)] at hv
 refine X2 hv hz (by omega) (fun h2=>?_) (fun h3=>?_) (fun h4=>?_)
 ·rw [show (i:Int)+1=((i+1:Nat):Int) by omega,DI (by omega)]
 ·rw [show (i:Int)+2=((i+2:Nat):Int) by omega,DI (by omega)]
 ·rw [show (i:Int)+3=((i+3:Nat):Int) by omega,DI (by omega)]
theorem XH {a b:ByteArray} (he:b.size=0∨¬ A0 (bt b 0)):∀ (d i m:Nat),a.size - i≤d→i≤a.size→(a++b).size - i≤m→A3 (a++b) m (i:Int)=true→A3 a d (i:Int)=true:=by
 have hsz:=AT (a:=a) (b:=b)
 intro d
 induction d with
 | zero => intro i m _ _ _ _; rfl
 | succ d ih =>
   intro i m h1 h2 h3 h4
   rw [A3]
   by_cases hi:(i:Int)<a.size
   ·obtain ⟨m,rfl⟩:∃ l,m=l+1:=⟨m - 1,by omega⟩
    have hu:=BL (s:=a++b) (a:=i)
    have hu3:=hu.2.2 (by omega) (by omega)
    rw [A3,if_pos (by omega)] at h4
    by_cases hz:usz (a++b) i=0
    ·rw [if_pos hz] at h4; cases h4
    ·rw [if_neg hz] at h4
     have hle:(i:Int)+usz (a++b) i≤a.size:=by
      rcases Int.lt_or_le (a.size:Int) ((i:Int)+usz (a++b) i) with h5 | h5
      ·exfalso
       have hc:=P9 (s:=a++b) (i:=i) (j:=a.size) (by omega) h5
       rcases he with he | he
       ·omega
       ·have:=FR (a:=a) (b:=b) (i:=0)
        rw [Nat.add_zero] at this
        rw [this] at hc
        exact he hc
      ·exact h5
     rw [if_pos hi,X6 hz hle,if_neg hz]
     obtain ⟨n,hn⟩:∃ n:Nat,usz (a++b) i=n:=⟨(usz (a++b) i).toNat,by omega⟩
     rw [hn] at h4 hu3 hz hle ⊢
     have e2:(i:Int)+(n:Int)=((i+n:Nat):Int):=by omega
     rw [e2] at h4 ⊢
     exact ih (i+n) m (by omega) (by omega) (by omega) h4
   ·rw [if_neg hi]
theorem XG {a b:ByteArray}:∀ (d i m:Nat),a.size - i≤d→i≤a.size→(a++b).size - i≤m→A3 a d (i:Int)=true→A3 (a++b) m (i:Int)=true→A3 (a++b) (a++b).size (a.size:Int)=true:=by
 have hsz:=AT (a:=a) (b:=b)
 intro d
 induction d with
 | zero =>
   intro i m h1 h2 h3 _ h4
   rw [show i=a.size by omega] at h4 h3
   rw [← L1 ((a++b).size - a.size) m (a++b).size a.size (Nat.le_refl _) h3 (by omega)]
   exact h4
 | succ d ih =>
   intro i m h1 h2 h3 h4 h5
   by_cases hi:i=a.size
   ·subst hi
    rw [← L1 ((a++b).size - a.size) m (a++b).size a.size (Nat.le_refl _) h3 (by omega)]
    exact h5
   ·obtain ⟨m,rfl⟩:∃ l,m=l+1:=⟨m - 1,by omega⟩
    have hu:=BL (s:=a) (a:=i)
    have hu3:=hu.2.2 (by omega) (by omega)
    rw [A3,if_pos (by omega)] at h4 h5
    by_cases hz:usz a i=0
    ·rw [if_pos hz] at h4; cases h4
    ·rw [if_neg hz] at h4
     rw [PB hz,if_neg hz] at h5
     obtain ⟨n,hn⟩:∃ n:Nat,usz a i=n:=⟨(usz a i).toNat,by omega⟩
     rw [hn] at h4 h5 hu3 hz
     have e2:(i:Int)+(n:Int)=((i+n:Nat):Int):=by omega
     rw [e2] at h4 h5
     exact ih (i+n) m (by omega) (by omega) (by omega) h4 h5
theorem XI {a b:ByteArray}:∀ (d j m:Nat),b.size - j≤d→j≤b.size→b.size - j≤m→A3 (a++b) m ((a.size+j:Nat):Int)=true→A3 b d (j:Int)=true:=by
 have hsz:=AT (a:=a) (b:=b)
 intro d
 induction d with
 | zero => intro j m _ _ _ _; rfl
 | succ d ih =>
   intro j m h1 h2 h3 h4
   rw [A3]
   by_cases hj:(j:Int)<b.size
   ·obtain ⟨m,rfl⟩:∃ l,m=l+1:=⟨m - 1,by omega⟩
    have hu:=BL (s:=b) (a:=j)
    have hu3:=hu.2.2 (by omega) hj
    rw [A3,if_pos (by omega),PC] at h4
    rw [if_pos hj]
    by_cases hz:usz b j=0
    ·rw [if_pos hz] at h4; cases h4
    ·rw [if_neg hz] at h4 ⊢
     obtain ⟨n,hn⟩:∃ n:Nat,usz b j=n:=⟨(usz b j).toNat,by omega⟩
     rw [hn] at h4 hu3 hz ⊢
     have e1:((a.size+j:Nat):Int)+(n:Int)=((a.size+(j+n):Nat):Int):=by omega
     have e2:(j:Int)+(n:Int)=((j+n:Nat):Int):=by omega
     rw [e1] at h4
     rw [e2]
     exact ih (j+n) m (by omega) (by omega) (by omega) h4
   ·rw [if_neg hj]
theorem XL {a b:ByteArray} (h:A1 (a++b)=true) (ha:A1 a=true):A1 b=true:=by
 unfold A1 at h ha ⊢
 have hsz:=AT (a:=a) (b:=b)
 have h1:=XG (a:=a) (b:=b) a.size 0 (a++b).size (by omega) (by omega) (by omega) ha h
 exact XI (a:=a) (b:=b) b.size 0 (a++b).size (by omega) (by omega) (by omega) (by rw [Nat.add_zero]; exact h1)
theorem XJ {a b:ByteArray} (h:A1 (a++b)=true) (he:b.size=0∨¬ A0 (bt b 0)):A1 a=true:=by
 unfold A1 at h ⊢
 exact XH (a:=a) (b:=b) he a.size 0 (a++b).size (by omega) (by omega) (by omega) h
theorem TT {a b:List Int}:ofBytes (a++b)=ofBytes a++ofBytes b:=by
 apply ByteArray.ext
 rw [ByteArray.data_append]
 unfold ofBytes
 simp
def AU (ps:List ByteArray):List Int:=(ps.map bytesL).flatten
theorem LT {a b:List ByteArray}:AU (a++b)=AU a++AU b:=by unfold AU; rw [List.map_append,List.flatten_append]
theorem HA {a:ByteArray} {b:List ByteArray}:AU (a :: b)=bytesL a++AU b:=rfl
theorem MQ:∀ {ps:List ByteArray},inB (AU ps)=true
 | [] => rfl
 | p :: ps => by rw [HA,MP,JL,MQ]; rfl
theorem O5 {K:Nat} {ps:List ByteArray}:∀ (r:List ByteArray) (j k:Nat) (x:List Int),ps.drop j=r→ps.length≤100000→r.length<k→(x++AU r).length≤1000000→BP.l0 K ps k x (j:Int)=some (x++AU r)
 | [],j,k+1,x,h,_,_,_ => by
   have:=AA h
   rw [BP.l0,if_neg (by simp; omega)]
   simp [AU]
 | p :: r,j,k+1,x,h,hn,hk,hx => by
   obtain ⟨h1,h2,h3⟩:=A7 h ByteArray.empty
   rw [HA,← List.append_assoc] at hx ⊢
   have hx2:(x++bytesL p).length≤1000000:=by rw [List.length_append] at hx; omega
   rw [List.length_append] at hx2
   rw [BP.l0,if_pos (by simp; omega),if_pos ⟨by omega,by omega⟩,Int.toNat_natCast,h2,FI,GR,Option.bind_some,if_pos (by omega),Option.bind_some,up1 (by omega)]
   exact O5 r (j+1) k _ h3 hn (by simpa using hk) hx
def Tr (h:Nat) (q:Option Tree) (ps:List ByteArray):Prop:=∃ t,q=some t∧t.n=((ps.length:Nat):Int)∧∀ K,100000≤K→∀ k,h<k→∀ out,out.length+ps.length≤1000000→AM.f K k (some t) out=some (out++ps)
def Rw (h:Nat):List (Option Tree)→List ByteArray→Prop
 | [],l => l=[]
 | q :: r,l => ∃ a b,l=a ++ b ∧ Tr h q a ∧ Rw h r b
theorem Rw.snoc {h:Nat} {q:Option Tree} {b:List ByteArray}:∀ {r:List (Option Tree)} {a:List ByteArray},Rw h r a→Tr h q b→Rw h (r++[q]) (a++b)
 | [],a,ha,hq => by
   obtain rfl:a=[]:=ha
   exact ⟨b,[],by simp,hq,rfl⟩
 | x :: r,a,ha,hq => by
   obtain ⟨a1,a2,rfl,h1,h2⟩:=ha
   exact ⟨a1,a2++b,by simp,h1,Rw.snoc h2 hq⟩
theorem Rw.cut {h:Nat}:∀ {l:List (Option Tree)} {ps:List ByteArray} (i:Nat),Rw h l ps→∃ a b,ps=a++b∧Rw h (l.take i) a∧Rw h (l.drop i) b
 | l,ps,0,hr => ⟨[],ps,rfl,by simp [Rw],by simpa using hr⟩
 | [],ps,i+1,hr => ⟨[],ps,rfl,by simp [Rw],by simpa using hr⟩
 | q :: l,ps,i+1,hr => by
   obtain ⟨a,b,rfl,h1,h2⟩:=hr
   obtain ⟨c,d,rfl,h3,h4⟩:=h2.cut i
   exact ⟨a++c,d,by simp,⟨a,c,rfl,h1,h3⟩,h4⟩
theorem LH {K:Nat} {h k0:Nat} {x:Option Tree} {l:List (Option Tree)} (hK:100000≤K) (hx:Tree.kids (Option.getD x (Tree.mk [] [] 0 0 0 0 0 0))=l) (hk0:h<k0) (hl:l.length≤50000):∀ (r:List (Option Tree)) (ps:List ByteArray) (j k:Nat) (out:List ByteArray),l.drop j=r→Rw h r ps→r.length<k→out.length+ps.length≤1000000→
 AM.l0 K (AM.f K k0) x k out (j:Int)=some (out++ps)
 | [],ps,j,k+1,out,hd,hr,_,_ => by
   have:=AA hd
   obtain rfl:ps=[]:=hr
   rw [AM.l0,hx,if_neg (by simp; omega),List.append_nil]
 | q :: r,ps,j,k+1,out,hd,hr,hk,ho => by
   obtain ⟨h1,h2,h3⟩:=A7 hd (none:Option Tree)
   obtain ⟨a,b,rfl,⟨t,rfl,-,ht⟩,h5⟩:=hr
   rw [List.length_append] at ho
   rw [AM.l0,hx,if_pos (by simp; omega),if_pos ⟨by omega,by omega⟩,Int.toNat_natCast,h2,ht K hK k0 hk0 out (by omega),Option.bind_some,up1 (by omega),LH hK hx hk0 hl r b (j+1) k (out++a) h3 h5 (by simpa using hk) (by rw [List.length_append]; omega),List.append_assoc]
theorem WM {l:List ByteArray} {d a b c e:Int}:Tr 0 (some (Tree.mk [] l ((l.length:Nat):Int) d a b c e)) l:=by
 refine ⟨_,rfl,rfl,fun K hK k hk out ho=>?_⟩
 obtain ⟨k,rfl⟩:∃ m,k=m+1:=⟨k - 1,by omega⟩
 have e1:Tree.items (Option.getD (some (Tree.mk [] l ((l.length:Nat):Int) d a b c e)) (Tree.mk [] [] 0 0 0 0 0 0))=l:=rfl
 rw [AM.f,e1,if_pos ⟨rfl,by omega⟩]
 obtain ⟨m,rfl⟩:∃ m,K=m+1:=⟨K - 1,by omega⟩
 rw [AM.l0,if_neg]
 show ¬ decide ((0:Int)<(([]:List (Option Tree)).length:Nat))=true
 simp
theorem WL {h:Nat} {l:List (Option Tree)} {ps:List ByteArray} {n d a b c e:Int} (hr:Rw h l ps) (hl:l.length≤50000) (hn:n=((ps.length:Nat):Int)):Tr (h+1) (some (Tree.mk l [] n d a b c e)) ps:=by
 refine ⟨_,rfl,hn,fun K hK k hk out ho=>?_⟩
 obtain ⟨k,rfl⟩:∃ m,k=m+1:=⟨k - 1,by omega⟩
 have e1:Tree.items (Option.getD (some (Tree.mk l [] n d a b c e)) (Tree.mk [] [] 0 0 0 0 0 0))=[]:=rfl
 rw [AM.f,e1,if_pos ⟨rfl,by simp; omega⟩,List.append_nil]
 exact LH (l:=l) hK rfl (by omega) hl l ps 0 K out rfl hr (by omega) ho
theorem WX {K:Nat} {r:Int}:∃ n,FV K r=some n:=by
 unfold FV
 split <;> exact ⟨_,rfl⟩
theorem QH {K:Nat} {r:Int}:∃ n,FU K r=some n:=by
 obtain ⟨n,hn⟩:=WX (K:=K) (r:=r)
 unfold FU
 rw [hn,Option.bind_some]
 split <;> exact ⟨_,rfl⟩
theorem LV {K:Nat} {s:ByteArray} (hv:s.size≤100000):∀ (m t k:Nat) (a b c d:Int),A3 s m t=true→s.size≤t+m→m<k→∃ r,CH.l0 K s k a b c d t=some r
 | m,t,0,a,b,c,d,_,_,hk => by omega
 | m,t,k+1,a,b,c,d,hu,hm,hk => by
   rw [CH.l0]
   by_cases ht:t<s.size
   ·obtain ⟨m,rfl⟩:∃ x,m=x+1:=⟨m - 1,by omega⟩
    have hz:usz s t≠0:=fun hz=>by
     rw [A3,if_pos (by omega),if_pos hz] at hu; cases hu
    have hu2:A3 s m (t+usz s t)=true:=by
     rw [A3,if_pos (by omega),if_neg hz] at hu; exact hu
    obtain ⟨c',z,h1,h2,h3,_⟩:=HF ht hz
    obtain ⟨n,hn⟩:=QH (K:=K) (r:=(((Utf8.decode s t).1:Nat):Int))
    rw [if_pos (by simpa using ht),hn,Option.bind_some,E5,Option.bind_some]
    rw [h1]
    exact LV hv m (t+z) k _ _ _ _ (by rw [show ((t+z:Nat):Int)=t+usz s t by omega]; exact hu2) (by omega) (by omega)
   ·rw [if_neg (by simpa using ht)]
    exact ⟨_,rfl⟩
theorem WG {K:Nat} {p:ByteArray} (hK:100000≤K) (hv:A1 p=true) (hp:p.size≤64):∃ r,GO K p=some r:=by
 obtain ⟨r,hr⟩:=LV (K:=K) (s:=p) (by omega) p.size 0 K 0 0 0 0 hv (by omega) (by omega)
 rw [GO,CH,J1 hK (by omega) hv,Option.bind_some,hr,Option.bind_some]
 exact ⟨_,rfl⟩
def Pc (l:List ByteArray):Prop:=∀ p∈l,A1 p=true∧p.size≤64
theorem MY {K:Nat} {l:List ByteArray} (hK:100000≤K) (hl:l.length≤50000) (hp:Pc l):∀ (r:List ByteArray) (j k:Nat) (a b c d:Int),l.drop j=r→r.length<k→∃ q,CA.l0 K l k a b c d (j:Int)=some q∧Tr 0 q l
 | [],j,k+1,a,b,c,d,h,_ => by
   have:=AA h
   rw [CA.l0,if_neg (by simp; omega)]
   exact ⟨_,rfl,WM⟩
 | p :: r,j,k+1,a,b,c,d,h,hk => by
   obtain ⟨h1,h2,h3⟩:=A7 h ByteArray.empty
   have hpm:=hp p (by have:p∈l.drop j:=by rw [h]; exact List.mem_cons_self
                      exact List.mem_of_mem_drop this)
   obtain ⟨s,hs⟩:=WG hK hpm.1 hpm.2
   rw [CA.l0,if_pos (by simp; omega),if_pos ⟨by omega,by omega⟩,Int.toNat_natCast,h2,hs,Option.bind_some,F9,E5,Option.bind_some,Option.bind_some,up1 (by omega)]
   exact MY hK hl hp r (j+1) k _ _ _ _ h3 (by simpa using hk)
theorem T2 {K:Nat} {l:List ByteArray} (hK:100000≤K) (hl:l.length≤50000) (hp:Pc l):∃ q,CA K l=some q∧Tr 0 q l:=
 MY hK hl hp l 0 K 0 0 0 0 rfl (by omega)
theorem O4 {h:Nat}:∀ {l:List (Option Tree)} {ps:List ByteArray} {q:Option Tree},Rw h l ps→q∈l→Option.isSome q=true
 | x :: l,ps,q,hr,hm => by
   obtain ⟨a,b,rfl,⟨t,rfl,-⟩,h2⟩:=hr
   rcases List.mem_cons.1 hm with rfl | hm
   ·rfl
   ·exact O4 h2 hm
theorem MR {K h:Nat} {l:List (Option Tree)} {ps:List ByteArray} (hK:100000≤K) (hl:l.length≤50000) (hR:Rw h l ps) (hps:ps.length≤50000):∀ (r:List (Option Tree)) (pa pb:List ByteArray) (j k:Nat) (a b c d:Int),l.drop j=r→pa++pb=ps→Rw h r pb→r.length<k→∃ q,C2.l0 K l k ((pa.length:Nat):Int) a b c d (j:Int)=some q∧Tr (h+1) q ps
 | [],pa,pb,j,k+1,a,b,c,d,hd,he,hr,_ => by
   have:=AA hd
   obtain rfl:pb=[]:=hr
   rw [C2.l0,if_neg (by simp; omega)]
   exact ⟨_,rfl,WL hR hl (by rw [← he,List.append_nil])⟩
 | q :: r,pa,pb,j,k+1,a,b,c,d,hd,he,hr,hk => by
   obtain ⟨h1,h2,h3⟩:=A7 hd (none:Option Tree)
   obtain ⟨x,y,rfl,⟨t,rfl,ht,-⟩,h5⟩:=hr
   have hlen:pa.length+x.length≤50000:=by
    rw [← he] at hps
    simp at hps
    omega
   rw [C2.l0,if_pos (by simp; omega),if_pos ⟨by omega,by omega⟩,Int.toNat_natCast,h2,Option.isSome_some,if_pos rfl,F9,E5,Option.bind_some,Option.bind_some,up1 (by omega),Option.getD_some,ht,w64 (by omega) (by omega),show ((pa.length:Nat):Int)+((x.length:Nat):Int)=(((pa++x).length:Nat):Int) by simp]
   exact MR hK hl hR hps r (pa++x) y (j+1) k _ _ _ _ h3 (by rw [← he]; simp) h5 (by simpa using hk)
theorem SQ {K h:Nat} {l:List (Option Tree)} {ps:List ByteArray} (hK:100000≤K) (hl:l.length≤50000) (h0:0<l.length) (hR:Rw h l ps) (hps:ps.length≤50000):∃ q,C2 K l=some q∧Tr (h+1) q ps:=by
 rw [C2,if_pos ⟨by omega,O4 hR (GC h0)⟩]
 exact MR hK hl hR hps l [] ps 0 K 0 0 0 0 rfl rfl hR (by omega)
theorem wM {n:Nat} (h:n≤50000):IntKind.wrap .i64 (Int.tdiv (IntKind.wrap .i64 ((IntKind.wrap .i64 (((n:Nat):Int)+(16:Int))) - (1:Int))) (16:Int))=(((n+15) / 16:Nat):Int):=by
 rw [w64 (n:=(n:Int)+16) (by omega) (by omega),w64 (n:=(n:Int)+16 - 1) (by omega) (by omega),show (n:Int)+16 - 1=((n+15:Nat):Int) by omega]
 have:Int.tdiv ((n+15:Nat):Int) (16:Int)=(((n+15) / 16:Nat):Int):=rfl
 rw [this,w64 (by omega) (by omega)]
theorem wD {n t m:Nat} (hn:n≤50000) (ht:t≤50000):IntKind.wrap .i64 (Int.tdiv (IntKind.wrap .i64 (((n:Nat):Int) * ((t:Nat):Int))) ((m:Nat):Int))=((n * t / m:Nat):Int):=by
 have h1:n * t≤50000 * 50000:=Nat.mul_le_mul hn ht
 have h2:n * t / m≤n * t:=Nat.div_le_self _ _
 rw [show (n:Int) * (t:Int)=((n * t:Nat):Int) by simp,w64 (n:=((n * t:Nat):Int)) (by omega) (by omega)]
 have:Int.tdiv ((n * t:Nat):Int) ((m:Nat):Int)=((n * t / m:Nat):Int):=rfl
 have h3:(0:Int)≤((n * t / m:Nat):Int):=Int.natCast_nonneg _
 rw [this,w64 (by omega) (by omega)]
theorem NG {n m t:Nat} (hm:m≤n) (ht:t<m):n * t / m<n * (t+1) / m∧n * (t+1) / m≤n:=by
 have h0:0<m:=by omega
 constructor
 ·rw [Nat.lt_iff_add_one_le,Nat.le_div_iff_mul_le h0,Nat.add_mul,Nat.one_mul]
  have:=Nat.div_mul_le_self (n * t) m
  rw [Nat.mul_succ]
  omega
 ·refine Nat.div_le_of_le_mul ?_
  rw [Nat.mul_comm]
  exact Nat.mul_le_mul_right n (by omega)
theorem OT {α:Type} {l:List α} {a b:Nat} (h:a≤b):(l.drop a).drop (b - a)=l.drop b:=by
 rw [List.drop_drop]; congr 1; omega
theorem OI {K:Nat} {l:List ByteArray} {m:Nat} (hK:100000≤K) (hl:l.length≤50000) (hm:m=(l.length+15) / 16) (hp:Pc l):∀ (d t k:Nat) (out:List (Option Tree)) (pa:List ByteArray),t+d=m→d<k→out.length=t→pa++l.drop (l.length * t / m)=l→Rw 0 out pa→
 ∃ row,CC.l0 K l k out (t:Int)=some row∧row.length=m∧Rw 0 row l
 | 0,t,k+1,out,pa,ht,_,ho,he,hr => by
   refine ⟨out,?_,by omega,?_⟩
   ·rw [CC.l0,wM hl,if_neg (by simp; omega)]
   ·rcases Nat.eq_zero_or_pos m with h0 | h0
    ·have h1:l.length=0:=by omega
     have h2:l=[]:=List.eq_nil_of_length_eq_zero h1
     subst h2
     simp at he
     rw [he] at hr
     exact hr
    ·rw [show l.length * t / m=l.length by rw [show t=m by omega,Nat.mul_div_cancel _ h0]] at he
     simp at he
     rw [he] at hr
     exact hr
 | d+1,t,k+1,out,pa,ht,hk,ho,he,hr => by
   obtain ⟨p1,p2⟩:=NG (n:=l.length) (m:=m) (t:=t) (by omega) (by omega)
   have wa:=wD (n:=l.length) (t:=t) (m:=m) hl (by omega)
   have wb:=wD (n:=l.length) (t:=t+1) (m:=m) hl (by omega)
   generalize l.length * t / m=x at *
   generalize hy:l.length * (t+1) / m=y at *
   obtain ⟨q,hq,hT⟩:=T2 (l:=(l.drop x).take (y - x)) hK (by simp; omega) fun p hpm=>hp p (List.mem_of_mem_drop (List.mem_of_mem_take hpm))
   have hlen:((l.drop x).take (y - x)).length≤50000:=by simp; omega
   rw [CC.l0,wM hl,← hm,if_pos (by simp; omega),up1 (by omega),wa,wb,if_pos ⟨by omega,by omega,by omega,by omega⟩,Int.toNat_natCast,Int.toNat_natCast,hq,Option.bind_some,if_pos ⟨by omega,by simp; omega⟩]
   refine OI hK hl hm hp d (t+1) k (out++[q]) (pa++_) (by omega) (by omega) (by simp; omega) ?_ (hr.snoc hT)
   rw [hy,List.append_assoc,← OT (Nat.le_of_lt p1),List.take_append_drop]
   exact he
theorem OH {K h:Nat} {l:List (Option Tree)} {ps:List ByteArray} {m:Nat} (hK:100000≤K) (hl:l.length≤50000) (hm:m=(l.length+15) / 16) (hps:ps.length≤50000):∀ (d t k:Nat) (out:List (Option Tree)) (pa pb:List ByteArray),t+d=m→d<k→out.length=t→pa++pb=ps→Rw h (l.drop (l.length * t / m)) pb→Rw (h+1) out pa→
 ∃ row,CB.l0 K l k out (t:Int)=some row∧row.length=m∧Rw (h+1) row ps
 | 0,t,k+1,out,pa,pb,ht,_,ho,he,hb,hr => by
   refine ⟨out,?_,by omega,?_⟩
   ·rw [CB.l0,wM hl,if_neg (by simp; omega)]
   ·have:l.drop (l.length * t / m)=[]:=by
     rcases Nat.eq_zero_or_pos m with h0 | h0
     ·have h1:l.length=0:=by omega
      have h2:l=[]:=List.eq_nil_of_length_eq_zero h1
      subst h2
      simp
     ·rw [show l.length * t / m=l.length by rw [show t=m by omega,Nat.mul_div_cancel _ h0],List.drop_length]
    rw [this] at hb
    obtain rfl:pb=[]:=hb
    rw [← he,List.append_nil]
    exact hr
 | d+1,t,k+1,out,pa,pb,ht,hk,ho,he,hb,hr => by
   obtain ⟨p1,p2⟩:=NG (n:=l.length) (m:=m) (t:=t) (by omega) (by omega)
   have wa:=wD (n:=l.length) (t:=t) (m:=m) hl (by omega)
   have wb:=wD (n:=l.length) (t:=t+1) (m:=m) hl (by omega)
   generalize l.length * t / m=a at *
   generalize hc:l.length * (t+1) / m=c at *
   obtain ⟨x,y,rfl,h1,h2⟩:=hb.cut (c - a)
   rw [OT (Nat.le_of_lt p1)] at h2
   have hlen:((l.drop a).take (c - a)).length≤50000:=by simp; omega
   have hx:x.length≤50000:=by rw [← he] at hps; simp at hps; omega
   obtain ⟨q,hq,hT⟩:=SQ hK hlen (by simp; omega) h1 hx
   rw [CB.l0,wM hl,← hm,if_pos (by simp; omega),up1 (by omega),wa,wb,if_pos ⟨by omega,by omega,by omega,by omega⟩,Int.toNat_natCast,Int.toNat_natCast,hq,Option.bind_some,if_pos ⟨by omega,by simp; omega⟩]
   exact OH hK hl hm hps d (t+1) k (out++[q]) (pa++x) y (by omega) (by omega) (by simp; omega) (by rw [← he,List.append_assoc]) (by rw [hc]; exact h2) (hr.snoc hT)
theorem N6 {K:Nat} {ps:List ByteArray} (hK:100000≤K) (hps:ps.length≤50000):∀ (d h k:Nat) (row:List (Option Tree)),row.length≤d→0<row.length→row.length≤50000→d<k→h+d≤60000→Rw h row ps→∃ q h',C9.l0 K k row=some q∧h'≤60000∧Tr h' q ps
 | 0,h,k,row,hd,h0,_,_,_,_ => by omega
 | d+1,h,k+1,row,hd,h0,h1,hk,hh,hr => by
   rw [C9.l0]
   by_cases hl:1<row.length
   ·obtain ⟨row',e1,e2,e3⟩:=OH (K:=K) (m:=(row.length+15) / 16) hK h1 rfl hps _ 0 K [] [] ps (by rw [Nat.zero_add]) (by omega) rfl rfl (by rw [Nat.mul_zero,Nat.zero_div]; exact hr) rfl
    have e1:CB K row=some row':=e1
    rw [if_pos (by simp; omega),e1,Option.bind_some]
    exact N6 hK hps d (h+1) k row' (by omega) (by omega) (by omega) (by omega) (by omega) e3
   ·rw [if_neg (by simp; omega),if_pos (by omega)]
    obtain ⟨q,hq⟩:∃ q,row=[q]:=List.length_eq_one_iff.1 (by omega)
    subst hq
    obtain ⟨a,b,rfl,h2,h3⟩:=hr
    obtain rfl:b=[]:=h3
    rw [List.append_nil]
    exact ⟨q,h,rfl,by omega,h2⟩
theorem TC {K:Nat} {ps:List ByteArray} (hK:100000≤K) (hps:ps.length≤50000) (hp:Pc ps):∃ q,C9 K ps=some q∧(ps=[]∧q=none∨∃ h',h'≤60000∧Tr h' q ps):=by
 rw [C9]
 by_cases h:ps.length=0
 ·rw [if_pos (by simpa using h)]
  exact ⟨none,rfl,.inl ⟨List.eq_nil_of_length_eq_zero h,rfl⟩⟩
 ·rw [if_neg (by simpa using h)]
  obtain ⟨row,e1,e2,e3⟩:=OI (K:=K) (m:=(ps.length+15) / 16) hK hps rfl hp _ 0 K [] [] (by rw [Nat.zero_add]) (by omega) rfl (by simp) rfl
  have e1:CC K ps=some row:=e1
  rw [e1,Option.bind_some]
  obtain ⟨q,h',e4,e5,e6⟩:=N6 hK hps row.length 0 K row (Nat.le_refl _) (by omega) (by omega) (by omega) (by omega) e3
  exact ⟨q,e4,.inr ⟨h',e5,e6⟩⟩
def RS (R:Option (Option Tree)) (s:ByteArray):Prop:=∀ K,100000≤K→BP K R=some s
theorem IX {a b:ByteArray} (h:bytesL a=bytesL b):a=b:=by
 rw [← DM (s:=a),h,DM]
theorem V3 {q:Option Tree} {ps:List ByteArray} {s:ByteArray} (hps:ps.length≤50000) (hq:ps=[]∧q=none∨∃ h',h'≤60000∧Tr h' q ps) (hs:AU ps=bytesL s) (hsz:s.size≤100000):RS (some q) s:=by
 intro K hK
 have e:GT K q=some ps:=by
  rw [GT,II]
  rcases hq with ⟨rfl,rfl⟩ | ⟨h',hh,t,rfl,hn,ht⟩
  ·rfl
  ·rw [if_neg (by simp),Option.isSome_some,if_pos rfl,Option.bind_some,Option.getD_some,hn,if_pos ⟨by omega,by omega,by omega⟩,if_pos (by simp),AM]
   rw [ht K hK K (by omega) _ (by simp; omega),Option.bind_some]
   rfl
 have hlen:(AU ps).length=s.size:=by rw [hs,AS]
 have e2:=O5 (K:=K) (ps:=ps) ps 0 K [] rfl (by omega) (by omega) (by rw [List.nil_append]; omega)
 have e2:BP.l0 K ps K [] 0=some ([]++AU ps):=e2
 rw [BP,Option.getD_some,e,Option.bind_some,Option.isSome_some,if_pos rfl,e2,Option.bind_some,FH,List.nil_append,if_pos MQ,Option.bind_some,hs,DM]
theorem N1 {K:Nat} {s:ByteArray} (h0:¬ A0 (bt s 0)) (hs:s.size≤100000):∀ (j k:Nat),j<s.size→j<k→AP.l1 K s k (j:Int)=some (bcF s j:Int)
 | 0,k,hj,hk => by
   obtain ⟨k,rfl⟩:∃ m,k=m+1:=⟨k - 1,by omega⟩
   have hb:=AE (s:=s) (i:=(0:Nat))
   have:=FO hb.1 hb.2
   rw [AP.l1,if_pos (by omega),if_neg]
   ·rfl
   ·intro e
    rw [beq_iff_eq] at e
    rw [e] at this
    rw [bne_self_eq_false] at this
    rw [decide_eq_false (show ¬ A0 (bt s ((0:Nat):Int)) from h0)] at this
    cases this
 | j+1,k,hj,hk => by
   obtain ⟨k,rfl⟩:∃ m,k=m+1:=⟨k - 1,by omega⟩
   have hb:=AE (s:=s) (i:=((j+1:Nat):Int))
   have h192:=FO hb.1 hb.2
   have hw:IntKind.wrap .i64 (((j+1:Nat):Int) - 1)=(j:Int):=by rw [w64 (by omega) (by omega)]; omega
   rw [AP.l1,if_pos (by omega),hw,bcF]
   by_cases c:A0 (bt s ((j+1:Nat):Int))
   ·rw [if_pos c,if_pos,N1 h0 hs j k (by omega) (by omega)]
    rw [decide_eq_true c] at h192
    simpa using h192
   ·rw [if_neg c,if_neg]
    rw [decide_eq_false c] at h192
    intro e
    rw [beq_iff_eq] at e
    rw [e,bne_self_eq_false] at h192
    cases h192
theorem JI {s:ByteArray} {i:Nat} (h:i≤s.size):s.extract 0 i++s.extract i s.size=s:=by
 refine IX ?_
 have hl:(bytesL s).length=s.size:=AS
 rw [EL,E3,E3,List.drop_zero,Nat.sub_zero,List.take_of_length_le (l:=(bytesL s).drop i) (by rw [List.length_drop]; omega),List.take_append_drop]
theorem HT {s:ByteArray} {i j:Nat} (h:j≤s.size) (hi:i≤j):(s.extract i j).size=j - i:=by
 have:=congrArg List.length (E3 (s:=s) (i:=i) (j:=j))
 rw [AS,List.length_take,List.length_drop,AS] at this
 omega
theorem SI {s:ByteArray} {i:Nat} (h:i<s.size):bt (s.extract i s.size) 0=bt s (i:Int):=by
 have h1:=IW (s:=s.extract i s.size) (i:=0) (by rw [HT (Nat.le_refl _) (by omega)]; omega)
 rw [E3,List.getElem?_take_of_lt (by omega),List.getElem?_drop,Nat.add_zero,IW h] at h1
 exact (Option.some.inj h1).symm
theorem QT {s:ByteArray} {i:Nat} (hv:A1 s=true) (h:i<s.size) (hc:¬ A0 (bt s (i:Int))):A1 (s.extract 0 i)=true∧A1 (s.extract i s.size)=true:=by
 have e:=JI (s:=s) (i:=i) (by omega)
 have h1:A1 (s.extract 0 i)=true:=XJ (b:=s.extract i s.size) (by rw [e]; exact hv) (.inr (by rw [SI h]; exact hc))
 exact ⟨h1,XL (a:=s.extract 0 i) (by rw [e]; exact hv) h1⟩
theorem JT {K:Nat} (hK:100000≤K):∀ (d k:Nat) (s:ByteArray) (out:List ByteArray),s.size≤d→d≤20000→d<k→out.length+d≤20000→A1 s=true→Pc out→
 ∃ ps,AP.l0 K k s out=some ps∧Pc ps∧ps.length≤out.length+d∧AU ps=AU out++bytesL s
 | d,0,s,out,_,_,hk,_,_,_ => by omega
 | d,k+1,s,out,hd,hd2,hk,ho,hv,hp => by
   rw [AP.l0,KS]
   by_cases h0:s.size=0
   ·rw [if_neg (by simp [h0])]
    refine ⟨out,rfl,hp,by omega,?_⟩
    have:bytesL s=[]:=List.eq_nil_of_length_eq_zero (by rw [AS]; exact h0)
    rw [this,List.append_nil]
   ·rw [if_pos (by simp [h0])]
    obtain ⟨d,rfl⟩:∃ x,d=x+1:=⟨d - 1,by omega⟩
    by_cases h:s.size > 64
    ·have hf:=JJ hv (by omega)
     obtain ⟨b1,b2,b3⟩:=LQ (s:=s) (k:=64)
     have hb:1≤bcF s 64:=by
      have he:isE s 0=true:=ET hv (by omega) (by omega) (.inr hf)
      obtain ⟨s1,s2⟩:=WE he
      have hu:=BL (s:=s) (a:=0)
      have hz:=s2 (by omega)
      obtain ⟨-,-,-,s3⟩:=HW s1
      rcases Nat.eq_zero_or_pos (bcF s 64) with hz0 | hz0
      ·exfalso
       have:=b3 (usz s 0).toNat (by omega) (by omega)
       rw [show (((usz s 0).toNat:Nat):Int)=0+usz s 0 by omega] at this
       rcases s3 with s3 | s3
       ·omega
       ·exact s3 this
      ·exact hz0
     have hc:¬ A0 (bt s (bcF s 64:Int)):=b2.resolve_left (by omega)
     have e1:=N1 (K:=K) hf (by omega) 64 K (by omega) (by omega)
     have e1:AP.l1 K s K (64:Int)=some (bcF s 64:Int):=e1
     generalize bcF s 64=z at *
     obtain ⟨v1,v2⟩:=QT hv (show z<s.size by omega) hc
     have z1:=HT (s:=s) (i:=0) (j:=z) (by omega) (by omega)
     have z2:=HT (s:=s) (i:=z) (j:=s.size) (by omega) (by omega)
     rw [if_pos (by simp; omega),e1,Option.bind_some,if_pos ⟨by omega,by omega,by simp; omega⟩,Option.bind_some,Int.toNat_natCast]
     obtain ⟨ps,q1,q2,q3,q4⟩:=JT hK d k (s.extract z s.size) (out++[s.extract 0 z]) (by omega) (by omega) (by omega) (by simp; omega) v2 (fun p hpm=>by
      rcases List.mem_append.1 hpm with hpm | hpm
      ·exact hp p hpm
      ·simp at hpm; subst hpm; exact ⟨v1,by omega⟩)
     refine ⟨ps,q1,q2,by simp at q3; omega,?_⟩
     rw [q4,LT,HA,List.append_assoc]
     congr 1
     rw [show AU []=[] from rfl,List.append_nil,← EL,JI (by omega)]
    ·have z1:=HT (s:=s) (i:=s.size) (j:=s.size) (by omega) (by omega)
     have e2:s.extract 0 s.size=s:=by
      have:=JI (s:=s) (i:=s.size) (by omega)
      refine IX ?_
      rw [E3,List.drop_zero,Nat.sub_zero,List.take_of_length_le (by rw [AS]; omega)]
     have e3:bytesL (s.extract s.size s.size)=[]:=List.eq_nil_of_length_eq_zero (by rw [AS,z1]; omega)
     rw [if_neg (by simp; omega),if_pos ⟨by omega,by omega,by simp; omega⟩,Option.bind_some,Int.toNat_natCast,e2]
     obtain ⟨ps,q1,q2,q3,q4⟩:=JT hK d k (s.extract s.size s.size) (out++[s]) (by omega) (by omega) (by omega) (by simp; omega) (by
      unfold A1; rw [z1,Nat.sub_self]; rfl) (fun p hpm=>by
      rcases List.mem_append.1 hpm with hpm | hpm
      ·exact hp p hpm
      ·simp at hpm; subst hpm; exact ⟨hv,by omega⟩)
     refine ⟨ps,q1,q2,by simp at q3; omega,?_⟩
     rw [q4,LT,HA,show AU []=[] from rfl,List.append_nil,e3,List.append_nil]
theorem O1 {K:Nat} {s:ByteArray} (hK:100000≤K) (hs:s.size≤20000) (hv:A1 s=true):∃ R,F8 K s=some (some R,0)∧RS (some R) s:=by
 obtain ⟨ps,q1,q2,q3,q4⟩:=JT hK s.size K s [] (Nat.le_refl _) hs (by omega) (by simp; omega) hv (fun p hp=>(List.not_mem_nil hp).elim)
 simp at q3
 have q4:AU ps=bytesL s:=q4
 obtain ⟨q,m1,m2⟩:=TC hK (by omega) q2
 refine ⟨q,?_,V3 (by omega) m2 q4 (by omega)⟩
 rw [F8,J1 hK (by omega) hv,Option.bind_some,if_neg (by simp; omega),AP,q1,Option.bind_some,m1,Option.bind_some,Option.bind_some]
theorem MB {c:Nat} (hc:c≤1114111∧¬ (55296≤c∧c<57344)):A1 (Utf8.encode (c:Int))=true:=by
 have hv:Utf8.valid (c:Int)=true:=by
  unfold Utf8.valid
  simp only [Bool.or_eq_true,Bool.and_eq_true,decide_eq_true_eq]; omega
 have key:∀ s:ByteArray,0<s.size→usz s 0=s.size→A1 s=true:=fun s h0 h=>by
  unfold A1
  obtain ⟨n,hn⟩:∃ n,s.size=n+1:=⟨s.size - 1,by omega⟩
  have e:A3 s (n+1) 0=true:=by
   rw [A3,if_pos (by omega),if_neg (by omega),h,Int.zero_add]
   cases n with
   | zero => rfl
   | succ n => rw [A3,if_neg (by omega)]
  rw [hn]
  exact e
 have b:∀ n:Nat,n<256→((UInt8.ofNat n).toNat:Int)=n:=fun n hn=>by
  rw [UInt8.toNat_ofNat']
  omega
 unfold Utf8.encode
 simp only [hv,if_true,Int.toNat_natCast]
 by_cases h1:c<128
 ·rw [if_pos h1]
  refine key _ (by show 0<1; omega) ?_
  have e0:bt ⟨#[UInt8.ofNat c]⟩ 0=c:=b c (by omega)
  unfold usz
  rw [if_neg (by show ¬ ((0:Int)<0∨(0:Int)≥((1:Nat):Int)); omega),e0]
  unfold AG
  rw [if_pos (by omega)]
  rfl
 ·rw [if_neg h1]
  by_cases h2:c<2048
  ·rw [if_pos h2]
   refine key _ (by show 0<2; omega) ?_
   have e0:bt ⟨#[UInt8.ofNat (192+c / 64),UInt8.ofNat (128+c % 64)]⟩ 0=((192+c / 64:Nat):Int):=b _ (by omega)
   have e1:bt ⟨#[UInt8.ofNat (192+c / 64),UInt8.ofNat (128+c % 64)]⟩ (0+1)=((128+c % 64:Nat):Int):=b _ (by omega)
   unfold usz
   rw [if_neg (by show ¬ ((0:Int)<0∨(0:Int)≥((2:Nat):Int)); omega),e0,e1]
   unfold AG A0
   rw [if_neg (by omega),if_pos (by omega),if_pos]
   ·rfl
   ·refine ⟨?_,by omega,by omega⟩
    show (2:Int)≤((2:Nat):Int) - 0
    omega
  ·rw [if_neg h2]
   by_cases h3:c<65536
   ·rw [if_pos h3]
    refine key _ (by show 0<3; omega) ?_
    have e0:bt ⟨#[UInt8.ofNat (224+c / 4096),UInt8.ofNat (128+c / 64 % 64),UInt8.ofNat (128+c % 64)]⟩ 0=((224+c / 4096:Nat):Int):=b _ (by omega)
    have e1:bt ⟨#[UInt8.ofNat (224+c / 4096),UInt8.ofNat (128+c / 64 % 64),UInt8.ofNat (128+c % 64)]⟩ (0+1)=((128+c / 64 % 64:Nat):Int):=b _ (by omega)
    have e2:bt ⟨#[UInt8.ofNat (224+c / 4096),UInt8.ofNat (128+c / 64 % 64),UInt8.ofNat (128+c % 64)]⟩ (0+2)=((128+c % 64:Nat):Int):=b _ (by omega)
    unfold usz
    rw [if_neg (by show ¬ ((0:Int)<0∨(0:Int)≥((3:Nat):Int)); omega),e0,e1,e2]
    unfold AG A0
    rw [if_neg (by omega),if_neg (by omega),if_pos (by omega),if_pos]
    ·rfl
    ·refine ⟨?_,by omega,by omega,by omega,by omega⟩
     show (3:Int)≤((3:Nat):Int) - 0
     omega
   ·rw [if_neg h3]
    refine key _ (by show 0<4; omega) ?_
    have e0:bt ⟨#[UInt8.ofNat (240+c / 262144),UInt8.ofNat (128+c / 4096 % 64),UInt8.ofNat (128+c / 64 % 64),UInt8.ofNat (128+c % 64)]⟩ 0=((240+c / 262144:Nat):Int):=b _ (by omega)
    have e1:bt ⟨#[UInt8.ofNat (240+c / 262144),UInt8.ofNat (128+c / 4096 % 64),UInt8.ofNat (128+c / 64 % 64),UInt8.ofNat (128+c % 64)]⟩ (0+1)=((128+c / 4096 % 64:Nat):Int):=b _ (by omega)
    have e2:bt ⟨#[UInt8.ofNat (240+c / 262144),UInt8.ofNat (128+c / 4096 % 64),UInt8.ofNat (128+c / 64 % 64),UInt8.ofNat (128+c % 64)]⟩ (0+2)=((128+c / 64 % 64:Nat):Int):=b _ (by omega)
    have e3:bt ⟨#[UInt8.ofNat (240+c / 262144),UInt8.ofNat (128+c / 4096 % 64),UInt8.ofNat (128+c / 64 % 64),UInt8.ofNat (128+c % 64)]⟩ (0+3)=((128+c % 64:Nat):Int):=b _ (by omega)
    unfold usz
    rw [if_neg (by show ¬ ((0:Int)<0∨(0:Int)≥((4:Nat):Int)); omega),e0,e1,e2,e3]
    unfold AG A0
    rw [if_neg (by omega),if_neg (by omega),if_neg (by omega),if_pos (by omega),if_pos]
    ·rfl
    ·refine ⟨?_,by omega,by omega,by omega,by omega,by omega⟩
     show (4:Int)≤((4:Nat):Int) - 0
     omega
theorem S3 {c:Nat}:A1 (Utf8.encode (c:Int))=true:=by
 by_cases hc:c≤1114111∧¬ (55296≤c∧c<57344)
 ·exact MB hc
 ·have hv:Utf8.valid (c:Int)=false:=by
   unfold Utf8.valid
   simp only [Bool.or_eq_false_iff,Bool.and_eq_false_iff,decide_eq_false_iff_not]; omega
  have:Utf8.encode (c:Int)=Utf8.encode ((65533:Nat):Int):=by
   have hv2:Utf8.valid ((65533:Nat):Int)=true:=by decide
   unfold Utf8.encode
   simp only [hv,hv2,Bool.false_eq_true,if_false,if_true,Int.toNat_natCast,Utf8.runeError]
  rw [this]
  exact MB (by omega)
def Av (l:List Atm):Prop:=∀ a∈l,A1 a.1=true
theorem H7 {r:Int} {u:List Int}:∀ {l:List Atm},Av l→A1 (ofBytes (vtx r u l))=true
 | [],_ => rfl
 | a :: l,h => by
   have ih:=H7 (r:=r) (u:=u) (l:=l) fun b hb=>h b (List.mem_cons_of_mem _ hb)
   simp only [vtx]
   split
   ·rw [TT,DM]
    exact PF (h a List.mem_cons_self) ih
   ·exact ih
theorem IU {s:ByteArray} {w g r:Int}:∀ {m t:Nat},Av (ptL s w g r m t)
 | 0,_ => fun a ha => (List.not_mem_nil ha).elim
 | m+1,t => fun a ha => by
   rw [ptL] at ha
   split at ha
   ·rcases List.mem_cons.1 ha with e | ha
    ·have e1:a.1=Utf8.encode (((Utf8.decode s t).1:Nat):Int):=by rw [e]
     rw [e1]
     generalize (Utf8.decode s t).1=c
     exact S3
    ·exact IU a ha
   ·exact (List.not_mem_nil ha).elim
theorem PZ {l:List Atm} {us:List (List Int)} {f:Int} {g o:List Int} {base grp rank:Int} {c:List Chg} (h:Av l):Av (C4 l us f g o base grp rank c).2.2.1:=by
 unfold C4
 repeat' split
 all_goals first | exact h | skip
 intro a ha
 rcases JX (show a∈spl _ _ _ from ha) with h1 | ⟨q,h1,h2⟩
 ·obtain ⟨b,hb,e⟩:=JW h1
  rcases e with rfl | rfl
  ·exact h _ hb
  ·exact h b hb
 ·obtain ⟨x,hx,rfl⟩:=List.mem_map.1 h1
  exact IU a h2
def goS (base:Int) (d:List El) (x:Sp):Sp:=(mv base d x.1 true,(max (mv base d x.1 true) (mv base d x.2.1 false),x.2.2))
def neI (x:Sp):Bool:=decide (x.1<x.2.1)
theorem M8 {K:Nat} {l:List Sp} {base:Int} {d:List El} (hK:30000≤K) (hl:l.length≤100000):∀ (rest:List Sp) (j k:Nat) (out:List Sp),l.drop j=rest→rest.length<k→out.length≤j→
 B6.l0 K l base d k out (j:Int)=some (out++(rest.map (goS base d)).filter neI)
 | [],j,k,out,hd,hk,ho => by
   obtain ⟨k,rfl⟩:∃ m,k=m+1:=⟨k - 1,by omega⟩
   have:=AA hd
   rw [B6.l0,if_neg (by simp; omega)]; simp
 | x :: rest,j,k,out,hd,hk,ho => by
   obtain ⟨k,rfl⟩:∃ m,k=m+1:=⟨k - 1,by omega⟩
   obtain ⟨hj,hx,hd'⟩:=A7 hd sp0
   rw [List.length_cons] at hk
   have hw:IntKind.wrap .i64 ((j:Int)+1)=((j+1:Nat):Int):=by rw [w64 (by omega) (by omega)]; omega
   rw [B6.l0,if_pos (by simp; omega),if_pos (by omega)]
   simp only [Int.toNat_natCast,hx,hw,SU hK,Option.bind_some]
   rw [LG (by omega),Option.bind_some,M8 hK hl rest (j+1) k _ hd' (by omega) (by rw [List.length_append]; split <;> simp <;> omega),List.map_cons,List.filter_cons]
   unfold neI goS
   simp only [decide_eq_true_eq]
   split <;> simp
def dfS (r:Int) (u:List Int) (r':Int) (u':List Int) (acc:List El×Int) (a:Atm):List El×Int:=
 (if (vis r u a&&vis r' u' a)=true then BV acc.1 acc.2 (acc.2+a.1.size) else if vis r' u' a=true then BW acc.1 a.1 else acc.1,if vis r u a=true then acc.2+a.1.size else acc.2)
theorem Q3 {K:Nat} {s:ByteArray} {was is:Bool} {p4 p6:Int} {d:List El} (hl:d.length≤100000) (hs:s.size≤1000) (ht:A4 d≤1000000) (h6:0≤p6) (h7:p6≤1000000):G0 K s was is p4 d p6=some (if (was&&is)=true then BV d p6 (p6+s.size) else if is=true then BW d s else d,if was=true then p6+s.size else p6):=by
 rw [G0,w64 (n:=p6+_) (by omega) (by omega)]
 cases was with
 | true =>
   cases is with
   | true => rw [if_pos rfl,Option.bind_some,if_pos rfl,QJ (by omega)]; rfl
   | false => rfl
 | false =>
   cases is with
   | true => rw [if_neg (by simp),Option.bind_some,if_neg (by simp),if_pos rfl,UC (by omega) (by omega)]; rfl
   | false => rfl
theorem LR {K:Nat} {l:List Atm} {r r':Int} {u u':List Int} {n:Int} (hK:100000≤K) (hu:u.length≤50000) (hu':u'.length≤50000) (hl:Aok l):∀ (rest:List Atm) (j k:Nat) (acc:List El×Int),l.drop j=rest→rest.length<k→acc.1.length+rest.length≤50000→A4 acc.1+10 * rest.length≤1000000→0≤acc.2→acc.2+10 * rest.length≤1000000→
 BI.l0 K l r u r' u' n k acc.1 acc.2 (j:Int)=some (0,rest.foldl (dfS r u r' u') acc)
 | [],j,k+1,acc,h,_,_,_,_,_ => by
   have:=AA h
   rw [BI.l0,if_neg (by simp; omega)]
   rfl
 | a :: rest,j,k+1,acc,h,hk,h1,h2,h3,h4 => by
   obtain ⟨g1,g2,g3⟩:=A7 h zA
   have hlen:=hl.1
   have ha:=hl.2 a (by have:a∈l.drop j:=by rw [h]; exact List.mem_cons_self
                       exact List.mem_of_mem_drop this)
   simp only [List.length_cons] at h1 h2 h4 hk
   rw [BI.l0,if_pos (by simp; omega),if_pos ⟨by omega,by omega⟩,Int.toNat_natCast,g2,FM hK hu (by omega),Option.bind_some,FM hK hu' (by omega),Option.bind_some,up1 (by omega),List.foldl_cons]
   have key:dfS r u r' u' acc a=(if (vis r u a&&vis r' u' a)=true then BV acc.1 acc.2 (acc.2+a.1.size) else if vis r' u' a=true then BW acc.1 a.1 else acc.1,if vis r u a=true then acc.2+a.1.size else acc.2):=rfl
   have b1:(dfS r u r' u' acc a).1.length≤acc.1.length+1:=by
    rw [key]
    simp only
    split
    ·exact TE
    ·split
     ·exact TG
     ·omega
   have b2:A4 (dfS r u r' u' acc a).1≤A4 acc.1+10:=by
    rw [key]
    simp only
    split
    ·rw [TF]; omega
    ·split
     ·rw [TH]; omega
     ·omega
   have b3:0≤(dfS r u r' u' acc a).2∧(dfS r u r' u' acc a).2≤acc.2+10:=by
    rw [key]
    simp only
    split <;> omega
   have ih:=LR hK hu hu' hl (r:=r) (r':=r') (n:=n) rest (j+1) k (dfS r u r' u' acc a) g3 (by omega) (by omega) (by omega) b3.1 (by omega)
   by_cases hz:vis r u a=false∧vis r' u' a=false
   ·rw [hz.1,hz.2,Bool.not_false,if_pos rfl,Option.bind_some,if_pos rfl,← ih,key,hz.1,hz.2]
    rfl
   ·have e:(if (!vis r u a)=true then some (!vis r' u' a) else some false)=some false:=by
     cases h5:vis r u a with
     | true => rfl
     | false =>
       cases h6:vis r' u' a with
       | true => rfl
       | false => exact (hz ⟨h5,h6⟩).elim
    rw [e,Option.bind_some,if_neg (by simp),Q3 (by omega) (by omega) (by omega) h3 (by omega),Option.bind_some,← key]
    exact ih
def dfL (r:Int) (u:List Int) (r':Int) (u':List Int) (l:List Atm):List El×Int:=l.foldl (dfS r u r' u') ([],0)
def btR (l:List Atm) (us:List (List Int)) (f r r':Int):Int×List El×Int:=
 if lvR us f r=true∧lvR us f r'=true then
  if 60<(dfL r (unR us f r) r' (unR us f r') l).1.length then (0,[],70)
  else (((vtx r (unR us f r) l).length:Nat),(dfL r (unR us f r) r' (unR us f r') l).1,0)
 else (0,[],190)
theorem Q4 {K:Nat} {l:List Atm} {us:List (List Int)} {f:Int} {g o:List Int} {r r':Int} (hK:100000≤K) (h:Ivt l us f g o):G1 K l us f g o r r'=some (btR l us f r r'):=by
 have R:=h.rok
 have A:=h.aok
 have hu:=IJ R (r:=r)
 have hu':=IJ R (r:=r')
 have hln:=h.len
 have e:=LR (K:=K) (n:=(((CW l us f r).1.size:Nat):Int)) (r:=r) (r':=r') hK (u:=unR us f r) (u':=unR us f r') (by omega) (by omega) A l 0 K ([],0) rfl (by omega) (by simp; omega) (by simp [A4]; omega) (by simp) (by simp; omega)
 have e:BI.l0 K l r (unR us f r) r' (unR us f r') (((CW l us f r).1.size:Nat):Int) K [] 0 0=some (0,dfL r (unR us f r) r' (unR us f r') l):=e
 have e2:BI K l us f g o r r' (((CW l us f r).1.size:Nat):Int) 0=some (if lvR us f r=true∧lvR us f r'=true then (0,dfL r (unR us f r) r' (unR us f r') l) else (190,([],0))):=by
  rw [BI,DK,HY R,Option.bind_some,Option.bind_some]
  by_cases h1:lvR us f r=true
  ·rw [h1,if_neg (by simp),DK,HY R,Option.bind_some,Option.bind_some,Option.bind_some]
   by_cases h2:lvR us f r'=true
   ·rw [h2,if_neg (by simp),CO,IK R,Option.bind_some,Option.bind_some,CO,IK R,Option.bind_some,Option.bind_some,HM,J4 hK A,Option.bind_some,Option.bind_some,e,if_pos ⟨rfl,rfl⟩]
   ·rw [if_pos (by simpa using h2),if_neg (fun h=>h2 h.2)]
  ·rw [if_pos (by simpa using h1),Option.bind_some,if_pos rfl,if_neg (fun h=>h1 h.1)]
 rw [G1,G6 hK R A,Option.bind_some,HH,Option.bind_some,e2,Option.bind_some]
 unfold btR
 by_cases hc:lvR us f r=true∧lvR us f r'=true
 ·rw [if_pos hc,if_pos hc,if_neg (by simp),HG]
  have hsz:(CW l us f r).1.size=(vtx r (unR us f r) l).length:=by unfold CW; rw [if_pos hc.1]; exact CJ
  by_cases h60:60<(dfL r (unR us f r) r' (unR us f r') l).1.length
  ·rw [if_pos (by simp; omega),Option.bind_some,if_pos h60]
  ·rw [if_neg (by simp; omega),Option.bind_some,if_neg h60,hsz]
 ·rw [if_neg hc,if_neg hc,if_pos (by simp)]
theorem EG {K:Nat} {l:List Atm} {us:List (List Int)} {f:Int} {g o:List Int} {R:Option (Option Tree)} {sel:List Rg} {sp:List Sp} {bk:List Int} (h:Rok us f g o):B9 K l us f g o R sel sp bk=some (hdR us f):=by
 rw [B9,JA h,Option.bind_some]
theorem WJ {K:Nat} {l:List Atm} {us:List (List Int)} {f:Int} {g o:List Int} {R:Option (Option Tree)} {sel:List Rg} {sp:List Sp} {bk:List Int} (hK:100000≤K) (h:Ivt l us f g o) (hv:Av l):∃ R',DZ K l us f g o R sel sp bk=some R'∧RS R' (ofBytes (AH l us f)):=by
 have ht:=h.vtx (rev:=hdR us f) (u:=lsR us)
 obtain ⟨q,q1,q2⟩:=O1 (K:=K) (s:=ofBytes (AH l us f)) hK (by rw [CJ]; unfold AH; omega) (H7 hv)
 refine ⟨some q,?_,q2⟩
 rw [DZ,EG h.rok,Option.bind_some,G6 hK h.rok h.aok,Option.bind_some]
 unfold CW
 rw [if_pos (I1 h.ne),KW h.ne]
 unfold AH at q1
 simp only
 rw [q1,Option.bind_some]
structure Vi (l:List Atm) (us:List (List Int)) (f:Int) (g o:List Int) (R:Option (Option Tree)) (sel:List Rg) (sp:List Sp) (bk:List Int):Prop where
 iv:Ivt l us f g o
 av:Av l
 rs:RS R (ofBytes (AH l us f))
 se:sel.length≤1000
 st:sp.length≤60
 br:bk.length≤1000
theorem LD {K:Nat} {l:List Atm} {us:List (List Int)} {f:Int} {g o:List Int} {R:Option (Option Tree)} {sel:List Rg} {sp:List Sp} {bk:List Int} (hK:100000≤K) (V:Vi l us f g o R sel sp bk):CF K l us f g o R sel sp bk=some (ofBytes (AH l us f)):=by
 rw [CF,V.rs K hK,Option.bind_some]
theorem Vi.len {l:List Atm} {us:List (List Int)} {f:Int} {g o:List Int} {R:Option (Option Tree)} {sel:List Rg} {sp:List Sp} {bk:List Int} (V:Vi l us f g o R sel sp bk):(AH l us f).length≤16000:=V.iv.vtx
theorem Y4 {K:Nat} {l:List Atm} {us:List (List Int)} {f:Int} {g o:List Int} {R:Option (Option Tree)} {sel:List Rg} {sp:List Sp} {bk:List Int} (h:sel.length≤1000):GZ K l us f g o R sel sp bk=some sel:=by
 rw [GZ,IP,if_pos ⟨by omega,by omega,by omega,by omega⟩,Option.bind_some,EA (by simp),List.take_of_length_le (by simp)]
theorem PK {K:Nat} {l:List Atm} {us:List (List Int)} {f:Int} {g o:List Int} {R:Option (Option Tree)} {sel:List Rg} {sp:List Sp} {bk:List Int} (h:sp.length≤60):FL K l us f g o R sel sp bk=some sp:=by
 rw [FL,IQ,if_pos ⟨by omega,by omega,by omega,by omega⟩,Option.bind_some,EA (by simp),List.take_of_length_le (by simp)]
theorem XM {K:Nat} {l:List Atm} {us:List (List Int)} {f:Int} {g o:List Int} {R:Option (Option Tree)} {sel:List Rg} {sp:List Sp} {bk:List Int} (h:bk.length≤1000):GW K l us f g o R sel sp bk=some bk:=by
 rw [GW,IR,if_pos ⟨by omega,by omega,by omega,by omega⟩,Option.bind_some,EA (by simp),List.take_of_length_le (by simp)]
theorem L2 {K:Nat} {l:List Atm} {us:List (List Int)} {f:Int} {g o:List Int} {R:Option (Option Tree)} {sel:List Rg} {sp:List Sp} {bk:List Int} (hK:100000≤K) (V:Vi l us f g o R sel sp bk):EH K l us f g o R sel sp bk=some (l,us,g,o,sel,sp,bk):=by
 rw [EH,MC hK V.iv.rok V.iv.aok,Option.bind_some,Y4 V.se,Option.bind_some,PK V.st,Option.bind_some,XM V.br,Option.bind_some]
theorem Vi.anew {K:Nat} {l:List Atm} {us:List (List Int)} {f:Int} {g o:List Int} (hK:100000≤K) (R:Option (Option Tree)) {sel:List Rg} {sp:List Sp} {bk:List Int} (iv:Ivt l us f g o) (av:Av l) (h1:sel.length≤1000) (h2:sp.length≤60) (h3:bk.length≤1000):∃ R',DZ K l us f g o R sel sp bk=some R'∧Vi l us f g o R' sel sp bk:=by
 obtain ⟨R',e,h⟩:=WJ (K:=K) (R:=R) (sel:=sel) (sp:=sp) (bk:=bk) hK iv av
 exact ⟨R',e,iv,av,h,h1,h2,h3⟩
theorem RC {K:Nat} {l:List Atm} {us:List (List Int)} {f:Int} {g o:List Int} {R:Option (Option Tree)} {sel rg sel':List Rg} {sp:List Sp} {bk:List Int} (hK:100000≤K) (V:Vi l us f g o R sel sp bk) (h:EZ K rg (ofBytes (AH l us f))=some (sel',0)) (hs:sel'.length≤1000) :
 ∃ R',GX K l us f g o R sel sp bk 4 0 0 0 rg ByteArray.empty 0 0 0=some (hdR us f,0,l,us,f,g,o,R',sel',sp,bk)∧Vi l us f g o R' sel' sp bk:=by
 have hln:=V.len
 obtain ⟨R',e,V'⟩:=Vi.anew hK R V.iv V.av hs V.st V.br
 refine ⟨R',?_,V'⟩
 have em:H4 K l us f g o R sel sp bk 4 0 0 0 rg ByteArray.empty 0 0 0=some (0,l,us,f,g,o,sel',sp,bk):=by
  rw [H4,LD hK V,Option.bind_some,if_neg (by decide),if_pos (by decide),h,Option.bind_some]
 rw [GX,if_neg (by decide),show (some (decide ((4:Int) > 8)))=some false from rfl,Option.bind_some,if_neg (by decide),L2 hK V,Option.bind_some,E0,Option.bind_some,if_pos (by decide),if_neg (by decide)]
 simp only
 rw [em,Option.bind_some,Option.bind_some]
 simp only
 rw [if_neg (by decide),e,Option.bind_some,EG V.iv.rok,Option.bind_some]
theorem SO {K:Nat} {l l0:List Atm} {us us0:List (List Int)} {f f0:Int} {g o g0 o0:List Int} {R R0:Option (Option Tree)} {sel sel0 sel':List Rg} {sp sp0 sp':List Sp} {bk bk0 bk':List Int} {b:Int×List El×Int} (hK:100000<K) (h:Ivt l us f g o) (h0:Rok us0 f0 g0 o0) (hb:btR l us f (hdR us0 f0) (hdR us f)=b) (b0:b.2.2=0) (f1:BC K sel b.1 b.2.1=some (sel',0)) (f2:B6 K sp b.1 b.2.1=some (sp',0)) (f3:BM K bk b.1 b.2.1=some (bk',0)) :
 EI K l us f g o R sel sp bk l0 us0 f0 g0 o0 R0 sel0 sp0 bk0=some (0,sel',sp',bk'):=by
 rw [EI,EG h0,Option.bind_some,EG h.rok,Option.bind_some,Q4 (by omega) h,Option.bind_some,hb,if_neg (by simpa using b0),f1,Option.bind_some,if_neg (by simp),f2,Option.bind_some,if_neg (by simp),f3,Option.bind_some]
theorem RE {K:Nat} {l l':List Atm} {us us':List (List Int)} {f n x:Int} {g o g' o':List Int} {R:Option (Option Tree)} {sel sel':List Rg} {sp sp':List Sp} {bk bk':List Int} {t:ByteArray} (hK:100000<K) (V:Vi l us f g o R sel sp bk) (hc:Cok (sel.map (tyC t)))
 (he:C4 l us f g o (hdR us f) x 0 (sel.map (tyC t))=(n,0,l',us',g',o')) {b:Int×List El×Int} (hb:btR l' us' f (hdR us f) (hdR us' f)=b) (b0:b.2.2=0) (f1:BC K sel b.1 b.2.1=some (sel',0)) (f2:B6 K sp b.1 b.2.1=some (sp',0)) (f3:BM K bk b.1 b.2.1=some (bk',0)) (h1:sel'.length≤1000) (h2:sp'.length≤60) (h3:bk'.length≤1000) :
 ∃ R',CE K l us f g o R sel sp bk 5 0 x 0 t 0 0 0=some (hdR us' f,0,l',us',f,g',o',R',sel',sp',bk')∧Vi l' us' f g' o' R' sel' sp' bk':=by
 have iv':=M7 (base:=hdR us f) (grp:=x) (rank:=0) (c:=sel.map (tyC t)) V.iv
 have av':=PZ (us:=us) (f:=f) (g:=g) (o:=o) (base:=hdR us f) (grp:=x) (rank:=0) (c:=sel.map (tyC t)) V.av
 rw [he] at iv' av'
 simp only at iv' av'
 obtain ⟨R',e,V'⟩:=Vi.anew (K:=K) (by omega) R iv' av' h1 h2 h3
 refine ⟨R',?_,V'⟩
 have ee:H3 K l us f g o R sel sp bk 5 0 x 0 t 0 0 0=some (0,l',us',g',o'):=by
  have hse:=V.se
  rw [H3,if_neg (by decide),if_neg (by decide),if_pos (by decide),EG V.iv.rok,Option.bind_some,WW (by omega) (by omega),Option.bind_some,RV (by omega) V.iv hc,Option.bind_some,he]
 rw [CE,if_neg (by decide),show (some (decide ((5:Int) > 8)))=some false from rfl,Option.bind_some,if_neg (by decide),L2 (by omega) V,Option.bind_some,E0,Option.bind_some,if_pos (by decide),if_pos (by decide)]
 simp only
 rw [ee,Option.bind_some]
 simp only
 rw [if_pos (by decide),SO hK iv' V.iv.rok hb b0 f1 f2 f3,Option.bind_some,Option.bind_some]
 simp only
 rw [if_neg (by decide),e,Option.bind_some,EG iv'.rok,Option.bind_some]
theorem RD {K:Nat} {l:List Atm} {us:List (List Int)} {f a b x:Int} {g o:List Int} {R:Option (Option Tree)} {sel:List Rg} {sp sp':List Sp} {bk:List Int} (hK:100000<K) (V:Vi l us f g o R sel sp bk) (h0:0≤a) (hab:a≤b) (hb:b≤(AH l us f).length) (e1:isE (ofBytes (AH l us f)) a=true) (e2:isE (ofBytes (AH l us f)) b=true) (h:BK K sp a b x=some (sp',0)) (h2:sp'.length≤60) :
 ∃ R',CE K l us f g o R sel sp bk 7 0 0 0 ByteArray.empty a b x=some (hdR us f,0,l,us,f,g,o,R',sel,sp',bk)∧Vi l us f g o R' sel sp' bk:=by
 have hln:=V.len
 obtain ⟨R',e,V'⟩:=Vi.anew (K:=K) (by omega) R V.iv V.av V.se h2 V.br
 refine ⟨R',?_,V'⟩
 have em:H5 K l us f g o R sel sp bk 7 0 0 0 ByteArray.empty a b x=some (0,l,us,f,g,o,sel,sp',bk):=by
  rw [H5,LD (by omega) V,Option.bind_some,if_neg (by decide),if_neg (by decide),if_pos (by decide),if_neg (by simp; omega),if_neg (by simp; omega),CJ,show (some (decide (b > (((AH l us f).length:Nat):Int))))=some false by rw [decide_eq_false (by omega)],Option.bind_some,if_neg (by simp),FJ (by rw [CJ]; omega) (by rw [CJ]; omega),Option.bind_some,e1,FJ (by rw [CJ]; omega) (by rw [CJ]; omega),Option.bind_some,e2,if_neg (by simp),Option.bind_some,if_neg (by simp),h,Option.bind_some]
 rw [CE,if_neg (by decide),show (some (decide ((7:Int) > 8)))=some false from rfl,Option.bind_some,if_neg (by decide),L2 (by omega) V,Option.bind_some,E0,Option.bind_some,if_pos (by decide),if_neg (by decide)]
 simp only
 rw [em,Option.bind_some,Option.bind_some]
 simp only
 rw [if_neg (by decide),e,Option.bind_some,EG V.iv.rok,Option.bind_some]
theorem Y3 {K:Nat} (hK:100000≤K):∃ R,FK K=some ([[]],[],[],R)∧Vi [] [[]] 0 [] [] R [((0:Int),(0:Int))] [] []:=by
 have hi:=TL
 obtain ⟨q,q1,q2⟩:=O1 (K:=K) (s:=ofBytes (AH [] [[]] 0)) hK (by decide) (by decide)
 refine ⟨some q,?_,hi,fun a ha=>(List.not_mem_nil ha).elim,q2,by decide,by decide,by decide⟩
 have R:=Iv.r hi
 have A:=Iv.k hi
 have e1:GY K [] [[]] 0 [] [] (List.replicate 1 ((0:Int),(0:Int)))=some (hdR [[]] 0):=by
  rw [GY]
  have:=JA (K:=K) (l:=[]) R
  have this:D2 K [] [[]] 0 [] []=some (hdR [[]] 0):=this
  rw [this,Option.bind_some]
 have e2:CN K [] [[]] 0 [] [] (hdR [[]] 0)=some (ofBytes (AH [] [[]] 0),0):=G6 (r:=hdR [[]] 0) hK R A
 rw [FK,S4,Option.bind_some,IN,e1,Option.bind_some,e2,Option.bind_some]
 simp only
 rw [q1,Option.bind_some,Option.bind_some]
theorem OV (n:Nat) (x:Sp):CK (n+40) [x]=some ([x],(0,[x])):=by kernel_rfl
theorem WK (n:Nat):CK (n+40) []=some ([],(0,[])):=by kernel_rfl
theorem LI (n:Nat) (x:Int×Int):F0 (n+40) [x]=some [x]:=by kernel_rfl
theorem Q6 (n:Nat) (N:Int):CM (n+40) [] N=some true:=by kernel_rfl
theorem Q7 {K:Nat} {N:Int} {d:List El} (hK:100000≤K) (hd:isD N d=true):BM K [] N d=some ([],0):=by
 obtain ⟨n,rfl⟩:∃ n,K=n+40:=⟨K - 40,by omega⟩
 unfold BM
 rw [EV (by omega),Option.bind_some,hd,if_neg (by simp),Q6,Option.bind_some,Option.bind_some,if_neg (by simp),RF (by omega),Option.bind_some,BM.l0,if_neg (by simp)]
theorem TI {K:Nat} {s:ByteArray} {p:Int} (hK:100000≤K) (hs:s.size≤50000) (h:isE s p=true):EZ K [(p,p)] s=some ([(p,p)],0):=by
 obtain ⟨n,rfl⟩:∃ n,K=n+40:=⟨K - 40,by omega⟩
 obtain ⟨h1,h2,-,-⟩:=HW h
 have he:edR s (p,p)=true:=by unfold edR; rw [h]; rfl
 have hi:inR s.size (p,p)=true:=RG he
 unfold EZ F3 F2
 rw [LU,Option.bind_some,if_neg (by simp),Option.bind_some,SE (by simp) (by simp),Option.bind_some,if_neg (by simp [hi]),Option.bind_some,SC (by omega) (by omega) (by simp) (by simp),Option.bind_some,if_neg (by simp [he]),LI,Option.bind_some]
theorem TJ {K:Nat} {N p:Int} {d:List El} (hK:100000≤K) (hd:isD N d=true) (h0:0≤p) (hp:p≤N):BC K [(p,p)] N d=some ([(mv N d p true,mv N d p true)],0):=by
 obtain ⟨n,rfl⟩:∃ n,K=n+40:=⟨K - 40,by omega⟩
 have hi:inR N (p,p)=true:=by
  have:loR (p,p)=p∧hiR (p,p)=p:=by unfold loR hiR; simp
  unfold inR
  rw [this.1,this.2,decide_eq_true ⟨h0,hp⟩]
 have e1:=NA (K:=n+40) (l:=[(p,p)]) (base:=N) (d:=d) (by omega) (by simp) [(p,p)] 0 (n+40) [] rfl (by simp) (by simp)
 have e1:BC.l0 (n+40) [(p,p)] N d (n+40) [] 0=some ([]++[(p,p)].map (goR N d)):=e1
 unfold BC
 rw [EV (by omega),Option.bind_some,hd,if_neg (by simp),if_neg (by simp),SG (by simp) (by simp),Option.bind_some,Option.bind_some,if_neg (by simp [hi]),LU,Option.bind_some,if_neg (by simp),e1,Option.bind_some]
 show (F0 (n+40) [(mv N d p true,mv N d p true)]).bind _=_
 rw [LI,Option.bind_some]
theorem UA {K:Nat} {a b:Int} (hK:100000<K) (h0:0≤a) (hab:a<b) (hb:b≤1000):BK K [] a b 7=some ([(a,(b,7))],0):=by
 obtain ⟨n,rfl⟩:∃ n,K=n+40:=⟨K - 40,by omega⟩
 have hw:EC (n+40) 7 0 100=some true:=rfl
 unfold BK
 rw [JR (by omega),Option.bind_some,show EU 20000 []=true from rfl,if_neg (by simp),hw,Option.bind_some,if_neg (by simp),if_neg (by simp; omega),if_neg (by simp; omega),decide_eq_false (by omega),Option.bind_some,if_neg (by simp),BK.l0,if_neg (by simp),Option.bind_some,if_pos (by decide),LG (by simp),Option.bind_some,Option.bind_some,if_pos hab,List.nil_append,OV,Option.bind_some]
def tot (l:List Atm):Nat:=(l.map fun a=>a.1.size).sum
def flt (l:List Atm):List Int:=(l.map fun a=>bytesL a.1).flatten
def Pln (l:List Atm):Prop:=∀ a∈l,a.2.2.2.2=[]∧0≤a.2.2.1
theorem IH {a:Atm} {l:List Atm}:tot (a :: l)=a.1.size+tot l:=by simp [tot]
theorem SN {l m:List Atm}:flt (l++m)=flt l++flt m:=by simp [flt]
theorem GA:∀ {l:List Atm},(flt l).length=tot l
 | [] => rfl
 | a :: l => by
   have:=GA (l:=l)
   rw [IH,← this]
   simp [flt,AS]
theorem FN {r:Int} {a:Atm} (h:a.2.2.2.2=[]):vis r [] a=decide (a.2.1≤r):=by
 unfold vis holds
 rw [h]
 simp
theorem GB {r:Int}:∀ {l:List Atm},Pln l→(∀ a∈l,a.2.1≤r)→vtx r [] l=flt l
 | [],_,_ => rfl
 | a :: l,h,hr => by
   have ih:=GB (r:=r) (l:=l) (fun b hb=>h b (List.mem_cons_of_mem _ hb)) fun b hb=>hr b (List.mem_cons_of_mem _ hb)
   have:=FN (r:=r) (h a List.mem_cons_self).1
   rw [decide_eq_true (hr a List.mem_cons_self)] at this
   simp only [vtx]
   rw [this,if_pos rfl,ih]
   rfl
theorem NJ {s:ByteArray} {w g r:Int}:∀ {m t:Nat},A3 s m t=true→s.size≤t+m→t≤s.size→tot (ptL s w g r m t)=s.size - t
 | 0,t,_,h,h2 => by
   rw [show s.size - t=0 by omega]
   rfl
 | m+1,t,hu,h,h2 => by
   rw [ptL]
   by_cases ht:t<s.size
   ·have hz:usz s t≠0:=fun hz=>by
     rw [A3,if_pos (by omega),if_pos hz] at hu; cases hu
    have hu2:A3 s m (t+usz s t)=true:=by
     rw [A3,if_pos (by omega),if_neg hz] at hu; exact hu
    have hu3:=(BL (s:=s) (a:=t)).2.2 (by omega) (by omega)
    obtain ⟨c,z,h3,h4,h5,_⟩:=HF ht hz
    rw [if_pos ht,IH,h3]
    simp only
    rw [h5,NJ (by rw [show ((t+z:Nat):Int)=t+usz s t by omega]; exact hu2) (by omega) (by omega)]
    omega
   ·rw [if_neg ht]
    rw [show s.size - t=0 by omega]
    rfl
theorem NL {s:ByteArray} {w g r:Int} (h:A1 s=true):tot (AD s w g r)=s.size:=NJ (m:=s.size) (t:=0) h (by omega) (by omega)
def paT (w:ByteArray):List El:=if w.size=0 then [] else [(0,(0,w))]
def koT (n:Int):List El:=if n=0 then [] else [(0,(n,ByteArray.empty))]
theorem UB {w s:ByteArray}:∃ w',BW (paT w) s=paT w'∧w'.size=w.size+s.size∧(A1 w=true→A1 s=true→A1 w'=true):=by
 unfold paT
 by_cases hw:w.size=0
 ·rw [if_pos hw,N5]
  by_cases hs:s.size=0
  ·rw [if_pos hs]
   exact ⟨w,by rw [if_pos hw],by omega,fun h _=>h⟩
  ·rw [if_neg hs]
   exact ⟨s,by rw [if_neg hs],by omega,fun _ h=>h⟩
 ·rw [if_neg hw]
  have:=N4 (l:=[]) (p:=((0:Int),((0:Int),w))) (s:=s)
  rw [List.nil_append] at this
  rw [this]
  by_cases hs:s.size=0
  ·rw [if_pos hs]
   exact ⟨w,by rw [if_neg hw],by omega,fun h _=>h⟩
  ·rw [if_neg hs,if_neg hw]
   exact ⟨w++s,by rw [if_neg (by rw [AT]; omega)]; rfl,AT,fun h k=>PF h k⟩
theorem ML {r r':Int} {u u':List Int}:∀ {l:List Atm} {w:ByteArray} {q:Int},(∀ a∈l,vis r u a=false∧vis r' u' a=true∧A1 a.1=true)→A1 w=true→∃ w',l.foldl (dfS r u r' u') (paT w,q)=(paT w',q)∧w'.size=w.size+tot l∧A1 w'=true
 | [],w,q,_,hw => ⟨w,rfl,rfl,hw⟩
 | a :: l,w,q,h,hw => by
   obtain ⟨h1,h2,h3⟩:=h a List.mem_cons_self
   obtain ⟨x,x1,x2,x3⟩:=UB (w:=w) (s:=a.1)
   have e:dfS r u r' u' (paT w,q) a=(paT x,q):=by
    unfold dfS
    rw [h1,h2,if_neg (by simp),if_pos rfl,if_neg (by simp),x1]
   obtain ⟨w',w1,w2,w3⟩:=ML (l:=l) (w:=x) (q:=q) (fun b hb=>h b (List.mem_cons_of_mem _ hb)) (x3 hw h3)
   exact ⟨w',by rw [List.foldl_cons,e,w1],by rw [w2,x2,IH]; omega,w3⟩
theorem QK {w:ByteArray} {n k:Int} (hn:0≤n) (hk:0<k):BV (paT w++koT n) n (n+k)=paT w++koT (n+k):=by
 unfold koT
 by_cases h0:n=0
 ·subst h0
  rw [if_pos rfl,List.append_nil,if_neg (by omega)]
  unfold paT
  by_cases hw:w.size=0
  ·rw [if_pos hw,N3,if_neg (by omega)]
   rfl
  ·rw [if_neg hw]
   have:=JY (l:=[]) (p:=((0:Int),((0:Int),w))) (f:=0) (t:=0+k)
   rw [List.nil_append] at this
   rw [this,if_neg (by omega),if_neg (fun h=>hw h.1)]
 ·rw [if_neg h0,if_neg (by omega),JY,if_neg (by omega),if_pos ⟨rfl,rfl⟩]
theorem MM {r r':Int} {u u':List Int} {w:ByteArray}:∀ {l:List Atm} {n:Nat},(∀ a∈l,vis r u a=true∧vis r' u' a=true∧1≤a.1.size)→l.foldl (dfS r u r' u') (paT w++koT n,(n:Int))=(paT w++koT ((n+tot l:Nat):Int),((n+tot l:Nat):Int))
 | [],n,_ => rfl
 | a :: l,n,h => by
   obtain ⟨h1,h2,h3⟩:=h a List.mem_cons_self
   have e:dfS r u r' u' (paT w++koT n,(n:Int)) a=(paT w++koT ((n+a.1.size:Nat):Int),((n+a.1.size:Nat):Int)):=by
    unfold dfS
    rw [h1,h2,if_pos (by simp),if_pos rfl,QK (by omega) (by omega)]
    rfl
   rw [List.foldl_cons,e,MM fun b hb=>h b (List.mem_cons_of_mem _ hb),IH,Nat.add_assoc]
theorem G5:ByteArray.empty.size=0:=rfl
theorem J8 {w:ByteArray} {N:Nat} (hw:A1 w=true) (h:N+w.size≤20000):isD N (paT w++koT N)=true:=by
 unfold isD paT koT
 by_cases h1:w.size=0
 ·rw [if_pos h1]
  by_cases h2:(N:Int)=0
  ·rw [if_pos h2]
   simp [isL]; omega
  ·rw [if_neg h2]
   simp only [List.nil_append,isL,G5,if_true,List.length_cons,List.length_nil,Bool.and_true,Bool.and_eq_true,decide_eq_true_eq]
   refine ⟨⟨by omega,by omega,by omega⟩,by omega,.inr (by simp),by omega,by omega,by omega⟩
 ·rw [if_neg h1]
  by_cases h2:(N:Int)=0
  ·rw [if_pos h2]
   simp only [List.append_nil,isL,if_neg h1,hw,List.length_cons,List.length_nil,Bool.and_true,Bool.and_eq_true,decide_eq_true_eq]
   refine ⟨⟨by omega,by omega,by omega⟩,trivial,trivial,by simp,by omega⟩
  ·rw [if_neg h2]
   simp only [List.cons_append,List.nil_append,isL,if_neg h1,hw,G5,if_true,List.length_cons,List.length_nil,Bool.and_true,Bool.and_eq_true,decide_eq_true_eq]
   refine ⟨⟨by omega,by omega,by omega⟩,⟨trivial,trivial,by simp,by omega⟩,by omega,.inr (by simp),by omega,by omega,by omega⟩
theorem M1 {w:ByteArray} {N:Nat} {p:Int} (hw:A1 w=true) (h:N+w.size≤20000) (h0:0≤p) (hp:p≤N):mv N (paT w++koT N) p true=p+w.size∧(0<p→mv N (paT w++koT N) p false=p+w.size):=by
 unfold mv
 rw [J8 hw h,if_pos rfl,if_pos rfl,if_pos rfl,if_neg (by simp),show min (max p 0) (N:Int)=p by omega]
 unfold paT koT
 by_cases h1:w.size=0
 ·rw [if_pos h1]
  by_cases h2:(N:Int)=0
  ·rw [if_pos h2]
   simp only [List.append_nil,mvE]
   omega
  ·rw [if_neg h2]
   simp only [List.nil_append,mvE,G5,if_true]
   by_cases h3:(0:Int)≥p
   ·rw [if_pos h3]; simp only; omega
   ·rw [if_neg h3]
    by_cases h4:(N:Int) > p
    ·rw [if_pos h4]; simp only; omega
    ·rw [if_neg h4]; simp only; omega
 ·rw [if_neg h1]
  by_cases h2:(N:Int)=0
  ·rw [if_pos h2]
   simp only [List.append_nil,mvE,if_neg h1]
   omega
  ·rw [if_neg h2]
   simp only [List.cons_append,List.nil_append,mvE,if_neg h1,G5,if_true]
   by_cases h3:(0:Int)≥p
   ·rw [if_pos h3]; simp only; omega
   ·rw [if_neg h3]
    by_cases h4:(N:Int) > p
    ·rw [if_pos h4]; simp only; omega
    ·rw [if_neg h4]; simp only; omega
theorem QA {s t:ByteArray} (hs:A1 s=true) (ht:A1 t=true) (hsz:s.size≤1000) (htz:t.size≤1000):BO s [((0:Int),((0:Int),t))]=0:=by
 have hE:isE s 0=true:=ET hs (by omega) (by omega) (by
  rcases Nat.eq_zero_or_pos s.size with h | h
  ·exact .inl (by omega)
  ·exact .inr (JJ hs h))
 unfold BO
 rw [hs,if_neg (by simp),if_neg (by simp)]
 have e1:bdC s ((0:Int),((0:Int),t))=false:=by
  simp only [bdC,Bool.or_eq_false_iff,decide_eq_false_iff_not]
  omega
 have e2:egC s ((0:Int),((0:Int),t))=false:=by
  simp only [egC]
  rw [hE]
  rfl
 have e3:lgB (20000 - s.size+lgA s.size [((0:Int),((0:Int),t))]) [((0:Int),((0:Int),t))]=0:=by
  have:=JS (n:=s.size) (by omega) (r:=[((0:Int),((0:Int),t))])
  simp only [lgB]
  rw [if_neg (by omega),if_neg (by omega)]
 simp [e1,e2,e3,orC,ht,f5]
theorem PL {r:Int} {u:List Int}:∀ {l:List Atm},(∀ a∈l,vis r u a=false)→vtx r u l=[]
 | [],_ => rfl
 | a :: l,h => by
   simp only [vtx]
   rw [h a List.mem_cons_self,if_neg (by simp)]
   exact PL fun b hb=>h b (List.mem_cons_of_mem _ hb)
def shS (m:Int) (y:Sp):Sp:=(y.1+m,(y.2.1+m,y.2.2))
theorem RH {K:Nat} {w:ByteArray} {N:Nat} {sp:List Sp} (hK:100000<K) (hw:A1 w=true) (h:N+w.size≤20000) (hsp:sp=[]∨∃ a b,sp=[(a,(b,7))]∧0≤a∧a<b∧b≤N):B6 K sp N (paT w++koT N)=some (sp.map (shS w.size),0):=by
 have hd:=J8 hw h
 obtain ⟨n,rfl⟩:∃ n,K=n+40:=⟨K - 40,by omega⟩
 unfold B6
 rcases hsp with rfl | ⟨a,b,rfl,h0,h1,h2⟩
 ·rw [EV (by omega),Option.bind_some,hd,if_neg (by simp),JR (by omega),Option.bind_some,show EU N []=true from rfl,Option.bind_some,if_neg (by simp),B6.l0,if_neg (by simp),Option.bind_some,WK,Option.bind_some]
  rfl
 ·have hi:EU N [(a,(b,7))]=true:=by
   unfold EU
   rw [Bool.and_eq_true,TW]
   refine ⟨rfl,⟨by simp only; omega,by simp only; omega,h0,h1,by simp only; omega,by simp⟩,rfl⟩
  obtain ⟨m1,-⟩:=M1 (p:=a) hw h h0 (by omega)
  obtain ⟨-,m2⟩:=M1 (p:=b) hw h (by omega) h2
  have m2:=m2 (by omega)
  have el:=M8 (K:=n+40) (base:=N) (d:=paT w++koT N) (l:=[(a,(b,7))]) (by omega) (by simp) [(a,(b,7))] 0 (n+40) [] rfl (by simp) (by simp)
  have hg:([(a,(b,(7:Int)))].map (goS N (paT w++koT N))).filter neI=[(a,(b,7))].map (shS w.size):=by
   have hg:goS N (paT w++koT N) (a,(b,7))=(a+w.size,(b+w.size,7)):=by
    unfold goS
    simp only [m1,m2]
    rw [show max (a+(w.size:Int)) (b+w.size)=b+w.size by omega]
   rw [List.map_cons,hg,List.map_nil,List.filter_cons,if_pos (by unfold neI; simp; omega),List.filter_nil]
   rfl
  have el:B6.l0 (n+40) [(a,(b,7))] N (paT w++koT N) (n+40) [] 0=some ([]++([(a,(b,(7:Int)))].map (goS N (paT w++koT N))).filter neI):=el
  rw [EV (by omega),Option.bind_some,hd,if_neg (by simp),JR (by omega),Option.bind_some,hi,Option.bind_some,if_neg (by simp),el,hg,Option.bind_some,List.nil_append,List.map_cons,List.map_nil,OV,Option.bind_some]
theorem OZ {K:Nat} {l:List Atm} {us:List (List Int)} {g:List Int} {R:Option (Option Tree)} {sp:List Sp} {t:ByteArray} {x:Int} (hK:100000<K) (V:Vi l us 0 g [] R [((0:Int),(0:Int))] sp []) (P:Pln l) (U:lsR us=[]) (hh:hdR us 0<100) (hl:l.length≤2000) (hn:tot l≤900) (ht:A1 t=true) (htz:t.size≤60) (hx:0≤x∧x<60) (hsp:sp=[]∨∃ a b,sp=[(a,(b,7))]∧0≤a∧a<b∧b≤tot l) :
 ∃ R' sel' us' g',CE K l us 0 g [] R [((0:Int),(0:Int))] sp [] 5 0 x 0 t 0 0 0=some (hdR us' 0,0,AD t (hdR us 0+1) x 0++l,us',0,g',[],R',sel',sp.map (shS t.size),[])∧Vi (AD t (hdR us 0+1) x 0++l) us' 0 g' [] R' sel' (sp.map (shS t.size)) []∧Pln (AD t (hdR us 0+1) x 0++l)∧lsR us'=[]∧hdR us' 0=hdR us 0+1:=by
 have hne:=V.iv.ne
 have h0h:0≤hdR us 0:=by unfold hdR; omega
 have hr:∀ a∈l,a.2.1≤hdR us 0:=fun a ha=>(V.iv.aa a ha).r1
 have hlv:=I1 (f:=0) hne
 have hun:=KW (f:=0) hne
 have htx:vtx (hdR us 0) [] l=flt l:=GB P hr
 have hvl:A1 (ofBytes (flt l))=true:=by rw [← htx]; exact H7 V.av
 have hpt:∀ a∈AD t (hdR us 0+1) x 0,1≤a.1.size∧a.2=(hdR us 0+1,(x,(0,[])))∧A1 a.1=true:=fun a ha=>by
  obtain ⟨p1,p2,p3⟩:=K4 (m:=t.size) (t:=0) ht a ha
  exact ⟨p1,p3,IU a ha⟩
 have P':Pln (AD t (hdR us 0+1) x 0++l):=fun a ha=>by
  rcases List.mem_append.1 ha with ha | ha
  ·rw [(hpt a ha).2.1]; exact ⟨rfl,hx.1⟩
  ·exact P a ha
 have hpl:(AD t (hdR us 0+1) x 0).length≤t.size:=EY
 have hc:[((0:Int),(0:Int))].map (tyC t)=[((0:Int),((0:Int),t))]:=rfl
 -- the edit
 have hU:upS (hdR us 0) [] [((0:Int),((0:Int),t))] (hdR us 0+1) x 0 l=AD t (hdR us 0+1) x 0++l:=by
  have:=WY (rev:=hdR us 0) (u:=[]) (f:=0) (t:=0) (s:=t) (w:=hdR us 0+1) (g:=x) (rank:=0) (P:=[]) (M:=[]) (Q:=l) (fun a ha _=>by have:=(V.iv.aa a (by simpa using ha)).s1; omega) rfl rfl (.inl rfl) (fun a ha=>hr a (List.mem_of_mem_head? (by simpa using ha)))
  simpa [EN] using this
 have he:C4 l us 0 g [] (hdR us 0) x 0 ([((0:Int),(0:Int))].map (tyC t))=(hdR us 0+1,0,AD t (hdR us 0+1) x 0++l,us++[[]],insS x g,[]):=by
  have hch:=QA (t:=t) hvl ht (by rw [CJ,GA]; omega) (by omega)
  have had:adR us 0 g [] x=(hdR us 0+1,0,us++[lsR us],insS x g):=by
   unfold adR
   rw [if_neg (by simp; omega),if_neg (by omega)]
  unfold C4
  rw [hc,hlv,if_neg (by simp),hun,U,htx,hch,if_neg (by simp),had,if_neg (by simp),if_neg (by omega),hU,if_neg (by rw [List.length_append]; omega)]
 have hus:hdR (us++[[]]) 0=hdR us 0+1:=HU
 have iv':=M7 (base:=hdR us 0) (grp:=x) (rank:=0) (c:=[((0:Int),(0:Int))].map (tyC t)) V.iv
 rw [he] at iv'
 -- what changed
 have u1:unR (us++[[]]) 0 (hdR us 0)=[]:=by
  rw [P4 h0h (by omega),if_neg (by omega),hun,U]
 have u2:unR (us++[[]]) 0 (hdR us 0+1)=[]:=by
  rw [P4 (by omega) (by omega),if_pos rfl]
 have l1:lvR (us++[[]]) 0 (hdR us 0)=true:=by
  unfold lvR
  rw [hus,decide_eq_true h0h,decide_eq_true (by omega)]
  rfl
 have l2:lvR (us++[[]]) 0 (hdR us 0+1)=true:=by
  unfold lvR
  rw [hus,decide_eq_true (by omega),decide_eq_true (by omega)]
  rfl
 obtain ⟨w,w1,w2,w3⟩:=ML (r:=hdR us 0) (r':=hdR us 0+1) (u:=[]) (u':=[]) (l:=AD t (hdR us 0+1) x 0) (w:=ByteArray.empty) (q:=0) (fun a ha=>by
  obtain ⟨p1,p2,p3⟩:=hpt a ha
  have pc:a.2.2.2.2=[]:=by rw [p2]
  have pr:a.2.1=hdR us 0+1:=by rw [p2]
  rw [FN pc,FN pc,decide_eq_false (by omega),decide_eq_true (by omega)]
  exact ⟨rfl,rfl,p3⟩) rfl
 have w2:w.size=t.size:=by rw [w2,NL ht,G5,Nat.zero_add]
 have hd:dfL (hdR us 0) [] (hdR us 0+1) [] (AD t (hdR us 0+1) x 0++l)=(paT w++koT (tot l:Nat),((tot l:Nat):Int)):=by
  unfold dfL
  have w1:(AD t (hdR us 0+1) x 0).foldl (dfS (hdR us 0) [] (hdR us 0+1) []) ([],0)=(paT w,0):=w1
  rw [List.foldl_append,w1]
  have:=MM (r:=hdR us 0) (r':=hdR us 0+1) (u:=[]) (u':=[]) (w:=w) (l:=l) (n:=0) (fun a ha=>by
   have pc:=(P a ha).1
   have pr:=hr a ha
   rw [FN pc,FN pc,decide_eq_true pr,decide_eq_true (by omega)]
   exact ⟨rfl,rfl,(V.iv.aa a ha).s1⟩)
  rw [Nat.zero_add,show koT ((0:Nat):Int)=[] from rfl,List.append_nil] at this
  exact this
 have hb:btR (AD t (hdR us 0+1) x 0++l) (us++[[]]) 0 (hdR us 0) (hdR (us++[[]]) 0)=(((tot l:Nat):Int),paT w++koT (tot l:Nat),0):=by
  unfold btR
  rw [hus,u1,u2,l1,l2,if_pos ⟨rfl,rfl⟩,hd]
  have hlen:(paT w++koT (tot l:Nat)).length≤2:=by
   unfold paT koT
   rw [List.length_append]
   split <;> split <;> simp
  rw [if_neg (by simp only; omega),IT,PL fun a ha=>by
   obtain ⟨p1,p2,p3⟩:=hpt a ha
   rw [FN (by rw [p2]),decide_eq_false (by rw [p2]; simp only; omega)],List.nil_append,htx,GA]
 have hdd:=J8 (w:=w) (N:=tot l) w3 (by omega)
 have e1:=TJ (K:=K) (N:=(tot l:Nat)) (p:=0) (by omega) hdd (by omega) (by omega)
 have e2:=RH (K:=K) (w:=w) (N:=tot l) (sp:=sp) hK w3 (by omega) hsp
 have e3:=Q7 (K:=K) (by omega) hdd
 rw [w2] at e2
 have h60:(sp.map (shS t.size)).length≤60:=by rw [List.length_map]; exact V.st
 obtain ⟨R',r1,r2⟩:=RE (x:=x) hK V ⟨by simp,fun y hy=>by rw [hc] at hy; simp at hy; subst hy; simp only; omega⟩ he hb rfl e1 e2 e3 (by simp) h60 (by simp)
 refine ⟨R',_,us++[[]],insS x g,r1,r2,P',T9,hus⟩
structure Ss (s:ByteArray) (a b:Int) (i:Nat) (l:List Atm) (us:List (List Int)) (g:List Int) (R:Option (Option Tree)) (sel:List Rg) (n:Nat):Prop where
 v:Vi l us 0 g [] R sel [(a+n,(b+n,7))] []
 p:Pln l
 u:lsR us=[]
 h:hdR us 0≤i+1
 c:l.length≤60+20 * i
 nn:n≤20 * i
 t:∃ T,flt l=bytesL (T++s)∧T.size=n
theorem SM {l:List Atm}:∃ T,flt l=bytesL T:=by
 induction l with
 | nil => exact ⟨ByteArray.empty,rfl⟩
 | cons a l ih =>
   obtain ⟨T,h⟩:=ih
   refine ⟨a.1++T,?_⟩
   rw [EL,← h]
   rfl
theorem Ss.tot {s:ByteArray} {a b:Int} {i:Nat} {l:List Atm} {us:List (List Int)} {g:List Int} {R:Option (Option Tree)} {sel:List Rg} {n:Nat} (S:Ss s a b i l us g R sel n):Go.Pal.tot l=n+s.size:=by
 obtain ⟨T,h1,h2⟩:=S.t
 rw [← GA,h1,AS,AT,h2]
theorem OQ {K:Nat} {s:ByteArray} {a b:Int} {more:List ByteArray} (hK:100000<K) (h0:0≤a) (hab:a<b) (hb:b≤s.size) (hs:s.size≤60) (hm:more.length≤8):∀ (r:List ByteArray) (j k:Nat) (l:List Atm) (us:List (List Int)) (g:List Int) (R:Option (Option Tree)) (sel:List Rg) (n:Nat),more.drop j=r→j≤8→r.length<k→Ss s a b j l us g R sel n→
 BY.l0 K more k l us 0 g [] R sel [(a+n,(b+n,7))] [] (n:Int) (j:Int)=some (.inl true)∨∃ l' us' g' R' sel' n' i',BY.l0 K more k l us 0 g [] R sel [(a+n,(b+n,7))] [] (n:Int) (j:Int)=some (.inr (l',us',0,g',[],R',sel',[(a+(n':Nat),(b+(n':Nat),7))],[],((n':Nat):Int)))∧i'≤8∧Ss s a b i' l' us' g' R' sel' n'
 | [],j,k+1,l,us,g,R,sel,n,h,hj,_,S => by
   have:=AA h
   rw [BY.l0,if_neg (by simp; omega)]
   exact .inr ⟨l,us,g,R,sel,n,j,rfl,hj,S⟩
 | t :: r,j,k+1,l,us,g,R,sel,n,h,hj,hk,S => by
   obtain ⟨h1,h2,h3⟩:=A7 h ByteArray.empty
   have hb':0≤(j:Int)∧(j:Int)<more.length:=⟨by omega,by omega⟩
   rw [BY.l0,if_pos (by simp; omega),Int.toNat_natCast,h2]
   simp only [if_pos hb']
   by_cases hsz:t.size > 20
   ·rw [if_pos (by simp; omega),Option.bind_some,if_pos rfl]
    exact .inl rfl
   ·rw [if_neg (by simp; omega),V5 (by omega) (by omega),Option.bind_some,Option.bind_some]
    cases hv:A1 t with
    | false => exact .inl rfl
    | true =>
      rw [if_neg (by simp)]
      have htot:=S.tot
      have hn:=S.nn
      have hc:=S.c
      have hh:=S.h
      have hval:=H7 (r:=hdR us 0) (u:=lsR us) S.v.av
      have hE:isE (ofBytes (AH l us 0)) 0=true:=ET hval (by omega) (by omega) (by
       rcases Nat.eq_zero_or_pos (ofBytes (AH l us 0)).size with h | h
       ·exact .inl (by omega)
       ·exact .inr (JJ hval h))
      obtain ⟨R1,e1,V1⟩:=RC (K:=K) (rg:=[((0:Int),(0:Int))]) (by omega) S.v (TI (by omega) (by have:=S.v.len; rw [CJ]; omega) hE) (by simp)
      rw [e1,Option.bind_some]
      simp only
      obtain ⟨R2,sel2,us2,g2,e2,V2,P2,U2,H2⟩:=OZ (K:=K) (x:=2) hK V1 S.p S.u (by omega) (by omega) (by omega) hv (by omega) (by omega) (.inr ⟨a+n,b+n,rfl,by omega,by omega,by omega⟩)
      rw [e2,Option.bind_some]
      simp only
      have ew:IntKind.wrap .i64 ((n:Int)+((t.size:Nat):Int))=((n+t.size:Nat):Int):=by rw [w64 (by omega) (by omega)]; omega
      have esp:[(a+(n:Int),(b+(n:Int),(7:Int)))].map (shS t.size)=[(a+((n+t.size:Nat):Int),(b+((n+t.size:Nat):Int),7))]:=by
       simp [shS]; omega
      rw [if_neg (by simp),ew,up1 (by omega),esp]
      rw [esp] at V2
      refine OQ hK h0 hab hb hs hm r (j+1) k _ us2 g2 R2 sel2 (n+t.size) h3 (by omega) (by simpa using hk) ⟨V2,P2,U2,by omega,?_,by omega,?_⟩
      ·have:(AD t (hdR us 0+1) 2 0).length≤t.size:=EY
       rw [List.length_append]
       omega
      ·obtain ⟨T,t1,t2⟩:=S.t
       obtain ⟨X,hX⟩:=SM (l:=AD t (hdR us 0+1) 2 0)
       have hXs:X.size=t.size:=by
        have:=congrArg List.length hX
        rw [GA,NL hv,AS] at this
        omega
       refine ⟨X++T,?_,by rw [AT]; omega⟩
       rw [SN,t1,hX]
       simp only [EL,List.append_assoc]
theorem WholeStyles_pure (s:ByteArray) (from_ to_:Int) (more:List ByteArray) (o0:Kd.ok .str s) (o1:Kd.ok (.int .u8) from_) (o2:Kd.ok (.int .u8) to_) (o3:Kd.ok (.slice .str) more):∃ K,BY K s from_ to_ more=some true:=by
 have hfr:=P3 o1
 have hto:=P3 o2
 refine ⟨100001,?_⟩
 generalize hKK:100001=K
 have hK:100000<K:=by omega
 unfold BY
 rw [T0 (by omega),Option.bind_some,if_neg (by simp)]
 by_cases c1:s.size<1
 ·rw [if_pos (by simp; omega),Option.bind_some,if_pos rfl]
 rw [if_neg (by simp; omega)]
 by_cases c2:s.size > 60
 ·rw [if_pos (by simp; omega),Option.bind_some,if_pos rfl]
 rw [if_neg (by simp; omega)]
 by_cases c3:more.length > 8
 ·rw [if_pos (by simp; omega),Option.bind_some,if_pos rfl]
 rw [if_neg (by simp; omega)]
 obtain ⟨q,q1,q2⟩:=PT (K:=K) (s:=s) (by omega) (by omega)
 rw [q1,Option.bind_some,Option.bind_some]
 cases q with
 | false => rfl
 | true =>
   have hA:=q2 rfl
   have hv:=LN hA
   rw [if_neg (by simp)]
   obtain ⟨R0,e0,V0⟩:=Y3 (K:=K) (by omega)
   rw [e0,Option.bind_some]
   simp only
   -- the places
   have w1:IntKind.wrap .i64 from_=from_:=w64 (by omega) (by omega)
   have w2:IntKind.wrap .i64 to_=to_:=w64 (by omega) (by omega)
   have a1:=Int.tmod_nonneg (s.size:Int) hfr.1
   have a2:=Int.tmod_lt_of_pos from_ (show (0:Int)<s.size by omega)
   rw [w1,w2]
   generalize hae:Int.tmod from_ ((s.size:Nat):Int)=a at *
   rw [w64 (n:=((s.size:Nat):Int) - a) (by omega) (by omega)]
   have b1:=Int.tmod_nonneg ((s.size:Int) - a) hto.1
   have b2:=Int.tmod_lt_of_pos to_ (show (0:Int)<(s.size:Int) - a by omega)
   generalize hbe:Int.tmod to_ (((s.size:Nat):Int) - a)=d at *
   rw [w64 (n:=a+1) (by omega) (by omega),w64 (n:=a+1+d) (by omega) (by omega),if_pos ⟨by omega,by omega⟩]
   obtain ⟨b,hb⟩:∃ b,a+1+d=b:=⟨_,rfl⟩
   rw [hb]
   -- the text
   have hls:lsR [([]:List Int)]=[]:=rfl
   have hd0:hdR [([]:List Int)] 0=0:=rfl
   obtain ⟨R1,sel1,us1,g1,e1,V1,P1,U1,H1⟩:=OZ (K:=K) (x:=1) (t:=s) hK V0 (fun x hx=>(List.not_mem_nil hx).elim) hls (by decide) (by simp) (by decide) hv (by omega) (by omega) (.inl rfl)
   have e1:CE K [] [[]] 0 [] [] R0 (List.replicate 1 ((0:Int),(0:Int))) [] [] 5 0 1 0 s 0 0 0=_:=e1
   rw [e1,Option.bind_some]
   simp only [List.map_nil] at V1 ⊢
   -- its style
   have hr1:∀ x∈AD s (hdR [([]:List Int)] 0+1) 1 0++[],x.2.1≤hdR us1 0:=fun x hx=>(V1.iv.aa x hx).r1
   have hfl:flt (AD s (hdR [([]:List Int)] 0+1) 1 0++[])=bytesL s:=by
    rw [List.append_nil,PU hA]
    have:=LS (rev:=hdR [([]:List Int)] 0+1) (u:=[]) (w:=hdR [([]:List Int)] 0+1) (g:=1) (cs:=[]) (xs:=bytesL s) Q8
    rw [if_pos (by decide)] at this
    refine (GB (r:=hdR [([]:List Int)] 0+1) (fun x hx=>?_) fun x hx=>?_).symm.trans this
    ·obtain ⟨y,_,rfl⟩:=List.mem_map.1 hx
     exact ⟨rfl,by simp only; omega⟩
    ·obtain ⟨y,_,rfl⟩:=List.mem_map.1 hx
     exact Int.le_refl _
   have hnow:AH (AD s (hdR [([]:List Int)] 0+1) 1 0++[]) us1 0=bytesL s:=by
    unfold AH
    rw [U1,GB P1 hr1,hfl]
   have hpl:(AD s (hdR [([]:List Int)] 0+1) 1 0).length≤s.size:=EY
   obtain ⟨R2,e2,V2⟩:=RD (K:=K) (a:=a) (b:=b) (x:=7) hK V1 (by omega) (by omega) (by rw [hnow,AS]; omega) (by
    rw [hnow,DM]
    have:=LJ hA (i:=a.toNat) (by omega)
    rwa [show ((a.toNat:Nat):Int)=a by omega] at this) (by
    rw [hnow,DM]
    have:=LJ hA (i:=b.toNat) (by omega)
    rwa [show ((b.toNat:Nat):Int)=b by omega] at this) (UA hK (by omega) (by omega) (by omega)) (by simp)
   rw [e2,Option.bind_some]
   simp only
   -- all that is typed ahead
   have S0:Ss s a b 0 (AD s (hdR [([]:List Int)] 0+1) 1 0++[]) us1 g1 R2 sel1 0:=by
    refine ⟨by simpa using V2,P1,U1,by omega,by rw [List.append_nil]; omega,by omega,ByteArray.empty,?_,rfl⟩
    rw [hfl,EL]
    rfl
   have lp:=OQ (K:=K) (more:=more) hK (by omega) (by omega) (by omega) (by omega) (by omega) more 0 K _ us1 g1 R2 sel1 0 rfl (by omega) (by omega) S0
   simp only [Int.natCast_zero,Int.add_zero,Int.ofNat_zero] at lp
   rcases lp with lp | ⟨l',us',g',R',sel',n',i',lp,hi',S⟩
   ·rw [lp,Option.bind_some,Sum.elim_inl]
   ·rw [lp,Option.bind_some,Sum.elim_inr]
    simp only
    have htot:=S.tot
    have hn:=S.nn
    obtain ⟨T,t1,t2⟩:=S.t
    have hnow':AH l' us' 0=bytesL (T++s):=by
     unfold AH
     rw [S.u,GB S.p fun x hx=>(S.v.iv.aa x hx).r1,t1]
    rw [PK S.v.st,Option.bind_some,if_pos (by simp),if_pos (by simp),w64 (n:=a+(n':Int)) (by omega) (by omega),w64 (n:=b+(n':Int)) (by omega) (by omega),if_pos (by simp),LD (by omega) S.v,Option.bind_some,hnow',DM]
    have hsz:(T++s).size=n'+s.size:=by rw [AT,t2]
    rw [if_pos ⟨by simp,by omega,by omega,by omega,by omega,by omega,by omega⟩,ON,decide_eq_true]
    refine IX ?_
    have hTl:(bytesL T).length=n':=by rw [AS,t2]
    rw [E3,E3,EL,show (a+(n':Int)).toNat=(bytesL T).length+a.toNat by omega,List.drop_append,List.drop_of_length_le (by omega),List.nil_append,show (bytesL T).length+a.toNat - (bytesL T).length=a.toNat by omega,show (b+(n':Int)).toNat - ((bytesL T).length+a.toNat)=b.toNat - a.toNat by omega]
end Go.Pal
