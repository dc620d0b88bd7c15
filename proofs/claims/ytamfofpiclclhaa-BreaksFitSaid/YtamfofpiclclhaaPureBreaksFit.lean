/- Whatever text and width: each line fits; none could take the next point, too; none ends within a point. -/
import Derived.Test.YtamfofpiclclhaaFunBreaksFit
namespace Go.Pal
open Go
set_option linter.unusedVariables false
set_option linter.unusedSimpArgs false
set_option linter.unnecessarySimpa false
theorem w64 {n : Int} (h1 : -9223372036854775808 ≤ n) (h2 : n < 9223372036854775808) : IntKind.wrap .i64 n = n := by
  simp only [IntKind.wrap, IntKind.bits, IntKind.signed]
  simp
  omega

theorem drop_cons {α : Type} {l : List α} {j : Nat} {g : α} {r : List α} (h : l.drop j = g :: r) (d : α) : j < l.length ∧ l.getD j d = g ∧ l.drop (j + 1) = r := by
  have hj : j < l.length := by
    rcases Nat.lt_or_ge j l.length with h' | h'
    · exact h'
    · rw [List.drop_eq_nil_of_le h'] at h; cases h
  rw [List.drop_eq_getElem_cons hj] at h
  obtain ⟨h1, h2⟩ := List.cons.inj h
  exact ⟨hj, by simp [List.getD, hj, h1], h2⟩

theorem drop_nil {α : Type} {l : List α} {j : Nat} (h : l.drop j = []) : l.length ≤ j := List.drop_eq_nil_iff.1 h

/-- The counts of e, those from f to t told anew. -/
def put (e : List Int) (f t c : Int) : List Int := e.take f.toNat ++ List.replicate (t - f).toNat c ++ e.drop t.toNat

theorem tmod_u8 {n m : Int} (h0 : 0 ≤ n) (hm : 0 < m) : 0 ≤ Int.tmod n m ∧ Int.tmod n m < m := by
  rw [Int.tmod_eq_emod_of_nonneg h0]
  exact ⟨Int.emod_nonneg _ (by omega), Int.emod_lt_of_pos _ hm⟩

theorem byte_all {P : Int → Prop} (h : ∀ m : Fin 256, P ((m.val : Nat) : Int)) {c : Int} (h0 : 0 ≤ c) (h1 : c ≤ 255) : P c := by
  have := h ⟨c.toNat, by omega⟩
  simpa [Int.toNat_of_nonneg h0] using this

theorem bt_ok {s : ByteArray} {i : Int} : 0 ≤ bt s i ∧ bt s i ≤ 255 := by
  unfold bt
  have := (s[i.toNat]?.getD 0).toNat_lt
  omega

/-- A byte that goes on. -/
def cont (b : Int) : Prop := 128 ≤ b ∧ b < 192

instance (b : Int) : Decidable (cont b) := inferInstanceAs (Decidable (_ ∧ _))

theorem and_192 {b : Int} (h0 : 0 ≤ b) (h1 : b ≤ 255) : (IntKind.wrap .u8 (BitVec.toNat (BitVec.ofInt (IntKind.bits .u8) b &&& BitVec.ofInt (IntKind.bits .u8) (192 : Int))) != (128 : Int)) = !decide (cont b) :=
  byte_all (P := fun b => (IntKind.wrap .u8 (BitVec.toNat (BitVec.ofInt (IntKind.bits .u8) b &&& BitVec.ofInt (IntKind.bits .u8) (192 : Int))) != (128 : Int)) = !decide (cont b)) (by decide +kernel) h0 h1

theorem not_192 {b : Int} (h0 : 0 ≤ b) (h1 : b ≤ 255) : IntKind.wrap .u8 (BitVec.toNat (BitVec.ofInt (IntKind.bits .u8) b &&& ~~~BitVec.ofInt (IntKind.bits .u8) (192 : Int))) = b % 64 :=
  byte_all (P := fun b => IntKind.wrap .u8 (BitVec.toNat (BitVec.ofInt (IntKind.bits .u8) b &&& ~~~BitVec.ofInt (IntKind.bits .u8) (192 : Int))) = b % 64) (by decide +kernel) h0 h1

theorem not_128 {b : Int} (h0 : 0 ≤ b) (h1 : b ≤ 255) : IntKind.wrap .u8 (BitVec.toNat (BitVec.ofInt (IntKind.bits .u8) b &&& ~~~BitVec.ofInt (IntKind.bits .u8) (128 : Int))) = b % 128 :=
  byte_all (P := fun b => IntKind.wrap .u8 (BitVec.toNat (BitVec.ofInt (IntKind.bits .u8) b &&& ~~~BitVec.ofInt (IntKind.bits .u8) (128 : Int))) = b % 128) (by decide +kernel) h0 h1

theorem not_224 {b : Int} (h0 : 0 ≤ b) (h1 : b ≤ 255) : IntKind.wrap .u8 (BitVec.toNat (BitVec.ofInt (IntKind.bits .u8) b &&& ~~~BitVec.ofInt (IntKind.bits .u8) (224 : Int))) = b % 32 :=
  byte_all (P := fun b => IntKind.wrap .u8 (BitVec.toNat (BitVec.ofInt (IntKind.bits .u8) b &&& ~~~BitVec.ofInt (IntKind.bits .u8) (224 : Int))) = b % 32) (by decide +kernel) h0 h1

theorem not_240 {b : Int} (h0 : 0 ≤ b) (h1 : b ≤ 255) : IntKind.wrap .u8 (BitVec.toNat (BitVec.ofInt (IntKind.bits .u8) b &&& ~~~BitVec.ofInt (IntKind.bits .u8) (240 : Int))) = b % 16 :=
  byte_all (P := fun b => IntKind.wrap .u8 (BitVec.toNat (BitVec.ofInt (IntKind.bits .u8) b &&& ~~~BitVec.ofInt (IntKind.bits .u8) (240 : Int))) = b % 16) (by decide +kernel) h0 h1

theorem not_248 {b : Int} (h0 : 0 ≤ b) (h1 : b ≤ 255) : IntKind.wrap .u8 (BitVec.toNat (BitVec.ofInt (IntKind.bits .u8) b &&& ~~~BitVec.ofInt (IntKind.bits .u8) (248 : Int))) = b % 8 :=
  byte_all (P := fun b => IntKind.wrap .u8 (BitVec.toNat (BitVec.ofInt (IntKind.bits .u8) b &&& ~~~BitVec.ofInt (IntKind.bits .u8) (248 : Int))) = b % 8) (by decide +kernel) h0 h1

theorem is_128 {b : Int} (h0 : 0 ≤ b) (h1 : b ≤ 255) : (IntKind.wrap .u8 (BitVec.toNat (BitVec.ofInt (IntKind.bits .u8) b &&& BitVec.ofInt (IntKind.bits .u8) (128 : Int))) == (0 : Int)) = decide (b < 128) :=
  byte_all (P := fun b => (IntKind.wrap .u8 (BitVec.toNat (BitVec.ofInt (IntKind.bits .u8) b &&& BitVec.ofInt (IntKind.bits .u8) (128 : Int))) == (0 : Int)) = decide (b < 128)) (by decide +kernel) h0 h1

theorem is_224 {b : Int} (h0 : 0 ≤ b) (h1 : b ≤ 255) : (IntKind.wrap .u8 (BitVec.toNat (BitVec.ofInt (IntKind.bits .u8) b &&& BitVec.ofInt (IntKind.bits .u8) (224 : Int))) == (192 : Int)) = decide (192 ≤ b ∧ b < 224) :=
  byte_all (P := fun b => (IntKind.wrap .u8 (BitVec.toNat (BitVec.ofInt (IntKind.bits .u8) b &&& BitVec.ofInt (IntKind.bits .u8) (224 : Int))) == (192 : Int)) = decide (192 ≤ b ∧ b < 224)) (by decide +kernel) h0 h1

theorem is_240 {b : Int} (h0 : 0 ≤ b) (h1 : b ≤ 255) : (IntKind.wrap .u8 (BitVec.toNat (BitVec.ofInt (IntKind.bits .u8) b &&& BitVec.ofInt (IntKind.bits .u8) (240 : Int))) == (224 : Int)) = decide (224 ≤ b ∧ b < 240) :=
  byte_all (P := fun b => (IntKind.wrap .u8 (BitVec.toNat (BitVec.ofInt (IntKind.bits .u8) b &&& BitVec.ofInt (IntKind.bits .u8) (240 : Int))) == (224 : Int)) = decide (224 ≤ b ∧ b < 240)) (by decide +kernel) h0 h1

theorem is_248 {b : Int} (h0 : 0 ≤ b) (h1 : b ≤ 255) : (IntKind.wrap .u8 (BitVec.toNat (BitVec.ofInt (IntKind.bits .u8) b &&& BitVec.ofInt (IntKind.bits .u8) (248 : Int))) == (240 : Int)) = decide (240 ≤ b ∧ b < 248) :=
  byte_all (P := fun b => (IntKind.wrap .u8 (BitVec.toNat (BitVec.ofInt (IntKind.bits .u8) b &&& BitVec.ofInt (IntKind.bits .u8) (248 : Int))) == (240 : Int)) = decide (240 ≤ b ∧ b < 248)) (by decide +kernel) h0 h1

theorem and_63 {b : Int} (h0 : 0 ≤ b) (h1 : b ≤ 255) : IntKind.wrap .i64 (BitVec.toNat (BitVec.ofInt (IntKind.bits .i64) b &&& BitVec.ofInt (IntKind.bits .i64) (63 : Int))) = b % 64 :=
  byte_all (P := fun b => IntKind.wrap .i64 (BitVec.toNat (BitVec.ofInt (IntKind.bits .i64) b &&& BitVec.ofInt (IntKind.bits .i64) (63 : Int))) = b % 64) (by decide +kernel) h0 h1

theorem and_31 {b : Int} (h0 : 0 ≤ b) (h1 : b ≤ 255) : IntKind.wrap .i64 (BitVec.toNat (BitVec.ofInt (IntKind.bits .i64) b &&& BitVec.ofInt (IntKind.bits .i64) (31 : Int))) = b % 32 :=
  byte_all (P := fun b => IntKind.wrap .i64 (BitVec.toNat (BitVec.ofInt (IntKind.bits .i64) b &&& BitVec.ofInt (IntKind.bits .i64) (31 : Int))) = b % 32) (by decide +kernel) h0 h1

theorem and_15 {b : Int} (h0 : 0 ≤ b) (h1 : b ≤ 255) : IntKind.wrap .i64 (BitVec.toNat (BitVec.ofInt (IntKind.bits .i64) b &&& BitVec.ofInt (IntKind.bits .i64) (15 : Int))) = b % 16 :=
  byte_all (P := fun b => IntKind.wrap .i64 (BitVec.toNat (BitVec.ofInt (IntKind.bits .i64) b &&& BitVec.ofInt (IntKind.bits .i64) (15 : Int))) = b % 16) (by decide +kernel) h0 h1

theorem and_7 {b : Int} (h0 : 0 ≤ b) (h1 : b ≤ 255) : IntKind.wrap .i64 (BitVec.toNat (BitVec.ofInt (IntKind.bits .i64) b &&& BitVec.ofInt (IntKind.bits .i64) (7 : Int))) = b % 8 :=
  byte_all (P := fun b => IntKind.wrap .i64 (BitVec.toNat (BitVec.ofInt (IntKind.bits .i64) b &&& BitVec.ofInt (IntKind.bits .i64) (7 : Int))) = b % 8) (by decide +kernel) h0 h1

theorem div_64 {b : Int} (h0 : 0 ≤ b) (h1 : b ≤ 255) : (Int.fdiv b 64 != 2) = !decide (cont b) :=
  byte_all (P := fun b => (Int.fdiv b 64 != 2) = !decide (cont b)) (by decide +kernel) h0 h1

theorem or_lo {r x : Nat} (hx : x < 64) : (r * 64) ||| x = r * 64 + x := by
  have := Nat.two_pow_add_eq_or_of_lt (i := 6) hx r
  rw [Nat.mul_comm] at this
  exact this.symm

theorem w32 {n : Int} (h1 : -2147483648 ≤ n) (h2 : n < 2147483648) : IntKind.wrap .i32 n = n := by
  simp only [IntKind.wrap, IntKind.bits, IntKind.signed]
  simp
  omega

theorem or_32 {r x : Int} (h0 : 0 ≤ r) (h1 : r < 1048576) (h2 : 0 ≤ x) (h3 : x < 64) : IntKind.wrap .i32 (BitVec.toNat (BitVec.ofInt (IntKind.bits .i32) (IntKind.wrap .i32 (r * (64 : Int))) ||| BitVec.ofInt (IntKind.bits .i32) (IntKind.wrap .i32 x))) = r * 64 + x := by
  rw [w32 (n := r * 64) (by omega) (by omega), w32 (n := x) (by omega) (by omega)]
  obtain ⟨a, rfl⟩ : ∃ a : Nat, r = a := ⟨r.toNat, by omega⟩
  obtain ⟨b, rfl⟩ : ∃ b : Nat, x = b := ⟨x.toNat, by omega⟩
  have e1 : (BitVec.ofInt (IntKind.bits .i32) ((a : Int) * 64) ||| BitVec.ofInt (IntKind.bits .i32) (b : Int)).toNat = a * 64 + b := by
    rw [BitVec.toNat_or, BitVec.toNat_ofInt, BitVec.toNat_ofInt]
    have h4 : ((a : Int) * 64 % ((2 ^ IntKind.bits .i32 : Nat) : Int)).toNat = a * 64 := by
      have : IntKind.bits .i32 = 32 := rfl
      rw [this]; omega
    have h5 : ((b : Int) % ((2 ^ IntKind.bits .i32 : Nat) : Int)).toNat = b := by
      have : IntKind.bits .i32 = 32 := rfl
      rw [this]; omega
    rw [h4, h5, or_lo (by omega)]
  rw [e1, w32 (by omega) (by omega)]
  omega

theorem or_64 {r x : Int} (h0 : 0 ≤ r) (h1 : r < 1048576) (h2 : 0 ≤ x) (h3 : x < 64) : IntKind.wrap .i64 (BitVec.toNat (BitVec.ofInt (IntKind.bits .i64) (IntKind.wrap .i64 (r * (64 : Int))) ||| BitVec.ofInt (IntKind.bits .i64) x)) = r * 64 + x := by
  rw [w64 (n := r * 64) (by omega) (by omega)]
  obtain ⟨a, rfl⟩ : ∃ a : Nat, r = a := ⟨r.toNat, by omega⟩
  obtain ⟨b, rfl⟩ : ∃ b : Nat, x = b := ⟨x.toNat, by omega⟩
  have e1 : (BitVec.ofInt (IntKind.bits .i64) ((a : Int) * 64) ||| BitVec.ofInt (IntKind.bits .i64) (b : Int)).toNat = a * 64 + b := by
    rw [BitVec.toNat_or, BitVec.toNat_ofInt, BitVec.toNat_ofInt]
    have h4 : ((a : Int) * 64 % ((2 ^ IntKind.bits .i64 : Nat) : Int)).toNat = a * 64 := by
      have : IntKind.bits .i64 = 64 := rfl
      rw [this]; omega
    have h5 : ((b : Int) % ((2 ^ IntKind.bits .i64 : Nat) : Int)).toNat = b := by
      have : IntKind.bits .i64 = 64 := rfl
      rw [this]; omega
    rw [h4, h5, or_lo (by omega)]
  rw [e1, w64 (by omega) (by omega)]
  omega

/-- How many bytes a code point has that begins with these, of so many; 0: there is none. -/
def uszB (n c d e f : Int) : Int :=
  if c < 128 then 1
  else if 192 ≤ c ∧ c < 224 then (if 2 ≤ n ∧ cont d ∧ 128 ≤ c % 32 * 64 + d % 64 then 2 else 0)
  else if 224 ≤ c ∧ c < 240 then (if 3 ≤ n ∧ cont d ∧ cont e ∧ 2048 ≤ (c % 16 * 64 + d % 64) * 64 + e % 64 ∧ ¬ (55296 ≤ (c % 16 * 64 + d % 64) * 64 + e % 64 ∧ (c % 16 * 64 + d % 64) * 64 + e % 64 < 57344) then 3 else 0)
  else if 240 ≤ c ∧ c < 248 then (if 4 ≤ n ∧ cont d ∧ cont e ∧ cont f ∧ 65536 ≤ ((c % 8 * 64 + d % 64) * 64 + e % 64) * 64 + f % 64 ∧ ((c % 8 * 64 + d % 64) * 64 + e % 64) * 64 + f % 64 ≤ 1114111 then 4 else 0)
  else 0

theorem long_end {K : Nat} {s : ByteArray} {a : Int} {n r i : Int} {k : Nat} (h : ¬ i < n) : utf_long.l0 K n a s (k + 1) r i = some (.inr r) := by
  rw [utf_long.l0, if_neg (by simpa using h)]

theorem long_bad {K : Nat} {s : ByteArray} {a : Int} (h0 : 0 ≤ a) (hs : (s.size : Int) ≤ 1000000000000) {n r i : Int} {k : Nat} (h : i < n) (hi : 0 ≤ i) (hr : a + i < s.size) (hc : ¬ cont (bt s (a + i))) : utf_long.l0 K n a s (k + 1) r i = some (.inl (0, 0)) := by
  rw [utf_long.l0, w64 (n := a + i) (by omega) (by omega), if_pos (by simpa using h), if_pos ⟨by omega, by omega⟩, and_192 bt_ok.1 bt_ok.2, if_pos (by simpa using hc)]

theorem long_go {K : Nat} {s : ByteArray} {a : Int} (h0 : 0 ≤ a) (hs : (s.size : Int) ≤ 1000000000000) {n r i : Int} {k : Nat} (h : i < n) (hi : 0 ≤ i) (hr : a + i < s.size) (hc : cont (bt s (a + i))) (r0 : 0 ≤ r) (r1 : r < 1048576) : utf_long.l0 K n a s (k + 1) r i = utf_long.l0 K n a s k (r * 64 + bt s (a + i) % 64) (i + 1) := by
  have hb := bt_ok (s := s) (i := a + i)
  rw [utf_long.l0, w64 (n := a + i) (by omega) (by omega), if_pos (by simpa using h), if_pos ⟨by omega, by omega⟩, and_192 hb.1 hb.2, if_neg (by simpa using hc), not_192 hb.1 hb.2, or_32 r0 r1 (by omega) (by omega), w64 (n := i + 1) (by omega) (by omega)]

theorem size1_bad {K : Nat} {s : ByteArray} {a : Int} (h0 : 0 ≤ a) (hs : (s.size : Int) ≤ 1000000000000) {n r i : Int} {k : Nat} (h : i < n) (hi : 0 ≤ i) (hr : a + i < s.size) (hc : ¬ cont (bt s (a + i))) : palinoderef1_Size.l0 K n a s (k + 1) r i = some (.inl 0) := by
  have hb := bt_ok (s := s) (i := a + i)
  rw [palinoderef1_Size.l0, w64 (n := a + i) (by omega) (by omega), if_pos (by simpa using h), if_pos ⟨by omega, by omega⟩, w64 (n := bt s (a + i)) (by omega) (by omega), div_64 hb.1 hb.2, if_pos (by simpa using hc)]

theorem size1_end {K : Nat} {s : ByteArray} {a : Int} {n r i : Int} {k : Nat} (h : ¬ i < n) : palinoderef1_Size.l0 K n a s (k + 1) r i = some (.inr r) := by
  rw [palinoderef1_Size.l0, if_neg (by simpa using h)]

theorem size1_go {K : Nat} {s : ByteArray} {a : Int} (h0 : 0 ≤ a) (hs : (s.size : Int) ≤ 1000000000000) {n r i : Int} {k : Nat} (h : i < n) (hi : 0 ≤ i) (hr : a + i < s.size) (hc : cont (bt s (a + i))) (r0 : 0 ≤ r) (r1 : r < 1048576) : palinoderef1_Size.l0 K n a s (k + 1) r i = palinoderef1_Size.l0 K n a s k (r * 64 + bt s (a + i) % 64) (i + 1) := by
  have hb := bt_ok (s := s) (i := a + i)
  rw [palinoderef1_Size.l0, w64 (n := a + i) (by omega) (by omega), if_pos (by simpa using h), if_pos ⟨by omega, by omega⟩, w64 (n := bt s (a + i)) (by omega) (by omega), div_64 hb.1 hb.2, if_neg (by simpa using hc), and_63 hb.1 hb.2, or_64 r0 r1 (by omega) (by omega), w64 (n := i + 1) (by omega) (by omega)]

/-- How many bytes the code point has that begins at a place. -/
def usz (s : ByteArray) (a : Int) : Int := if a < 0 ∨ a ≥ s.size then 0 else uszB (s.size - a) (bt s a) (bt s (a + 1)) (bt s (a + 2)) (bt s (a + 3))

theorem uszB_ok {n c d e f : Int} (hn : 1 ≤ n) : 0 ≤ uszB n c d e f ∧ uszB n c d e f ≤ 4 ∧ uszB n c d e f ≤ n := by
  unfold uszB
  split
  · omega
  · split
    · split <;> omega
    · split
      · split <;> omega
      · split
        · split <;> omega
        · omega

theorem usz_ok {s : ByteArray} {a : Int} : 0 ≤ usz s a ∧ usz s a ≤ 4 ∧ (0 ≤ a → a < s.size → a + usz s a ≤ s.size) := by
  unfold usz
  split
  · rename_i h; exact ⟨by omega, by omega, fun h1 h2 => by omega⟩
  · have := uszB_ok (n := s.size - a) (c := bt s a) (d := bt s (a + 1)) (e := bt s (a + 2)) (f := bt s (a + 3)) (by omega)
    exact ⟨by omega, by omega, fun h1 h2 => by omega⟩

theorem point_is {K : Nat} {r : Int} (h0 : 0 ≤ r) : utf_isPoint K r = some (decide (r ≤ 1114111 ∧ ¬ (55296 ≤ r ∧ r < 57344))) := by
  unfold utf_isPoint
  rw [if_pos (by simpa using h0)]
  by_cases h1 : r ≤ 1114111
  · rw [if_pos (by simpa using h1)]
    by_cases h2 : r < 55296
    · rw [if_pos (by simpa using h2)]
      congr 1; symm; simp; omega
    · rw [if_neg (by simpa using h2)]
      congr 1
      by_cases h3 : r > 57343
      · simp [h3]; omega
      · simp [h3]; omega
  · rw [if_neg (by simpa using h1)]
    congr 1; symm; simp; omega

/-- What is read: the code point, and its bytes. -/
def tell (n v least : Int) : Int × Int := if least ≤ v ∧ v ≤ 1114111 ∧ ¬ (55296 ≤ v ∧ v < 57344) then (v, n) else (0, 0)

theorem long_tell {K : Nat} {n v least : Int} (h0 : 0 ≤ v) : ((if decide (v < least) = true then some true else (utf_isPoint K v).bind fun r_28 => some (!r_28)).bind fun z_39 => if z_39 = true then some ((0 : Int), (0 : Int)) else some (v, n)) = some (tell n v least) := by
  unfold tell
  rw [point_is h0]
  by_cases h1 : v < least
  · rw [if_pos (by simpa using h1), Option.bind_some, if_pos rfl, if_neg (by omega)]
  · rw [if_neg (by simpa using h1), Option.bind_some, Option.bind_some]
    by_cases h2 : v ≤ 1114111 ∧ ¬ (55296 ≤ v ∧ v < 57344)
    · rw [if_neg (by simp; omega), if_pos (by omega)]
    · rw [if_pos (by simp; omega), if_neg (by omega)]

theorem long1_is {K : Nat} {s : ByteArray} {a : Int} (hK : 10 ≤ K) (h0 : 0 ≤ a) (hs : (s.size : Int) ≤ 1000000000000) (ha : a < s.size) (hc : bt s a < 128) : utf_long K s a 1 128 0 0 = some (bt s a, 1) := by
  obtain ⟨k, rfl⟩ : ∃ k, K = k + 5 := ⟨K - 5, by omega⟩
  have hb := bt_ok (s := s) (i := a)
  unfold utf_long
  rw [w64 (by omega) (by omega), if_neg (by simp; omega), if_pos ⟨h0, ha⟩, not_128 hb.1 hb.2, w32 (by omega) (by omega), long_end (by omega), Option.bind_some]
  simp only [Sum.elim_inr]
  rw [long_tell (by omega)]
  unfold tell
  rw [if_pos (by omega)]
  congr 2
  omega

theorem long2_is {K : Nat} {s : ByteArray} {a : Int} (hK : 10 ≤ K) (h0 : 0 ≤ a) (hs : (s.size : Int) ≤ 1000000000000) (ha : a < s.size) : utf_long K s a 2 224 192 128 =
    some (if 2 ≤ (s.size : Int) - a ∧ cont (bt s (a + 1)) then tell 2 (bt s a % 32 * 64 + bt s (a + 1) % 64) 128 else (0, 0)) := by
  obtain ⟨k, rfl⟩ : ∃ k, K = k + 5 := ⟨K - 5, by omega⟩
  have hb := bt_ok (s := s) (i := a)
  have hb1 := bt_ok (s := s) (i := a + 1)
  unfold utf_long
  rw [w64 (by omega) (by omega)]
  by_cases hn : (s.size : Int) - a < 2
  · rw [if_pos (by simpa using hn), if_neg (by omega)]
  · rw [if_neg (by simpa using hn), if_pos ⟨h0, ha⟩, not_224 hb.1 hb.2, w32 (by omega) (by omega)]
    by_cases c1 : cont (bt s (a + 1))
    · rw [long_go h0 hs (by omega) (by omega) (by omega) c1 (by omega) (by omega), long_end (by omega), Option.bind_some]
      simp only [Sum.elim_inr]
      rw [long_tell (by omega), if_pos ⟨by omega, c1⟩]
    · rw [long_bad h0 hs (by omega) (by omega) (by omega) c1, Option.bind_some, if_neg (fun h => c1 h.2)]
      rfl

theorem long3_is {K : Nat} {s : ByteArray} {a : Int} (hK : 10 ≤ K) (h0 : 0 ≤ a) (hs : (s.size : Int) ≤ 1000000000000) (ha : a < s.size) : utf_long K s a 3 240 224 2048 =
    some (if 3 ≤ (s.size : Int) - a ∧ cont (bt s (a + 1)) ∧ cont (bt s (a + 2)) then tell 3 ((bt s a % 16 * 64 + bt s (a + 1) % 64) * 64 + bt s (a + 2) % 64) 2048 else (0, 0)) := by
  obtain ⟨k, rfl⟩ : ∃ k, K = k + 5 := ⟨K - 5, by omega⟩
  have hb := bt_ok (s := s) (i := a)
  have hb1 := bt_ok (s := s) (i := a + 1)
  have hb2 := bt_ok (s := s) (i := a + 2)
  unfold utf_long
  rw [w64 (by omega) (by omega)]
  by_cases hn : (s.size : Int) - a < 3
  · rw [if_pos (by simpa using hn), if_neg (by omega)]
  · rw [if_neg (by simpa using hn), if_pos ⟨h0, ha⟩, not_240 hb.1 hb.2, w32 (by omega) (by omega)]
    by_cases c1 : cont (bt s (a + 1))
    · rw [long_go h0 hs (by omega) (by omega) (by omega) c1 (by omega) (by omega)]
      by_cases c2 : cont (bt s (a + 2))
      · rw [show (1 : Int) + 1 = 2 from rfl, long_go h0 hs (by omega) (by omega) (by omega) c2 (by omega) (by omega), long_end (by omega), Option.bind_some]
        simp only [Sum.elim_inr]
        rw [long_tell (by omega), if_pos ⟨by omega, c1, c2⟩]
      · rw [show (1 : Int) + 1 = 2 from rfl, long_bad h0 hs (by omega) (by omega) (by omega) c2, Option.bind_some, if_neg (fun h => c2 h.2.2)]
        rfl
    · rw [long_bad h0 hs (by omega) (by omega) (by omega) c1, Option.bind_some, if_neg (fun h => c1 h.2.1)]
      rfl

theorem long4_go {K k : Nat} {s : ByteArray} {a : Int} (h0 : 0 ≤ a) (hs : (s.size : Int) ≤ 1000000000000) (hn : ¬ (s.size : Int) - a < 4) : utf_long.l0 K 4 a s (k + 4) (bt s a % 8) 1 =
    some (if cont (bt s (a + 1)) ∧ cont (bt s (a + 2)) ∧ cont (bt s (a + 3)) then .inr (((bt s a % 8 * 64 + bt s (a + 1) % 64) * 64 + bt s (a + 2) % 64) * 64 + bt s (a + 3) % 64) else .inl (0, 0)) := by
  have hb := bt_ok (s := s) (i := a)
  have hb1 := bt_ok (s := s) (i := a + 1)
  have hb2 := bt_ok (s := s) (i := a + 2)
  have hb3 := bt_ok (s := s) (i := a + 3)
  have r1 : 0 ≤ bt s a % 8 ∧ bt s a % 8 < 8 := by omega
  have r2 : 0 ≤ bt s (a + 1) % 64 ∧ bt s (a + 1) % 64 < 64 := by omega
  have r3 : 0 ≤ bt s (a + 2) % 64 ∧ bt s (a + 2) % 64 < 64 := by omega
  by_cases c1 : cont (bt s (a + 1))
  · have g1 := long_go (K := K) h0 hs (n := 4) (r := bt s a % 8) (i := 1) (k := k + 3) (by omega) (by omega) (by omega) c1 (by omega) (by omega)
    rw [g1, show (1 : Int) + 1 = 2 from rfl]
    by_cases c2 : cont (bt s (a + 2))
    · have g2 := long_go (K := K) h0 hs (n := 4) (r := bt s a % 8 * 64 + bt s (a + 1) % 64) (i := 2) (k := k + 2) (by omega) (by omega) (by omega) c2 (by omega) (by omega)
      rw [g2, show (2 : Int) + 1 = 3 from rfl]
      by_cases c3 : cont (bt s (a + 3))
      · have g3 := long_go (K := K) h0 hs (n := 4) (r := (bt s a % 8 * 64 + bt s (a + 1) % 64) * 64 + bt s (a + 2) % 64) (i := 3) (k := k + 1) (by omega) (by omega) (by omega) c3 (by omega) (by omega)
        rw [g3, long_end (by omega), if_pos ⟨c1, c2, c3⟩]
      · have g3 := long_bad (K := K) h0 hs (n := 4) (r := (bt s a % 8 * 64 + bt s (a + 1) % 64) * 64 + bt s (a + 2) % 64) (i := 3) (k := k + 1) (by omega) (by omega) (by omega) c3
        rw [g3, if_neg (fun h => c3 h.2.2)]
    · have g2 := long_bad (K := K) h0 hs (n := 4) (r := bt s a % 8 * 64 + bt s (a + 1) % 64) (i := 2) (k := k + 2) (by omega) (by omega) (by omega) c2
      rw [g2, if_neg (fun h => c2 h.2.1)]
  · have g1 := long_bad (K := K) h0 hs (n := 4) (r := bt s a % 8) (i := 1) (k := k + 3) (by omega) (by omega) (by omega) c1
    rw [g1, if_neg (fun h => c1 h.1)]

theorem long4_is {K : Nat} {s : ByteArray} {a least : Int} (hK : 10 ≤ K) (h0 : 0 ≤ a) (hs : (s.size : Int) ≤ 1000000000000) (ha : a < s.size) : utf_long K s a 4 248 240 least =
    some (if 4 ≤ (s.size : Int) - a ∧ cont (bt s (a + 1)) ∧ cont (bt s (a + 2)) ∧ cont (bt s (a + 3)) then tell 4 (((bt s a % 8 * 64 + bt s (a + 1) % 64) * 64 + bt s (a + 2) % 64) * 64 + bt s (a + 3) % 64) least else (0, 0)) := by
  obtain ⟨k, rfl⟩ : ∃ k, K = k + 4 := ⟨K - 4, by omega⟩
  have hb := bt_ok (s := s) (i := a)
  have r0 : 0 ≤ bt s a % 8 ∧ bt s a % 8 < 8 := by omega
  have r1 : 0 ≤ bt s (a + 1) % 64 := by omega
  have r2 : 0 ≤ bt s (a + 2) % 64 := by omega
  have r3 : 0 ≤ bt s (a + 3) % 64 := by omega
  unfold utf_long
  rw [w64 (n := (s.size : Int) - a) (by omega) (by omega)]
  by_cases hn : (s.size : Int) - a < 4
  · rw [if_pos (by simpa using hn), if_neg (by omega)]
  · rw [if_neg (by simpa using hn), if_pos ⟨h0, ha⟩, not_248 hb.1 hb.2, w32 (n := bt s a % 8) (by omega) (by omega), long4_go h0 hs hn]
    by_cases c : cont (bt s (a + 1)) ∧ cont (bt s (a + 2)) ∧ cont (bt s (a + 3))
    · rw [if_pos c, Option.bind_some, if_pos ⟨by omega, c⟩]
      simp only [Sum.elim_inr]
      generalize bt s a % 8 = x0 at *
      generalize bt s (a + 1) % 64 = x1 at *
      generalize bt s (a + 2) % 64 = x2 at *
      generalize bt s (a + 3) % 64 = x3 at *
      rw [long_tell (by omega)]
    · rw [if_neg c, Option.bind_some, if_neg (fun h => c h.2)]
      simp only [Sum.elim_inl]

/-- The code point at a place, and its bytes. -/
def upt (s : ByteArray) (a : Int) : Int × Int :=
  if a < 0 ∨ a ≥ s.size then (0, 0)
  else if bt s a < 128 then (bt s a, 1)
  else if 192 ≤ bt s a ∧ bt s a < 224 then (if 2 ≤ (s.size : Int) - a ∧ cont (bt s (a + 1)) then tell 2 (bt s a % 32 * 64 + bt s (a + 1) % 64) 128 else (0, 0))
  else if 224 ≤ bt s a ∧ bt s a < 240 then (if 3 ≤ (s.size : Int) - a ∧ cont (bt s (a + 1)) ∧ cont (bt s (a + 2)) then tell 3 ((bt s a % 16 * 64 + bt s (a + 1) % 64) * 64 + bt s (a + 2) % 64) 2048 else (0, 0))
  else if 240 ≤ bt s a ∧ bt s a < 248 then (if 4 ≤ (s.size : Int) - a ∧ cont (bt s (a + 1)) ∧ cont (bt s (a + 2)) ∧ cont (bt s (a + 3)) then tell 4 (((bt s a % 8 * 64 + bt s (a + 1) % 64) * 64 + bt s (a + 2) % 64) * 64 + bt s (a + 3) % 64) 65536 else (0, 0))
  else (0, 0)

theorem tell_snd {n v least : Int} : (tell n v least).2 = if least ≤ v ∧ v ≤ 1114111 ∧ ¬ (55296 ≤ v ∧ v < 57344) then n else 0 := by
  unfold tell; split <;> rfl

theorem upt_snd {s : ByteArray} {a : Int} : (upt s a).2 = usz s a := by
  unfold upt usz uszB
  have hb := bt_ok (s := s) (i := a)
  have hb1 := bt_ok (s := s) (i := a + 1)
  have hb2 := bt_ok (s := s) (i := a + 2)
  have hb3 := bt_ok (s := s) (i := a + 3)
  by_cases h : a < 0 ∨ a ≥ s.size
  · rw [if_pos h, if_pos h]
  · rw [if_neg h, if_neg h]
    by_cases h1 : bt s a < 128
    · rw [if_pos h1, if_pos h1]
    · rw [if_neg h1, if_neg h1]
      by_cases h2 : 192 ≤ bt s a ∧ bt s a < 224
      · rw [if_pos h2, if_pos h2]
        by_cases c : 2 ≤ (s.size : Int) - a ∧ cont (bt s (a + 1))
        · rw [if_pos c, tell_snd]
          congr 1
          apply propext
          constructor
          · intro h; exact ⟨c.1, c.2, h.1⟩
          · intro h; exact ⟨h.2.2, by omega, by omega⟩
        · rw [if_neg c, if_neg (fun h => c ⟨h.1, h.2.1⟩)]
      · rw [if_neg h2, if_neg h2]
        by_cases h3 : 224 ≤ bt s a ∧ bt s a < 240
        · rw [if_pos h3, if_pos h3]
          by_cases c : 3 ≤ (s.size : Int) - a ∧ cont (bt s (a + 1)) ∧ cont (bt s (a + 2))
          · rw [if_pos c, tell_snd]
            congr 1
            apply propext
            constructor
            · intro h; exact ⟨c.1, c.2.1, c.2.2, h.1, h.2.2⟩
            · intro h; exact ⟨h.2.2.2.1, by omega, h.2.2.2.2⟩
          · rw [if_neg c, if_neg (fun h => c ⟨h.1, h.2.1, h.2.2.1⟩)]
        · rw [if_neg h3, if_neg h3]
          by_cases h4 : 240 ≤ bt s a ∧ bt s a < 248
          · rw [if_pos h4, if_pos h4]
            by_cases c : 4 ≤ (s.size : Int) - a ∧ cont (bt s (a + 1)) ∧ cont (bt s (a + 2)) ∧ cont (bt s (a + 3))
            · rw [if_pos c, tell_snd]
              congr 1
              apply propext
              constructor
              · intro h; exact ⟨c.1, c.2.1, c.2.2.1, c.2.2.2, h.1, h.2.1⟩
              · intro h; exact ⟨h.2.2.2.2.1, h.2.2.2.2.2, by omega⟩
            · rw [if_neg c, if_neg (fun h => c ⟨h.1, h.2.1, h.2.2.1, h.2.2.2.1⟩)]
          · rw [if_neg h4, if_neg h4]

theorem upt_is {K : Nat} {s : ByteArray} {a : Int} (hK : 10 ≤ K) (hs : (s.size : Int) ≤ 1000000000000) : utf_point K s a = some (upt s a) := by
  obtain ⟨k, hk⟩ : ∃ k, K = k + 5 := ⟨K - 5, by omega⟩
  have hb := bt_ok (s := s) (i := a)
  unfold utf_point upt
  by_cases h : a < 0 ∨ a ≥ s.size
  · have : (if decide (a < 0) = true then some true else some (decide (a ≥ ((s.size : Nat) : Int)))) = some true := by
      by_cases h1 : a < 0
      · rw [if_pos (by simpa using h1)]
      · rw [if_neg (by simpa using h1)]; simp; omega
    rw [this, Option.bind_some, if_pos rfl, if_pos h]
  · have : (if decide (a < 0) = true then some true else some (decide (a ≥ ((s.size : Nat) : Int)))) = some false := by
      rw [if_neg (by simp; omega)]; simp; omega
    rw [this, Option.bind_some, if_neg (by simp), if_neg h]
    unfold utf_forms
    rw [Option.bind_some]
    have hin : 0 ≤ a ∧ a < ((s.size : Nat) : Int) := ⟨by omega, by omega⟩
    have hw0 : IntKind.wrap .i64 ((0 : Int) + 1) = 1 := by decide
    have hw1 : IntKind.wrap .i64 ((1 : Int) + 1) = 2 := by decide
    have hw2 : IntKind.wrap .i64 ((2 : Int) + 1) = 3 := by decide
    have hw3 : IntKind.wrap .i64 ((3 : Int) + 1) = 4 := by decide
    rw [hk]
    simp only [utf_point.l0, if_pos hin, hw0, hw1, hw2, hw3]
    simp only [show ((0 : Int)).toNat = 0 from rfl, show ((1 : Int)).toNat = 1 from rfl, show ((2 : Int)).toNat = 2 from rfl, show ((3 : Int)).toNat = 3 from rfl, List.getD_cons_zero, List.getD_cons_succ, is_128 hb.1 hb.2, is_224 hb.1 hb.2, is_240 hb.1 hb.2, is_248 hb.1 hb.2]
    rw [← hk]
    simp only [decide_eq_true_eq]
    by_cases h1 : bt s a < 128
    · rw [if_pos (by omega), if_pos (by omega), if_pos h1, if_pos h1, long1_is hK (by omega) hs (by omega) h1]; rfl
    · rw [if_pos (by omega), if_pos (by omega), if_neg h1, if_neg h1, if_pos (by omega), if_pos (by omega)]
      by_cases h2 : 192 ≤ bt s a ∧ bt s a < 224
      · rw [if_pos h2, if_pos h2, long2_is hK (by omega) hs (by omega)]; rfl
      · rw [if_neg h2, if_neg h2, if_pos (by omega), if_pos (by omega)]
        by_cases h3 : 224 ≤ bt s a ∧ bt s a < 240
        · rw [if_pos h3, if_pos h3, long3_is hK (by omega) hs (by omega)]; rfl
        · rw [if_neg h3, if_neg h3, if_pos (by omega), if_pos (by omega)]
          by_cases h4 : 240 ≤ bt s a ∧ bt s a < 248
          · rw [if_pos h4, if_pos h4, long4_is hK (by omega) hs (by omega)]; rfl
          · rw [if_neg h4, if_neg h4, if_neg (by omega)]

theorem usize_is {K : Nat} {s : ByteArray} {a : Int} (hK : 10 ≤ K) (hs : (s.size : Int) ≤ 1000000000000) : utf_Size K s a = some (usz s a) := by
  unfold utf_Size
  rw [upt_is hK hs, Option.bind_some, upt_snd]

theorem size1_tell {n v least : Int} : ((if decide (v < least) = true then some true else if decide (v > 1114111) = true then some true else if decide (v ≥ 55296) = true then some (decide (v < 57344)) else some false).bind fun z_76 => if z_76 = true then some (0 : Int) else some n) = some (tell n v least).2 := by
  rw [tell_snd]
  by_cases h1 : v < least
  · rw [if_pos (by simpa using h1), Option.bind_some, if_pos rfl, if_neg (by omega)]
  · rw [if_neg (by simpa using h1)]
    by_cases h2 : v > 1114111
    · rw [if_pos (by simpa using h2), Option.bind_some, if_pos rfl, if_neg (by omega)]
    · rw [if_neg (by simpa using h2)]
      by_cases h3 : v ≥ 55296
      · rw [if_pos (by simpa using h3), Option.bind_some]
        by_cases h4 : v < 57344
        · rw [if_pos (by simpa using h4), if_neg (by omega)]
        · rw [if_neg (by simpa using h4), if_pos (by omega)]
      · rw [if_neg (by simpa using h3), Option.bind_some, if_neg (by simp), if_pos (by omega)]

theorem s2_go {K k : Nat} {s : ByteArray} {a r : Int} (h0 : 0 ≤ a) (hs : (s.size : Int) ≤ 1000000000000) (hn : ¬ (s.size : Int) - a < 2) (hr : 0 ≤ r ∧ r < 64) : palinoderef1_Size.l0 K 2 a s (k + 4) r 1 =
    some (if cont (bt s (a + 1)) then .inr (r * 64 + bt s (a + 1) % 64) else .inl 0) := by
  by_cases c1 : cont (bt s (a + 1))
  · have g1 := size1_go (K := K) h0 hs (n := 2) (r := r) (i := 1) (k := k + 3) (by omega) (by omega) (by omega) c1 (by omega) (by omega)
    rw [g1, size1_end (by omega), if_pos c1]
  · have g1 := size1_bad (K := K) h0 hs (n := 2) (r := r) (i := 1) (k := k + 3) (by omega) (by omega) (by omega) c1
    rw [g1, if_neg c1]

theorem s3_go {K k : Nat} {s : ByteArray} {a r : Int} (h0 : 0 ≤ a) (hs : (s.size : Int) ≤ 1000000000000) (hn : ¬ (s.size : Int) - a < 3) (hr : 0 ≤ r ∧ r < 64) : palinoderef1_Size.l0 K 3 a s (k + 4) r 1 =
    some (if cont (bt s (a + 1)) ∧ cont (bt s (a + 2)) then .inr ((r * 64 + bt s (a + 1) % 64) * 64 + bt s (a + 2) % 64) else .inl 0) := by
  have r2 : 0 ≤ bt s (a + 1) % 64 ∧ bt s (a + 1) % 64 < 64 := by omega
  by_cases c1 : cont (bt s (a + 1))
  · have g1 := size1_go (K := K) h0 hs (n := 3) (r := r) (i := 1) (k := k + 3) (by omega) (by omega) (by omega) c1 (by omega) (by omega)
    rw [g1, show (1 : Int) + 1 = 2 from rfl]
    by_cases c2 : cont (bt s (a + 2))
    · have g2 := size1_go (K := K) h0 hs (n := 3) (r := r * 64 + bt s (a + 1) % 64) (i := 2) (k := k + 2) (by omega) (by omega) (by omega) c2 (by omega) (by omega)
      rw [g2, size1_end (by omega), if_pos ⟨c1, c2⟩]
    · have g2 := size1_bad (K := K) h0 hs (n := 3) (r := r * 64 + bt s (a + 1) % 64) (i := 2) (k := k + 2) (by omega) (by omega) (by omega) c2
      rw [g2, if_neg (fun h => c2 h.2)]
  · have g1 := size1_bad (K := K) h0 hs (n := 3) (r := r) (i := 1) (k := k + 3) (by omega) (by omega) (by omega) c1
    rw [g1, if_neg (fun h => c1 h.1)]

theorem s4_go {K k : Nat} {s : ByteArray} {a r : Int} (h0 : 0 ≤ a) (hs : (s.size : Int) ≤ 1000000000000) (hn : ¬ (s.size : Int) - a < 4) (hr : 0 ≤ r ∧ r < 64) : palinoderef1_Size.l0 K 4 a s (k + 4) r 1 =
    some (if cont (bt s (a + 1)) ∧ cont (bt s (a + 2)) ∧ cont (bt s (a + 3)) then .inr (((r * 64 + bt s (a + 1) % 64) * 64 + bt s (a + 2) % 64) * 64 + bt s (a + 3) % 64) else .inl 0) := by
  have r2 : 0 ≤ bt s (a + 1) % 64 ∧ bt s (a + 1) % 64 < 64 := by omega
  have r3 : 0 ≤ bt s (a + 2) % 64 ∧ bt s (a + 2) % 64 < 64 := by omega
  by_cases c1 : cont (bt s (a + 1))
  · have g1 := size1_go (K := K) h0 hs (n := 4) (r := r) (i := 1) (k := k + 3) (by omega) (by omega) (by omega) c1 (by omega) (by omega)
    rw [g1, show (1 : Int) + 1 = 2 from rfl]
    by_cases c2 : cont (bt s (a + 2))
    · have g2 := size1_go (K := K) h0 hs (n := 4) (r := r * 64 + bt s (a + 1) % 64) (i := 2) (k := k + 2) (by omega) (by omega) (by omega) c2 (by omega) (by omega)
      rw [g2, show (2 : Int) + 1 = 3 from rfl]
      by_cases c3 : cont (bt s (a + 3))
      · have g3 := size1_go (K := K) h0 hs (n := 4) (r := (r * 64 + bt s (a + 1) % 64) * 64 + bt s (a + 2) % 64) (i := 3) (k := k + 1) (by omega) (by omega) (by omega) c3 (by omega) (by omega)
        rw [g3, size1_end (by omega), if_pos ⟨c1, c2, c3⟩]
      · have g3 := size1_bad (K := K) h0 hs (n := 4) (r := (r * 64 + bt s (a + 1) % 64) * 64 + bt s (a + 2) % 64) (i := 3) (k := k + 1) (by omega) (by omega) (by omega) c3
        rw [g3, if_neg (fun h => c3 h.2.2)]
    · have g2 := size1_bad (K := K) h0 hs (n := 4) (r := r * 64 + bt s (a + 1) % 64) (i := 2) (k := k + 2) (by omega) (by omega) (by omega) c2
      rw [g2, if_neg (fun h => c2 h.2.1)]
  · have g1 := size1_bad (K := K) h0 hs (n := 4) (r := r) (i := 1) (k := k + 3) (by omega) (by omega) (by omega) c1
    rw [g1, if_neg (fun h => c1 h.1)]

/-- A code point of more than one byte, read. -/
theorem size1_many {n r least : Int} {K : Nat} {s : ByteArray} {a : Int} {C : Prop} [Decidable C] {v : Int} (hw : IntKind.wrap .i64 ((s.size : Int) - a) = (s.size : Int) - a) (hg : ¬ (s.size : Int) - a < n → palinoderef1_Size.l0 K n a s K r 1 = some (if C then .inr v else .inl 0)) :
    (if decide (IntKind.wrap .i64 ((((ByteArray.size s) : Nat) : Int) - a) < n) = true then some (0 : Int) else (palinoderef1_Size.l0 K n a s K r 1).bind (Sum.elim (fun z_74 => some z_74) (fun z_75 => (if (decide (z_75 < least)) = true then some true else if (decide (z_75 > (1114111 : Int))) = true then some true else if (decide (z_75 ≥ (55296 : Int))) = true then some (decide (z_75 < (57344 : Int))) else some false).bind (fun z_76 => if z_76 = true then some (0 : Int) else some n)))) =
      some (if n ≤ (s.size : Int) - a ∧ C then tell n v least else (0, 0)).2 := by
  rw [hw]
  by_cases h : (s.size : Int) - a < n
  · rw [if_pos (by simpa using h), if_neg (fun h' => by omega)]
  · rw [if_neg (by simpa using h), hg h]
    by_cases c : C
    · rw [if_pos c, Option.bind_some, if_pos ⟨by omega, c⟩]
      simp only [Sum.elim_inr]
      rw [size1_tell]
    · rw [if_neg c, Option.bind_some, if_neg (fun h' => c h'.2)]
      simp only [Sum.elim_inl]

theorem rsize_is {K : Nat} {s : ByteArray} {a : Int} (hK : 10 ≤ K) (hs : (s.size : Int) ≤ 1000000000000) : palinoderef1_Size K s a = some (usz s a) := by
  obtain ⟨k, hk⟩ : ∃ k, K = k + 4 := ⟨K - 4, by omega⟩
  have hb := bt_ok (s := s) (i := a)
  rw [← upt_snd]
  unfold palinoderef1_Size upt
  by_cases h : a < 0 ∨ a ≥ s.size
  · have : (if decide (a < 0) = true then some true else some (decide (a ≥ ((s.size : Nat) : Int)))) = some true := by
      by_cases h1 : a < 0
      · rw [if_pos (by simpa using h1)]
      · rw [if_neg (by simpa using h1)]; simp; omega
    rw [this, Option.bind_some, if_pos rfl, if_pos h]
  · have : (if decide (a < 0) = true then some true else some (decide (a ≥ ((s.size : Nat) : Int)))) = some false := by
      rw [if_neg (by simp; omega)]; simp; omega
    have hw : IntKind.wrap .i64 ((s.size : Int) - a) = (s.size : Int) - a := w64 (by omega) (by omega)
    have e2 := size1_many (least := 128) (K := K) (s := s) (a := a) (n := 2) (r := bt s a % 32) hw (fun hn => by rw [hk]; exact s2_go (by omega) hs hn (by omega))
    have e3 := size1_many (least := 2048) (K := K) (s := s) (a := a) (n := 3) (r := bt s a % 16) hw (fun hn => by rw [hk]; exact s3_go (by omega) hs hn (by omega))
    have e4 := size1_many (least := 65536) (K := K) (s := s) (a := a) (n := 4) (r := bt s a % 8) hw (fun hn => by rw [hk]; exact s4_go (by omega) hs hn (by omega))
    rw [this, Option.bind_some, if_neg (by simp), if_neg h, if_pos ⟨by omega, by omega⟩, w64 (n := bt s a) (by omega) (by omega), and_31 hb.1 hb.2, and_15 hb.1 hb.2, and_7 hb.1 hb.2]
    by_cases h1 : bt s a < 128
    · rw [if_pos (by simpa using h1), if_pos h1]
    · rw [if_neg (by simpa using h1), if_neg h1]
      by_cases h2 : 192 ≤ bt s a ∧ bt s a < 224
      · rw [if_pos (by simp; omega), Option.bind_some, if_pos (by simp; omega), Option.bind_some, if_pos h2]
        simp only [Sum.elim_inr]
        exact e2
      · have c2 : (if decide (bt s a ≥ 192) = true then some (decide (bt s a < 224)) else some false) = some false := by
          by_cases g : bt s a ≥ 192
          · rw [if_pos (by simpa using g)]; simp; omega
          · rw [if_neg (by simpa using g)]
        rw [c2, Option.bind_some, if_neg (by simp), if_neg h2]
        by_cases h3 : 224 ≤ bt s a ∧ bt s a < 240
        · rw [if_pos (by simp; omega), Option.bind_some, if_pos (by simp; omega), Option.bind_some, if_pos h3]
          simp only [Sum.elim_inr]
          exact e3
        · have c3 : (if decide (bt s a ≥ 224) = true then some (decide (bt s a < 240)) else some false) = some false := by
            by_cases g : bt s a ≥ 224
            · rw [if_pos (by simpa using g)]; simp; omega
            · rw [if_neg (by simpa using g)]
          rw [c3, Option.bind_some, if_neg (by simp), if_neg h3]
          by_cases h4 : 240 ≤ bt s a ∧ bt s a < 248
          · rw [if_pos (by simp; omega), Option.bind_some, if_pos (by simp; omega), Option.bind_some, if_pos h4]
            simp only [Sum.elim_inr]
            exact e4
          · have c4 : (if decide (bt s a ≥ 240) = true then some (decide (bt s a < 248)) else some false) = some false := by
              by_cases g : bt s a ≥ 240
              · rw [if_pos (by simpa using g)]; simp; omega
              · rw [if_neg (by simpa using g)]
            rw [c4, Option.bind_some, if_neg (by simp), if_neg h4, Option.bind_some]
            simp only [Sum.elim_inl]

/-- Whether from a place on there are code points, one behind the other. -/
def uval (s : ByteArray) : Nat → Int → Bool
  | 0, _ => true
  | m + 1, a => if a < s.size then (if usz s a = 0 then false else uval s m (a + usz s a)) else true

def uvalid (s : ByteArray) : Bool := uval s s.size 0

theorem uvalid_loop {K : Nat} {s : ByteArray} (hK : 10 ≤ K) (hs : (s.size : Int) ≤ 1000000000000) : ∀ (d k m : Nat) (a : Int), 0 ≤ a → (s.size : Int) - a ≤ d → a ≤ s.size → d < k → d ≤ m → utf_Valid.l0 K s k a = some (uval s m a) := by
  intro d
  induction d with
  | zero =>
    intro k m a h0 h1 h2 hk hm
    obtain ⟨k, rfl⟩ : ∃ l, k = l + 1 := ⟨k - 1, by omega⟩
    rw [utf_Valid.l0, if_neg (by simp; omega)]
    cases m with
    | zero => rfl
    | succ m => rw [uval, if_neg (by omega)]
  | succ d ih =>
    intro k m a h0 h1 h2 hk hm
    obtain ⟨k, rfl⟩ : ∃ l, k = l + 1 := ⟨k - 1, by omega⟩
    obtain ⟨m, rfl⟩ : ∃ l, m = l + 1 := ⟨m - 1, by omega⟩
    have hu := usz_ok (s := s) (a := a)
    rw [utf_Valid.l0, uval]
    by_cases h : a < s.size
    · have hu3 := hu.2.2 h0 h
      rw [if_pos (by simpa using h), if_pos h, usize_is hK hs, Option.bind_some]
      by_cases hz : usz s a = 0
      · rw [if_pos (by simpa using hz), if_pos hz]
      · rw [if_neg (by simpa using hz), if_neg hz, w64 (by omega) (by omega)]
        exact ih k m _ (by omega) (by omega) (by omega) (by omega) (by omega)
    · rw [if_neg (by simpa using h), if_neg h]

theorem uvalid_is {K : Nat} {s : ByteArray} (hK : s.size + 10 ≤ K) (hs : (s.size : Int) ≤ 1000000000000) : utf_Valid K s = some (uvalid s) := by
  unfold utf_Valid uvalid
  exact uvalid_loop (by omega) hs s.size K s.size 0 (by omega) (by omega) (by omega) (by omega) (by omega)

theorem rvalid_loop {K : Nat} {s : ByteArray} (hK : 10 ≤ K) (hs : (s.size : Int) ≤ 1000000000000) : ∀ (d k m : Nat) (a : Int), 0 ≤ a → (s.size : Int) - a ≤ d → a ≤ s.size → d < k → d ≤ m → palinoderef1_Valid.l0 K s k a = some (uval s m a) := by
  intro d
  induction d with
  | zero =>
    intro k m a h0 h1 h2 hk hm
    obtain ⟨k, rfl⟩ : ∃ l, k = l + 1 := ⟨k - 1, by omega⟩
    rw [palinoderef1_Valid.l0, if_neg (by simp; omega)]
    cases m with
    | zero => rfl
    | succ m => rw [uval, if_neg (by omega)]
  | succ d ih =>
    intro k m a h0 h1 h2 hk hm
    obtain ⟨k, rfl⟩ : ∃ l, k = l + 1 := ⟨k - 1, by omega⟩
    obtain ⟨m, rfl⟩ : ∃ l, m = l + 1 := ⟨m - 1, by omega⟩
    have hu := usz_ok (s := s) (a := a)
    rw [palinoderef1_Valid.l0, uval]
    by_cases h : a < s.size
    · have hu3 := hu.2.2 h0 h
      rw [if_pos (by simpa using h), if_pos h, rsize_is hK hs, Option.bind_some]
      by_cases hz : usz s a = 0
      · rw [if_pos (by simpa using hz), if_pos hz]
      · rw [if_neg (by simpa using hz), if_neg hz, w64 (by omega) (by omega)]
        exact ih k m _ (by omega) (by omega) (by omega) (by omega) (by omega)
    · rw [if_neg (by simpa using h), if_neg h]

theorem rvalid_is {K : Nat} {s : ByteArray} (hK : s.size + 10 ≤ K) (hs : (s.size : Int) ≤ 1000000000000) : palinoderef1_Valid K s = some (uvalid s) := by
  unfold palinoderef1_Valid uvalid
  exact rvalid_loop (by omega) hs s.size K s.size 0 (by omega) (by omega) (by omega) (by omega) (by omega)

abbrev El := Int × (Int × ByteArray)

abbrev el0 : El := ((0 : Int), ((0 : Int), ByteArray.empty))

def lastIs (b : Bool) (l : List El) : Prop := l ≠ [] ∧ decide ((l.getD (l.length - 1) el0).2.2.size = 0) = b

instance (b : Bool) (l : List El) : Decidable (lastIs b l) := inferInstanceAs (Decidable (_ ∧ _))

abbrev Ce := Int × Int

/-- How many at the head are put in. -/
def runT : List Ce → Nat
  | [] => 0
  | c :: r => if c.1 < 0 then runT r + 1 else 0

/-- How many at the head go on from a place. -/
def runC : Int → List Ce → Nat
  | _, [] => 0
  | a, c :: r => if c.1 = a + 1 then runC c.1 r + 1 else 0

/-- Cells, told. -/
def told : Nat → List Ce → List El
  | 0, _ => []
  | _, [] => []
  | m + 1, c :: r =>
    if c.1 < 0 then (0, (0, ofBytes (c.2 :: (r.take (runT r)).map (·.2)))) :: told m (r.drop (runT r))
    else (c.1, (c.1 + runC c.1 r + 1, ByteArray.empty)) :: told m (r.drop (runC c.1 r))

/-- The bytes of a code point but its first one go on with it. -/
theorem uszB_cont {n c d e f : Int} : (2 ≤ uszB n c d e f → cont d) ∧ (3 ≤ uszB n c d e f → cont e) ∧ (4 ≤ uszB n c d e f → cont f) := by
  unfold uszB
  split
  · omega
  · split
    · split
      · rename_i h; exact ⟨fun _ => h.2.1, by omega, by omega⟩
      · omega
    · split
      · split
        · rename_i h; exact ⟨fun _ => h.2.1, fun _ => h.2.2.1, by omega⟩
        · omega
      · split
        · split
          · rename_i h; exact ⟨fun _ => h.2.1, fun _ => h.2.2.1, fun _ => h.2.2.2.1⟩
          · omega
        · omega

theorem usz_cont {s : ByteArray} {i j : Nat} (h1 : i < j) (h2 : (j : Int) < i + usz s i) : cont (bt s (j : Int)) := by
  by_cases hi : (i : Int) < s.size
  · have hu := usz_ok (s := s) (a := i)
    unfold usz at h2 hu
    rw [if_neg (by omega)] at h2 hu
    have hc := uszB_cont (n := (s.size : Int) - i) (c := bt s i) (d := bt s ((i : Int) + 1)) (e := bt s ((i : Int) + 2)) (f := bt s ((i : Int) + 3))
    have h3 : j = i + 1 ∨ j = i + 2 ∨ j = i + 3 := by omega
    rcases h3 with rfl | rfl | rfl
    · have := hc.1 (by omega); rwa [show ((i + 1 : Nat) : Int) = (i : Int) + 1 by omega]
    · have := hc.2.1 (by omega); rwa [show ((i + 2 : Nat) : Int) = (i : Int) + 2 by omega]
    · have := hc.2.2 (by omega); rwa [show ((i + 3 : Nat) : Int) = (i : Int) + 3 by omega]
  · have : usz s (i : Int) = 0 := by unfold usz; rw [if_pos (by omega)]
    omega

/-- Whether a place is an edge, by the document's own look. -/
def isE (s : ByteArray) (p : Int) : Bool := decide (0 ≤ p ∧ p ≤ s.size) && (uvalid s && (decide (p = s.size) || !decide (cont (bt s p))))

theorem redge_is {K : Nat} {s : ByteArray} {p : Int} (hK : s.size + 10 ≤ K) (hs : s.size ≤ 1000000) : palinoderef1_IsEdge K s p = some (isE s p) := by
  unfold palinoderef1_IsEdge isE
  have hb := bt_ok (s := s) (i := p)
  by_cases h0 : p < 0
  · rw [if_pos (by simpa using h0), Option.bind_some, if_pos rfl, decide_eq_false (by omega), Bool.false_and]
  · rw [if_neg (by simpa using h0)]
    by_cases h1 : p > s.size
    · rw [if_pos (by simpa using h1), Option.bind_some, if_pos rfl, decide_eq_false (by omega), Bool.false_and]
    · rw [if_neg (by simpa using h1), rvalid_is hK (by omega), Option.bind_some, Option.bind_some, decide_eq_true (by omega), Bool.true_and]
      cases hv : uvalid s with
      | false => rfl
      | true =>
        rw [if_neg (by simp), Bool.true_and]
        by_cases h2 : p = s.size
        · rw [if_pos (by simpa using h2), decide_eq_true h2]; rfl
        · rw [if_neg (by simpa using h2), if_pos ⟨by omega, by omega⟩, decide_eq_false h2, Bool.false_or, w64 (by omega) (by omega), div_64 hb.1 hb.2]

theorem wu64 {n : Int} (h1 : 0 ≤ n) (h2 : n < 18446744073709551616) : IntKind.wrap .u64 n = n := by
  simp only [IntKind.wrap, IntKind.bits, IntKind.signed]
  simp
  omega

theorem half_is {i j : Nat} (h : i + j < 1000000) : IntKind.wrap .i64 (Int.fdiv (IntKind.wrap .u64 (IntKind.wrap .i64 ((i : Int) + (j : Int)))) 2) = (((i + j) / 2 : Nat) : Int) := by
  rw [w64 (n := (i : Int) + (j : Int)) (by omega) (by omega), wu64 (n := (i : Int) + (j : Int)) (by omega) (by omega), Int.fdiv_eq_ediv_of_nonneg _ (by decide), show ((i : Int) + (j : Int)) / 2 = (((i + j) / 2 : Nat) : Int) by omega, w64 (by omega) (by omega)]

/-- Searched by halves. -/
def bs (p : Nat → Bool) : Nat → Nat → Nat → Option Nat
  | 0, _, _ => none
  | k + 1, i, j => if i < j then (if p ((i + j) / 2) = true then bs p k ((i + j) / 2 + 1) j else bs p k i ((i + j) / 2)) else some i

theorem bs_is {p : Nat → Bool} : ∀ (k i j : Nat), j - i < k → i ≤ j → ∃ r, bs p k i j = some r ∧ i ≤ r ∧ r ≤ j ∧ (r = i ∨ p (r - 1) = true) ∧ (r = j ∨ p r = false)
  | 0, i, j, h, _ => by omega
  | k + 1, i, j, h, hij => by
    rw [bs]
    by_cases h1 : i < j
    · rw [if_pos h1]
      by_cases h2 : p ((i + j) / 2) = true
      · rw [if_pos h2]
        obtain ⟨r, e1, e2, e3, e4, e5⟩ := bs_is k ((i + j) / 2 + 1) j (by omega) (by omega)
        refine ⟨r, e1, by omega, e3, ?_, e5⟩
        rcases e4 with e4 | e4
        · right; rw [e4]; exact h2
        · right; exact e4
      · rw [if_neg h2]
        obtain ⟨r, e1, e2, e3, e4, e5⟩ := bs_is k i ((i + j) / 2) (by omega) (by omega)
        refine ⟨r, e1, e2, by omega, e4, ?_⟩
        rcases e5 with e5 | e5
        · right; rw [e5]; simpa using h2
        · right; exact e5
    · rw [if_neg h1]
      exact ⟨i, rfl, Nat.le_refl _, hij, .inl rfl, .inl (by omega)⟩

theorem mn2_is {a b : Int} : mn2 a b = min a b := by unfold mn2; split <;> omega

/-- In order, behind p, below n. -/
def okB (n : Int) : Int → List Int → Bool
  | _, [] => true
  | p, x :: l => decide (p < x ∧ x < n) && okB n x l

def isB (n : Int) (l : List Int) : Bool := okB (min n 20000) 0 l && decide (l.length ≤ 60)

def prevB (l : List Int) (j : Nat) : Int := if j = 0 then 0 else l.getD (j - 1) 0

theorem prevB_succ {l : List Int} {j : Nat} {x : Int} (h : l.getD j 0 = x) : prevB l (j + 1) = x := by
  unfold prevB; rw [if_neg (by omega), show j + 1 - 1 = j by omega, h]

theorem okB_cons {n p x : Int} {l : List Int} : okB n p (x :: l) = true ↔ (p < x ∧ x < n) ∧ okB n x l = true := by
  rw [okB, Bool.and_eq_true, decide_eq_true_eq]

theorem okB_mem {n : Int} : ∀ {l : List Int} {p : Int}, okB n p l = true → ∀ x ∈ l, p < x ∧ x < n
  | [], _, _, x, hx => by cases hx
  | y :: l, p, h, x, hx => by
    rw [okB_cons] at h
    rcases List.mem_cons.1 hx with rfl | hx
    · exact h.1
    · have := okB_mem h.2 x hx; omega

theorem okB_lt {n : Int} : ∀ {l : List Int} {p : Int}, okB n p l = true → l.Pairwise (· < ·)
  | [], _, _ => List.Pairwise.nil
  | x :: l, p, h => by
    rw [okB_cons] at h
    exact List.pairwise_cons.2 ⟨fun y hy => (okB_mem h.2 y hy).1, okB_lt h.2⟩

theorem okB_of {n : Int} : ∀ {l : List Int} {p : Int}, l.Pairwise (· < ·) → (∀ x ∈ l, p < x ∧ x < n) → okB n p l = true
  | [], _, _, _ => rfl
  | x :: l, p, h, hm => by
    rw [List.pairwise_cons] at h
    rw [okB_cons]
    exact ⟨hm x (by simp), okB_of h.2 fun y hy => ⟨h.1 y hy, (hm y (by simp [hy])).2⟩⟩

theorem isB_loop {K : Nat} {l : List Int} {n : Int} (hl : l.length ≤ 1000000000000) : ∀ (rest : List Int) (j k : Nat), l.drop j = rest → rest.length < k → 0 ≤ prevB l j →
    breaks_Is_ng.l0 K l n k (j : Int) = some (okB (min n 20000) (prevB l j) rest && decide (l.length ≤ 60))
  | [], j, k, hd, hk, h0 => by
    obtain ⟨k, rfl⟩ : ∃ m, k = m + 1 := ⟨k - 1, by omega⟩
    have := drop_nil hd
    rw [breaks_Is_ng.l0, if_neg (by simp; omega), okB, Bool.true_and]
    congr 1; rw [decide_eq_decide]; omega
  | x :: rest, j, k, hd, hk, h0 => by
    obtain ⟨k, rfl⟩ : ∃ m, k = m + 1 := ⟨k - 1, by omega⟩
    obtain ⟨hj, hx, hd'⟩ := drop_cons hd (0 : Int)
    rw [List.length_cons] at hk
    have hw : IntKind.wrap .i64 ((j : Int) + 1) = ((j + 1 : Nat) : Int) := by rw [w64 (by omega) (by omega)]; omega
    rw [breaks_Is_ng.l0, if_pos (by simp; omega), if_pos (by omega)]
    simp only [Int.toNat_natCast, hx, hw, mn2_is]
    have e : (if decide (x ≤ 0) = true then some true else if decide (x ≥ min n 20000) = true then some true else if decide ((j : Int) > 0) = true then if 0 ≤ IntKind.wrap .i64 ((j : Int) - 1) ∧ IntKind.wrap .i64 ((j : Int) - 1) < ((l.length : Nat) : Int) then some (decide (x ≤ l.getD (IntKind.wrap .i64 ((j : Int) - 1)).toNat 0)) else none else some false) = some (decide (¬ (prevB l j < x ∧ x < min n 20000))) := by
      by_cases h1 : x ≤ 0
      · rw [if_pos (by simpa using h1)]; congr 1; symm; rw [decide_eq_true_eq]; omega
      rw [if_neg (by simpa using h1)]
      by_cases h2 : x ≥ min n 20000
      · rw [if_pos (by simpa using h2)]; congr 1; symm; rw [decide_eq_true_eq]; omega
      rw [if_neg (by simpa using h2)]
      by_cases h3 : j = 0
      · subst h3
        rw [if_neg (by simp)]; congr 1; symm; rw [decide_eq_false_iff_not]
        rw [show prevB l 0 = 0 from rfl]; omega
      · have hw2 : IntKind.wrap .i64 ((j : Int) - 1) = ((j - 1 : Nat) : Int) := by rw [w64 (by omega) (by omega)]; omega
        rw [if_pos (by simp; omega), hw2, if_pos (by omega), Int.toNat_natCast]
        have : prevB l j = l.getD (j - 1) 0 := by unfold prevB; rw [if_neg h3]
        rw [this]
        congr 1; rw [decide_eq_decide]; omega
    rw [e, Option.bind_some, okB]
    by_cases h : prevB l j < x ∧ x < min n 20000
    · have ih := isB_loop (K := K) (n := n) hl rest (j + 1) k hd' (by omega) (by rw [prevB_succ hx]; omega)
      rw [prevB_succ hx] at ih
      rw [if_neg (by simp only [decide_eq_true_eq]; exact fun h' => h' h), ih, decide_eq_true h, Bool.true_and]
    · rw [if_pos (by simp only [decide_eq_true_eq]; exact h), decide_eq_false h, Bool.false_and, Bool.false_and]

theorem isB_is {K : Nat} {l : List Int} {n : Int} (hl : l.length ≤ 1000000000000) (hK : l.length < K) : breaks_Is_ng K l n = some (isB n l) :=
  isB_loop hl l 0 K rfl hK (by simp [prevB])

theorem isLess_is {K : Nat} {a b : Int} : cmp_Less K a b = some (decide (a < b)) := by
  unfold cmp_Less cmp_isNaN
  rw [Option.bind_some, bne_self_eq_false, if_neg (by simp)]

theorem bsB_is {K : Nat} {l : List Int} {t : Int} (hD : l.length ≤ 100000) : ∀ (k i j : Nat), i ≤ j → j ≤ l.length → slices_BinarySearch_ng.l0 K l t k (i : Int) (j : Int) = (bs (fun h => decide (l.getD h 0 < t)) k i j).map (fun n : Nat => (n : Int))
  | 0, i, j, hij, hj => rfl
  | k + 1, i, j, hij, hj => by
    rw [slices_BinarySearch_ng.l0, bs]
    by_cases h : i < j
    · have hw : IntKind.wrap .i64 ((((i + j) / 2 : Nat) : Int) + 1) = (((i + j) / 2 + 1 : Nat) : Int) := by rw [w64 (by omega) (by omega)]; omega
      rw [if_pos (by simp; omega), if_pos h]
      simp only [half_is (i := i) (j := j) (by omega), Int.toNat_natCast, hw, isLess_is, Option.bind_some]
      rw [if_pos (by omega), bsB_is hD k _ _ (by omega) hj, bsB_is hD k _ _ (by omega) (by omega)]
      split <;> rfl
    · rw [if_neg (by simp; omega), if_neg h]; rfl

theorem lt_get {l : List Int} (h : l.Pairwise (· < ·)) {i j : Nat} (hij : i < j) (hj : j < l.length) : l.getD i 0 < l.getD j 0 := by
  have := List.pairwise_iff_getElem.1 h i j (by omega) hj hij
  simpa [List.getD, List.getElem?_eq_getElem hj, List.getElem?_eq_getElem (show i < l.length by omega)] using this

theorem take_get {l : List Int} {n : Nat} {x : Int} (h : x ∈ l.take n) : ∃ i, i < n ∧ i < l.length ∧ l.getD i 0 = x := by
  obtain ⟨i, hi, rfl⟩ := List.mem_iff_getElem.1 h
  rw [List.length_take] at hi
  exact ⟨i, by omega, by omega, by rw [List.getElem_take]; simp [List.getD, List.getElem?_eq_getElem (show i < l.length by omega)]⟩

theorem drop_get {l : List Int} {n : Nat} {x : Int} (h : x ∈ l.drop n) : ∃ i, n ≤ i ∧ i < l.length ∧ l.getD i 0 = x := by
  obtain ⟨i, hi, rfl⟩ := List.mem_iff_getElem.1 h
  rw [List.length_drop] at hi
  exact ⟨n + i, by omega, by omega, by rw [List.getElem_drop]; simp [List.getD, List.getElem?_eq_getElem (show n + i < l.length by omega)]⟩

theorem getD_mem_drop {l : List Int} {j r : Nat} (h : j < l.length) (hr : r ≤ j) : l.getD j 0 ∈ l.drop r :=
  List.mem_iff_getElem.2 ⟨j - r, by rw [List.length_drop]; omega, by rw [List.getElem_drop]; simp [List.getD, List.getElem?_eq_getElem h, show r + (j - r) = j by omega]⟩

/-- A place searched in a row in order. -/
theorem search_is {K : Nat} {l : List Int} {t : Int} (hK : 100000 < K) (hl : l.length ≤ 100000) (hs : l.Pairwise (· < ·)) :
    ∃ r : Nat, r ≤ l.length ∧ slices_BinarySearch_ng K l t = some ((r : Int), decide (r < l.length ∧ l.getD r 0 = t)) ∧ (∀ x ∈ l.take r, x < t) ∧ ∀ x ∈ l.drop r, t ≤ x := by
  have e0 := bsB_is (K := K) (t := t) hl K 0 l.length (by omega) (Nat.le_refl _)
  obtain ⟨r, e1, e2, e3, e4, e5⟩ := bs_is (p := fun h => decide (l.getD h 0 < t)) K 0 l.length (by omega) (by omega)
  rw [e1, Option.map_some] at e0
  refine ⟨r, e3, ?_, fun x hx => ?_, fun x hx => ?_⟩
  · unfold slices_BinarySearch_ng slices_isNaN
    rw [show ((0 : Nat) : Int) = 0 from rfl] at e0
    rw [e0, Option.bind_some]
    simp only [Int.toNat_natCast, bne_self_eq_false, Option.bind_some]
    by_cases h : r < l.length
    · have hr : (0 : Int) ≤ (r : Int) ∧ (r : Int) < ((l.length : Nat) : Int) := by omega
      simp only [if_pos hr]
      rw [if_pos (by simp; omega)]
      by_cases h2 : l.getD r 0 = t
      · rw [if_pos (by rw [beq_iff_eq]; exact h2), decide_eq_true ⟨h, h2⟩]
      · rw [if_neg (by rw [beq_iff_eq]; exact h2), if_neg (by simp), decide_eq_false fun h' => h2 h'.2]
    · rw [if_neg (by simp; omega), decide_eq_false fun h' => h h'.1]
  · obtain ⟨i, i1, i2, rfl⟩ := take_get hx
    rcases e4 with e4 | e4
    · omega
    · rw [decide_eq_true_eq] at e4
      rcases Nat.lt_or_ge i (r - 1) with h | h
      · have := lt_get hs h (by omega); omega
      · rw [show i = r - 1 by omega]; exact e4
  · obtain ⟨i, i1, i2, rfl⟩ := drop_get hx
    rcases e5 with e5 | e5
    · omega
    · rw [decide_eq_false_iff_not] at e5
      rcases Nat.lt_or_ge r i with h | h
      · have := lt_get hs h (by omega); omega
      · rw [show i = r by omega]; omega

/-- With one place more. -/
def putB (l : List Int) (t : Int) : List Int := l.filter (fun x => decide (x < t)) ++ t :: l.filter (fun x => decide (t < x))

theorem putB_split {l : List Int} {t : Int} {r : Nat} (hn : t ∉ l) (h1 : ∀ x ∈ l.take r, x < t) (h2 : ∀ x ∈ l.drop r, t ≤ x) : putB l t = l.take r ++ t :: l.drop r := by
  unfold putB
  have e : l.filter (fun x => decide (x < t)) = (l.take r ++ l.drop r).filter (fun x => decide (x < t)) := by rw [List.take_append_drop]
  have e2 : l.filter (fun x => decide (t < x)) = (l.take r ++ l.drop r).filter (fun x => decide (t < x)) := by rw [List.take_append_drop]
  rw [e, e2, List.filter_append, List.filter_append]
  rw [List.filter_eq_self.2 (fun x hx => by rw [decide_eq_true_eq]; exact h1 x hx), List.filter_eq_nil_iff.2 (fun x hx => by rw [decide_eq_true_eq]; have := h2 x hx; omega), List.append_nil,
    List.filter_eq_nil_iff.2 (fun x hx => by rw [decide_eq_true_eq]; have := h1 x hx; omega), List.nil_append, List.filter_eq_self.2 (fun x hx => ?_)]
  rw [decide_eq_true_eq]
  have := h2 x hx
  have : x ≠ t := fun e => hn (e ▸ List.mem_of_mem_drop hx)
  omega

theorem mem_search {l : List Int} {t : Int} {r : Nat} (h1 : ∀ x ∈ l.take r, x < t) (h2 : ∀ x ∈ l.drop r, t ≤ x) (hs : l.Pairwise (· < ·)) : (r < l.length ∧ l.getD r 0 = t) ↔ t ∈ l := by
  constructor
  · rintro ⟨h, e⟩
    rw [← e]
    simp [List.getD, List.getElem?_eq_getElem h]
  · intro h
    rw [← List.take_append_drop r l] at h
    rcases List.mem_append.1 h with h | h
    · have := h1 t h; omega
    · obtain ⟨i, i1, i2, e⟩ := drop_get h
      refine ⟨by omega, ?_⟩
      rcases Nat.lt_or_ge r i with hi | hi
      · have := lt_get hs hi i2
        have := h2 _ (getD_mem_drop (show r < l.length by omega) (Nat.le_refl r))
        omega
      · rw [show r = i by omega]; exact e

theorem putAt_zero {α : Type} {xs ys : List α} (h : ys.length = xs.length) : putAt xs ys 0 = ys := by
  unfold putAt
  rw [List.take_zero, List.nil_append, List.drop_eq_nil_of_le (by omega), List.append_nil]

theorem isB_ok {n : Int} {l : List Int} (h : isB n l = true) : okB (min n 20000) 0 l = true ∧ l.length ≤ 60 := by
  unfold isB at h
  rw [Bool.and_eq_true, decide_eq_true_eq] at h
  exact h

theorem isB_of {n : Int} {l : List Int} (h : okB n 0 l = true) (hn : n ≤ 20000) (hl : l.length ≤ 60) : isB n l = true := by
  unfold isB
  rw [Bool.and_eq_true, decide_eq_true_eq, show min n 20000 = n by omega]
  exact ⟨h, hl⟩

theorem putB_is {K : Nat} {l : List Int} {t : Int} (hK : 100000 < K) (hi : isB 20000 l = true) (h1 : 0 < t) (h2 : t < 20000) :
    breaks_Put_ng K l t = some (if t ∈ l then (l, 0) else if 60 ≤ l.length then ([], 70) else (putB l t, 0)) := by
  obtain ⟨hok, hl⟩ := isB_ok hi
  have hs := okB_lt hok
  obtain ⟨r, r1, r2, r3, r4⟩ := search_is (K := K) (t := t) hK (by omega) hs
  have hmem := mem_search r3 r4 hs
  unfold breaks_Put_ng
  rw [isB_is (by omega) (by omega), Option.bind_some, hi, if_neg (by simp), if_neg (by simp; omega), Option.bind_some, if_neg (by simp; omega), r2, Option.bind_some, w64 (n := ((l.length : Nat) : Int) + 1) (by omega) (by omega), if_pos (by omega)]
  have hrep : (List.replicate (Int.toNat ((l.length : Nat) : Int)) (0 : Int)).length = l.length := by rw [List.length_replicate]; omega
  rw [hrep, List.take_length, putAt_zero (by omega)]
  by_cases hm : t ∈ l
  · rw [decide_eq_true (hmem.2 hm), if_pos rfl, if_pos hm]
  · rw [decide_eq_false fun h => hm (hmem.1 h), if_neg (by simp), if_neg hm]
    by_cases h60 : 60 ≤ l.length
    · rw [if_pos (by simp; omega), if_pos h60]
    · rw [if_neg (by simp; omega), if_neg h60]
      unfold slices_Insert_rgr
      rw [if_pos (by simp; omega), Option.bind_some, Int.toNat_natCast, putB_split hm r3 r4]
      rfl

/-- Where a place stands first. -/
def idxB (v : Int) : List Int → Option Nat
  | [] => none
  | x :: l => if v = x then some 0 else (idxB v l).map (· + 1)

def eraB (v : Int) : List Int → List Int
  | [] => []
  | x :: l => if v = x then l else x :: eraB v l

theorem idxB_none {v : Int} : ∀ {l : List Int}, idxB v l = none ↔ v ∉ l
  | [] => by simp [idxB]
  | x :: l => by
    rw [idxB]
    by_cases h : v = x
    · rw [if_pos h]; simp [h]
    · rw [if_neg h, Option.map_eq_none_iff, idxB_none, List.mem_cons]
      exact ⟨fun h1 h2 => h2.elim h h1, fun h1 h2 => h1 (.inr h2)⟩

theorem idxB_some {v : Int} : ∀ {l : List Int} {i : Nat}, idxB v l = some i → i < l.length ∧ l.take i ++ l.drop (i + 1) = eraB v l ∧ l.getD i 0 = v
  | [], i, h => by cases h
  | x :: l, i, h => by
    rw [idxB] at h
    rw [eraB]
    by_cases hv : v = x
    · rw [if_pos hv] at h
      injection h with h
      subst h
      rw [if_pos hv]
      exact ⟨by simp, by simp, by simp [hv]⟩
    · rw [if_neg hv] at h
      obtain ⟨i', h', rfl⟩ := Option.map_eq_some_iff.1 h
      obtain ⟨h1, h2, h3⟩ := idxB_some h'
      rw [if_neg hv, ← h2]
      exact ⟨by simp; omega, by simp, by simpa using h3⟩

theorem index_loop {K : Nat} {l : List Int} {v : Int} (hl : l.length ≤ 1000000000000) : ∀ (rest : List Int) (j k : Nat), l.drop j = rest → rest.length < k →
    slices_Index_rg.l0 K l v k (j : Int) = some (match idxB v rest with | some i => ((j + i : Nat) : Int) | none => -1)
  | [], j, k, hd, hk => by
    obtain ⟨k, rfl⟩ : ∃ m, k = m + 1 := ⟨k - 1, by omega⟩
    have := drop_nil hd
    rw [slices_Index_rg.l0, if_neg (by simp; omega)]; rfl
  | x :: rest, j, k, hd, hk => by
    obtain ⟨k, rfl⟩ : ∃ m, k = m + 1 := ⟨k - 1, by omega⟩
    obtain ⟨hj, hx, hd'⟩ := drop_cons hd (0 : Int)
    rw [List.length_cons] at hk
    have hw : IntKind.wrap .i64 ((j : Int) + 1) = ((j + 1 : Nat) : Int) := by rw [w64 (by omega) (by omega)]; omega
    rw [slices_Index_rg.l0, if_pos (by simp; omega), if_pos (by omega)]
    simp only [Int.toNat_natCast, hx, hw, index_loop hl rest (j + 1) k hd' (by omega)]
    rw [idxB]
    by_cases h : v = x
    · rw [if_pos (by simpa using h), if_pos h]; simp
    · rw [if_neg (by simpa using h), if_neg h]
      cases idxB v rest with
      | none => rfl
      | some i => simp only [Option.map_some]; rw [show j + 1 + i = j + (i + 1) by omega]

theorem index_is {K : Nat} {l : List Int} {v : Int} (hl : l.length ≤ 1000000000000) (hK : l.length < K) : slices_Index_rg K l v = some (match idxB v l with | some i => (i : Int) | none => -1) := by
  have := index_loop (K := K) (v := v) hl l 0 K rfl hK
  simpa [slices_Index_rg] using this

/-- Two copies, one behind the other. -/
theorem two_copies {l : List Int} {i : Nat} (hi : i < l.length) {n : Nat} (hn : n + 1 = l.length) :
    (List.take (List.replicate n (0 : Int)).length (List.take (i - 0) (List.drop 0 l))).length = i ∧ (putAt (List.replicate n (0 : Int)) (List.take (List.replicate n (0 : Int)).length (List.take (i - 0) (List.drop 0 l))) 0).length = n ∧
    putAt (putAt (List.replicate n (0 : Int)) (List.take (List.replicate n (0 : Int)).length (List.take (i - 0) (List.drop 0 l))) 0) (List.take (n - i) (List.take (l.length - (i + 1)) (List.drop (i + 1) l))) i = l.take i ++ l.drop (i + 1) := by
  have h1 : List.take (List.replicate n (0 : Int)).length (List.take (i - 0) (List.drop 0 l)) = l.take i := by
    rw [List.length_replicate, Nat.sub_zero, List.drop_zero, List.take_take, Nat.min_eq_right (by omega)]
  have h2 : (l.take i).length = i := by rw [List.length_take]; omega
  have h3 : putAt (List.replicate n (0 : Int)) (l.take i) 0 = l.take i ++ List.replicate (n - i) 0 := by
    unfold putAt
    rw [List.take_zero, List.nil_append, h2, Nat.zero_add, List.drop_replicate]
  have h4 : List.take (n - i) (List.take (l.length - (i + 1)) (List.drop (i + 1) l)) = l.drop (i + 1) := by
    rw [List.take_take, List.take_of_length_le (by rw [List.length_drop]; omega)]
  rw [h1, h3, h4]
  refine ⟨h2, by rw [List.length_append, h2, List.length_replicate]; omega, ?_⟩
  unfold putAt
  rw [List.take_left' h2, List.length_drop]
  have h5 : List.drop (i + (l.length - (i + 1))) (l.take i ++ List.replicate (n - i) (0 : Int)) = [] := List.drop_eq_nil_of_le (by rw [List.length_append, h2, List.length_replicate]; omega)
  rw [h5, List.append_nil]

theorem takeB_is {K : Nat} {l : List Int} {v : Int} (hK : 1000 ≤ K) (hl : l.length ≤ 100) : breaks_Take_rg K l v = some (if v ∈ l then (eraB v l, 0) else ([], 10)) := by
  unfold breaks_Take_rg
  rw [index_is (by omega) (by omega), Option.bind_some]
  cases hi : idxB v l with
  | none =>
    rw [if_pos (by simp), if_neg (idxB_none.1 hi)]
  | some i =>
    obtain ⟨h1, h2, -⟩ := idxB_some hi
    have hm : v ∈ l := by
      rcases Decidable.em (v ∈ l) with h | h
      · exact h
      · rw [idxB_none.2 h] at hi; cases hi
    obtain ⟨n, hn⟩ : ∃ n, n + 1 = l.length := ⟨l.length - 1, by omega⟩
    obtain ⟨c1, c2, c3⟩ := two_copies h1 hn
    have hw1 : IntKind.wrap .i64 (((l.length : Nat) : Int) - 1) = (n : Int) := by rw [w64 (by omega) (by omega)]; omega
    have hw2 : IntKind.wrap .i64 ((i : Int) + 1) = ((i + 1 : Nat) : Int) := by rw [w64 (by omega) (by omega)]; omega
    simp only [hw1, hw2, Int.toNat_natCast, c1, c2]
    rw [if_neg (by simp), if_pos (by omega), if_pos (by omega), if_pos hm, c3, h2]

def cntB (l : List Int) (t : Int) : Nat := (l.filter fun x => decide (x ≤ t)).length

theorem line_loop {K : Nat} {l : List Int} {t : Int} (hl : l.length ≤ 100000) : ∀ (rest : List Int) (j k n : Nat), l.drop j = rest → rest.length < k → n ≤ j →
    breaks_Line_rg.l0 K l t k (n : Int) (j : Int) = some ((n + cntB rest t : Nat) : Int)
  | [], j, k, n, hd, hk, hn => by
    obtain ⟨k, rfl⟩ : ∃ m, k = m + 1 := ⟨k - 1, by omega⟩
    have := drop_nil hd
    rw [breaks_Line_rg.l0, if_neg (by simp; omega)]; rfl
  | x :: rest, j, k, n, hd, hk, hn => by
    obtain ⟨k, rfl⟩ : ∃ m, k = m + 1 := ⟨k - 1, by omega⟩
    obtain ⟨hj, hx, hd'⟩ := drop_cons hd (0 : Int)
    rw [List.length_cons] at hk
    have hw : IntKind.wrap .i64 ((j : Int) + 1) = ((j + 1 : Nat) : Int) := by rw [w64 (by omega) (by omega)]; omega
    have hw2 : IntKind.wrap .i64 ((n : Int) + 1) = ((n + 1 : Nat) : Int) := by rw [w64 (by omega) (by omega)]; omega
    rw [breaks_Line_rg.l0, if_pos (by simp; omega), if_pos (by omega)]
    simp only [Int.toNat_natCast, hx, hw, hw2]
    rw [line_loop hl rest (j + 1) k (n + 1) hd' (by omega) (by omega), line_loop hl rest (j + 1) k n hd' (by omega) (by omega)]
    unfold cntB
    by_cases h : x ≤ t
    · rw [if_pos (by simpa using h), List.filter_cons_of_pos (by simpa using h), List.length_cons]; congr 2; omega
    · rw [if_neg (by simpa using h), List.filter_cons_of_neg (by simpa using h)]

theorem line_is {K : Nat} {l : List Int} {t : Int} (hl : l.length ≤ 100000) (hK : l.length < K) : breaks_Line_rg K l t = some (cntB l t : Int) := by
  have := line_loop (K := K) (t := t) hl l 0 K 0 rfl hK (Nat.le_refl _)
  simpa [breaks_Line_rg] using this

theorem bt_get {s : ByteArray} (i : Nat) : bt s (i : Int) = ((s.get! i).toNat : Int) := by
  unfold bt
  rw [Int.toNat_natCast]
  by_cases h : i < s.size
  · rw [getElem?_pos s i h, Option.getD_some]
    congr 2
    show s.data[i] = s.data[i]!
    rw [getElem!_pos s.data i h]
  · rw [getElem?_neg s i h, Option.getD_none]
    show ((0 : UInt8).toNat : Int) = ((s.data[i]!).toNat : Int)
    rw [getElem!_neg s.data i h]; rfl

theorem enc_size {c : Nat} (hc : c ≤ 1114111 ∧ ¬ (55296 ≤ c ∧ c < 57344)) : (Utf8.encode (c : Int)).size = if c < 128 then 1 else if c < 2048 then 2 else if c < 65536 then 3 else 4 := by
  have hv : Utf8.valid (c : Int) = true := by
    unfold Utf8.valid
    simp only [Bool.or_eq_true, Bool.and_eq_true, decide_eq_true_eq]; omega
  unfold Utf8.encode
  simp only [hv, if_true, Int.toNat_natCast]
  by_cases h1 : c < 128
  · rw [if_pos h1, if_pos h1]; rfl
  · rw [if_neg h1, if_neg h1]
    by_cases h2 : c < 2048
    · rw [if_pos h2, if_pos h2]; rfl
    · rw [if_neg h2, if_neg h2]
      by_cases h3 : c < 65536
      · rw [if_pos h3, if_pos h3]; rfl
      · rw [if_neg h3, if_neg h3]; rfl

theorem get_lt {s : ByteArray} {i : Nat} : (s.get! i).toNat < 256 := (s.get! i).toNat_lt

/-- Go's walk told by four bytes. -/
def dcd (n t b0 b1 b2 b3 : Nat) : Nat × Nat :=
  if b0 < 128 then (b0, 1)
  else if b0 / 32 == 6 && (decide (t + 1 < n) && b1 / 64 == 2) then
    (if b0 % 32 * 64 + b1 % 64 ≥ 128 then (b0 % 32 * 64 + b1 % 64, 2) else (65533, 1))
  else if b0 / 16 == 14 && (decide (t + 1 < n) && b1 / 64 == 2) && (decide (t + 2 < n) && b2 / 64 == 2) then
    (if decide (b0 % 16 * 4096 + b1 % 64 * 64 + b2 % 64 ≥ 2048) && Utf8.valid (b0 % 16 * 4096 + b1 % 64 * 64 + b2 % 64 : Nat) then (b0 % 16 * 4096 + b1 % 64 * 64 + b2 % 64, 3) else (65533, 1))
  else if b0 / 8 == 30 && (decide (t + 1 < n) && b1 / 64 == 2) && (decide (t + 2 < n) && b2 / 64 == 2) && (decide (t + 3 < n) && b3 / 64 == 2) then
    (if decide (b0 % 8 * 262144 + b1 % 64 * 4096 + b2 % 64 * 64 + b3 % 64 ≥ 65536) && Utf8.valid (b0 % 8 * 262144 + b1 % 64 * 4096 + b2 % 64 * 64 + b3 % 64 : Nat) then (b0 % 8 * 262144 + b1 % 64 * 4096 + b2 % 64 * 64 + b3 % 64, 4) else (65533, 1))
  else (65533, 1)

theorem dcd_is {s : ByteArray} {t : Nat} : Utf8.decode s t = dcd s.size t (s.get! t).toNat (s.get! (t + 1)).toNat (s.get! (t + 2)).toNat (s.get! (t + 3)).toNat := rfl

theorem dcd_ok {n t b0 b1 b2 b3 : Nat} (ht : t < n) (h0 : b0 < 256) (hz : uszB ((n : Int) - t) b0 b1 b2 b3 ≠ 0) :
    ∃ c z : Nat, dcd n t b0 b1 b2 b3 = (c, z) ∧ uszB ((n : Int) - t) b0 b1 b2 b3 = z ∧ (Utf8.encode (c : Int)).size = z ∧ (c = 10 ↔ b0 = 10) := by
  unfold uszB cont at *
  unfold dcd
  by_cases h1 : b0 < 128
  · rw [if_pos h1, if_pos (show (b0 : Int) < 128 by omega)]
    refine ⟨b0, 1, rfl, rfl, ?_, Iff.rfl⟩
    rw [enc_size (by omega), if_pos h1]
  rw [if_neg (show ¬ (b0 : Int) < 128 by omega)] at hz ⊢
  rw [if_neg h1]
  by_cases h2 : 192 ≤ b0 ∧ b0 < 224
  · rw [if_pos (show (192 : Int) ≤ b0 ∧ (b0 : Int) < 224 by omega)] at hz ⊢
    by_cases c : 2 ≤ (n : Int) - t ∧ ((128 : Int) ≤ b1 ∧ (b1 : Int) < 192) ∧ (128 : Int) ≤ b0 % 32 * 64 + b1 % 64
    · rw [if_pos c, if_pos (by simp; omega), if_pos (by omega)]
      refine ⟨_, 2, rfl, rfl, ?_, by omega⟩
      rw [enc_size (by omega), if_neg (by omega), if_pos (by omega)]
    · rw [if_neg c] at hz; exact (hz rfl).elim
  rw [if_neg (show ¬ ((192 : Int) ≤ b0 ∧ (b0 : Int) < 224) by omega)] at hz ⊢
  rw [if_neg (by simp; omega)]
  by_cases h3 : 224 ≤ b0 ∧ b0 < 240
  · rw [if_pos (show (224 : Int) ≤ b0 ∧ (b0 : Int) < 240 by omega)] at hz ⊢
    by_cases c : 3 ≤ (n : Int) - t ∧ ((128 : Int) ≤ b1 ∧ (b1 : Int) < 192) ∧ ((128 : Int) ≤ b2 ∧ (b2 : Int) < 192) ∧ (2048 : Int) ≤ (b0 % 16 * 64 + b1 % 64) * 64 + b2 % 64 ∧ ¬ ((55296 : Int) ≤ (b0 % 16 * 64 + b1 % 64) * 64 + b2 % 64 ∧ ((b0 : Int) % 16 * 64 + b1 % 64) * 64 + b2 % 64 < 57344)
    · have hc : b0 % 16 * 4096 + b1 % 64 * 64 + b2 % 64 ≤ 1114111 ∧ ¬ (55296 ≤ b0 % 16 * 4096 + b1 % 64 * 64 + b2 % 64 ∧ b0 % 16 * 4096 + b1 % 64 * 64 + b2 % 64 < 57344) := by omega
      have hv : Utf8.valid ((b0 % 16 * 4096 + b1 % 64 * 64 + b2 % 64 : Nat) : Int) = true := by
        unfold Utf8.valid
        simp only [Bool.or_eq_true, Bool.and_eq_true, decide_eq_true_eq]; omega
      rw [if_pos c, if_pos (by simp; omega), hv, if_pos (by simp; omega)]
      refine ⟨_, 3, rfl, rfl, ?_, by omega⟩
      rw [enc_size hc, if_neg (by omega), if_neg (by omega), if_pos (by omega)]
    · rw [if_neg c] at hz; exact (hz rfl).elim
  rw [if_neg (show ¬ ((224 : Int) ≤ b0 ∧ (b0 : Int) < 240) by omega)] at hz ⊢
  rw [if_neg (by simp; omega)]
  by_cases h4 : 240 ≤ b0 ∧ b0 < 248
  · rw [if_pos (show (240 : Int) ≤ b0 ∧ (b0 : Int) < 248 by omega)] at hz ⊢
    by_cases c : 4 ≤ (n : Int) - t ∧ ((128 : Int) ≤ b1 ∧ (b1 : Int) < 192) ∧ ((128 : Int) ≤ b2 ∧ (b2 : Int) < 192) ∧ ((128 : Int) ≤ b3 ∧ (b3 : Int) < 192) ∧ (65536 : Int) ≤ ((b0 % 8 * 64 + b1 % 64) * 64 + b2 % 64) * 64 + b3 % 64 ∧ (((b0 : Int) % 8 * 64 + b1 % 64) * 64 + b2 % 64) * 64 + b3 % 64 ≤ 1114111
    · have hc : b0 % 8 * 262144 + b1 % 64 * 4096 + b2 % 64 * 64 + b3 % 64 ≤ 1114111 ∧ ¬ (55296 ≤ b0 % 8 * 262144 + b1 % 64 * 4096 + b2 % 64 * 64 + b3 % 64 ∧ b0 % 8 * 262144 + b1 % 64 * 4096 + b2 % 64 * 64 + b3 % 64 < 57344) := by omega
      have hv : Utf8.valid ((b0 % 8 * 262144 + b1 % 64 * 4096 + b2 % 64 * 64 + b3 % 64 : Nat) : Int) = true := by
        unfold Utf8.valid
        simp only [Bool.or_eq_true, Bool.and_eq_true, decide_eq_true_eq]; omega
      rw [if_pos c, if_pos (by simp; omega), hv, if_pos (by simp; omega)]
      refine ⟨_, 4, rfl, rfl, ?_, by omega⟩
      rw [enc_size hc, if_neg (by omega), if_neg (by omega), if_neg (by omega)]
    · rw [if_neg c] at hz; exact (hz rfl).elim
  rw [if_neg (show ¬ ((240 : Int) ≤ b0 ∧ (b0 : Int) < 248) by omega)] at hz
  exact (hz rfl).elim

theorem decode_is {s : ByteArray} {t : Nat} (ht : t < s.size) (hz : usz s t ≠ 0) :
    ∃ c z : Nat, Utf8.decode s t = (c, z) ∧ usz s t = z ∧ (Utf8.encode (c : Int)).size = z ∧ (c = 10 ↔ bt s t = 10) := by
  unfold usz at *
  rw [if_neg (by omega)] at hz ⊢
  rw [show (t : Int) + 1 = ((t + 1 : Nat) : Int) by omega, show (t : Int) + 2 = ((t + 2 : Nat) : Int) by omega, show (t : Int) + 3 = ((t + 3 : Nat) : Int) by omega, bt_get, bt_get, bt_get, bt_get] at hz
  rw [show (t : Int) + 1 = ((t + 1 : Nat) : Int) by omega, show (t : Int) + 2 = ((t + 2 : Nat) : Int) by omega, show (t : Int) + 3 = ((t + 3 : Nat) : Int) by omega, bt_get, bt_get, bt_get, bt_get, dcd_is]
  obtain ⟨c, z, h1, h2, h3, h4⟩ := dcd_ok ht get_lt hz
  exact ⟨c, z, h1, h2, h3, by rw [h4]; omega⟩

def wrF (s : ByteArray) (w : Int) : Nat → Nat → List Int → Int → List Int
  | 0, _, out, _ => out
  | d + 1, t, out, n => if t < s.size then wrF s w d (t + (usz s t).toNat) (if usz s t > w - n then (if out.length < 60 then out ++ [(t : Int)] else out) else out) (if bt s t = 10 then 0 else (if usz s t > w - n then 0 else n) + usz s t) else out

theorem wrF_full {s : ByteArray} {w : Int} : ∀ {d t : Nat} {out : List Int} {n : Int}, 60 ≤ out.length → wrF s w d t out n = out
  | 0, _, _, _, _ => rfl
  | d + 1, t, out, n, h => by
    rw [wrF, if_neg (show ¬ out.length < 60 by omega)]
    split
    · rw [show (if usz s t > w - n then out else out) = out by split <;> rfl]
      exact wrF_full h
    · rfl

theorem wrF_len {s : ByteArray} {w : Int} : ∀ {d t : Nat} {out : List Int} {n : Int}, out.length ≤ 60 → (wrF s w d t out n).length ≤ 60
  | 0, _, _, _, h => h
  | d + 1, t, out, n, h => by
    rw [wrF]
    split
    · refine wrF_len ?_
      split
      · split
        · rw [List.length_append, List.length_singleton]; omega
        · exact h
      · exact h
    · exact h

theorem wrap_loop {K : Nat} {s : ByteArray} {w : Int} (hs : s.size ≤ 100000) (hw : 4 ≤ w ∧ w ≤ 9223372036854775807) : ∀ (d t k m : Nat) (out : List Int) (n : Int), s.size ≤ t + d → d < k → d ≤ m → uval s m t = true → 0 ≤ n → n ≤ w → out.length ≤ 60 →
    breaks_Wrap.l0 K s w k out n t = some (wrF s w d t out n)
  | 0, t, k, m, out, n, hd, hk, hm, hv, h0, h1, ho => by
    obtain ⟨k, rfl⟩ : ∃ m, k = m + 1 := ⟨k - 1, by omega⟩
    rw [breaks_Wrap.l0, if_neg (by simp; omega)]; rfl
  | d + 1, t, k, m, out, n, hd, hk, hm, hv, h0, h1, ho => by
    obtain ⟨k, rfl⟩ : ∃ m, k = m + 1 := ⟨k - 1, by omega⟩
    obtain ⟨m, rfl⟩ : ∃ l, m = l + 1 := ⟨m - 1, by omega⟩
    rw [breaks_Wrap.l0, wrF]
    by_cases h : t < s.size
    · rw [uval, if_pos (show (t : Int) < s.size by omega)] at hv
      have hz : usz s t ≠ 0 := fun e => by rw [if_pos e] at hv; cases hv
      rw [if_neg hz] at hv
      obtain ⟨c, z, e1, e2, e3, e4⟩ := decode_is h hz
      have hz4 := (usz_ok (s := s) (a := (t : Int))).2.1
      rw [e2] at hv hz hz4
      rw [show (t : Int) + (z : Int) = ((t + z : Nat) : Int) by omega] at hv
      have ih := fun o n => wrap_loop (K := K) hs hw d (t + z) k m o n (by omega) (by omega) (by omega) hv
      rw [if_pos (by simpa using h), if_pos h]
      simp only [e1, e3, e2, Int.toNat_natCast]
      rw [w64 (n := w - (z : Int)) (by omega) (by omega)]
      have ec : ((c : Int) == 10) = decide (bt s t = 10) := by
        rw [Bool.eq_iff_iff, beq_iff_eq, decide_eq_true_eq, ← e4]; omega
      rw [ec]
      by_cases hb : n > w - z
      · rw [if_pos (by simpa using hb), if_pos (show (z : Int) > w - n by omega), if_pos (show (z : Int) > w - n by omega)]
        by_cases h60 : out.length = 60
        · rw [if_pos (by rw [beq_iff_eq]; omega), Option.bind_some, Sum.elim_inl, if_neg (by omega), wrF_full (by omega)]
        · rw [if_neg (by rw [beq_iff_eq]; omega), if_pos (by simp; omega), Option.bind_some, Sum.elim_inr, if_pos (show out.length < 60 by omega)]
          simp only [decide_eq_true_eq]
          by_cases hn : bt s t = 10
          · rw [if_pos hn, if_pos hn, ih _ _ (by omega) (by omega) (by simp; omega)]
          · rw [if_neg hn, if_neg hn, w64 (n := 0 + (z : Int)) (by omega) (by omega), ih _ _ (by omega) (by omega) (by simp; omega)]
      · rw [if_neg (by simpa using hb), if_neg (show ¬ (z : Int) > w - n by omega), if_neg (show ¬ (z : Int) > w - n by omega), Option.bind_some, Sum.elim_inr]
        simp only [decide_eq_true_eq]
        by_cases hn : bt s t = 10
        · rw [if_pos hn, if_pos hn, ih _ _ (by omega) (by omega) ho]
        · rw [if_neg hn, if_neg hn, w64 (n := n + (z : Int)) (by omega) (by omega), ih _ _ (by omega) (by omega) ho]
    · rw [if_neg (by simpa using h), if_neg h]

theorem wrap_is {K : Nat} {s : ByteArray} {w : Int} (hs : s.size ≤ 100000) (hw : w ≤ 9223372036854775807) (hK : s.size + 10 ≤ K) : breaks_Wrap K s w = some (if uvalid s = true ∧ 4 ≤ w then (wrF s w s.size 0 [] 0, 0) else ([], 12)) := by
  unfold breaks_Wrap
  rw [uvalid_is hK (by omega), Option.bind_some]
  cases hv : uvalid s with
  | false => rw [if_pos (by simp), Option.bind_some, if_pos rfl, if_neg (by simp)]
  | true =>
    rw [if_neg (by simp), Option.bind_some]
    by_cases h : 4 ≤ w
    · rw [if_neg (by simp; omega), if_pos ⟨rfl, h⟩]
      have e := wrap_loop (K := K) hs ⟨h, hw⟩ s.size 0 K s.size [] 0 (by omega) (by omega) (by omega) hv (by omega) (by omega) (by simp)
      rw [e, Option.bind_some]
    · rw [if_pos (by simp; omega), if_neg fun h' => h h'.2]

theorem known16 {K : Nat} (hK : 100000 < K) : palinodelaw16_known K = some true := by
  unfold palinodelaw16_known
  have a1 : breaks_Put_ng K [] 5 = some ([5], 0) := by rw [putB_is hK rfl (by omega) (by omega)]; rfl
  have a2 : breaks_Put_ng K [5] 2 = some ([2, 5], 0) := by rw [putB_is hK (by decide) (by omega) (by omega)]; rfl
  have a3 : breaks_Take_rg K [2, 5] 3 = some ([], 10) := by rw [takeB_is (by omega) (by simp)]; rfl
  have a4 : breaks_Take_rg K [2, 5] 2 = some ([5], 0) := by rw [takeB_is (by omega) (by simp)]; rfl
  have a5 : breaks_Wrap K (ByteArray.mk #[97, 98, 99, 100, 101, 102, 103, 104]) 4 = some ([4], 0) := by
    rw [wrap_is (by decide) (by omega) (by have : (ByteArray.mk #[97, 98, 99, 100, 101, 102, 103, 104]).size = 8 := rfl
                                           omega)]; decide
  have a6 : breaks_Wrap K (ByteArray.mk #[97]) 3 = some ([], 12) := by
    rw [wrap_is (by decide) (by omega) (by have : (ByteArray.mk #[97]).size = 1 := rfl
                                           omega)]; decide
  rw [a1, Option.bind_some]
  simp only
  rw [a2, Option.bind_some]
  simp only
  rw [a3, Option.bind_some, a4, Option.bind_some, a5, Option.bind_some, a6, Option.bind_some, line_is (by simp) (by simp; omega), line_is (by simp) (by simp; omega), isB_is (by simp) (by simp; omega), isB_is (by simp) (by simp; omega)]
  decide

/-- The breaks from a place on, however many. -/
def wrL (s : ByteArray) (w : Int) : Nat → Nat → Int → List Int
  | 0, _, _ => []
  | d + 1, t, n => if t < s.size then (if usz s t > w - n then [(t : Int)] else []) ++ wrL s w d (t + (usz s t).toNat) (if bt s t = 10 then 0 else (if usz s t > w - n then 0 else n) + usz s t) else []

theorem wrF_wrL {s : ByteArray} {w : Int} : ∀ {d t : Nat} {out : List Int} {n : Int}, (wrF s w d t out n).length < 60 → wrF s w d t out n = out ++ wrL s w d t n
  | 0, _, _, _, _ => by simp [wrF, wrL]
  | d + 1, t, out, n, h => by
    have h60 : out.length < 60 := by
      rcases Nat.lt_or_ge out.length 60 with h' | h'
      · exact h'
      · rw [wrF_full h'] at h; omega
    rw [wrF] at h ⊢
    rw [wrL]
    by_cases ht : t < s.size
    · rw [if_pos ht] at h ⊢
      rw [if_pos ht, if_pos h60] at *
      rw [wrF_wrL h]
      by_cases hb : usz s t > w - n
      · simp only [if_pos hb, List.append_assoc]
      · simp only [if_neg hb, List.nil_append]
    · rw [if_neg ht, if_neg ht, List.append_nil]

theorem wrF_ok {s : ByteArray} {w : Int} (hw : 4 ≤ w) : ∀ {d t m : Nat} {out : List Int} {n : Int}, d ≤ m → uval s m t = true → t ≤ s.size → (t = 0 → n = 0) → out.Pairwise (· < ·) → (∀ x ∈ out, 0 < x ∧ x < t) → (wrF s w d t out n).Pairwise (· < ·) ∧ ∀ x ∈ wrF s w d t out n, 0 < x ∧ x < s.size + 1
  | 0, t, m, out, n, _, _, ht, _, h1, h2 => ⟨h1, fun x hx => by have := h2 x hx; omega⟩
  | d + 1, t, m, out, n, hm, hv, ht, h0, h1, h2 => by
    obtain ⟨m, rfl⟩ : ∃ l, m = l + 1 := ⟨m - 1, by omega⟩
    rw [wrF]
    by_cases h : t < s.size
    · rw [uval, if_pos (show (t : Int) < s.size by omega)] at hv
      have hz : usz s t ≠ 0 := fun e => by rw [if_pos e] at hv; cases hv
      rw [if_neg hz] at hv
      have hu := usz_ok (s := s) (a := (t : Int))
      have hu3 := hu.2.2 (by omega) (by omega)
      rw [show (t : Int) + usz s t = ((t + (usz s t).toNat : Nat) : Int) by omega] at hv
      rw [if_pos h]
      refine wrF_ok hw (show d ≤ m by omega) hv (by omega) (fun e => by omega) ?_ fun x hx => ?_
      · by_cases hb : usz s t > w - n
        · rw [if_pos hb]
          split
          · refine List.pairwise_append.2 ⟨h1, by simp, fun x hx y hy => ?_⟩
            rw [List.mem_singleton] at hy
            have := h2 x hx
            omega
          · exact h1
        · rw [if_neg hb]; exact h1
      · by_cases hb : usz s t > w - n
        · rw [if_pos hb] at hx
          by_cases h60 : out.length < 60
          · rw [if_pos h60] at hx
            rcases List.mem_append.1 hx with hx | hx
            · have := h2 x hx; omega
            · rw [List.mem_singleton] at hx
              have : t ≠ 0 := fun e => by have := h0 e; omega
              omega
          · rw [if_neg h60] at hx
            have := h2 x hx; omega
        · rw [if_neg hb] at hx
          have := h2 x hx; omega
    · rw [if_neg h]
      exact ⟨h1, fun x hx => by have := h2 x hx; omega⟩

theorem wrL_mem {s : ByteArray} {w : Int} : ∀ {d t : Nat} {n : Int}, ∀ x ∈ wrL s w d t n, (t : Int) ≤ x ∧ x < s.size
  | 0, _, _, x, h => by cases h
  | d + 1, t, n, x, h => by
    rw [wrL] at h
    by_cases ht : t < s.size
    · rw [if_pos ht] at h
      rcases List.mem_append.1 h with h | h
      · by_cases hb : usz s t > w - n
        · rw [if_pos hb, List.mem_singleton] at h; omega
        · rw [if_neg hb] at h; cases h
      · have := wrL_mem x h; omega
    · rw [if_neg ht] at h; cases h

theorem fit_no {K : Nat} {s : ByteArray} {r : List Int × Int} {wd W : Int} (hs : s.size ≤ 1000) (hr : r.1.length ≤ 1000) (hW : IntKind.wrap .i64 (IntKind.wrap .i64 (Int.tmod wd 30) + 4) = W) {k f j t : Nat} (ht : t ≤ s.size) (hn : j < r.1.length → r.1.getD j 0 ≠ t) (h1 : f ≤ t) (h2 : (t : Int) - f ≤ W) (hj : j ≤ 1000) :
    palinodelaw16_BreaksFit.l0 K s r wd (k + 1) f j t = if t < s.size ∧ bt s t = 10 then palinodelaw16_BreaksFit.l0 K s r wd k ((t + 1 : Nat) : Int) j ((t + 1 : Nat) : Int) else palinodelaw16_BreaksFit.l0 K s r wd k f j ((t + 1 : Nat) : Int) := by
  have e1 : (if decide ((j : Int) < ((r.1.length : Nat) : Int)) = true then if 0 ≤ (j : Int) ∧ (j : Int) < ((r.1.length : Nat) : Int) then some (r.1.getD (Int.toNat (j : Int)) 0 == (t : Int)) else none else some false) = some false := by
    by_cases c : j < r.1.length
    · rw [if_pos (by simp; omega), if_pos (by omega), Int.toNat_natCast]
      congr 1
      rw [beq_eq_false_iff_ne]; exact hn c
    · rw [if_neg (by simp; omega)]
  have e2 : (if decide ((t : Int) < ((s.size : Nat) : Int)) = true then if 0 ≤ (t : Int) ∧ (t : Int) < ((s.size : Nat) : Int) then some (bt s t == (10 : Int)) else none else some false) = some (decide (t < s.size ∧ bt s t = 10)) := by
    by_cases c : t < s.size
    · rw [if_pos (by simp; omega), if_pos (by omega)]
      congr 1
      rw [Bool.eq_iff_iff, beq_iff_eq, decide_eq_true_eq]; exact ⟨fun h => ⟨c, h⟩, fun h => h.2⟩
    · rw [if_neg (by simp; omega)]; congr 1; symm; rw [decide_eq_false_iff_not]; exact fun h => c h.1
  rw [palinodelaw16_BreaksFit.l0, if_pos (by simp; omega), e1, Option.bind_some, if_neg (by simp), Option.bind_some, if_neg (by simp), if_neg (by simp), Option.bind_some, hW, w64 (n := (t : Int) - (f : Int)) (by omega) (by omega), if_neg (by simp; omega), e2, Option.bind_some, w64 (n := (t : Int) + 1) (by omega) (by omega)]
  simp only [decide_eq_true_eq]
  rfl

theorem fit_yes {K : Nat} {s : ByteArray} {r : List Int × Int} {wd W : Int} (hK : s.size + 10 ≤ K) (hs : s.size ≤ 1000) (hr : r.1.length ≤ 1000) (hW : IntKind.wrap .i64 (IntKind.wrap .i64 (Int.tmod wd 30) + 4) = W) (hW0 : 0 ≤ W) {k f j t : Nat} (ht : t < s.size) (hj : j < r.1.length) (hn : r.1.getD j 0 = t) (hE : isE s t = true) (h1 : f ≤ t) (h2 : (t : Int) - f + usz s t > W) :
    palinodelaw16_BreaksFit.l0 K s r wd (k + 1) f j t = if bt s t = 10 then palinodelaw16_BreaksFit.l0 K s r wd k ((t + 1 : Nat) : Int) ((j + 1 : Nat) : Int) ((t + 1 : Nat) : Int) else palinodelaw16_BreaksFit.l0 K s r wd k t ((j + 1 : Nat) : Int) ((t + 1 : Nat) : Int) := by
  have hu := usz_ok (s := s) (a := (t : Int))
  have e1 : (if decide ((j : Int) < ((r.1.length : Nat) : Int)) = true then if 0 ≤ (j : Int) ∧ (j : Int) < ((r.1.length : Nat) : Int) then some (r.1.getD (Int.toNat (j : Int)) 0 == (t : Int)) else none else some false) = some true := by
    rw [if_pos (by simp; omega), if_pos (by omega), Int.toNat_natCast, hn, beq_self_eq_true]
  have e2 : (if decide ((t : Int) < ((s.size : Nat) : Int)) = true then if 0 ≤ (t : Int) ∧ (t : Int) < ((s.size : Nat) : Int) then some (bt s t == (10 : Int)) else none else some false) = some (decide (bt s t = 10)) := by
    rw [if_pos (by simp; omega), if_pos (by omega)]
    rfl
  rw [palinodelaw16_BreaksFit.l0, if_pos (by simp; omega), e1, Option.bind_some, if_pos rfl, redge_is hK (by omega), Option.bind_some, hE, if_neg (by simp), rsize_is (by omega) (by omega), Option.bind_some, hW, w64 (n := (t : Int) - (f : Int)) (by omega) (by omega), w64 (n := (t : Int) - (f : Int) + usz s t) (by omega) (by omega), decide_eq_false (by omega), Option.bind_some, if_neg (by simp), if_pos rfl, Option.bind_some, w64 (n := (t : Int) - (t : Int)) (by omega) (by omega), if_neg (by simp; omega), e2, Option.bind_some, w64 (n := (t : Int) + 1) (by omega) (by omega), w64 (n := (j : Int) + 1) (by omega) (by omega)]
  simp only [decide_eq_true_eq]
  rfl

/-- Within a point. -/
theorem fit_in {K : Nat} {s : ByteArray} {r : List Int × Int} {wd W : Int} (hs : s.size ≤ 1000) (hr : r.1.length ≤ 1000) (hW : IntKind.wrap .i64 (IntKind.wrap .i64 (Int.tmod wd 30) + 4) = W) {f j t' : Nat} (ht : t' ≤ s.size) (hn : ∀ x ∈ r.1.drop j, (t' : Int) ≤ x) (h2 : (t' : Int) - f ≤ W) (hj : j ≤ 1000) : ∀ (e t k : Nat), t + e = t' → f ≤ t → (∀ i : Nat, t ≤ i → i < t' → bt s i ≠ 10) →
    palinodelaw16_BreaksFit.l0 K s r wd (k + e) f j t = palinodelaw16_BreaksFit.l0 K s r wd k f j t'
  | 0, t, k, he, h1, hb => by rw [show t = t' by omega]; rfl
  | e + 1, t, k, he, h1, hb => by
    rw [show k + (e + 1) = (k + e) + 1 by omega, fit_no hs hr hW (by omega) (fun c => ?_) h1 (by omega) hj, if_neg fun h => hb t (Nat.le_refl _) (by omega) h.2]
    · exact fit_in hs hr hW ht hn h2 hj e (t + 1) k (by omega) (by omega) fun i h1 h2 => hb i (by omega) h2
    · have := hn _ (getD_mem_drop c (Nat.le_refl j))
      omega

theorem edge_of {s : ByteArray} (hv : uvalid s = true) {t : Nat} (ht : t < s.size) (hz : usz s t ≠ 0) : isE s t = true := by
  unfold isE
  rw [decide_eq_true (by omega), hv, Bool.true_and, Bool.true_and]
  have : ¬ cont (bt s t) := by
    intro hc
    unfold cont at hc
    refine hz ?_
    unfold usz uszB
    rw [if_neg (by omega), if_neg (by omega), if_neg (by omega), if_neg (by omega), if_neg (by omega)]
  rw [decide_eq_false this]; simp

theorem fit_loop {K : Nat} {s : ByteArray} {r : List Int × Int} {wd W : Int} (hK : s.size + 10 ≤ K) (hs : s.size ≤ 1000) (hr : r.1.length ≤ 1000) (hW : IntKind.wrap .i64 (IntKind.wrap .i64 (Int.tmod wd 30) + 4) = W) (hW4 : 4 ≤ W) (hvs : uvalid s = true) : ∀ (d t j k m f : Nat), r.1.drop j = wrL s W d t ((t : Int) - f) → s.size ≤ t + d → t ≤ s.size → d ≤ m → uval s m t = true → f ≤ t → (t : Int) - f ≤ W → s.size - t + 2 ≤ k → j ≤ r.1.length →
    palinodelaw16_BreaksFit.l0 K s r wd k f j t = some true
  | 0, t, j, k, m, f, hd, hsz, ht, hm, hv, h1, h2, hk, hj => by
    obtain ⟨k, rfl⟩ : ∃ m, k = m + 1 + 1 := ⟨k - 2, by omega⟩
    rw [wrL] at hd
    have := drop_nil hd
    rw [fit_no hs hr hW ht (fun c => by omega) h1 h2 (by omega), if_neg (by omega), palinodelaw16_BreaksFit.l0, if_neg (by simp; omega)]
    congr 1; rw [beq_iff_eq]; omega
  | d + 1, t, j, k, m, f, hd, hsz, ht, hm, hv, h1, h2, hk, hj => by
    rw [wrL] at hd
    by_cases h : t < s.size
    · obtain ⟨m, rfl⟩ : ∃ l, m = l + 1 := ⟨m - 1, by omega⟩
      rw [uval, if_pos (show (t : Int) < s.size by omega)] at hv
      have hz : usz s t ≠ 0 := fun e => by rw [if_pos e] at hv; cases hv
      rw [if_neg hz] at hv
      have hu := usz_ok (s := s) (a := (t : Int))
      have hu3 := hu.2.2 (by omega) (by omega)
      obtain ⟨z, hz'⟩ : ∃ z : Nat, usz s t = z := ⟨(usz s t).toNat, by omega⟩
      have hcont : ∀ i : Nat, t + 1 ≤ i → i < t + z → bt s i ≠ 10 := fun i i1 i2 e => by
        have := usz_cont (s := s) (i := t) (j := i) (by omega) (by rw [hz']; omega)
        unfold cont at this; omega
      have hnl : bt s t = 10 → z = 1 := fun e => by
        unfold usz uszB at hz'
        rw [if_neg (by omega), if_pos (by omega)] at hz'; omega
      have hE := edge_of hvs h hz
      rw [hz'] at hv hd hu hu3 hz
      rw [show (t : Int) + (z : Int) = ((t + z : Nat) : Int) by omega] at hv
      obtain ⟨k, rfl⟩ : ∃ m, k = m + (z - 1) + 1 := ⟨k - z, by omega⟩
      rw [if_pos h, Int.toNat_natCast] at hd
      by_cases hb : (z : Int) > W - ((t : Int) - f)
      · rw [if_pos hb, if_pos hb, List.singleton_append] at hd
        obtain ⟨hj', hx, hd'⟩ := drop_cons hd (0 : Int)
        rw [fit_yes hK hs hr hW (by omega) h hj' hx hE h1 (by rw [hz']; omega)]
        by_cases hn : bt s t = 10
        · rw [if_pos hn] at hd' ⊢
          have := hnl hn
          subst this
          exact fit_loop hK hs hr hW hW4 hvs d (t + 1) (j + 1) _ m (t + 1) (by rw [hd']; congr 1; omega) (by omega) (by omega) (by omega) hv (by omega) (by omega) (by omega) (by omega)
        · rw [if_neg hn] at hd' ⊢
          rw [fit_in hs hr hW (t' := t + z) (by omega) (fun x hx => by rw [hd'] at hx; exact (wrL_mem x hx).1) (by omega) (by omega) (z - 1) (t + 1) k (by omega) (by omega) hcont]
          exact fit_loop hK hs hr hW hW4 hvs d (t + z) (j + 1) k m t (by rw [hd']; congr 1; omega) (by omega) (by omega) (by omega) hv (by omega) (by omega) (by omega) (by omega)
      · rw [if_neg hb, if_neg hb, List.nil_append] at hd
        have hge : ∀ x ∈ r.1.drop j, ((t + z : Nat) : Int) ≤ x := fun x hx => by rw [hd] at hx; exact (wrL_mem x hx).1
        rw [fit_no hs hr hW (by omega) (fun c => by have := hge _ (getD_mem_drop c (Nat.le_refl j)); omega) h1 h2 (by omega)]
        by_cases hn : bt s t = 10
        · rw [if_pos ⟨h, hn⟩]
          rw [if_pos hn] at hd
          have := hnl hn
          subst this
          exact fit_loop hK hs hr hW hW4 hvs d (t + 1) j _ m (t + 1) (by rw [hd]; congr 1; omega) (by omega) (by omega) (by omega) hv (by omega) (by omega) (by omega) (by omega)
        · rw [if_neg fun h' => hn h'.2]
          rw [if_neg hn] at hd
          rw [fit_in hs hr hW (t' := t + z) (by omega) hge (by omega) (by omega) (z - 1) (t + 1) k (by omega) (by omega) hcont]
          exact fit_loop hK hs hr hW hW4 hvs d (t + z) j k m f (by rw [hd]; congr 1; omega) (by omega) (by omega) (by omega) hv (by omega) (by omega) (by omega) (by omega)
    · obtain ⟨k, rfl⟩ : ∃ m, k = m + 1 + 1 := ⟨k - 2, by omega⟩
      rw [if_neg h] at hd
      have := drop_nil hd
      rw [fit_no hs hr hW ht (fun c => by omega) h1 h2 (by omega), if_neg (by omega), palinodelaw16_BreaksFit.l0, if_neg (by simp; omega)]
      congr 1; rw [beq_iff_eq]; omega

theorem BreaksFit_pure (s : ByteArray) (w : Int) (os : Kd.ok .str s) (ow : Kd.ok (.int .u8) w) : ∃ K, palinodelaw16_BreaksFit K s w = some true := by
  refine ⟨200000, ?_⟩
  have bw := bounds_u8 ow
  have ht := tmod_u8 (m := 30) bw.1 (by omega)
  clear os ow
  unfold palinodelaw16_BreaksFit
  rw [known16 (by omega), Option.bind_some, if_neg (by simp)]
  by_cases hs : s.size > 200
  · rw [if_pos (by simp; omega), Option.bind_some, if_pos rfl]
  rw [if_neg (by simp; omega), rvalid_is (by omega) (by omega), Option.bind_some, Option.bind_some]
  cases hv : uvalid s with
  | false => rfl
  | true =>
    rw [if_neg (by simp)]
    obtain ⟨W, hW, hW1, hW2⟩ : ∃ W : Int, IntKind.wrap .i64 (IntKind.wrap .i64 (Int.tmod w 30) + 4) = W ∧ 4 ≤ W ∧ W ≤ 40 := by
      refine ⟨Int.tmod w 30 + 4, ?_, by omega, by omega⟩
      rw [w64 (n := Int.tmod w 30) (by omega) (by omega), w64 (by omega) (by omega)]
    have hl := wrF_len (s := s) (w := W) (d := s.size) (t := 0) (out := []) (n := 0) (by simp)
    obtain ⟨k1, k2⟩ := wrF_ok (s := s) (w := W) hW1 (d := s.size) (t := 0) (m := s.size) (out := []) (n := 0) (Nat.le_refl _) hv (by omega) (fun _ => rfl) List.Pairwise.nil (fun x hx => by cases hx)
    have hi : isB ((s.size : Int) + 1) (wrF s W s.size 0 [] 0) = true := isB_of (okB_of k1 k2) (by omega) hl
    rw [hW, wrap_is (by omega) (by omega) (by omega), if_pos ⟨hv, hW1⟩, Option.bind_some]
    have hf := fun h => wrF_wrL (s := s) (w := W) (d := s.size) (t := 0) (out := []) (n := 0) h
    generalize wrF s W s.size 0 [] 0 = L at hl hi hf
    simp only
    rw [if_neg (by simp), w64 (n := ((s.size : Nat) : Int) + 1) (by omega) (by omega), isB_is (by omega) (by omega), hi, Option.bind_some, Option.bind_some, if_neg (by simp)]
    by_cases h60 : L.length = 60
    · rw [if_pos (by rw [beq_iff_eq]; omega)]
    · rw [if_neg (by rw [beq_iff_eq]; omega)]
      have e := fit_loop (K := 200000) (s := s) (r := (L, 0)) (wd := w) (by omega) (by omega) (by simp only; omega) hW hW1 hv s.size 0 0 200000 s.size 0 (by rw [List.drop_zero, hf (by omega)]; rfl) (by omega) (by omega) (Nat.le_refl _) hv (by omega) (by omega) (by omega) (by omega)
      exact e

end Go.Pal
