/- Erased again and again from the end on, nothing is left. -/
import Derived.Test.YtoennnfpnfaffaaFunCaretsWords
namespace Go.Pal
open Go
set_option linter.unusedVariables false
set_option linter.unusedSimpArgs false
set_option linter.unnecessarySimpa false
theorem w64 {n : Int} (h1 : -9223372036854775808 ≤ n) (h2 : n < 9223372036854775808) : IntKind.wrap .i64 n = n := by
  simp only [IntKind.wrap, IntKind.bits, IntKind.signed]
  simp
  omega

theorem drop_cons {α : Type} {l : List α} {j : Nat} {g : α} {r : List α} (h : l.drop j = g :: r) (d : α) : j < l.length ∧ l.getD j d = g ∧ l.drop (j + 1) = r := by
  have hj : j < l.length := by
    rcases Nat.lt_or_ge j l.length with h' | h'
    · exact h'
    · rw [List.drop_eq_nil_of_le h'] at h; cases h
  rw [List.drop_eq_getElem_cons hj] at h
  obtain ⟨h1, h2⟩ := List.cons.inj h
  exact ⟨hj, by simp [List.getD, hj, h1], h2⟩

theorem drop_nil {α : Type} {l : List α} {j : Nat} (h : l.drop j = []) : l.length ≤ j := List.drop_eq_nil_iff.1 h

theorem split_last {α : Type} : ∀ {l : List α}, l ≠ [] → ∃ m x, l = m ++ [x] := by
  intro l h
  exact ⟨l.dropLast, l.getLast h, (List.dropLast_concat_getLast h).symm⟩

/-- Place by place through two rows of counts. -/
def thru (G : Int → Int → List Int) : List Int → List Int → List Int
  | c :: a, d :: b => G c d ++ thru G a b
  | _, _ => []

/-- A count for each two. -/
def two (F : Int → Int → Int) (a b : List Int) : List Int := thru (fun c d => [F c d]) a b

/-- A text's bytes. -/
def txt (s : ByteArray) : List Int := s.data.toList.map fun b => (b.toNat : Int)

theorem txt_len {s : ByteArray} : (txt s).length = s.size := by simp [txt]

theorem ofBytes_txt {s : ByteArray} : ofBytes (txt s) = s := by
  cases s with
  | mk d =>
    unfold ofBytes txt
    rw [List.map_map]
    have : ((fun n : Int => UInt8.ofNat n.toNat) ∘ fun b : UInt8 => (b.toNat : Int)) = id := by
      funext b; simp
    rw [this]; simp

theorem txt_extract {s : ByteArray} {i j : Nat} : txt (s.extract i j) = ((txt s).drop i).take (j - i) := by
  unfold txt
  rw [ByteArray.data_extract, Array.toList_extract, List.map_take.symm.symm]
  simp [List.extract_eq_take_drop, List.map_drop]

theorem txt_get {s : ByteArray} {j : Nat} (h : j < (txt s).length) (hs : j < s.size) : (txt s)[j] = (s[j].toNat : Int) := by
  have : ∀ (l : List Int) (h : j < l.length), l = s.data.toList.map (fun b => (b.toNat : Int)) → l[j] = (s[j].toNat : Int) := by
    intro l h e
    subst e
    rw [List.getElem_map, Array.getElem_toList]
    rfl
  exact this _ h rfl

theorem bt_is {s : ByteArray} {j : Nat} (h : j < (txt s).length) : bt s (j : Int) = (txt s)[j] := by
  have hs : j < s.size := by rw [← txt_len]; exact h
  rw [txt_get h hs]
  unfold bt
  simp [hs]

theorem byte_all {P : Int → Prop} (h : ∀ m : Fin 256, P ((m.val : Nat) : Int)) {c : Int} (h0 : 0 ≤ c) (h1 : c ≤ 255) : P c := by
  have := h ⟨c.toNat, by omega⟩
  simpa [Int.toNat_of_nonneg h0] using this

theorem bt_ok {s : ByteArray} {i : Int} : 0 ≤ bt s i ∧ bt s i ≤ 255 := by
  unfold bt
  have := (s[i.toNat]?.getD 0).toNat_lt
  omega

/-- A byte that goes on. -/
def cont (b : Int) : Prop := 128 ≤ b ∧ b < 192

instance (b : Int) : Decidable (cont b) := inferInstanceAs (Decidable (_ ∧ _))

theorem and_192 {b : Int} (h0 : 0 ≤ b) (h1 : b ≤ 255) : (IntKind.wrap .u8 (BitVec.toNat (BitVec.ofInt (IntKind.bits .u8) b &&& BitVec.ofInt (IntKind.bits .u8) (192 : Int))) != (128 : Int)) = !decide (cont b) :=
  byte_all (P := fun b => (IntKind.wrap .u8 (BitVec.toNat (BitVec.ofInt (IntKind.bits .u8) b &&& BitVec.ofInt (IntKind.bits .u8) (192 : Int))) != (128 : Int)) = !decide (cont b)) (by decide +kernel) h0 h1

theorem not_192 {b : Int} (h0 : 0 ≤ b) (h1 : b ≤ 255) : IntKind.wrap .u8 (BitVec.toNat (BitVec.ofInt (IntKind.bits .u8) b &&& ~~~BitVec.ofInt (IntKind.bits .u8) (192 : Int))) = b % 64 :=
  byte_all (P := fun b => IntKind.wrap .u8 (BitVec.toNat (BitVec.ofInt (IntKind.bits .u8) b &&& ~~~BitVec.ofInt (IntKind.bits .u8) (192 : Int))) = b % 64) (by decide +kernel) h0 h1

theorem not_128 {b : Int} (h0 : 0 ≤ b) (h1 : b ≤ 255) : IntKind.wrap .u8 (BitVec.toNat (BitVec.ofInt (IntKind.bits .u8) b &&& ~~~BitVec.ofInt (IntKind.bits .u8) (128 : Int))) = b % 128 :=
  byte_all (P := fun b => IntKind.wrap .u8 (BitVec.toNat (BitVec.ofInt (IntKind.bits .u8) b &&& ~~~BitVec.ofInt (IntKind.bits .u8) (128 : Int))) = b % 128) (by decide +kernel) h0 h1

theorem not_224 {b : Int} (h0 : 0 ≤ b) (h1 : b ≤ 255) : IntKind.wrap .u8 (BitVec.toNat (BitVec.ofInt (IntKind.bits .u8) b &&& ~~~BitVec.ofInt (IntKind.bits .u8) (224 : Int))) = b % 32 :=
  byte_all (P := fun b => IntKind.wrap .u8 (BitVec.toNat (BitVec.ofInt (IntKind.bits .u8) b &&& ~~~BitVec.ofInt (IntKind.bits .u8) (224 : Int))) = b % 32) (by decide +kernel) h0 h1

theorem not_240 {b : Int} (h0 : 0 ≤ b) (h1 : b ≤ 255) : IntKind.wrap .u8 (BitVec.toNat (BitVec.ofInt (IntKind.bits .u8) b &&& ~~~BitVec.ofInt (IntKind.bits .u8) (240 : Int))) = b % 16 :=
  byte_all (P := fun b => IntKind.wrap .u8 (BitVec.toNat (BitVec.ofInt (IntKind.bits .u8) b &&& ~~~BitVec.ofInt (IntKind.bits .u8) (240 : Int))) = b % 16) (by decide +kernel) h0 h1

theorem not_248 {b : Int} (h0 : 0 ≤ b) (h1 : b ≤ 255) : IntKind.wrap .u8 (BitVec.toNat (BitVec.ofInt (IntKind.bits .u8) b &&& ~~~BitVec.ofInt (IntKind.bits .u8) (248 : Int))) = b % 8 :=
  byte_all (P := fun b => IntKind.wrap .u8 (BitVec.toNat (BitVec.ofInt (IntKind.bits .u8) b &&& ~~~BitVec.ofInt (IntKind.bits .u8) (248 : Int))) = b % 8) (by decide +kernel) h0 h1

theorem is_128 {b : Int} (h0 : 0 ≤ b) (h1 : b ≤ 255) : (IntKind.wrap .u8 (BitVec.toNat (BitVec.ofInt (IntKind.bits .u8) b &&& BitVec.ofInt (IntKind.bits .u8) (128 : Int))) == (0 : Int)) = decide (b < 128) :=
  byte_all (P := fun b => (IntKind.wrap .u8 (BitVec.toNat (BitVec.ofInt (IntKind.bits .u8) b &&& BitVec.ofInt (IntKind.bits .u8) (128 : Int))) == (0 : Int)) = decide (b < 128)) (by decide +kernel) h0 h1

theorem is_224 {b : Int} (h0 : 0 ≤ b) (h1 : b ≤ 255) : (IntKind.wrap .u8 (BitVec.toNat (BitVec.ofInt (IntKind.bits .u8) b &&& BitVec.ofInt (IntKind.bits .u8) (224 : Int))) == (192 : Int)) = decide (192 ≤ b ∧ b < 224) :=
  byte_all (P := fun b => (IntKind.wrap .u8 (BitVec.toNat (BitVec.ofInt (IntKind.bits .u8) b &&& BitVec.ofInt (IntKind.bits .u8) (224 : Int))) == (192 : Int)) = decide (192 ≤ b ∧ b < 224)) (by decide +kernel) h0 h1

theorem is_240 {b : Int} (h0 : 0 ≤ b) (h1 : b ≤ 255) : (IntKind.wrap .u8 (BitVec.toNat (BitVec.ofInt (IntKind.bits .u8) b &&& BitVec.ofInt (IntKind.bits .u8) (240 : Int))) == (224 : Int)) = decide (224 ≤ b ∧ b < 240) :=
  byte_all (P := fun b => (IntKind.wrap .u8 (BitVec.toNat (BitVec.ofInt (IntKind.bits .u8) b &&& BitVec.ofInt (IntKind.bits .u8) (240 : Int))) == (224 : Int)) = decide (224 ≤ b ∧ b < 240)) (by decide +kernel) h0 h1

theorem is_248 {b : Int} (h0 : 0 ≤ b) (h1 : b ≤ 255) : (IntKind.wrap .u8 (BitVec.toNat (BitVec.ofInt (IntKind.bits .u8) b &&& BitVec.ofInt (IntKind.bits .u8) (248 : Int))) == (240 : Int)) = decide (240 ≤ b ∧ b < 248) :=
  byte_all (P := fun b => (IntKind.wrap .u8 (BitVec.toNat (BitVec.ofInt (IntKind.bits .u8) b &&& BitVec.ofInt (IntKind.bits .u8) (248 : Int))) == (240 : Int)) = decide (240 ≤ b ∧ b < 248)) (by decide +kernel) h0 h1

theorem and_63 {b : Int} (h0 : 0 ≤ b) (h1 : b ≤ 255) : IntKind.wrap .i64 (BitVec.toNat (BitVec.ofInt (IntKind.bits .i64) b &&& BitVec.ofInt (IntKind.bits .i64) (63 : Int))) = b % 64 :=
  byte_all (P := fun b => IntKind.wrap .i64 (BitVec.toNat (BitVec.ofInt (IntKind.bits .i64) b &&& BitVec.ofInt (IntKind.bits .i64) (63 : Int))) = b % 64) (by decide +kernel) h0 h1

theorem and_31 {b : Int} (h0 : 0 ≤ b) (h1 : b ≤ 255) : IntKind.wrap .i64 (BitVec.toNat (BitVec.ofInt (IntKind.bits .i64) b &&& BitVec.ofInt (IntKind.bits .i64) (31 : Int))) = b % 32 :=
  byte_all (P := fun b => IntKind.wrap .i64 (BitVec.toNat (BitVec.ofInt (IntKind.bits .i64) b &&& BitVec.ofInt (IntKind.bits .i64) (31 : Int))) = b % 32) (by decide +kernel) h0 h1

theorem and_15 {b : Int} (h0 : 0 ≤ b) (h1 : b ≤ 255) : IntKind.wrap .i64 (BitVec.toNat (BitVec.ofInt (IntKind.bits .i64) b &&& BitVec.ofInt (IntKind.bits .i64) (15 : Int))) = b % 16 :=
  byte_all (P := fun b => IntKind.wrap .i64 (BitVec.toNat (BitVec.ofInt (IntKind.bits .i64) b &&& BitVec.ofInt (IntKind.bits .i64) (15 : Int))) = b % 16) (by decide +kernel) h0 h1

theorem and_7 {b : Int} (h0 : 0 ≤ b) (h1 : b ≤ 255) : IntKind.wrap .i64 (BitVec.toNat (BitVec.ofInt (IntKind.bits .i64) b &&& BitVec.ofInt (IntKind.bits .i64) (7 : Int))) = b % 8 :=
  byte_all (P := fun b => IntKind.wrap .i64 (BitVec.toNat (BitVec.ofInt (IntKind.bits .i64) b &&& BitVec.ofInt (IntKind.bits .i64) (7 : Int))) = b % 8) (by decide +kernel) h0 h1

theorem div_64 {b : Int} (h0 : 0 ≤ b) (h1 : b ≤ 255) : (Int.fdiv b 64 != 2) = !decide (cont b) :=
  byte_all (P := fun b => (Int.fdiv b 64 != 2) = !decide (cont b)) (by decide +kernel) h0 h1

theorem or_lo {r x : Nat} (hx : x < 64) : (r * 64) ||| x = r * 64 + x := by
  have := Nat.two_pow_add_eq_or_of_lt (i := 6) hx r
  rw [Nat.mul_comm] at this
  exact this.symm

theorem w32 {n : Int} (h1 : -2147483648 ≤ n) (h2 : n < 2147483648) : IntKind.wrap .i32 n = n := by
  simp only [IntKind.wrap, IntKind.bits, IntKind.signed]
  simp
  omega

theorem or_32 {r x : Int} (h0 : 0 ≤ r) (h1 : r < 1048576) (h2 : 0 ≤ x) (h3 : x < 64) : IntKind.wrap .i32 (BitVec.toNat (BitVec.ofInt (IntKind.bits .i32) (IntKind.wrap .i32 (r * (64 : Int))) ||| BitVec.ofInt (IntKind.bits .i32) (IntKind.wrap .i32 x))) = r * 64 + x := by
  rw [w32 (n := r * 64) (by omega) (by omega), w32 (n := x) (by omega) (by omega)]
  obtain ⟨a, rfl⟩ : ∃ a : Nat, r = a := ⟨r.toNat, by omega⟩
  obtain ⟨b, rfl⟩ : ∃ b : Nat, x = b := ⟨x.toNat, by omega⟩
  have e1 : (BitVec.ofInt (IntKind.bits .i32) ((a : Int) * 64) ||| BitVec.ofInt (IntKind.bits .i32) (b : Int)).toNat = a * 64 + b := by
    rw [BitVec.toNat_or, BitVec.toNat_ofInt, BitVec.toNat_ofInt]
    have h4 : ((a : Int) * 64 % ((2 ^ IntKind.bits .i32 : Nat) : Int)).toNat = a * 64 := by
      have : IntKind.bits .i32 = 32 := rfl
      rw [this]; omega
    have h5 : ((b : Int) % ((2 ^ IntKind.bits .i32 : Nat) : Int)).toNat = b := by
      have : IntKind.bits .i32 = 32 := rfl
      rw [this]; omega
    rw [h4, h5, or_lo (by omega)]
  rw [e1, w32 (by omega) (by omega)]
  omega

theorem or_64 {r x : Int} (h0 : 0 ≤ r) (h1 : r < 1048576) (h2 : 0 ≤ x) (h3 : x < 64) : IntKind.wrap .i64 (BitVec.toNat (BitVec.ofInt (IntKind.bits .i64) (IntKind.wrap .i64 (r * (64 : Int))) ||| BitVec.ofInt (IntKind.bits .i64) x)) = r * 64 + x := by
  rw [w64 (n := r * 64) (by omega) (by omega)]
  obtain ⟨a, rfl⟩ : ∃ a : Nat, r = a := ⟨r.toNat, by omega⟩
  obtain ⟨b, rfl⟩ : ∃ b : Nat, x = b := ⟨x.toNat, by omega⟩
  have e1 : (BitVec.ofInt (IntKind.bits .i64) ((a : Int) * 64) ||| BitVec.ofInt (IntKind.bits .i64) (b : Int)).toNat = a * 64 + b := by
    rw [BitVec.toNat_or, BitVec.toNat_ofInt, BitVec.toNat_ofInt]
    have h4 : ((a : Int) * 64 % ((2 ^ IntKind.bits .i64 : Nat) : Int)).toNat = a * 64 := by
      have : IntKind.bits .i64 = 64 := rfl
      rw [this]; omega
    have h5 : ((b : Int) % ((2 ^ IntKind.bits .i64 : Nat) : Int)).toNat = b := by
      have : IntKind.bits .i64 = 64 := rfl
      rw [this]; omega
    rw [h4, h5, or_lo (by omega)]
  rw [e1, w64 (by omega) (by omega)]
  omega

/-- How many bytes a code point has that begins with these, of so many; 0: there is none. -/
def uszB (n c d e f : Int) : Int :=
  if c < 128 then 1
  else if 192 ≤ c ∧ c < 224 then (if 2 ≤ n ∧ cont d ∧ 128 ≤ c % 32 * 64 + d % 64 then 2 else 0)
  else if 224 ≤ c ∧ c < 240 then (if 3 ≤ n ∧ cont d ∧ cont e ∧ 2048 ≤ (c % 16 * 64 + d % 64) * 64 + e % 64 ∧ ¬ (55296 ≤ (c % 16 * 64 + d % 64) * 64 + e % 64 ∧ (c % 16 * 64 + d % 64) * 64 + e % 64 < 57344) then 3 else 0)
  else if 240 ≤ c ∧ c < 248 then (if 4 ≤ n ∧ cont d ∧ cont e ∧ cont f ∧ 65536 ≤ ((c % 8 * 64 + d % 64) * 64 + e % 64) * 64 + f % 64 ∧ ((c % 8 * 64 + d % 64) * 64 + e % 64) * 64 + f % 64 ≤ 1114111 then 4 else 0)
  else 0

theorem long_end {K : Nat} {s : ByteArray} {a : Int} {n r i : Int} {k : Nat} (h : ¬ i < n) : utf_long.l0 K n a s (k + 1) r i = some (.inr r) := by
  rw [utf_long.l0, if_neg (by simpa using h)]

theorem long_bad {K : Nat} {s : ByteArray} {a : Int} (h0 : 0 ≤ a) (hs : (s.size : Int) ≤ 1000000000000) {n r i : Int} {k : Nat} (h : i < n) (hi : 0 ≤ i) (hr : a + i < s.size) (hc : ¬ cont (bt s (a + i))) : utf_long.l0 K n a s (k + 1) r i = some (.inl (0, 0)) := by
  rw [utf_long.l0, w64 (n := a + i) (by omega) (by omega), if_pos (by simpa using h), if_pos ⟨by omega, by omega⟩, and_192 bt_ok.1 bt_ok.2, if_pos (by simpa using hc)]

theorem long_go {K : Nat} {s : ByteArray} {a : Int} (h0 : 0 ≤ a) (hs : (s.size : Int) ≤ 1000000000000) {n r i : Int} {k : Nat} (h : i < n) (hi : 0 ≤ i) (hr : a + i < s.size) (hc : cont (bt s (a + i))) (r0 : 0 ≤ r) (r1 : r < 1048576) : utf_long.l0 K n a s (k + 1) r i = utf_long.l0 K n a s k (r * 64 + bt s (a + i) % 64) (i + 1) := by
  have hb := bt_ok (s := s) (i := a + i)
  rw [utf_long.l0, w64 (n := a + i) (by omega) (by omega), if_pos (by simpa using h), if_pos ⟨by omega, by omega⟩, and_192 hb.1 hb.2, if_neg (by simpa using hc), not_192 hb.1 hb.2, or_32 r0 r1 (by omega) (by omega), w64 (n := i + 1) (by omega) (by omega)]

theorem size1_bad {K : Nat} {s : ByteArray} {a : Int} (h0 : 0 ≤ a) (hs : (s.size : Int) ≤ 1000000000000) {n r i : Int} {k : Nat} (h : i < n) (hi : 0 ≤ i) (hr : a + i < s.size) (hc : ¬ cont (bt s (a + i))) : palinoderef1_Size.l0 K n a s (k + 1) r i = some (.inl 0) := by
  have hb := bt_ok (s := s) (i := a + i)
  rw [palinoderef1_Size.l0, w64 (n := a + i) (by omega) (by omega), if_pos (by simpa using h), if_pos ⟨by omega, by omega⟩, w64 (n := bt s (a + i)) (by omega) (by omega), div_64 hb.1 hb.2, if_pos (by simpa using hc)]

theorem size1_end {K : Nat} {s : ByteArray} {a : Int} {n r i : Int} {k : Nat} (h : ¬ i < n) : palinoderef1_Size.l0 K n a s (k + 1) r i = some (.inr r) := by
  rw [palinoderef1_Size.l0, if_neg (by simpa using h)]

theorem size1_go {K : Nat} {s : ByteArray} {a : Int} (h0 : 0 ≤ a) (hs : (s.size : Int) ≤ 1000000000000) {n r i : Int} {k : Nat} (h : i < n) (hi : 0 ≤ i) (hr : a + i < s.size) (hc : cont (bt s (a + i))) (r0 : 0 ≤ r) (r1 : r < 1048576) : palinoderef1_Size.l0 K n a s (k + 1) r i = palinoderef1_Size.l0 K n a s k (r * 64 + bt s (a + i) % 64) (i + 1) := by
  have hb := bt_ok (s := s) (i := a + i)
  rw [palinoderef1_Size.l0, w64 (n := a + i) (by omega) (by omega), if_pos (by simpa using h), if_pos ⟨by omega, by omega⟩, w64 (n := bt s (a + i)) (by omega) (by omega), div_64 hb.1 hb.2, if_neg (by simpa using hc), and_63 hb.1 hb.2, or_64 r0 r1 (by omega) (by omega), w64 (n := i + 1) (by omega) (by omega)]

/-- How many bytes the code point has that begins at a place. -/
def usz (s : ByteArray) (a : Int) : Int := if a < 0 ∨ a ≥ s.size then 0 else uszB (s.size - a) (bt s a) (bt s (a + 1)) (bt s (a + 2)) (bt s (a + 3))

theorem uszB_ok {n c d e f : Int} (hn : 1 ≤ n) : 0 ≤ uszB n c d e f ∧ uszB n c d e f ≤ 4 ∧ uszB n c d e f ≤ n := by
  unfold uszB
  split
  · omega
  · split
    · split <;> omega
    · split
      · split <;> omega
      · split
        · split <;> omega
        · omega

theorem usz_ok {s : ByteArray} {a : Int} : 0 ≤ usz s a ∧ usz s a ≤ 4 ∧ (0 ≤ a → a < s.size → a + usz s a ≤ s.size) := by
  unfold usz
  split
  · rename_i h; exact ⟨by omega, by omega, fun h1 h2 => by omega⟩
  · have := uszB_ok (n := s.size - a) (c := bt s a) (d := bt s (a + 1)) (e := bt s (a + 2)) (f := bt s (a + 3)) (by omega)
    exact ⟨by omega, by omega, fun h1 h2 => by omega⟩

theorem point_is {K : Nat} {r : Int} (h0 : 0 ≤ r) : utf_isPoint K r = some (decide (r ≤ 1114111 ∧ ¬ (55296 ≤ r ∧ r < 57344))) := by
  unfold utf_isPoint
  rw [if_pos (by simpa using h0)]
  by_cases h1 : r ≤ 1114111
  · rw [if_pos (by simpa using h1)]
    by_cases h2 : r < 55296
    · rw [if_pos (by simpa using h2)]
      congr 1; symm; simp; omega
    · rw [if_neg (by simpa using h2)]
      congr 1
      by_cases h3 : r > 57343
      · simp [h3]; omega
      · simp [h3]; omega
  · rw [if_neg (by simpa using h1)]
    congr 1; symm; simp; omega

/-- What is read: the code point, and its bytes. -/
def tell (n v least : Int) : Int × Int := if least ≤ v ∧ v ≤ 1114111 ∧ ¬ (55296 ≤ v ∧ v < 57344) then (v, n) else (0, 0)

theorem long_tell {K : Nat} {n v least : Int} (h0 : 0 ≤ v) : ((if decide (v < least) = true then some true else (utf_isPoint K v).bind fun r_28 => some (!r_28)).bind fun z_39 => if z_39 = true then some ((0 : Int), (0 : Int)) else some (v, n)) = some (tell n v least) := by
  unfold tell
  rw [point_is h0]
  by_cases h1 : v < least
  · rw [if_pos (by simpa using h1), Option.bind_some, if_pos rfl, if_neg (by omega)]
  · rw [if_neg (by simpa using h1), Option.bind_some, Option.bind_some]
    by_cases h2 : v ≤ 1114111 ∧ ¬ (55296 ≤ v ∧ v < 57344)
    · rw [if_neg (by simp; omega), if_pos (by omega)]
    · rw [if_pos (by simp; omega), if_neg (by omega)]

theorem long1_is {K : Nat} {s : ByteArray} {a : Int} (hK : 10 ≤ K) (h0 : 0 ≤ a) (hs : (s.size : Int) ≤ 1000000000000) (ha : a < s.size) (hc : bt s a < 128) : utf_long K s a 1 128 0 0 = some (bt s a, 1) := by
  obtain ⟨k, rfl⟩ : ∃ k, K = k + 5 := ⟨K - 5, by omega⟩
  have hb := bt_ok (s := s) (i := a)
  unfold utf_long
  rw [w64 (by omega) (by omega), if_neg (by simp; omega), if_pos ⟨h0, ha⟩, not_128 hb.1 hb.2, w32 (by omega) (by omega), long_end (by omega), Option.bind_some]
  simp only [Sum.elim_inr]
  rw [long_tell (by omega)]
  unfold tell
  rw [if_pos (by omega)]
  congr 2
  omega

theorem long2_is {K : Nat} {s : ByteArray} {a : Int} (hK : 10 ≤ K) (h0 : 0 ≤ a) (hs : (s.size : Int) ≤ 1000000000000) (ha : a < s.size) : utf_long K s a 2 224 192 128 =
    some (if 2 ≤ (s.size : Int) - a ∧ cont (bt s (a + 1)) then tell 2 (bt s a % 32 * 64 + bt s (a + 1) % 64) 128 else (0, 0)) := by
  obtain ⟨k, rfl⟩ : ∃ k, K = k + 5 := ⟨K - 5, by omega⟩
  have hb := bt_ok (s := s) (i := a)
  have hb1 := bt_ok (s := s) (i := a + 1)
  unfold utf_long
  rw [w64 (by omega) (by omega)]
  by_cases hn : (s.size : Int) - a < 2
  · rw [if_pos (by simpa using hn), if_neg (by omega)]
  · rw [if_neg (by simpa using hn), if_pos ⟨h0, ha⟩, not_224 hb.1 hb.2, w32 (by omega) (by omega)]
    by_cases c1 : cont (bt s (a + 1))
    · rw [long_go h0 hs (by omega) (by omega) (by omega) c1 (by omega) (by omega), long_end (by omega), Option.bind_some]
      simp only [Sum.elim_inr]
      rw [long_tell (by omega), if_pos ⟨by omega, c1⟩]
    · rw [long_bad h0 hs (by omega) (by omega) (by omega) c1, Option.bind_some, if_neg (fun h => c1 h.2)]
      rfl

theorem long3_is {K : Nat} {s : ByteArray} {a : Int} (hK : 10 ≤ K) (h0 : 0 ≤ a) (hs : (s.size : Int) ≤ 1000000000000) (ha : a < s.size) : utf_long K s a 3 240 224 2048 =
    some (if 3 ≤ (s.size : Int) - a ∧ cont (bt s (a + 1)) ∧ cont (bt s (a + 2)) then tell 3 ((bt s a % 16 * 64 + bt s (a + 1) % 64) * 64 + bt s (a + 2) % 64) 2048 else (0, 0)) := by
  obtain ⟨k, rfl⟩ : ∃ k, K = k + 5 := ⟨K - 5, by omega⟩
  have hb := bt_ok (s := s) (i := a)
  have hb1 := bt_ok (s := s) (i := a + 1)
  have hb2 := bt_ok (s := s) (i := a + 2)
  unfold utf_long
  rw [w64 (by omega) (by omega)]
  by_cases hn : (s.size : Int) - a < 3
  · rw [if_pos (by simpa using hn), if_neg (by omega)]
  · rw [if_neg (by simpa using hn), if_pos ⟨h0, ha⟩, not_240 hb.1 hb.2, w32 (by omega) (by omega)]
    by_cases c1 : cont (bt s (a + 1))
    · rw [long_go h0 hs (by omega) (by omega) (by omega) c1 (by omega) (by omega)]
      by_cases c2 : cont (bt s (a + 2))
      · rw [show (1 : Int) + 1 = 2 from rfl, long_go h0 hs (by omega) (by omega) (by omega) c2 (by omega) (by omega), long_end (by omega), Option.bind_some]
        simp only [Sum.elim_inr]
        rw [long_tell (by omega), if_pos ⟨by omega, c1, c2⟩]
      · rw [show (1 : Int) + 1 = 2 from rfl, long_bad h0 hs (by omega) (by omega) (by omega) c2, Option.bind_some, if_neg (fun h => c2 h.2.2)]
        rfl
    · rw [long_bad h0 hs (by omega) (by omega) (by omega) c1, Option.bind_some, if_neg (fun h => c1 h.2.1)]
      rfl

theorem long4_go {K k : Nat} {s : ByteArray} {a : Int} (h0 : 0 ≤ a) (hs : (s.size : Int) ≤ 1000000000000) (hn : ¬ (s.size : Int) - a < 4) : utf_long.l0 K 4 a s (k + 4) (bt s a % 8) 1 =
    some (if cont (bt s (a + 1)) ∧ cont (bt s (a + 2)) ∧ cont (bt s (a + 3)) then .inr (((bt s a % 8 * 64 + bt s (a + 1) % 64) * 64 + bt s (a + 2) % 64) * 64 + bt s (a + 3) % 64) else .inl (0, 0)) := by
  have hb := bt_ok (s := s) (i := a)
  have hb1 := bt_ok (s := s) (i := a + 1)
  have hb2 := bt_ok (s := s) (i := a + 2)
  have hb3 := bt_ok (s := s) (i := a + 3)
  have r1 : 0 ≤ bt s a % 8 ∧ bt s a % 8 < 8 := by omega
  have r2 : 0 ≤ bt s (a + 1) % 64 ∧ bt s (a + 1) % 64 < 64 := by omega
  have r3 : 0 ≤ bt s (a + 2) % 64 ∧ bt s (a + 2) % 64 < 64 := by omega
  by_cases c1 : cont (bt s (a + 1))
  · have g1 := long_go (K := K) h0 hs (n := 4) (r := bt s a % 8) (i := 1) (k := k + 3) (by omega) (by omega) (by omega) c1 (by omega) (by omega)
    rw [g1, show (1 : Int) + 1 = 2 from rfl]
    by_cases c2 : cont (bt s (a + 2))
    · have g2 := long_go (K := K) h0 hs (n := 4) (r := bt s a % 8 * 64 + bt s (a + 1) % 64) (i := 2) (k := k + 2) (by omega) (by omega) (by omega) c2 (by omega) (by omega)
      rw [g2, show (2 : Int) + 1 = 3 from rfl]
      by_cases c3 : cont (bt s (a + 3))
      · have g3 := long_go (K := K) h0 hs (n := 4) (r := (bt s a % 8 * 64 + bt s (a + 1) % 64) * 64 + bt s (a + 2) % 64) (i := 3) (k := k + 1) (by omega) (by omega) (by omega) c3 (by omega) (by omega)
        rw [g3, long_end (by omega), if_pos ⟨c1, c2, c3⟩]
      · have g3 := long_bad (K := K) h0 hs (n := 4) (r := (bt s a % 8 * 64 + bt s (a + 1) % 64) * 64 + bt s (a + 2) % 64) (i := 3) (k := k + 1) (by omega) (by omega) (by omega) c3
        rw [g3, if_neg (fun h => c3 h.2.2)]
    · have g2 := long_bad (K := K) h0 hs (n := 4) (r := bt s a % 8 * 64 + bt s (a + 1) % 64) (i := 2) (k := k + 2) (by omega) (by omega) (by omega) c2
      rw [g2, if_neg (fun h => c2 h.2.1)]
  · have g1 := long_bad (K := K) h0 hs (n := 4) (r := bt s a % 8) (i := 1) (k := k + 3) (by omega) (by omega) (by omega) c1
    rw [g1, if_neg (fun h => c1 h.1)]

theorem long4_is {K : Nat} {s : ByteArray} {a least : Int} (hK : 10 ≤ K) (h0 : 0 ≤ a) (hs : (s.size : Int) ≤ 1000000000000) (ha : a < s.size) : utf_long K s a 4 248 240 least =
    some (if 4 ≤ (s.size : Int) - a ∧ cont (bt s (a + 1)) ∧ cont (bt s (a + 2)) ∧ cont (bt s (a + 3)) then tell 4 (((bt s a % 8 * 64 + bt s (a + 1) % 64) * 64 + bt s (a + 2) % 64) * 64 + bt s (a + 3) % 64) least else (0, 0)) := by
  obtain ⟨k, rfl⟩ : ∃ k, K = k + 4 := ⟨K - 4, by omega⟩
  have hb := bt_ok (s := s) (i := a)
  have r0 : 0 ≤ bt s a % 8 ∧ bt s a % 8 < 8 := by omega
  have r1 : 0 ≤ bt s (a + 1) % 64 := by omega
  have r2 : 0 ≤ bt s (a + 2) % 64 := by omega
  have r3 : 0 ≤ bt s (a + 3) % 64 := by omega
  unfold utf_long
  rw [w64 (n := (s.size : Int) - a) (by omega) (by omega)]
  by_cases hn : (s.size : Int) - a < 4
  · rw [if_pos (by simpa using hn), if_neg (by omega)]
  · rw [if_neg (by simpa using hn), if_pos ⟨h0, ha⟩, not_248 hb.1 hb.2, w32 (n := bt s a % 8) (by omega) (by omega), long4_go h0 hs hn]
    by_cases c : cont (bt s (a + 1)) ∧ cont (bt s (a + 2)) ∧ cont (bt s (a + 3))
    · rw [if_pos c, Option.bind_some, if_pos ⟨by omega, c⟩]
      simp only [Sum.elim_inr]
      generalize bt s a % 8 = x0 at *
      generalize bt s (a + 1) % 64 = x1 at *
      generalize bt s (a + 2) % 64 = x2 at *
      generalize bt s (a + 3) % 64 = x3 at *
      rw [long_tell (by omega)]
    · rw [if_neg c, Option.bind_some, if_neg (fun h => c h.2)]
      simp only [Sum.elim_inl]

/-- The code point at a place, and its bytes. -/
def upt (s : ByteArray) (a : Int) : Int × Int :=
  if a < 0 ∨ a ≥ s.size then (0, 0)
  else if bt s a < 128 then (bt s a, 1)
  else if 192 ≤ bt s a ∧ bt s a < 224 then (if 2 ≤ (s.size : Int) - a ∧ cont (bt s (a + 1)) then tell 2 (bt s a % 32 * 64 + bt s (a + 1) % 64) 128 else (0, 0))
  else if 224 ≤ bt s a ∧ bt s a < 240 then (if 3 ≤ (s.size : Int) - a ∧ cont (bt s (a + 1)) ∧ cont (bt s (a + 2)) then tell 3 ((bt s a % 16 * 64 + bt s (a + 1) % 64) * 64 + bt s (a + 2) % 64) 2048 else (0, 0))
  else if 240 ≤ bt s a ∧ bt s a < 248 then (if 4 ≤ (s.size : Int) - a ∧ cont (bt s (a + 1)) ∧ cont (bt s (a + 2)) ∧ cont (bt s (a + 3)) then tell 4 (((bt s a % 8 * 64 + bt s (a + 1) % 64) * 64 + bt s (a + 2) % 64) * 64 + bt s (a + 3) % 64) 65536 else (0, 0))
  else (0, 0)

theorem tell_snd {n v least : Int} : (tell n v least).2 = if least ≤ v ∧ v ≤ 1114111 ∧ ¬ (55296 ≤ v ∧ v < 57344) then n else 0 := by
  unfold tell; split <;> rfl

theorem upt_snd {s : ByteArray} {a : Int} : (upt s a).2 = usz s a := by
  unfold upt usz uszB
  have hb := bt_ok (s := s) (i := a)
  have hb1 := bt_ok (s := s) (i := a + 1)
  have hb2 := bt_ok (s := s) (i := a + 2)
  have hb3 := bt_ok (s := s) (i := a + 3)
  by_cases h : a < 0 ∨ a ≥ s.size
  · rw [if_pos h, if_pos h]
  · rw [if_neg h, if_neg h]
    by_cases h1 : bt s a < 128
    · rw [if_pos h1, if_pos h1]
    · rw [if_neg h1, if_neg h1]
      by_cases h2 : 192 ≤ bt s a ∧ bt s a < 224
      · rw [if_pos h2, if_pos h2]
        by_cases c : 2 ≤ (s.size : Int) - a ∧ cont (bt s (a + 1))
        · rw [if_pos c, tell_snd]
          congr 1
          apply propext
          constructor
          · intro h; exact ⟨c.1, c.2, h.1⟩
          · intro h; exact ⟨h.2.2, by omega, by omega⟩
        · rw [if_neg c, if_neg (fun h => c ⟨h.1, h.2.1⟩)]
      · rw [if_neg h2, if_neg h2]
        by_cases h3 : 224 ≤ bt s a ∧ bt s a < 240
        · rw [if_pos h3, if_pos h3]
          by_cases c : 3 ≤ (s.size : Int) - a ∧ cont (bt s (a + 1)) ∧ cont (bt s (a + 2))
          · rw [if_pos c, tell_snd]
            congr 1
            apply propext
            constructor
            · intro h; exact ⟨c.1, c.2.1, c.2.2, h.1, h.2.2⟩
            · intro h; exact ⟨h.2.2.2.1, by omega, h.2.2.2.2⟩
          · rw [if_neg c, if_neg (fun h => c ⟨h.1, h.2.1, h.2.2.1⟩)]
        · rw [if_neg h3, if_neg h3]
          by_cases h4 : 240 ≤ bt s a ∧ bt s a < 248
          · rw [if_pos h4, if_pos h4]
            by_cases c : 4 ≤ (s.size : Int) - a ∧ cont (bt s (a + 1)) ∧ cont (bt s (a + 2)) ∧ cont (bt s (a + 3))
            · rw [if_pos c, tell_snd]
              congr 1
              apply propext
              constructor
              · intro h; exact ⟨c.1, c.2.1, c.2.2.1, c.2.2.2, h.1, h.2.1⟩
              · intro h; exact ⟨h.2.2.2.2.1, h.2.2.2.2.2, by omega⟩
            · rw [if_neg c, if_neg (fun h => c ⟨h.1, h.2.1, h.2.2.1, h.2.2.2.1⟩)]
          · rw [if_neg h4, if_neg h4]

theorem upt_is {K : Nat} {s : ByteArray} {a : Int} (hK : 10 ≤ K) (hs : (s.size : Int) ≤ 1000000000000) : utf_point K s a = some (upt s a) := by
  obtain ⟨k, hk⟩ : ∃ k, K = k + 5 := ⟨K - 5, by omega⟩
  have hb := bt_ok (s := s) (i := a)
  unfold utf_point upt
  by_cases h : a < 0 ∨ a ≥ s.size
  · have : (if decide (a < 0) = true then some true else some (decide (a ≥ ((s.size : Nat) : Int)))) = some true := by
      by_cases h1 : a < 0
      · rw [if_pos (by simpa using h1)]
      · rw [if_neg (by simpa using h1)]; simp; omega
    rw [this, Option.bind_some, if_pos rfl, if_pos h]
  · have : (if decide (a < 0) = true then some true else some (decide (a ≥ ((s.size : Nat) : Int)))) = some false := by
      rw [if_neg (by simp; omega)]; simp; omega
    rw [this, Option.bind_some, if_neg (by simp), if_neg h]
    unfold utf_forms
    rw [Option.bind_some]
    have hin : 0 ≤ a ∧ a < ((s.size : Nat) : Int) := ⟨by omega, by omega⟩
    have hw0 : IntKind.wrap .i64 ((0 : Int) + 1) = 1 := by decide
    have hw1 : IntKind.wrap .i64 ((1 : Int) + 1) = 2 := by decide
    have hw2 : IntKind.wrap .i64 ((2 : Int) + 1) = 3 := by decide
    have hw3 : IntKind.wrap .i64 ((3 : Int) + 1) = 4 := by decide
    rw [hk]
    simp only [utf_point.l0, if_pos hin, hw0, hw1, hw2, hw3]
    simp only [show ((0 : Int)).toNat = 0 from rfl, show ((1 : Int)).toNat = 1 from rfl, show ((2 : Int)).toNat = 2 from rfl, show ((3 : Int)).toNat = 3 from rfl, List.getD_cons_zero, List.getD_cons_succ, is_128 hb.1 hb.2, is_224 hb.1 hb.2, is_240 hb.1 hb.2, is_248 hb.1 hb.2]
    rw [← hk]
    simp only [decide_eq_true_eq]
    by_cases h1 : bt s a < 128
    · rw [if_pos (by omega), if_pos (by omega), if_pos h1, if_pos h1, long1_is hK (by omega) hs (by omega) h1]; rfl
    · rw [if_pos (by omega), if_pos (by omega), if_neg h1, if_neg h1, if_pos (by omega), if_pos (by omega)]
      by_cases h2 : 192 ≤ bt s a ∧ bt s a < 224
      · rw [if_pos h2, if_pos h2, long2_is hK (by omega) hs (by omega)]; rfl
      · rw [if_neg h2, if_neg h2, if_pos (by omega), if_pos (by omega)]
        by_cases h3 : 224 ≤ bt s a ∧ bt s a < 240
        · rw [if_pos h3, if_pos h3, long3_is hK (by omega) hs (by omega)]; rfl
        · rw [if_neg h3, if_neg h3, if_pos (by omega), if_pos (by omega)]
          by_cases h4 : 240 ≤ bt s a ∧ bt s a < 248
          · rw [if_pos h4, if_pos h4, long4_is hK (by omega) hs (by omega)]; rfl
          · rw [if_neg h4, if_neg h4, if_neg (by omega)]

theorem usize_is {K : Nat} {s : ByteArray} {a : Int} (hK : 10 ≤ K) (hs : (s.size : Int) ≤ 1000000000000) : utf_Size K s a = some (usz s a) := by
  unfold utf_Size
  rw [upt_is hK hs, Option.bind_some, upt_snd]

theorem size1_tell {n v least : Int} : ((if decide (v < least) = true then some true else if decide (v > 1114111) = true then some true else if decide (v ≥ 55296) = true then some (decide (v < 57344)) else some false).bind fun z_76 => if z_76 = true then some (0 : Int) else some n) = some (tell n v least).2 := by
  rw [tell_snd]
  by_cases h1 : v < least
  · rw [if_pos (by simpa using h1), Option.bind_some, if_pos rfl, if_neg (by omega)]
  · rw [if_neg (by simpa using h1)]
    by_cases h2 : v > 1114111
    · rw [if_pos (by simpa using h2), Option.bind_some, if_pos rfl, if_neg (by omega)]
    · rw [if_neg (by simpa using h2)]
      by_cases h3 : v ≥ 55296
      · rw [if_pos (by simpa using h3), Option.bind_some]
        by_cases h4 : v < 57344
        · rw [if_pos (by simpa using h4), if_neg (by omega)]
        · rw [if_neg (by simpa using h4), if_pos (by omega)]
      · rw [if_neg (by simpa using h3), Option.bind_some, if_neg (by simp), if_pos (by omega)]

theorem s2_go {K k : Nat} {s : ByteArray} {a r : Int} (h0 : 0 ≤ a) (hs : (s.size : Int) ≤ 1000000000000) (hn : ¬ (s.size : Int) - a < 2) (hr : 0 ≤ r ∧ r < 64) : palinoderef1_Size.l0 K 2 a s (k + 4) r 1 =
    some (if cont (bt s (a + 1)) then .inr (r * 64 + bt s (a + 1) % 64) else .inl 0) := by
  by_cases c1 : cont (bt s (a + 1))
  · have g1 := size1_go (K := K) h0 hs (n := 2) (r := r) (i := 1) (k := k + 3) (by omega) (by omega) (by omega) c1 (by omega) (by omega)
    rw [g1, size1_end (by omega), if_pos c1]
  · have g1 := size1_bad (K := K) h0 hs (n := 2) (r := r) (i := 1) (k := k + 3) (by omega) (by omega) (by omega) c1
    rw [g1, if_neg c1]

theorem s3_go {K k : Nat} {s : ByteArray} {a r : Int} (h0 : 0 ≤ a) (hs : (s.size : Int) ≤ 1000000000000) (hn : ¬ (s.size : Int) - a < 3) (hr : 0 ≤ r ∧ r < 64) : palinoderef1_Size.l0 K 3 a s (k + 4) r 1 =
    some (if cont (bt s (a + 1)) ∧ cont (bt s (a + 2)) then .inr ((r * 64 + bt s (a + 1) % 64) * 64 + bt s (a + 2) % 64) else .inl 0) := by
  have r2 : 0 ≤ bt s (a + 1) % 64 ∧ bt s (a + 1) % 64 < 64 := by omega
  by_cases c1 : cont (bt s (a + 1))
  · have g1 := size1_go (K := K) h0 hs (n := 3) (r := r) (i := 1) (k := k + 3) (by omega) (by omega) (by omega) c1 (by omega) (by omega)
    rw [g1, show (1 : Int) + 1 = 2 from rfl]
    by_cases c2 : cont (bt s (a + 2))
    · have g2 := size1_go (K := K) h0 hs (n := 3) (r := r * 64 + bt s (a + 1) % 64) (i := 2) (k := k + 2) (by omega) (by omega) (by omega) c2 (by omega) (by omega)
      rw [g2, size1_end (by omega), if_pos ⟨c1, c2⟩]
    · have g2 := size1_bad (K := K) h0 hs (n := 3) (r := r * 64 + bt s (a + 1) % 64) (i := 2) (k := k + 2) (by omega) (by omega) (by omega) c2
      rw [g2, if_neg (fun h => c2 h.2)]
  · have g1 := size1_bad (K := K) h0 hs (n := 3) (r := r) (i := 1) (k := k + 3) (by omega) (by omega) (by omega) c1
    rw [g1, if_neg (fun h => c1 h.1)]

theorem s4_go {K k : Nat} {s : ByteArray} {a r : Int} (h0 : 0 ≤ a) (hs : (s.size : Int) ≤ 1000000000000) (hn : ¬ (s.size : Int) - a < 4) (hr : 0 ≤ r ∧ r < 64) : palinoderef1_Size.l0 K 4 a s (k + 4) r 1 =
    some (if cont (bt s (a + 1)) ∧ cont (bt s (a + 2)) ∧ cont (bt s (a + 3)) then .inr (((r * 64 + bt s (a + 1) % 64) * 64 + bt s (a + 2) % 64) * 64 + bt s (a + 3) % 64) else .inl 0) := by
  have r2 : 0 ≤ bt s (a + 1) % 64 ∧ bt s (a + 1) % 64 < 64 := by omega
  have r3 : 0 ≤ bt s (a + 2) % 64 ∧ bt s (a + 2) % 64 < 64 := by omega
  by_cases c1 : cont (bt s (a + 1))
  · have g1 := size1_go (K := K) h0 hs (n := 4) (r := r) (i := 1) (k := k + 3) (by omega) (by omega) (by omega) c1 (by omega) (by omega)
    rw [g1, show (1 : Int) + 1 = 2 from rfl]
    by_cases c2 : cont (bt s (a + 2))
    · have g2 := size1_go (K := K) h0 hs (n := 4) (r := r * 64 + bt s (a + 1) % 64) (i := 2) (k := k + 2) (by omega) (by omega) (by omega) c2 (by omega) (by omega)
      rw [g2, show (2 : Int) + 1 = 3 from rfl]
      by_cases c3 : cont (bt s (a + 3))
      · have g3 := size1_go (K := K) h0 hs (n := 4) (r := (r * 64 + bt s (a + 1) % 64) * 64 + bt s (a + 2) % 64) (i := 3) (k := k + 1) (by omega) (by omega) (by omega) c3 (by omega) (by omega)
        rw [g3, size1_end (by omega), if_pos ⟨c1, c2, c3⟩]
      · have g3 := size1_bad (K := K) h0 hs (n := 4) (r := (r * 64 + bt s (a + 1) % 64) * 64 + bt s (a + 2) % 64) (i := 3) (k := k + 1) (by omega) (by omega) (by omega) c3
        rw [g3, if_neg (fun h => c3 h.2.2)]
    · have g2 := size1_bad (K := K) h0 hs (n := 4) (r := r * 64 + bt s (a + 1) % 64) (i := 2) (k := k + 2) (by omega) (by omega) (by omega) c2
      rw [g2, if_neg (fun h => c2 h.2.1)]
  · have g1 := size1_bad (K := K) h0 hs (n := 4) (r := r) (i := 1) (k := k + 3) (by omega) (by omega) (by omega) c1
    rw [g1, if_neg (fun h => c1 h.1)]

/-- A code point of more than one byte, read. -/
theorem size1_many {n r least : Int} {K : Nat} {s : ByteArray} {a : Int} {C : Prop} [Decidable C] {v : Int} (hw : IntKind.wrap .i64 ((s.size : Int) - a) = (s.size : Int) - a) (hg : ¬ (s.size : Int) - a < n → palinoderef1_Size.l0 K n a s K r 1 = some (if C then .inr v else .inl 0)) :
    (if decide (IntKind.wrap .i64 ((((ByteArray.size s) : Nat) : Int) - a) < n) = true then some (0 : Int) else (palinoderef1_Size.l0 K n a s K r 1).bind (Sum.elim (fun z_74 => some z_74) (fun z_75 => (if (decide (z_75 < least)) = true then some true else if (decide (z_75 > (1114111 : Int))) = true then some true else if (decide (z_75 ≥ (55296 : Int))) = true then some (decide (z_75 < (57344 : Int))) else some false).bind (fun z_76 => if z_76 = true then some (0 : Int) else some n)))) =
      some (if n ≤ (s.size : Int) - a ∧ C then tell n v least else (0, 0)).2 := by
  rw [hw]
  by_cases h : (s.size : Int) - a < n
  · rw [if_pos (by simpa using h), if_neg (fun h' => by omega)]
  · rw [if_neg (by simpa using h), hg h]
    by_cases c : C
    · rw [if_pos c, Option.bind_some, if_pos ⟨by omega, c⟩]
      simp only [Sum.elim_inr]
      rw [size1_tell]
    · rw [if_neg c, Option.bind_some, if_neg (fun h' => c h'.2)]
      simp only [Sum.elim_inl]

theorem rsize_is {K : Nat} {s : ByteArray} {a : Int} (hK : 10 ≤ K) (hs : (s.size : Int) ≤ 1000000000000) : palinoderef1_Size K s a = some (usz s a) := by
  obtain ⟨k, hk⟩ : ∃ k, K = k + 4 := ⟨K - 4, by omega⟩
  have hb := bt_ok (s := s) (i := a)
  rw [← upt_snd]
  unfold palinoderef1_Size upt
  by_cases h : a < 0 ∨ a ≥ s.size
  · have : (if decide (a < 0) = true then some true else some (decide (a ≥ ((s.size : Nat) : Int)))) = some true := by
      by_cases h1 : a < 0
      · rw [if_pos (by simpa using h1)]
      · rw [if_neg (by simpa using h1)]; simp; omega
    rw [this, Option.bind_some, if_pos rfl, if_pos h]
  · have : (if decide (a < 0) = true then some true else some (decide (a ≥ ((s.size : Nat) : Int)))) = some false := by
      rw [if_neg (by simp; omega)]; simp; omega
    have hw : IntKind.wrap .i64 ((s.size : Int) - a) = (s.size : Int) - a := w64 (by omega) (by omega)
    have e2 := size1_many (least := 128) (K := K) (s := s) (a := a) (n := 2) (r := bt s a % 32) hw (fun hn => by rw [hk]; exact s2_go (by omega) hs hn (by omega))
    have e3 := size1_many (least := 2048) (K := K) (s := s) (a := a) (n := 3) (r := bt s a % 16) hw (fun hn => by rw [hk]; exact s3_go (by omega) hs hn (by omega))
    have e4 := size1_many (least := 65536) (K := K) (s := s) (a := a) (n := 4) (r := bt s a % 8) hw (fun hn => by rw [hk]; exact s4_go (by omega) hs hn (by omega))
    rw [this, Option.bind_some, if_neg (by simp), if_neg h, if_pos ⟨by omega, by omega⟩, w64 (n := bt s a) (by omega) (by omega), and_31 hb.1 hb.2, and_15 hb.1 hb.2, and_7 hb.1 hb.2]
    by_cases h1 : bt s a < 128
    · rw [if_pos (by simpa using h1), if_pos h1]
    · rw [if_neg (by simpa using h1), if_neg h1]
      by_cases h2 : 192 ≤ bt s a ∧ bt s a < 224
      · rw [if_pos (by simp; omega), Option.bind_some, if_pos (by simp; omega), Option.bind_some, if_pos h2]
        simp only [Sum.elim_inr]
        exact e2
      · have c2 : (if decide (bt s a ≥ 192) = true then some (decide (bt s a < 224)) else some false) = some false := by
          by_cases g : bt s a ≥ 192
          · rw [if_pos (by simpa using g)]; simp; omega
          · rw [if_neg (by simpa using g)]
        rw [c2, Option.bind_some, if_neg (by simp), if_neg h2]
        by_cases h3 : 224 ≤ bt s a ∧ bt s a < 240
        · rw [if_pos (by simp; omega), Option.bind_some, if_pos (by simp; omega), Option.bind_some, if_pos h3]
          simp only [Sum.elim_inr]
          exact e3
        · have c3 : (if decide (bt s a ≥ 224) = true then some (decide (bt s a < 240)) else some false) = some false := by
            by_cases g : bt s a ≥ 224
            · rw [if_pos (by simpa using g)]; simp; omega
            · rw [if_neg (by simpa using g)]
          rw [c3, Option.bind_some, if_neg (by simp), if_neg h3]
          by_cases h4 : 240 ≤ bt s a ∧ bt s a < 248
          · rw [if_pos (by simp; omega), Option.bind_some, if_pos (by simp; omega), Option.bind_some, if_pos h4]
            simp only [Sum.elim_inr]
            exact e4
          · have c4 : (if decide (bt s a ≥ 240) = true then some (decide (bt s a < 248)) else some false) = some false := by
              by_cases g : bt s a ≥ 240
              · rw [if_pos (by simpa using g)]; simp; omega
              · rw [if_neg (by simpa using g)]
            rw [c4, Option.bind_some, if_neg (by simp), if_neg h4, Option.bind_some]
            simp only [Sum.elim_inl]

/-- Whether from a place on there are code points, one behind the other. -/
def uval (s : ByteArray) : Nat → Int → Bool
  | 0, _ => true
  | m + 1, a => if a < s.size then (if usz s a = 0 then false else uval s m (a + usz s a)) else true

def uvalid (s : ByteArray) : Bool := uval s s.size 0

theorem uvalid_loop {K : Nat} {s : ByteArray} (hK : 10 ≤ K) (hs : (s.size : Int) ≤ 1000000000000) : ∀ (d k m : Nat) (a : Int), 0 ≤ a → (s.size : Int) - a ≤ d → a ≤ s.size → d < k → d ≤ m → utf_Valid.l0 K s k a = some (uval s m a) := by
  intro d
  induction d with
  | zero =>
    intro k m a h0 h1 h2 hk hm
    obtain ⟨k, rfl⟩ : ∃ l, k = l + 1 := ⟨k - 1, by omega⟩
    rw [utf_Valid.l0, if_neg (by simp; omega)]
    cases m with
    | zero => rfl
    | succ m => rw [uval, if_neg (by omega)]
  | succ d ih =>
    intro k m a h0 h1 h2 hk hm
    obtain ⟨k, rfl⟩ : ∃ l, k = l + 1 := ⟨k - 1, by omega⟩
    obtain ⟨m, rfl⟩ : ∃ l, m = l + 1 := ⟨m - 1, by omega⟩
    have hu := usz_ok (s := s) (a := a)
    rw [utf_Valid.l0, uval]
    by_cases h : a < s.size
    · have hu3 := hu.2.2 h0 h
      rw [if_pos (by simpa using h), if_pos h, usize_is hK hs, Option.bind_some]
      by_cases hz : usz s a = 0
      · rw [if_pos (by simpa using hz), if_pos hz]
      · rw [if_neg (by simpa using hz), if_neg hz, w64 (by omega) (by omega)]
        exact ih k m _ (by omega) (by omega) (by omega) (by omega) (by omega)
    · rw [if_neg (by simpa using h), if_neg h]

theorem uvalid_is {K : Nat} {s : ByteArray} (hK : s.size + 10 ≤ K) (hs : (s.size : Int) ≤ 1000000000000) : utf_Valid K s = some (uvalid s) := by
  unfold utf_Valid uvalid
  exact uvalid_loop (by omega) hs s.size K s.size 0 (by omega) (by omega) (by omega) (by omega) (by omega)

theorem rvalid_loop {K : Nat} {s : ByteArray} (hK : 10 ≤ K) (hs : (s.size : Int) ≤ 1000000000000) : ∀ (d k m : Nat) (a : Int), 0 ≤ a → (s.size : Int) - a ≤ d → a ≤ s.size → d < k → d ≤ m → palinoderef1_Valid.l0 K s k a = some (uval s m a) := by
  intro d
  induction d with
  | zero =>
    intro k m a h0 h1 h2 hk hm
    obtain ⟨k, rfl⟩ : ∃ l, k = l + 1 := ⟨k - 1, by omega⟩
    rw [palinoderef1_Valid.l0, if_neg (by simp; omega)]
    cases m with
    | zero => rfl
    | succ m => rw [uval, if_neg (by omega)]
  | succ d ih =>
    intro k m a h0 h1 h2 hk hm
    obtain ⟨k, rfl⟩ : ∃ l, k = l + 1 := ⟨k - 1, by omega⟩
    obtain ⟨m, rfl⟩ : ∃ l, m = l + 1 := ⟨m - 1, by omega⟩
    have hu := usz_ok (s := s) (a := a)
    rw [palinoderef1_Valid.l0, uval]
    by_cases h : a < s.size
    · have hu3 := hu.2.2 h0 h
      rw [if_pos (by simpa using h), if_pos h, rsize_is hK hs, Option.bind_some]
      by_cases hz : usz s a = 0
      · rw [if_pos (by simpa using hz), if_pos hz]
      · rw [if_neg (by simpa using hz), if_neg hz, w64 (by omega) (by omega)]
        exact ih k m _ (by omega) (by omega) (by omega) (by omega) (by omega)
    · rw [if_neg (by simpa using h), if_neg h]

theorem rvalid_is {K : Nat} {s : ByteArray} (hK : s.size + 10 ≤ K) (hs : (s.size : Int) ≤ 1000000000000) : palinoderef1_Valid K s = some (uvalid s) := by
  unfold palinoderef1_Valid uvalid
  exact rvalid_loop (by omega) hs s.size K s.size 0 (by omega) (by omega) (by omega) (by omega) (by omega)

theorem toList_loop (s : ByteArray) : ∀ (d i : Nat) (r : List UInt8), s.size - i = d → ByteArray.toList.loop s i r = r.reverse ++ s.data.toList.drop i := by
  intro d
  induction d with
  | zero =>
    intro i r h
    unfold ByteArray.toList.loop
    rw [if_neg (by omega), List.drop_eq_nil_of_le (by have : s.data.toList.length = s.size := by simp
                                                      omega)]
    simp
  | succ d ih =>
    intro i r h
    unfold ByteArray.toList.loop
    have hl : s.data.toList.length = s.size := by simp
    have hi : i < s.data.toList.length := by omega
    rw [if_pos (by omega), ih (i + 1) _ (by omega), List.drop_eq_getElem_cons hi]
    have : s.get! i = s.data.toList[i] := by
      have h2 : i < s.data.size := by simpa using hi
      show s.data[i]! = _
      rw [getElem!_pos s.data i h2]
      simp
    rw [this]
    simp

theorem toList_eq (s : ByteArray) : ByteArray.toList s = s.data.toList := by
  unfold ByteArray.toList
  rw [toList_loop s s.size 0 [] rfl]
  simp

theorem str_beq {a b : ByteArray} : (ByteArray.toList a == ByteArray.toList b) = decide (a = b) := by
  rw [toList_eq, toList_eq]
  by_cases h : a = b
  · subst h; simp
  · have : a.data.toList ≠ b.data.toList := fun h' => h (by have := Array.toList_inj.1 h'; cases a; cases b; simp only at this; rw [this])
    rw [beq_eq_false_iff_ne.2 this]; simp [h]

theorem size_zero {a : ByteArray} : a = ⟨#[]⟩ ↔ a.size = 0 := by
  constructor
  · rintro rfl; rfl
  · intro h
    rw [← ofBytes_txt (s := a)]
    have : txt a = [] := List.eq_nil_of_length_eq_zero (by rw [txt_len]; exact h)
    rw [this]; rfl

theorem str_nil {a : ByteArray} : (ByteArray.toList a == ByteArray.toList (ByteArray.mk #[])) = decide (a.size = 0) := by
  rw [str_beq]
  exact decide_eq_decide.2 size_zero

abbrev El := Int × (Int × ByteArray)

abbrev el0 : El := ((0 : Int), ((0 : Int), ByteArray.empty))

def lastIs (b : Bool) (l : List El) : Prop := l ≠ [] ∧ decide ((l.getD (l.length - 1) el0).2.2.size = 0) = b

instance (b : Bool) (l : List El) : Decidable (lastIs b l) := inferInstanceAs (Decidable (_ ∧ _))

theorem empty_size : ByteArray.empty.size = 0 := rfl

theorem bsize_app {a b : ByteArray} : (a ++ b).size = a.size + b.size := ByteArray.size_append

theorem txt_app {a b : ByteArray} : txt (a ++ b) = txt a ++ txt b := by
  unfold txt
  rw [ByteArray.data_append]
  simp

theorem bt_left {a b : ByteArray} {i : Nat} (h : i < a.size) : bt (a ++ b) (i : Int) = bt a (i : Int) := by
  have h1 : i < (txt a).length := by rw [txt_len]; exact h
  have h2 : i < (txt (a ++ b)).length := by rw [txt_len, bsize_app]; omega
  rw [bt_is h1, bt_is h2]
  have : ∀ (l : List Int) (hl : i < l.length), l = txt a ++ txt b → l[i] = (txt a)[i] := by
    intro l hl e; subst e; rw [List.getElem_append_left]
  exact this _ h2 txt_app

theorem bt_right {a b : ByteArray} {i : Nat} : bt (a ++ b) ((a.size + i : Nat) : Int) = bt b (i : Int) := by
  by_cases h : i < b.size
  · have h1 : i < (txt b).length := by rw [txt_len]; exact h
    have h2 : a.size + i < (txt (a ++ b)).length := by rw [txt_len, bsize_app]; omega
    rw [bt_is h1, bt_is h2]
    have : ∀ (l : List Int) (hl : a.size + i < l.length), l = txt a ++ txt b → l[a.size + i] = (txt b)[i] := by
      intro l hl e
      subst e
      rw [List.getElem_append_right (by rw [txt_len]; omega)]
      congr 1
      rw [txt_len]; omega
    exact this _ h2 txt_app
  · have h1 : ¬ i < b.size := h
    have h2 : ¬ a.size + i < (a ++ b).size := by rw [bsize_app]; omega
    unfold bt
    rw [Int.toNat_natCast, Int.toNat_natCast]
    simp [h1, h2]

theorem uszB_mono {n n' c d e f d' e' f' : Int} (hn : n ≤ n') (hd : 2 ≤ n → d' = d) (he : 3 ≤ n → e' = e) (hf : 4 ≤ n → f' = f) (h : uszB n c d e f ≠ 0) : uszB n' c d' e' f' = uszB n c d e f := by
  unfold uszB at *
  split
  · rfl
  · rename_i h1
    rw [if_neg h1] at h
    split
    · rename_i h2
      rw [if_pos h2] at h
      by_cases c2 : 2 ≤ n ∧ cont d ∧ 128 ≤ c % 32 * 64 + d % 64
      · rw [hd c2.1, if_pos c2, if_pos ⟨by omega, c2.2⟩]
      · rw [if_neg c2] at h; exact absurd rfl h
    · rename_i h2
      rw [if_neg h2] at h
      split
      · rename_i h3
        rw [if_pos h3] at h
        by_cases c3 : 3 ≤ n ∧ cont d ∧ cont e ∧ 2048 ≤ (c % 16 * 64 + d % 64) * 64 + e % 64 ∧ ¬ (55296 ≤ (c % 16 * 64 + d % 64) * 64 + e % 64 ∧ (c % 16 * 64 + d % 64) * 64 + e % 64 < 57344)
        · rw [hd (by omega), he c3.1, if_pos c3, if_pos ⟨by omega, c3.2⟩]
        · rw [if_neg c3] at h; exact absurd rfl h
      · rename_i h3
        rw [if_neg h3] at h
        split
        · rename_i h4
          rw [if_pos h4] at h
          by_cases c4 : 4 ≤ n ∧ cont d ∧ cont e ∧ cont f ∧ 65536 ≤ ((c % 8 * 64 + d % 64) * 64 + e % 64) * 64 + f % 64 ∧ ((c % 8 * 64 + d % 64) * 64 + e % 64) * 64 + f % 64 ≤ 1114111
          · rw [hd (by omega), he (by omega), hf c4.1, if_pos c4, if_pos ⟨by omega, c4.2⟩]
          · rw [if_neg c4] at h; exact absurd rfl h
        · first
          | rfl
          | (rename_i h4
             rw [if_neg h4] at h
             exact absurd rfl h)

theorem usz_left {a b : ByteArray} {i : Nat} (h : usz a (i : Int) ≠ 0) : usz (a ++ b) (i : Int) = usz a (i : Int) := by
  unfold usz at *
  by_cases h1 : (i : Int) < 0 ∨ (i : Int) ≥ a.size
  · rw [if_pos h1] at h; exact absurd rfl h
  · have hb := bsize_app (a := a) (b := b)
    rw [if_neg h1] at h ⊢
    rw [if_neg (by omega), bt_left (by omega)]
    refine uszB_mono (by omega) (fun hh => ?_) (fun hh => ?_) (fun hh => ?_) h
    · have e : (i : Int) + 1 = ((i + 1 : Nat) : Int) := by omega
      rw [e, bt_left (by omega)]
    · have e : (i : Int) + 2 = ((i + 2 : Nat) : Int) := by omega
      rw [e, bt_left (by omega)]
    · have e : (i : Int) + 3 = ((i + 3 : Nat) : Int) := by omega
      rw [e, bt_left (by omega)]

theorem usz_right {a b : ByteArray} {i : Nat} : usz (a ++ b) ((a.size + i : Nat) : Int) = usz b (i : Int) := by
  unfold usz
  have hb := bsize_app (a := a) (b := b)
  by_cases h1 : (i : Int) < 0 ∨ (i : Int) ≥ b.size
  · rw [if_pos h1, if_pos (by omega)]
  · rw [if_neg h1, if_neg (by omega), bt_right]
    have e1 : ((a.size + i : Nat) : Int) + 1 = ((a.size + (i + 1) : Nat) : Int) := by omega
    have e2 : ((a.size + i : Nat) : Int) + 2 = ((a.size + (i + 2) : Nat) : Int) := by omega
    have e3 : ((a.size + i : Nat) : Int) + 3 = ((a.size + (i + 3) : Nat) : Int) := by omega
    rw [e1, e2, e3, bt_right, bt_right, bt_right, show ((a ++ b).size : Int) - ((a.size + i : Nat) : Int) = (b.size : Int) - i by omega]
    rfl

theorem uval_fuel {s : ByteArray} : ∀ (d m m' : Nat) (a : Nat), s.size - a ≤ d → d ≤ m → d ≤ m' → uval s m (a : Int) = uval s m' (a : Int) := by
  intro d
  induction d with
  | zero =>
    intro m m' a h hm hm'
    cases m with
    | zero => cases m' with
      | zero => rfl
      | succ m' => rw [uval, uval, if_neg (by omega)]
    | succ m => cases m' with
      | zero => rw [uval, uval, if_neg (by omega)]
      | succ m' => rw [uval, uval, if_neg (by omega), if_neg (by omega)]
  | succ d ih =>
    intro m m' a h hm hm'
    obtain ⟨m, rfl⟩ : ∃ l, m = l + 1 := ⟨m - 1, by omega⟩
    obtain ⟨m', rfl⟩ : ∃ l, m' = l + 1 := ⟨m' - 1, by omega⟩
    have hu := usz_ok (s := s) (a := a)
    rw [uval, uval]
    split
    · split
      · rfl
      · obtain ⟨n, hn⟩ : ∃ n : Nat, (a : Int) + usz s a = n := ⟨((a : Int) + usz s a).toNat, by omega⟩
        rw [hn]
        exact ih m m' n (by omega) (by omega) (by omega)
    · rfl

theorem uval_app {a b : ByteArray} (hb : uvalid b = true) : ∀ (d i m : Nat), a.size - i = d → i ≤ a.size → d + b.size ≤ m → uval a d (i : Int) = true → uval (a ++ b) m (i : Int) = true := by
  have hsz := bsize_app (a := a) (b := b)
  have right : ∀ (e j m : Nat), b.size - j ≤ e → j ≤ b.size → e ≤ m → uval b e (j : Int) = true → uval (a ++ b) m ((a.size + j : Nat) : Int) = true := by
    intro e
    induction e with
    | zero =>
      intro j m h1 h2 h3 h4
      cases m with
      | zero => rfl
      | succ m => rw [uval, if_neg (by omega)]
    | succ e ih =>
      intro j m h1 h2 h3 h4
      obtain ⟨m, rfl⟩ : ∃ l, m = l + 1 := ⟨m - 1, by omega⟩
      have hu := usz_ok (s := b) (a := j)
      rw [uval] at h4 ⊢
      by_cases hj : (j : Int) < b.size
      · have hu3 := hu.2.2 (by omega) hj
        rw [if_pos hj] at h4
        rw [if_pos (by omega), usz_right]
        by_cases hz : usz b j = 0
        · rw [if_pos hz] at h4; cases h4
        · rw [if_neg hz] at h4 ⊢
          obtain ⟨n, hn⟩ : ∃ n : Nat, usz b j = n := ⟨(usz b j).toNat, by omega⟩
          rw [hn] at h4 hu3 hz ⊢
          have e1 : ((a.size + j : Nat) : Int) + (n : Int) = ((a.size + (j + n) : Nat) : Int) := by omega
          have e2 : (j : Int) + (n : Int) = ((j + n : Nat) : Int) := by omega
          rw [e1]
          rw [e2] at h4
          exact ih (j + n) m (by omega) (by omega) (by omega) h4
      · rw [if_neg (by omega)]
  intro d
  induction d using Nat.strongRecOn with
  | _ d ih =>
    intro i m h1 h2 h3 h4
    by_cases hi : i = a.size
    · subst hi
      have := right b.size 0 m (by omega) (by omega) (by omega) hb
      simpa using this
    · obtain ⟨d, rfl⟩ : ∃ l, d = l + 1 := ⟨d - 1, by omega⟩
      obtain ⟨m, rfl⟩ : ∃ l, m = l + 1 := ⟨m - 1, by omega⟩
      have hu := usz_ok (s := a) (a := i)
      have hu3 := hu.2.2 (by omega) (by omega)
      rw [uval, if_pos (by omega)] at h4
      rw [uval, if_pos (by omega)]
      by_cases hz : usz a i = 0
      · rw [if_pos hz] at h4; cases h4
      · rw [if_neg hz] at h4
        rw [usz_left hz, if_neg hz]
        obtain ⟨n, hn⟩ : ∃ n : Nat, usz a i = n := ⟨(usz a i).toNat, by omega⟩
        rw [hn] at h4 hu3 hz ⊢
        have e2 : (i : Int) + (n : Int) = ((i + n : Nat) : Int) := by omega
        rw [e2] at h4 ⊢
        refine ih (a.size - (i + n)) (by omega) (i + n) m rfl (by omega) (by omega) ?_
        rw [uval_fuel (a.size - (i + n)) (a.size - (i + n)) d (i + n) (by omega) (by omega) (by omega)]
        exact h4

theorem uvalid_app {a b : ByteArray} (ha : uvalid a = true) (hb : uvalid b = true) : uvalid (a ++ b) = true := by
  unfold uvalid
  have h := uval_app hb a.size 0 (a ++ b).size (by omega) (by omega) (by rw [bsize_app]; omega) ha
  exact h

theorem ofBytes_size (xs : List Int) : (ofBytes xs).size = xs.length := by
  unfold ofBytes
  rw [ByteArray.size]
  rw [List.size_toArray, List.length_map]

theorem txt_ofBytes {xs : List Int} (h : ∀ x ∈ xs, 0 ≤ x ∧ x < 256) : txt (ofBytes xs) = xs := by
  unfold ofBytes txt
  simp only [List.map_map]
  refine (List.map_congr_left (g := id) fun x hx => ?_).trans (List.map_id _)
  have := h x hx
  simp only [Function.comp, id]
  rw [UInt8.toNat_ofNat']
  omega

theorem ext_size {s : ByteArray} {a b : Nat} (h : a ≤ b) (hb : b ≤ s.size) : (s.extract a b).size = b - a := by
  rw [← txt_len, txt_extract, List.length_take, List.length_drop, txt_len]; omega

theorem uszB_anti {n n' c d e f d' e' f' v : Int} (h : uszB n' c d' e' f' = v) (hv : v ≠ 0) (hvn : v ≤ n) (hd : 2 ≤ v → d = d') (he : 3 ≤ v → e = e') (hf : 4 ≤ v → f = f') : uszB n c d e f = v := by
  unfold uszB at h ⊢
  split
  · rename_i h1; rw [if_pos h1] at h; exact h
  · rename_i h1
    rw [if_neg h1] at h
    split
    · rename_i h2
      rw [if_pos h2] at h
      by_cases c2 : 2 ≤ n' ∧ cont d' ∧ 128 ≤ c % 32 * 64 + d' % 64
      · rw [if_pos c2] at h
        rw [hd (by omega), if_pos ⟨by omega, c2.2⟩, h]
      · rw [if_neg c2] at h; exact absurd h.symm hv
    · rename_i h2
      rw [if_neg h2] at h
      split
      · rename_i h3
        rw [if_pos h3] at h
        by_cases c3 : 3 ≤ n' ∧ cont d' ∧ cont e' ∧ 2048 ≤ (c % 16 * 64 + d' % 64) * 64 + e' % 64 ∧ ¬ (55296 ≤ (c % 16 * 64 + d' % 64) * 64 + e' % 64 ∧ (c % 16 * 64 + d' % 64) * 64 + e' % 64 < 57344)
        · rw [if_pos c3] at h
          rw [hd (by omega), he (by omega), if_pos ⟨by omega, c3.2⟩, h]
        · rw [if_neg c3] at h; exact absurd h.symm hv
      · rename_i h3
        rw [if_neg h3] at h
        split
        · rename_i h4
          rw [if_pos h4] at h
          by_cases c4 : 4 ≤ n' ∧ cont d' ∧ cont e' ∧ cont f' ∧ 65536 ≤ ((c % 8 * 64 + d' % 64) * 64 + e' % 64) * 64 + f' % 64 ∧ ((c % 8 * 64 + d' % 64) * 64 + e' % 64) * 64 + f' % 64 ≤ 1114111
          · rw [if_pos c4] at h
            rw [hd (by omega), he (by omega), hf (by omega), if_pos ⟨by omega, c4.2⟩, h]
          · rw [if_neg c4] at h; exact absurd h.symm hv
        · rename_i h4
          rw [if_neg h4] at h; exact h

/-- The bytes of a code point but its first one go on with it. -/
theorem uszB_cont {n c d e f : Int} : (2 ≤ uszB n c d e f → cont d) ∧ (3 ≤ uszB n c d e f → cont e) ∧ (4 ≤ uszB n c d e f → cont f) := by
  unfold uszB
  split
  · omega
  · split
    · split
      · rename_i h; exact ⟨fun _ => h.2.1, by omega, by omega⟩
      · omega
    · split
      · split
        · rename_i h; exact ⟨fun _ => h.2.1, fun _ => h.2.2.1, by omega⟩
        · omega
      · split
        · split
          · rename_i h; exact ⟨fun _ => h.2.1, fun _ => h.2.2.1, fun _ => h.2.2.2.1⟩
          · omega
        · omega

theorem usz_cont {s : ByteArray} {i j : Nat} (h1 : i < j) (h2 : (j : Int) < i + usz s i) : cont (bt s (j : Int)) := by
  by_cases hi : (i : Int) < s.size
  · have hu := usz_ok (s := s) (a := i)
    unfold usz at h2 hu
    rw [if_neg (by omega)] at h2 hu
    have hc := uszB_cont (n := (s.size : Int) - i) (c := bt s i) (d := bt s ((i : Int) + 1)) (e := bt s ((i : Int) + 2)) (f := bt s ((i : Int) + 3))
    have h3 : j = i + 1 ∨ j = i + 2 ∨ j = i + 3 := by omega
    rcases h3 with rfl | rfl | rfl
    · have := hc.1 (by omega); rwa [show ((i + 1 : Nat) : Int) = (i : Int) + 1 by omega]
    · have := hc.2.1 (by omega); rwa [show ((i + 2 : Nat) : Int) = (i : Int) + 2 by omega]
    · have := hc.2.2 (by omega); rwa [show ((i + 3 : Nat) : Int) = (i : Int) + 3 by omega]
  · have : usz s (i : Int) = 0 := by unfold usz; rw [if_pos (by omega)]
    omega

theorem usz_cut {a b : ByteArray} {i : Nat} (hz : usz (a ++ b) (i : Int) ≠ 0) (h : (i : Int) + usz (a ++ b) i ≤ a.size) : usz a (i : Int) = usz (a ++ b) (i : Int) := by
  have hu := usz_ok (s := a ++ b) (a := i)
  have hb := bsize_app (a := a) (b := b)
  have hia : (i : Int) < a.size := by omega
  generalize hv : usz (a ++ b) (i : Int) = v at *
  unfold usz at hv ⊢
  rw [if_neg (by omega)] at hv ⊢
  rw [bt_left (by omega)] at hv
  refine uszB_anti hv hz (by omega) (fun h2 => ?_) (fun h3 => ?_) (fun h4 => ?_)
  · rw [show (i : Int) + 1 = ((i + 1 : Nat) : Int) by omega, bt_left (by omega)]
  · rw [show (i : Int) + 2 = ((i + 2 : Nat) : Int) by omega, bt_left (by omega)]
  · rw [show (i : Int) + 3 = ((i + 3 : Nat) : Int) by omega, bt_left (by omega)]

/-- Ahead of an edge. -/
theorem uval_pre {a b : ByteArray} (he : b.size = 0 ∨ ¬ cont (bt b 0)) : ∀ (d i m : Nat), a.size - i ≤ d → i ≤ a.size → (a ++ b).size - i ≤ m → uval (a ++ b) m (i : Int) = true → uval a d (i : Int) = true := by
  have hsz := bsize_app (a := a) (b := b)
  intro d
  induction d with
  | zero => intro i m _ _ _ _; rfl
  | succ d ih =>
    intro i m h1 h2 h3 h4
    rw [uval]
    by_cases hi : (i : Int) < a.size
    · obtain ⟨m, rfl⟩ : ∃ l, m = l + 1 := ⟨m - 1, by omega⟩
      have hu := usz_ok (s := a ++ b) (a := i)
      have hu3 := hu.2.2 (by omega) (by omega)
      rw [uval, if_pos (by omega)] at h4
      by_cases hz : usz (a ++ b) i = 0
      · rw [if_pos hz] at h4; cases h4
      · rw [if_neg hz] at h4
        have hle : (i : Int) + usz (a ++ b) i ≤ a.size := by
          rcases Int.lt_or_le (a.size : Int) ((i : Int) + usz (a ++ b) i) with h5 | h5
          · exfalso
            have hc := usz_cont (s := a ++ b) (i := i) (j := a.size) (by omega) h5
            rcases he with he | he
            · omega
            · have := bt_right (a := a) (b := b) (i := 0)
              rw [Nat.add_zero] at this
              rw [this] at hc
              exact he hc
          · exact h5
        rw [if_pos hi, usz_cut hz hle, if_neg hz]
        obtain ⟨n, hn⟩ : ∃ n : Nat, usz (a ++ b) i = n := ⟨(usz (a ++ b) i).toNat, by omega⟩
        rw [hn] at h4 hu3 hz hle ⊢
        have e2 : (i : Int) + (n : Int) = ((i + n : Nat) : Int) := by omega
        rw [e2] at h4 ⊢
        exact ih (i + n) m (by omega) (by omega) (by omega) h4
    · rw [if_neg hi]

/-- Behind what is right. -/
theorem uval_mid {a b : ByteArray} : ∀ (d i m : Nat), a.size - i ≤ d → i ≤ a.size → (a ++ b).size - i ≤ m → uval a d (i : Int) = true → uval (a ++ b) m (i : Int) = true → uval (a ++ b) (a ++ b).size (a.size : Int) = true := by
  have hsz := bsize_app (a := a) (b := b)
  intro d
  induction d with
  | zero =>
    intro i m h1 h2 h3 _ h4
    rw [show i = a.size by omega] at h4 h3
    rw [← uval_fuel ((a ++ b).size - a.size) m (a ++ b).size a.size (Nat.le_refl _) h3 (by omega)]
    exact h4
  | succ d ih =>
    intro i m h1 h2 h3 h4 h5
    by_cases hi : i = a.size
    · subst hi
      rw [← uval_fuel ((a ++ b).size - a.size) m (a ++ b).size a.size (Nat.le_refl _) h3 (by omega)]
      exact h5
    · obtain ⟨m, rfl⟩ : ∃ l, m = l + 1 := ⟨m - 1, by omega⟩
      have hu := usz_ok (s := a) (a := i)
      have hu3 := hu.2.2 (by omega) (by omega)
      rw [uval, if_pos (by omega)] at h4 h5
      by_cases hz : usz a i = 0
      · rw [if_pos hz] at h4; cases h4
      · rw [if_neg hz] at h4
        rw [usz_left hz, if_neg hz] at h5
        obtain ⟨n, hn⟩ : ∃ n : Nat, usz a i = n := ⟨(usz a i).toNat, by omega⟩
        rw [hn] at h4 h5 hu3 hz
        have e2 : (i : Int) + (n : Int) = ((i + n : Nat) : Int) := by omega
        rw [e2] at h4 h5
        exact ih (i + n) m (by omega) (by omega) (by omega) h4 h5

theorem uval_suf {a b : ByteArray} : ∀ (d j m : Nat), b.size - j ≤ d → j ≤ b.size → b.size - j ≤ m → uval (a ++ b) m ((a.size + j : Nat) : Int) = true → uval b d (j : Int) = true := by
  have hsz := bsize_app (a := a) (b := b)
  intro d
  induction d with
  | zero => intro j m _ _ _ _; rfl
  | succ d ih =>
    intro j m h1 h2 h3 h4
    rw [uval]
    by_cases hj : (j : Int) < b.size
    · obtain ⟨m, rfl⟩ : ∃ l, m = l + 1 := ⟨m - 1, by omega⟩
      have hu := usz_ok (s := b) (a := j)
      have hu3 := hu.2.2 (by omega) hj
      rw [uval, if_pos (by omega), usz_right] at h4
      rw [if_pos hj]
      by_cases hz : usz b j = 0
      · rw [if_pos hz] at h4; cases h4
      · rw [if_neg hz] at h4 ⊢
        obtain ⟨n, hn⟩ : ∃ n : Nat, usz b j = n := ⟨(usz b j).toNat, by omega⟩
        rw [hn] at h4 hu3 hz ⊢
        have e1 : ((a.size + j : Nat) : Int) + (n : Int) = ((a.size + (j + n) : Nat) : Int) := by omega
        have e2 : (j : Int) + (n : Int) = ((j + n : Nat) : Int) := by omega
        rw [e1] at h4
        rw [e2]
        exact ih (j + n) m (by omega) (by omega) (by omega) h4
    · rw [if_neg hj]

theorem uvalid_right {a b : ByteArray} (h : uvalid (a ++ b) = true) (ha : uvalid a = true) : uvalid b = true := by
  unfold uvalid at h ha ⊢
  have hsz := bsize_app (a := a) (b := b)
  have h1 := uval_mid (a := a) (b := b) a.size 0 (a ++ b).size (by omega) (by omega) (by omega) ha h
  exact uval_suf (a := a) (b := b) b.size 0 (a ++ b).size (by omega) (by omega) (by omega) (by rw [Nat.add_zero]; exact h1)

theorem uvalid_left {a b : ByteArray} (h : uvalid (a ++ b) = true) (he : b.size = 0 ∨ ¬ cont (bt b 0)) : uvalid a = true := by
  unfold uvalid at h ⊢
  exact uval_pre (a := a) (b := b) he a.size 0 (a ++ b).size (by omega) (by omega) (by omega) h

/-- Bytes that are a valid text. -/
def vB (l : List Int) : Prop := uvalid (ofBytes l) = true

theorem vB_txt {s : ByteArray} : vB (txt s) ↔ uvalid s = true := by unfold vB; rw [ofBytes_txt]

theorem ofBytes_app {a b : List Int} : ofBytes (a ++ b) = ofBytes a ++ ofBytes b := by
  apply ByteArray.ext
  rw [ByteArray.data_append]
  unfold ofBytes
  simp

theorem vB_right {a b : List Int} (h : vB (a ++ b)) (ha : vB a) : vB b := by
  unfold vB at *
  rw [ofBytes_app] at h
  exact uvalid_right h ha

theorem vB_nil : vB [] := by unfold vB; decide +kernel

/-- A place between two code points of a valid text. -/
def edg (s : ByteArray) (p : Int) : Prop := 0 ≤ p ∧ p ≤ s.size ∧ vB ((txt s).take p.toNat)

theorem edg_0 {s : ByteArray} : edg s 0 := ⟨Int.le_refl 0, by omega, by rw [show (0 : Int).toNat = 0 from rfl, List.take_zero]; exact vB_nil⟩

theorem edg_end {s : ByteArray} (h : uvalid s = true) : edg s s.size := ⟨by omega, Int.le_refl _, by rw [Int.toNat_natCast, List.take_of_length_le (by rw [txt_len]; omega), vB_txt]; exact h⟩

theorem edg_part {s : ByteArray} {p q : Int} (hp : edg s p) (hq : edg s q) (h : p ≤ q) : vB (((txt s).drop p.toNat).take (q - p).toNat) := by
  obtain ⟨p0, p1, p2⟩ := hp
  obtain ⟨q0, q1, q2⟩ := hq
  have e : (txt s).take q.toNat = (txt s).take p.toNat ++ ((txt s).drop p.toNat).take (q - p).toNat := by
    rw [show q.toNat = p.toNat + (q - p).toNat by omega, List.take_add]
  rw [e] at q2
  exact vB_right q2 p2

/-- Whether a place is an edge, by the document's own look. -/
def isE (s : ByteArray) (p : Int) : Bool := decide (0 ≤ p ∧ p ≤ s.size) && (uvalid s && (decide (p = s.size) || !decide (cont (bt s p))))

theorem isE_edg {s : ByteArray} {p : Int} (h : isE s p = true) : edg s p := by
  unfold isE at h
  rw [Bool.and_eq_true, Bool.and_eq_true, decide_eq_true_eq, Bool.or_eq_true, decide_eq_true_eq] at h
  obtain ⟨⟨h0, h1⟩, h2, h3⟩ := h
  refine ⟨h0, h1, ?_⟩
  obtain ⟨n, rfl⟩ : ∃ n : Nat, p = n := ⟨p.toNat, by omega⟩
  rw [Int.toNat_natCast]
  have e : (txt s).take n ++ (txt s).drop n = txt s := List.take_append_drop n _
  rw [← vB_txt, ← e] at h2
  unfold vB at h2 ⊢
  rw [ofBytes_app] at h2
  refine uvalid_left h2 ?_
  rcases h3 with h3 | h3
  · left; rw [ofBytes_size, List.length_drop, txt_len]; omega
  · by_cases hn : n = s.size
    · left; rw [ofBytes_size, List.length_drop, txt_len]; omega
    · right
      simp only [Bool.not_eq_true', decide_eq_false_iff_not] at h3
      have hl : n < (txt s).length := by rw [txt_len]; omega
      have hall : ∀ x ∈ (txt s).drop n, 0 ≤ x ∧ x < 256 := by
        intro x hx
        obtain ⟨c, _, rfl⟩ := List.mem_map.1 (List.mem_of_mem_drop hx)
        have := c.toNat_lt
        omega
      have h0 : 0 < (txt (ofBytes ((txt s).drop n))).length := by rw [txt_ofBytes hall, List.length_drop]; omega
      have hb := bt_is (s := ofBytes ((txt s).drop n)) h0
      rw [Int.natCast_zero] at hb
      rw [hb]
      have : ∀ (l : List Int) (hl0 : 0 < l.length), l = (txt s).drop n → l[0] = (txt s)[n] := by
        intro l hl0 e; subst e; simp
      rw [this _ h0 (txt_ofBytes hall), ← bt_is hl]
      exact h3

theorem redge_is {K : Nat} {s : ByteArray} {p : Int} (hK : s.size + 10 ≤ K) (hs : s.size ≤ 1000000) : palinoderef1_IsEdge K s p = some (isE s p) := by
  unfold palinoderef1_IsEdge isE
  have hb := bt_ok (s := s) (i := p)
  by_cases h0 : p < 0
  · rw [if_pos (by simpa using h0), Option.bind_some, if_pos rfl, decide_eq_false (by omega), Bool.false_and]
  · rw [if_neg (by simpa using h0)]
    by_cases h1 : p > s.size
    · rw [if_pos (by simpa using h1), Option.bind_some, if_pos rfl, decide_eq_false (by omega), Bool.false_and]
    · rw [if_neg (by simpa using h1), rvalid_is hK (by omega), Option.bind_some, Option.bind_some, decide_eq_true (by omega), Bool.true_and]
      cases hv : uvalid s with
      | false => rfl
      | true =>
        rw [if_neg (by simp), Bool.true_and]
        by_cases h2 : p = s.size
        · rw [if_pos (by simpa using h2), decide_eq_true h2]; rfl
        · rw [if_neg (by simpa using h2), if_pos ⟨by omega, by omega⟩, decide_eq_false h2, Bool.false_or, w64 (by omega) (by omega), div_64 hb.1 hb.2]

theorem ext_val {s : ByteArray} {p q : Int} (hp : edg s p) (hq : edg s q) (h : p ≤ q) : uvalid (s.extract p.toNat q.toNat) = true := by
  rw [← vB_txt, txt_extract, show q.toNat - p.toNat = (q - p).toNat by have := hp.1; omega]
  exact edg_part hp hq h

theorem get_mid {α : Type} {A R : List α} {x d : α} {n : Nat} (h : n = A.length) : (A ++ x :: R).getD n d = x := by
  subst h
  rw [List.getD_eq_getElem?_getD, List.getElem?_append_right (Nat.le_refl _), Nat.sub_self]; rfl

theorem set_mid {α : Type} {A R : List α} {x v : α} {n : Nat} (h : n = A.length) : (A ++ x :: R).set n v = A ++ v :: R := by
  subst h
  rw [List.set_append_right _ _ (Nat.le_refl _), Nat.sub_self, List.set_cons_zero]

theorem swp_a {α : Type} {P Q : List α} {z x : α} {n m : Nat} (hn : n = P.length) (hm : m = P.length + 1) : ((P ++ z :: x :: Q).set m z).set n x = P ++ x :: z :: Q := by
  have e : P ++ z :: x :: Q = (P ++ [z]) ++ x :: Q := by simp
  rw [e, set_mid (by simp [hm]), show (P ++ [z]) ++ z :: Q = P ++ z :: z :: Q by simp, set_mid hn]

theorem get_two {α : Type} {P Q : List α} {z x d : α} {m : Nat} (hm : m = P.length + 1) : (P ++ z :: x :: Q).getD m d = x := by
  rw [show P ++ z :: x :: Q = (P ++ [z]) ++ x :: Q by simp, get_mid (by simp [hm])]

theorem mn2_is {a b : Int} : mn2 a b = min a b := by unfold mn2; split <;> omega

theorem mx2_is {a b : Int} : mx2 a b = max a b := by unfold mx2; split <;> omega

abbrev Rg := Int × Int

abbrev rg0 : Rg := ((0 : Int), (0 : Int))

def loR (x : Rg) : Int := min x.1 x.2

def hiR (x : Rg) : Int := max x.1 x.2

def ltR (a b : Rg) : Bool := decide (loR a < loR b ∨ (loR a = loR b ∧ hiR a < hiR b))

theorem lo_hi (x : Rg) : loR x ≤ hiR x := by unfold loR hiR; omega

theorem spanR_is {K : Nat} {x : Rg} : region_Span K x.1 x.2 = some (loR x, hiR x) := by
  unfold region_Span; rw [mn2_is, mx2_is]; rfl

theorem compare_is {K : Nat} {a b : Int} : cmp_Compare K a b = some (if a < b then -1 else if a > b then 1 else 0) := by
  unfold cmp_Compare cmp_isNaN
  rw [Option.bind_some, Option.bind_some, bne_self_eq_false, if_neg (by simp), bne_self_eq_false, if_neg (by simp)]
  by_cases h : a < b
  · rw [if_pos (by simpa using h), if_pos h]
  · rw [if_neg (by simpa using h), if_neg h]
    by_cases h2 : a > b
    · rw [if_pos (by simpa using h2), if_pos h2]
    · rw [if_neg (by simpa using h2), if_neg h2]

theorem cmpR_is {K : Nat} (hK : 10 ≤ K) {a b : Rg} : ∃ c, region_apart_1 K a.1 a.2 b.1 b.2 = some c ∧ decide (c < 0) = ltR a b := by
  obtain ⟨k, rfl⟩ : ∃ k, K = k + 1 + 1 + 1 := ⟨K - 3, by omega⟩
  unfold region_apart_1 cmp_Or_r
  rw [spanR_is, Option.bind_some, spanR_is, Option.bind_some]
  simp only
  rw [compare_is, Option.bind_some, compare_is, Option.bind_some, cmp_Or_r.l0, if_pos (by simp), if_pos (by simp)]
  simp only [show Int.toNat 0 = 0 from rfl, List.getD_cons_zero]
  unfold ltR
  by_cases h1 : loR a < loR b
  · rw [if_pos h1, if_pos (by decide), Option.bind_some]
    exact ⟨_, rfl, by rw [decide_eq_decide]; omega⟩
  · rw [if_neg h1]
    by_cases h2 : loR a > loR b
    · rw [if_pos h2, if_pos (by decide), Option.bind_some]
      exact ⟨_, rfl, by rw [decide_eq_decide]; omega⟩
    · rw [if_neg h2, if_neg (by decide), show IntKind.wrap .i64 ((0 : Int) + 1) = 1 by decide, cmp_Or_r.l0, if_pos (by simp), if_pos (by simp)]
      simp only [show Int.toNat 1 = 1 from rfl, List.getD_cons_succ, List.getD_cons_zero]
      by_cases h3 : hiR a < hiR b
      · rw [if_pos h3, if_pos (by decide), Option.bind_some]
        exact ⟨_, rfl, by rw [decide_eq_decide]; omega⟩
      · rw [if_neg h3]
        by_cases h4 : hiR a > hiR b
        · rw [if_pos h4, if_pos (by decide), Option.bind_some]
          exact ⟨_, rfl, by rw [decide_eq_decide]; omega⟩
        · rw [if_neg h4, if_neg (by decide), show IntKind.wrap .i64 ((1 : Int) + 1) = 2 by decide, cmp_Or_r.l0, if_neg (by simp), Option.bind_some]
          exact ⟨_, rfl, by rw [decide_eq_decide]; omega⟩

/-- Put in from the right. -/
def insV (x : Rg) : List Rg → List Rg
  | [] => [x]
  | z :: l => if ltR x z = true then z :: insV x l else x :: z :: l

def insR (x : Rg) (S : List Rg) : List Rg := (insV x S.reverse).reverse

theorem insR_snoc (x z : Rg) (S : List Rg) : insR x (S ++ [z]) = if ltR x z = true then insR x S ++ [z] else S ++ [z] ++ [x] := by
  unfold insR
  rw [List.reverse_append, List.reverse_singleton, List.singleton_append, insV]
  split <;> simp

theorem insV_perm (x : Rg) : ∀ S : List Rg, (insV x S).Perm (x :: S)
  | [] => List.Perm.refl _
  | z :: l => by
    rw [insV]
    split
    · exact ((insV_perm x l).cons z).trans (List.Perm.swap x z l)
    · exact List.Perm.refl _

theorem insR_perm (x : Rg) (S : List Rg) : (insR x S).Perm (x :: S) := by
  unfold insR
  refine (List.reverse_perm _).trans ((insV_perm x S.reverse).trans ?_)
  exact (List.reverse_perm S).cons x

theorem insR_len (x : Rg) (S : List Rg) : (insR x S).length = S.length + 1 := by rw [(insR_perm x S).length_eq]; rfl

def srtR (X S : List Rg) : List Rg := X.foldl (fun S x => insR x S) S

theorem srtR_perm : ∀ {X S : List Rg}, (srtR X S).Perm (X ++ S)
  | [], S => List.Perm.refl _
  | x :: X, S => by
    show (srtR X (insR x S)).Perm _
    refine srtR_perm.trans ?_
    refine ((insR_perm x S).append_left X).trans ?_
    rw [List.cons_append]
    exact List.perm_middle

theorem insL_loop {K : Nat} {x : Rg} (hK : 10 ≤ K) : ∀ (n : Nat) (S2 T S : List Rg) (k : Nat), S.length = n → n < k → S.length + S2.length + T.length ≤ 100000 →
    slices_insertionSortCmpFunc_rggcregionapart1.l1 K 0 k (S ++ x :: (S2 ++ T)) (S.length : Int) = some (insR x S ++ (S2 ++ T))
  | 0, S2, T, S, k, hn, hk, hl => by
    obtain ⟨k, rfl⟩ : ∃ m, k = m + 1 := ⟨k - 1, by omega⟩
    have : S = [] := List.eq_nil_of_length_eq_zero hn
    subst this
    rw [slices_insertionSortCmpFunc_rggcregionapart1.l1, if_neg (by simp), Option.bind_some, if_neg (by simp)]
    rfl
  | n + 1, S2, T, S, k, hn, hk, hl => by
    obtain ⟨k, rfl⟩ : ∃ m, k = m + 1 := ⟨k - 1, by omega⟩
    obtain ⟨S', z, rfl⟩ := split_last (l := S) (by intro e; rw [e] at hn; simp at hn)
    rw [List.length_append, List.length_singleton] at hn hl
    have eD : (S' ++ [z]) ++ x :: (S2 ++ T) = S' ++ z :: x :: (S2 ++ T) := by simp
    have g1 : (S' ++ z :: x :: (S2 ++ T)).getD (S'.length + 1) rg0 = x := get_two rfl
    have g2 : (S' ++ z :: x :: (S2 ++ T)).getD S'.length rg0 = z := get_mid rfl
    have hw : IntKind.wrap .i64 (((S'.length + 1 : Nat) : Int) - 1) = (S'.length : Int) := by rw [w64 (by omega) (by omega)]; omega
    have hDl : (S' ++ z :: x :: (S2 ++ T)).length = S'.length + 2 + S2.length + T.length := by simp only [List.length_append, List.length_cons]; omega
    obtain ⟨c, hc1, hc2⟩ := cmpR_is (K := K) hK (a := x) (b := z)
    rw [List.length_append, List.length_singleton, slices_insertionSortCmpFunc_rggcregionapart1.l1, eD]
    simp only [hw, Int.toNat_natCast, g1, g2]
    rw [if_pos (by rw [decide_eq_true_eq]; omega), hc1, Option.bind_some, if_pos ⟨by omega, by omega, by omega, by omega⟩, hc2, Option.bind_some, insR_snoc]
    cases hlt : ltR x z with
    | true =>
      rw [if_pos rfl, if_pos ⟨by omega, by omega, by omega, by omega, by rw [List.length_set]; omega⟩, if_pos rfl]
      have e := insL_loop (K := K) (x := x) hK n (z :: S2) T S' k (by omega) (by omega) (by simp only [List.length_cons]; omega)
      rw [show ((S' ++ z :: x :: (S2 ++ T)).set (S'.length + 1) (z.1, z.2)).set S'.length (x.1, x.2) = S' ++ x :: z :: (S2 ++ T) from swp_a rfl rfl]
      rw [List.cons_append] at e
      rw [e]
      simp
    | false =>
      rw [if_neg (by simp), if_neg (by simp)]
      simp

theorem ins0R_loop {K : Nat} (hK : 100000 ≤ K) : ∀ (X S : List Rg) (k : Nat), X.length < k → S.length + X.length ≤ 90000 →
    slices_insertionSortCmpFunc_rggcregionapart1.l0 K ((S.length + X.length : Nat) : Int) 0 k (S ++ X) (S.length : Int) = some (srtR X S)
  | [], S, k, hk, hl => by
    obtain ⟨k, rfl⟩ : ∃ m, k = m + 1 := ⟨k - 1, by omega⟩
    rw [slices_insertionSortCmpFunc_rggcregionapart1.l0, if_neg (by simp), List.append_nil]; rfl
  | x :: X, S, k, hk, hl => by
    obtain ⟨k, rfl⟩ : ∃ m, k = m + 1 := ⟨k - 1, by omega⟩
    rw [List.length_cons] at hk hl
    have hw : IntKind.wrap .i64 (((S.length : Nat) : Int) + 1) = ((S.length + 1 : Nat) : Int) := by rw [w64 (by omega) (by omega)]; omega
    have e := insL_loop (K := K) (x := x) (by omega) S.length [] X S K rfl (by omega) (by simp only [List.length_nil]; omega)
    rw [List.nil_append] at e
    have e2 := ins0R_loop hK X (insR x S) k (by omega) (by rw [insR_len]; omega)
    rw [insR_len] at e2
    rw [slices_insertionSortCmpFunc_rggcregionapart1.l0, if_pos (by simp; omega), e, Option.bind_some, hw, List.length_cons, show S.length + (X.length + 1) = S.length + 1 + X.length by omega, e2]
    rfl

/-- No more than nineteen, sorted. -/
theorem sortR_is {K : Nat} {X : List Rg} (hK : 100000 ≤ K) (hl : X.length < 20) : slices_SortStableFunc_rcregionapart1 K X = some (srtR X []) := by
  obtain ⟨k, rfl⟩ : ∃ m, K = m + 1 := ⟨K - 1, by omega⟩
  unfold slices_SortStableFunc_rcregionapart1 slices_stableCmpFunc_rgcregionapart1 slices_insertionSortCmpFunc_rggcregionapart1
  rw [slices_stableCmpFunc_rgcregionapart1.l0, if_neg (by simp; omega), Option.bind_some]
  simp only [show IntKind.wrap .i64 ((0 : Int) + 1) = 1 by decide]
  cases X with
  | nil =>
    rw [slices_insertionSortCmpFunc_rggcregionapart1.l0, if_neg (by simp), Option.bind_some, slices_stableCmpFunc_rgcregionapart1.l1, if_neg (by simp), Option.bind_some]
    rfl
  | cons x X =>
    rw [List.length_cons] at hl
    have e := ins0R_loop (K := k + 1) hK X [x] (k + 1) (by omega) (by simp only [List.length_singleton]; omega)
    simp only [List.length_singleton, List.singleton_append] at e
    rw [show ((1 + X.length : Nat) : Int) = (((x :: X).length : Nat) : Int) by rw [List.length_cons]; omega, show ((1 : Nat) : Int) = 1 from rfl] at e
    rw [e, Option.bind_some, slices_stableCmpFunc_rgcregionapart1.l1, if_neg (by simp; omega), Option.bind_some]
    rfl

/-! ### In order -/

def leR (a b : Rg) : Prop := ltR b a = false

theorem leR_trans {a b c : Rg} (h1 : leR a b) (h2 : leR b c) : leR a c := by
  unfold leR ltR at *
  rw [decide_eq_false_iff_not] at *
  omega

theorem ltR_le {a b : Rg} (h : ltR a b = true) : leR a b := by
  unfold leR ltR at *
  rw [decide_eq_true_eq] at h
  rw [decide_eq_false_iff_not]
  omega

theorem leR_lo {a b : Rg} (h : leR a b) : loR a ≤ loR b := by
  unfold leR ltR at h
  rw [decide_eq_false_iff_not] at h
  omega

theorem insR_srt {x : Rg} : ∀ (n : Nat) (S : List Rg), S.length = n → S.Pairwise leR → (insR x S).Pairwise leR
  | 0, S, hn, hs => by
    have : S = [] := List.eq_nil_of_length_eq_zero hn
    subst this
    exact List.pairwise_singleton _ _
  | n + 1, S, hn, hs => by
    obtain ⟨S', z, rfl⟩ := split_last (l := S) (by intro e; rw [e] at hn; simp at hn)
    rw [List.length_append, List.length_singleton] at hn
    have hs' := List.pairwise_append.1 hs
    rw [insR_snoc]
    cases hlt : ltR x z with
    | true =>
      rw [if_pos rfl]
      refine List.pairwise_append.2 ⟨insR_srt n S' (by omega) hs'.1, List.pairwise_singleton _ _, fun a ha b hb => ?_⟩
      rw [List.mem_singleton.1 hb]
      rcases List.mem_cons.1 ((insR_perm x S').mem_iff.1 ha) with rfl | ha
      · exact ltR_le hlt
      · exact hs'.2.2 a ha z (by simp)
    | false =>
      rw [if_neg (by simp)]
      refine List.pairwise_append.2 ⟨hs, List.pairwise_singleton _ _, fun a ha b hb => ?_⟩
      rw [List.mem_singleton.1 hb]
      rcases List.mem_append.1 ha with ha | ha
      · exact leR_trans (hs'.2.2 a ha z (by simp)) hlt
      · rw [List.mem_singleton.1 ha]; exact hlt

theorem srtR_srt : ∀ {X S : List Rg}, S.Pairwise leR → (srtR X S).Pairwise leR
  | [], S, h => h
  | x :: X, S, h => srtR_srt (X := X) (insR_srt S.length S rfl h)

/-- Two that touch, as one. -/
def mgR (c x : Rg) : Rg := if c.2 < c.1 then (max (hiR x) (hiR c), loR c) else (loR c, max (hiR x) (hiR c))

def jn : Rg → List Rg → List Rg
  | c, [] => [c]
  | c, x :: l => if loR x > hiR c then c :: jn x l else jn (mgR c x) l

def jnR : List Rg → List Rg
  | [] => []
  | x :: l => jn x l

theorem mg_lo {c x : Rg} : loR (mgR c x) = loR c := by
  have := lo_hi c
  unfold mgR
  split <;> (unfold loR hiR at *; simp only; omega)

theorem touchR_is {K : Nat} {c x : Rg} : region_apart_2 K c.1 c.2 x.1 x.2 = some (decide (hiR c ≥ loR x ∧ hiR x ≥ loR c)) := by
  unfold region_apart_2 interval_Touch
  rw [spanR_is, Option.bind_some, spanR_is, Option.bind_some]
  simp only
  by_cases h : hiR c ≥ loR x
  · rw [if_pos (by simpa using h), Option.bind_some]; congr 1; rw [decide_eq_decide]; omega
  · rw [if_neg (by simpa using h), Option.bind_some]; congr 1; symm; rw [decide_eq_false_iff_not]; omega

theorem mergeR_is {K : Nat} {c x : Rg} (h : loR c ≤ loR x) : region_joined K c.1 c.2 x.1 x.2 = some (mgR c x) := by
  unfold region_joined interval_Join mgR
  rw [spanR_is, Option.bind_some, spanR_is, Option.bind_some]
  simp only [mn2_is, mx2_is, Option.bind_some, decide_eq_true_eq]
  rw [show min (loR c) (loR x) = loR c by omega, Int.max_comm]
  split <;> rfl

theorem fold_loop {K : Nat} {l : List Rg} (hl : l.length ≤ 10000) : ∀ (rest : List Rg) (j k : Nat) (O : List Rg) (c : Rg), l.drop j = rest → rest.length < k → O.length + 1 ≤ j → (∀ x ∈ rest, loR c ≤ loR x) → rest.Pairwise (fun a b => loR a ≤ loR b) →
    interval_Folded_rcregionapart2cregionjoined.l0 K l k (O ++ [c]) (j : Int) = some (O ++ jn c rest)
  | [], j, k, O, c, hd, hk, hO, _, _ => by
    obtain ⟨k, rfl⟩ : ∃ m, k = m + 1 := ⟨k - 1, by omega⟩
    have := drop_nil hd
    rw [interval_Folded_rcregionapart2cregionjoined.l0, if_neg (by simp; omega)]; rfl
  | x :: rest, j, k, O, c, hd, hk, hO, hc1, hc2 => by
    obtain ⟨k, rfl⟩ : ∃ m, k = m + 1 := ⟨k - 1, by omega⟩
    obtain ⟨hj, hx, hd'⟩ := drop_cons hd rg0
    rw [List.length_cons] at hk
    rw [List.pairwise_cons] at hc2
    have hcx := hc1 x (by simp)
    have hlx := lo_hi x
    have hw : IntKind.wrap .i64 ((j : Int) + 1) = ((j + 1 : Nat) : Int) := by rw [w64 (by omega) (by omega)]; omega
    have hol : (O ++ [c]).length = O.length + 1 := by simp
    have hw2 : IntKind.wrap .i64 ((((O ++ [c]).length : Nat) : Int) - 1) = (O.length : Int) := by rw [w64 (by omega) (by omega)]; omega
    have g : (O ++ [c]).getD O.length rg0 = c := get_mid rfl
    have hc : (0 : Int) ≤ (O.length : Int) ∧ (O.length : Int) < (((O ++ [c]).length : Nat) : Int) := by omega
    have st : ∀ v : Rg, (O ++ [c]).set O.length v = O ++ [v] := fun v => set_mid rfl
    rw [interval_Folded_rcregionapart2cregionjoined.l0, if_pos (by simp; omega)]
    simp only [hw2, Int.toNat_natCast, hx, hw, touchR_is, mergeR_is hcx, Option.bind_some, g, if_pos hc, st]
    rw [if_pos (by omega), if_pos (by rw [decide_eq_true_eq]; omega), Option.bind_some]
    simp only [decide_eq_true_eq]
    rw [jn]
    by_cases h : loR x > hiR c
    · rw [if_neg (by omega), if_pos h, if_pos (by simp only [List.length_singleton]; omega)]
      have e := fold_loop (K := K) hl rest (j + 1) k (O ++ [c]) x hd' (by omega) (by omega) hc2.1 hc2.2
      rw [e]; simp
    · rw [if_pos (by omega), if_neg h]
      exact fold_loop (K := K) hl rest (j + 1) k O (mgR c x) hd' (by omega) (by omega) (fun y hy => by rw [mg_lo]; exact hc1 y (by simp [hy])) hc2.2

theorem apart_is {K : Nat} {l : List Rg} (hK : 100000 ≤ K) (hl : l.length < 20) : region_apart K l = some (jnR (srtR l [])) := by
  unfold region_apart slices_Clone
  rw [if_pos (by simp; omega), Option.bind_some, List.nil_append, sortR_is hK hl, Option.bind_some]
  have hlen : (srtR l []).length = l.length := by rw [srtR_perm.length_eq, List.append_nil]
  have hs : (srtR l []).Pairwise (fun a b => loR a ≤ loR b) := (srtR_srt (X := l) List.Pairwise.nil).imp leR_lo
  unfold interval_Folded_rcregionapart2cregionjoined
  obtain ⟨k, rfl⟩ : ∃ m, K = m + 1 := ⟨K - 1, by omega⟩
  cases hS : srtR l [] with
  | nil => rw [interval_Folded_rcregionapart2cregionjoined.l0, if_neg (by simp)]; rfl
  | cons x S =>
    rw [hS] at hlen hs
    rw [List.length_cons] at hlen
    rw [List.pairwise_cons] at hs
    have e2 := fold_loop (K := k + 1) (l := x :: S) (by rw [List.length_cons]; omega) S 1 k [] x rfl (by omega) (by simp) hs.1 hs.2
    rw [List.nil_append, List.nil_append] at e2
    rw [interval_Folded_rcregionapart2cregionjoined.l0, if_pos (by simp), if_pos (by simp), if_neg (by decide), Option.bind_some, if_neg (by simp)]
    simp only [show Int.toNat 0 = 0 from rfl, List.getD_cons_zero]
    rw [if_pos (by simp), show IntKind.wrap .i64 ((0 : Int) + 1) = ((1 : Nat) : Int) by decide]
    rw [show ([] : List Rg) ++ [(x.1, x.2)] = [x] from rfl, e2]
    rfl

theorem uedge_is {K : Nat} {s : ByteArray} {p : Int} (hK : s.size + 10 ≤ K) (hs : s.size ≤ 1000000) : utf_IsEdge K s p = some (isE s p) := by
  unfold utf_IsEdge isE
  have hb := bt_ok (s := s) (i := p)
  by_cases h0 : 0 ≤ p
  · rw [if_pos (by simpa using h0)]
    by_cases h1 : p ≤ s.size
    · rw [if_pos (by simpa using h1), decide_eq_true ⟨h0, h1⟩, Bool.true_and, uvalid_is hK (by omega)]
      by_cases h2 : p = s.size
      · rw [if_pos (by simpa using h2), Option.bind_some, decide_eq_true h2, Bool.true_or, Bool.and_true]
      · rw [if_neg (by simpa using h2), and_192 hb.1 hb.2, decide_eq_false h2, Bool.false_or, Option.bind_some]
        have hr : 0 ≤ p ∧ p < (s.size : Int) := ⟨h0, by omega⟩
        simp only [if_pos hr]
        by_cases hc : cont (bt s p)
        · rw [decide_eq_true hc, if_neg (by simp)]; simp
        · rw [decide_eq_false hc, if_pos (by simp)]; simp
    · rw [if_neg (by simpa using h1), decide_eq_false (by omega), Bool.false_and]
  · rw [if_neg (by simpa using h0), decide_eq_false (by omega), Bool.false_and]

/-- Within so many places. -/
def inR (n : Int) (x : Rg) : Bool := decide (0 ≤ loR x ∧ hiR x ≤ n)

/-- At edges of code points. -/
def edR (s : ByteArray) (x : Rg) : Bool := isE s x.1 && isE s x.2

theorem ivIs_is {K : Nat} {x : Rg} {n : Int} : interval_Is K (loR x) (hiR x) n = some (inR n x) := by
  have := lo_hi x
  unfold interval_Is inR
  by_cases h : loR x ≥ 0
  · rw [if_pos (by simpa using h), if_pos (by simpa using this)]; congr 1; rw [decide_eq_decide]; omega
  · rw [if_neg (by simpa using h)]; congr 1; symm; rw [decide_eq_false_iff_not]; omega

theorem evI_one {K : Nat} {x : Rg} {s : ByteArray} : region_every_1_sggb_7e816 K x.1 x.2 s = some (!inR s.size x) := by
  unfold region_every_1_sggb_7e816 region_inside_1_sggb_5389a
  rw [spanR_is, Option.bind_some]
  simp only [ivIs_is, Option.bind_some]

theorem evI_loop {K : Nat} {l : List Rg} {s : ByteArray} (hl : l.length ≤ 1000000) : ∀ (rest : List Rg) (j k : Nat), l.drop j = rest → rest.length < k →
    ∃ r, slices_IndexFunc_rcregionevery1_a4c35.l0 K l s k (j : Int) = some r ∧ decide (r ≥ 0) = !rest.all (inR s.size)
  | [], j, k, hd, hk => by
    obtain ⟨k, rfl⟩ : ∃ m, k = m + 1 := ⟨k - 1, by omega⟩
    have := drop_nil hd
    rw [slices_IndexFunc_rcregionevery1_a4c35.l0, if_neg (by simp; omega)]
    exact ⟨_, rfl, rfl⟩
  | x :: rest, j, k, hd, hk => by
    obtain ⟨k, rfl⟩ : ∃ m, k = m + 1 := ⟨k - 1, by omega⟩
    obtain ⟨hj, hx, hd'⟩ := drop_cons hd rg0
    rw [List.length_cons] at hk
    have hw : IntKind.wrap .i64 ((j : Int) + 1) = ((j + 1 : Nat) : Int) := by rw [w64 (by omega) (by omega)]; omega
    rw [slices_IndexFunc_rcregionevery1_a4c35.l0, if_pos (by simp; omega)]
    simp only [Int.toNat_natCast, hx, hw]
    rw [evI_one , Option.bind_some, if_pos (by omega), List.all_cons]
    cases inR s.size x with
    | true =>
      rw [if_neg (by simp)]
      exact evI_loop  hl rest (j + 1) k hd' (by omega)
    | false =>
      rw [if_pos (show (!false) = true from rfl)]
      exact ⟨_, rfl, by rw [decide_eq_true (by omega)]; rfl⟩

theorem evI_is {K : Nat} {l : List Rg} {s : ByteArray} (hl : l.length ≤ 1000000) (hk : l.length < K) : region_every_rcregioninside1_2e7a3 K l s = some (l.all (inR s.size)) := by
  unfold region_every_rcregioninside1_2e7a3 slices_ContainsFunc_rcregionevery1_a4c35 slices_IndexFunc_rcregionevery1_a4c35
  obtain ⟨r, e1, e2⟩ := evI_loop (K := K) (l := l) (s := s)  hl l 0 K rfl hk
  rw [show ((0 : Nat) : Int) = 0 from rfl] at e1
  rw [e1, Option.bind_some, Option.bind_some, e2, Bool.not_not]

theorem evE_one {K : Nat} {x : Rg} {s : ByteArray} (hK : s.size + 10 ≤ K)  (hs : s.size ≤ 1000000) : region_every_1_sggb_f969f K x.1 x.2 s = some (!edR s x) := by
  unfold region_every_1_sggb_f969f region_edges_1_sggb_5389a
  rw [uedge_is hK hs, Option.bind_some, uedge_is hK hs]
  unfold edR
  cases isE s x.1 <;> rfl

theorem evE_loop {K : Nat} {l : List Rg} {s : ByteArray} (hK : s.size + 10 ≤ K)  (hs : s.size ≤ 1000000) (hl : l.length ≤ 1000000) : ∀ (rest : List Rg) (j k : Nat), l.drop j = rest → rest.length < k →
    ∃ r, slices_IndexFunc_rcregionevery1_79479.l0 K l s k (j : Int) = some r ∧ decide (r ≥ 0) = !rest.all (edR s)
  | [], j, k, hd, hk => by
    obtain ⟨k, rfl⟩ : ∃ m, k = m + 1 := ⟨k - 1, by omega⟩
    have := drop_nil hd
    rw [slices_IndexFunc_rcregionevery1_79479.l0, if_neg (by simp; omega)]
    exact ⟨_, rfl, rfl⟩
  | x :: rest, j, k, hd, hk => by
    obtain ⟨k, rfl⟩ : ∃ m, k = m + 1 := ⟨k - 1, by omega⟩
    obtain ⟨hj, hx, hd'⟩ := drop_cons hd rg0
    rw [List.length_cons] at hk
    have hw : IntKind.wrap .i64 ((j : Int) + 1) = ((j + 1 : Nat) : Int) := by rw [w64 (by omega) (by omega)]; omega
    rw [slices_IndexFunc_rcregionevery1_79479.l0, if_pos (by simp; omega)]
    simp only [Int.toNat_natCast, hx, hw]
    rw [evE_one hK hs, Option.bind_some, if_pos (by omega), List.all_cons]
    cases edR s x with
    | true =>
      rw [if_neg (by simp)]
      exact evE_loop hK hs hl rest (j + 1) k hd' (by omega)
    | false =>
      rw [if_pos (show (!false) = true from rfl)]
      exact ⟨_, rfl, by rw [decide_eq_true (by omega)]; rfl⟩

theorem evE_is {K : Nat} {l : List Rg} {s : ByteArray} (hK : s.size + 10 ≤ K)  (hs : s.size ≤ 1000000) (hl : l.length ≤ 1000000) (hk : l.length < K) : region_every_rcregionedges1_83797 K l s = some (l.all (edR s)) := by
  unfold region_every_rcregionedges1_83797 slices_ContainsFunc_rcregionevery1_79479 slices_IndexFunc_rcregionevery1_79479
  obtain ⟨r, e1, e2⟩ := evE_loop (K := K) (l := l) (s := s) hK hs hl l 0 K rfl hk
  rw [show ((0 : Nat) : Int) = 0 from rfl] at e1
  rw [e1, Option.bind_some, Option.bind_some, e2, Bool.not_not]

def mkR (s : ByteArray) (l : List Rg) : List Rg × Int :=
  if l.length = 0 then ([], 12) else if l.length > 8 then ([], 70) else if l.all (inR s.size) = false then ([], 10) else if l.all (edR s) = false then ([], 11) else (jnR (srtR l []), 0)

theorem cntR_is {K : Nat} {l : List Rg} : region_count_r K l = some (if l.length = 0 then 12 else if l.length > 8 then 70 else 0) := by
  unfold region_count_r
  by_cases h : l.length = 0
  · rw [if_pos (by rw [beq_iff_eq]; omega), if_pos h]
  · rw [if_neg (by rw [beq_iff_eq]; omega), if_neg h]
    by_cases h2 : l.length > 8
    · rw [if_pos (by rw [decide_eq_true_eq]; omega), if_pos h2]
    · rw [if_neg (by rw [decide_eq_true_eq]; omega), if_neg h2]

def chR : Rg → List Rg → Bool
  | _, [] => true
  | p, x :: l => decide (hiR p < loR x) && chR x l

def isR (s : ByteArray) : List Rg → Bool
  | [] => false
  | x :: r => decide ((x :: r).length ≤ 8) && ((x :: r).all (edR s) && chR x r)

theorem edR_inR {s : ByteArray} {x : Rg} (h : edR s x = true) : inR s.size x = true := by
  unfold edR isE at h
  unfold inR loR hiR
  simp only [Bool.and_eq_true, decide_eq_true_eq] at h ⊢
  omega

theorem isR_loop {K : Nat} {l : List Rg} (hl : l.length ≤ 100000) : ∀ (rest : List Rg) (j k : Nat) (p : Rg), l.drop j = rest → rest.length < k → 0 < j → l.getD (j - 1) rg0 = p →
    region_Is_rg.l0 K l k (j : Int) = some (chR p rest)
  | [], j, k, p, hd, hk, h0, hp => by
    obtain ⟨k, rfl⟩ : ∃ m, k = m + 1 := ⟨k - 1, by omega⟩
    have := drop_nil hd
    rw [region_Is_rg.l0, if_neg (by simp; omega)]; rfl
  | x :: rest, j, k, p, hd, hk, h0, hp => by
    obtain ⟨k, rfl⟩ : ∃ m, k = m + 1 := ⟨k - 1, by omega⟩
    obtain ⟨hj, hx, hd'⟩ := drop_cons hd rg0
    rw [List.length_cons] at hk
    have hw : IntKind.wrap .i64 ((j : Int) + 1) = ((j + 1 : Nat) : Int) := by rw [w64 (by omega) (by omega)]; omega
    have hw2 : IntKind.wrap .i64 ((j : Int) - 1) = ((j - 1 : Nat) : Int) := by rw [w64 (by omega) (by omega)]; omega
    rw [region_Is_rg.l0, if_pos (by simp; omega)]
    simp only [hw, hw2, Int.toNat_natCast, hx, hp, spanR_is, Option.bind_some]
    rw [if_pos (by omega), isR_loop hl rest (j + 1) k x hd' (by omega) (by omega) (by rw [Nat.add_sub_cancel]; exact hx), chR]
    by_cases h : loR x ≤ hiR p
    · rw [if_pos (by simpa using h), decide_eq_false (by omega), Bool.false_and]
    · rw [if_neg (by simpa using h), decide_eq_true (by omega), Bool.true_and]

theorem isR_is {K : Nat} {l : List Rg} {s : ByteArray} (hK : 100000 ≤ K) (hs : s.size ≤ 10000) (hl : l.length ≤ 1000) : region_Is_rg K l s = some (isR s l) := by
  unfold region_Is_rg region_inside region_edges
  rw [evI_is (by omega) (by omega), evE_is (by omega) (by omega) (by omega) (by omega)]
  cases l with
  | nil => rfl
  | cons x r =>
    rw [if_neg (by rw [decide_eq_true_eq, List.length_cons]; omega)]
    have e := isR_loop (K := K) (l := x :: r) (by omega) r 1 K x rfl (by rw [List.length_cons] at hl; omega) (by omega) rfl
    rw [show ((1 : Nat) : Int) = 1 from rfl] at e
    rw [isR]
    by_cases h : (x :: r).length > 8
    · rw [if_pos (by rw [decide_eq_true_eq]; omega), Option.bind_some, if_pos rfl, decide_eq_false (by omega), Bool.false_and]
    · rw [if_neg (by rw [decide_eq_true_eq]; omega), Option.bind_some, Option.bind_some, Option.bind_some, Option.bind_some, decide_eq_true (by omega), Bool.true_and, e]
      cases h2 : (x :: r).all (edR s) with
      | true =>
        have h3 : (x :: r).all (inR s.size) = true := List.all_eq_true.2 fun y hy => edR_inR (List.all_eq_true.1 h2 y hy)
        rw [h3]; rfl
      | false =>
        cases (x :: r).all (inR s.size) <;> rfl

theorem isR_parts {s : ByteArray} {l : List Rg} (h : isR s l = true) : l.length ≤ 8 ∧ l ≠ [] ∧ (∀ x ∈ l, edR s x = true) ∧ ∀ x ∈ l, inR s.size x = true := by
  cases l with
  | nil => cases h
  | cons x r =>
    rw [isR, Bool.and_eq_true, Bool.and_eq_true, decide_eq_true_eq] at h
    have h2 := List.all_eq_true.1 h.2.1
    exact ⟨h.1, by simp, h2, fun y hy => edR_inR (h2 y hy)⟩

/-- Regions in order, none of which touches the next one. -/
def apR : List Rg → Bool
  | [] => true
  | x :: l => chR x l

theorem isR_of {s : ByteArray} {l : List Rg} (h1 : l ≠ []) (h2 : l.length ≤ 8) (h3 : ∀ x ∈ l, edR s x = true) (h4 : apR l = true) : isR s l = true := by
  cases l with
  | nil => exact (h1 rfl).elim
  | cons x l =>
    rw [isR, decide_eq_true h2, List.all_eq_true.2 h3, Bool.true_and, Bool.true_and]; exact h4

theorem makeR_is_c {K : Nat} {l : List Rg} {s : ByteArray} (hK : 100000 ≤ K) (hs : s.size ≤ 10000) (hl : l.length ≤ 1000) : region_Make K l s = some (mkR s l) := by
  unfold region_Make mkR region_inside region_edges
  rw [cntR_is, Option.bind_some]
  by_cases h : l.length = 0
  · simp only [if_pos h]; rw [if_pos (by decide)]
  · simp only [if_neg h]
    by_cases h2 : l.length > 8
    · simp only [if_pos h2]; rw [if_pos (by decide)]
    · simp only [if_neg h2]
      rw [if_neg (by decide), Option.bind_some, evI_is (by omega) (by omega), Option.bind_some]
      cases h3 : l.all (inR s.size) with
      | false => rfl
      | true =>
        rw [if_neg (by simp), if_neg (by simp), Option.bind_some, evE_is (by omega) (by omega) (by omega) (by omega), Option.bind_some]
        cases h4 : l.all (edR s) with
        | false => rfl
        | true => rw [if_neg (by simp), if_neg (by simp), apart_is hK (by omega), Option.bind_some]

theorem isE_of {s : ByteArray} {p : Int} (hv : uvalid s = true) (h0 : 0 ≤ p) (h1 : p ≤ s.size) (hc : p = s.size ∨ ¬ cont (bt s p)) : isE s p = true := by
  unfold isE
  rw [decide_eq_true ⟨h0, h1⟩, hv, Bool.true_and, Bool.true_and]
  rcases hc with hc | hc
  · rw [decide_eq_true hc, Bool.true_or]
  · rw [decide_eq_false hc]; simp

theorem isE_un {s : ByteArray} {p : Int} (h : isE s p = true) : 0 ≤ p ∧ p ≤ s.size ∧ uvalid s = true ∧ (p = s.size ∨ ¬ cont (bt s p)) := by
  unfold isE at h
  simp only [Bool.and_eq_true, decide_eq_true_eq, Bool.or_eq_true, Bool.not_eq_true', decide_eq_false_iff_not] at h
  exact ⟨h.1.1, h.1.2, h.2.1, h.2.2⟩

theorem usz_edge {s : ByteArray} {p : Int} (h : usz s p ≠ 0) : ¬ cont (bt s p) := by
  intro hc
  unfold cont at hc
  refine h ?_
  unfold usz uszB
  split
  · rfl
  · rw [if_neg (by omega), if_neg (by omega), if_neg (by omega), if_neg (by omega)]

theorem reach {s : ByteArray} {p : Int} (hp : p = s.size ∨ ¬ cont (bt s p)) (h1 : p ≤ s.size) : ∀ (m : Nat) (a : Int), uval s m a = true → 0 ≤ a → a ≤ p → (s.size : Int) - a ≤ m → ∃ m', uval s m' p = true ∧ (s.size : Int) - p ≤ m'
  | 0, a, h, h0, ha, hm => ⟨0, rfl, by omega⟩
  | m + 1, a, h, h0, ha, hm => by
    by_cases e : a = p
    · exact ⟨m + 1, e ▸ h, by omega⟩
    · have hlt : a < s.size := by omega
      have hu := usz_ok (s := s) (a := a)
      have hu3 := hu.2.2 h0 hlt
      rw [uval, if_pos hlt] at h
      by_cases hz : usz s a = 0
      · rw [if_pos hz] at h; cases h
      · rw [if_neg hz] at h
        by_cases c : a + usz s a ≤ p
        · exact reach hp h1 m _ h (by omega) c (by omega)
        · exfalso
          have hc := usz_cont (s := s) (i := a.toNat) (j := p.toNat) (by omega) (by rw [show ((a.toNat : Nat) : Int) = a by omega]; omega)
          rw [show ((p.toNat : Nat) : Int) = p by omega] at hc
          rcases hp with hp | hp
          · omega
          · exact hp hc

/-- A step on goes from edge to edge. -/
theorem step_edge {s : ByteArray} {p : Int} (h : isE s p = true) : isE s (p + usz s p) = true ∧ (p < s.size → usz s p ≠ 0) := by
  obtain ⟨h0, h1, hv, hc⟩ := isE_un h
  obtain ⟨m, m1, m2⟩ := reach hc h1 s.size 0 hv (Int.le_refl 0) h0 (by omega)
  by_cases e : p < s.size
  · obtain ⟨m, rfl⟩ : ∃ k, m = k + 1 := ⟨m - 1, by omega⟩
    rw [uval, if_pos e] at m1
    have hz : usz s p ≠ 0 := fun hz => by rw [if_pos hz] at m1; cases m1
    rw [if_neg hz] at m1
    have hu := usz_ok (s := s) (a := p)
    have hu3 := hu.2.2 h0 e
    refine ⟨isE_of hv (by omega) hu3 ?_, fun _ => hz⟩
    by_cases e2 : p + usz s p = s.size
    · exact .inl e2
    · right
      obtain ⟨m, rfl⟩ : ∃ k, m = k + 1 := ⟨m - 1, by omega⟩
      rw [uval, if_pos (by omega)] at m1
      exact usz_edge fun hz' => by rw [if_pos hz'] at m1; cases m1
  · have hz : usz s p = 0 := by unfold usz; rw [if_pos (by omega)]
    rw [hz]
    exact ⟨by rw [Int.add_zero]; exact h, fun h' => (e h').elim⟩

theorem first_edge {s : ByteArray} (hv : uvalid s = true) (h : 0 < s.size) : ¬ cont (bt s 0) := by
  have : isE s 0 = true := by
    by_cases hc : cont (bt s 0)
    · exfalso
      unfold uvalid at hv
      obtain ⟨m, hm⟩ : ∃ k, s.size = k + 1 := ⟨s.size - 1, by omega⟩
      rw [hm, uval, if_pos (by omega)] at hv
      have hz : usz s 0 ≠ 0 := fun hz => by rw [if_pos hz] at hv; cases hv
      exact usz_edge hz hc
    · exact isE_of hv (Int.le_refl 0) (by omega) (.inr hc)
  rcases (isE_un this).2.2.2 with e | e
  · omega
  · exact e

/-! ### Back -/

def bcF (s : ByteArray) : Nat → Nat
  | 0 => 0
  | k + 1 => if cont (bt s ((k + 1 : Nat) : Int)) then bcF s k else k + 1

theorem bcF_ok {s : ByteArray} : ∀ {k : Nat}, bcF s k ≤ k ∧ (bcF s k = 0 ∨ ¬ cont (bt s (bcF s k : Int))) ∧ ∀ j, bcF s k < j → j ≤ k → cont (bt s (j : Int))
  | 0 => ⟨Nat.le_refl 0, .inl rfl, fun j h1 h2 => by omega⟩
  | k + 1 => by
    obtain ⟨h1, h2, h3⟩ := bcF_ok (s := s) (k := k)
    rw [bcF]
    by_cases c : cont (bt s ((k + 1 : Nat) : Int))
    · rw [if_pos c]
      refine ⟨by omega, h2, fun j j1 j2 => ?_⟩
      by_cases e : j = k + 1
      · rw [e]; exact c
      · exact h3 j j1 (by omega)
    · rw [if_neg c]
      exact ⟨Nat.le_refl _, .inr c, fun j j1 j2 => by omega⟩

def bkP (s : ByteArray) (p : Int) : Int := if 1 ≤ p ∧ isE s p = true then (bcF s (p - 1).toNat : Int) else p

theorem ubk_loop {K : Nat} {s : ByteArray} (h0 : ¬ cont (bt s 0)) (hs : s.size ≤ 100000) : ∀ (j k : Nat), j < s.size → j < k → utf_Back.l0 K s k (j : Int) = some (bcF s j : Int)
  | 0, k, hj, hk => by
    obtain ⟨k, rfl⟩ : ∃ m, k = m + 1 := ⟨k - 1, by omega⟩
    have hb := bt_ok (s := s) (i := (0 : Nat))
    have := and_192 hb.1 hb.2
    rw [utf_Back.l0, if_pos (by omega), if_neg]
    · rfl
    · intro e
      rw [beq_iff_eq] at e
      rw [e] at this
      rw [bne_self_eq_false] at this
      rw [decide_eq_false (show ¬ cont (bt s ((0 : Nat) : Int)) from h0)] at this
      cases this
  | j + 1, k, hj, hk => by
    obtain ⟨k, rfl⟩ : ∃ m, k = m + 1 := ⟨k - 1, by omega⟩
    have hb := bt_ok (s := s) (i := ((j + 1 : Nat) : Int))
    have h192 := and_192 hb.1 hb.2
    have hw : IntKind.wrap .i64 (((j + 1 : Nat) : Int) - 1) = (j : Int) := by rw [w64 (by omega) (by omega)]; omega
    rw [utf_Back.l0, if_pos (by omega), hw, bcF]
    by_cases c : cont (bt s ((j + 1 : Nat) : Int))
    · rw [if_pos c, if_pos, ubk_loop h0 hs j k (by omega) (by omega)]
      rw [decide_eq_true c] at h192
      simpa using h192
    · rw [if_neg c, if_neg]
      rw [decide_eq_false c] at h192
      intro e
      rw [beq_iff_eq] at e
      rw [e, bne_self_eq_false] at h192
      cases h192

theorem ubk_is {K : Nat} {s : ByteArray} {p : Int} (hs : s.size ≤ 100000) (hK : s.size + 10 ≤ K) : utf_Back K s p = some (bkP s p) := by
  unfold utf_Back bkP
  rw [uedge_is hK (by omega)]
  by_cases h : p < 1
  · rw [if_pos (by simpa using h), Option.bind_some, if_pos rfl, if_neg (by omega)]
  · rw [if_neg (by simpa using h), Option.bind_some, Option.bind_some]
    cases he : isE s p with
    | false => rw [if_pos (show (!false) = true from rfl), if_neg (by simp)]
    | true =>
      obtain ⟨e0, e1, e2, -⟩ := isE_un he
      have e := ubk_loop (K := K) (first_edge e2 (by omega)) hs (p - 1).toNat K (by omega) (by omega)
      rw [if_neg (by simp), if_pos ⟨by omega, rfl⟩, w64 (n := p - 1) (by omega) (by omega), ← e]
      congr 1; omega

theorem rbk_loop {K : Nat} {s : ByteArray} (hs : s.size ≤ 100000) : ∀ (j k : Nat), j < s.size → j < k → palinoderef1_Back.l0 K s k (j : Int) = some (bcF s j : Int)
  | 0, k, hj, hk => by
    obtain ⟨k, rfl⟩ : ∃ m, k = m + 1 := ⟨k - 1, by omega⟩
    rw [palinoderef1_Back.l0, if_neg (by simp), Option.bind_some, if_neg (by simp)]; rfl
  | j + 1, k, hj, hk => by
    obtain ⟨k, rfl⟩ : ∃ m, k = m + 1 := ⟨k - 1, by omega⟩
    have hb := bt_ok (s := s) (i := ((j + 1 : Nat) : Int))
    have h64 := div_64 hb.1 hb.2
    have hw : IntKind.wrap .i64 (((j + 1 : Nat) : Int) - 1) = (j : Int) := by rw [w64 (by omega) (by omega)]; omega
    rw [palinoderef1_Back.l0, if_pos (by rw [decide_eq_true_eq]; omega), if_pos (by omega), Option.bind_some, hw, bcF, w64 (n := bt s ((j + 1 : Nat) : Int)) (by omega) (by omega)]
    by_cases c : cont (bt s ((j + 1 : Nat) : Int))
    · rw [if_pos c, if_pos, rbk_loop hs j k (by omega) (by omega)]
      rw [decide_eq_true c] at h64
      simpa using h64
    · rw [if_neg c, if_neg]
      rw [decide_eq_false c] at h64
      simpa using h64

theorem rbk_is {K : Nat} {s : ByteArray} {p : Int} (hs : s.size ≤ 100000) (hK : s.size + 10 ≤ K) : palinoderef1_Back K s p = some (bkP s p) := by
  unfold palinoderef1_Back bkP
  rw [redge_is hK (by omega)]
  by_cases h : p < 1
  · rw [if_pos (by simpa using h), Option.bind_some, if_pos rfl, if_neg (by omega)]
  · rw [if_neg (by simpa using h)]
    by_cases h2 : p > s.size
    · rw [if_pos (by simpa using h2), Option.bind_some, if_pos rfl, if_neg]
      intro h3
      have := (isE_un h3.2).2.1
      omega
    · rw [if_neg (by simpa using h2), Option.bind_some, Option.bind_some]
      cases he : isE s p with
      | false => rw [if_pos (show (!false) = true from rfl), if_neg (by simp)]
      | true =>
        obtain ⟨e0, e1, e2, -⟩ := isE_un he
        have e := rbk_loop (K := K) hs (p - 1).toNat K (by omega) (by omega)
        rw [if_neg (by simp), if_pos ⟨by omega, rfl⟩, w64 (n := p - 1) (by omega) (by omega), ← e]
        congr 1; omega

theorem back_edge {s : ByteArray} {p : Int} (h : isE s p = true) : isE s (bkP s p) = true ∧ bkP s p ≤ p ∧ 0 ≤ bkP s p ∧ (1 ≤ p → bkP s p < p) := by
  obtain ⟨h0, h1, hv, hc⟩ := isE_un h
  unfold bkP
  by_cases c : 1 ≤ p
  · rw [if_pos ⟨c, h⟩]
    obtain ⟨b1, b2, b3⟩ := bcF_ok (s := s) (k := (p - 1).toNat)
    refine ⟨isE_of hv (by omega) (by omega) (.inr ?_), by omega, by omega, fun _ => by omega⟩
    rcases b2 with b2 | b2
    · rw [b2]; exact first_edge hv (by omega)
    · exact b2
  · rw [if_neg (fun h' => c h'.1)]
    exact ⟨h, Int.le_refl _, h0, fun h' => (c h').elim⟩

theorem bt_ext {s : ByteArray} {a b i : Nat} (h : a + i < b) (hb : b ≤ s.size) : bt (s.extract a b) (i : Int) = bt s ((a + i : Nat) : Int) := by
  have h1 : i < (txt (s.extract a b)).length := by rw [txt_len, ext_size (by omega) hb]; omega
  have h2 : a + i < (txt s).length := by rw [txt_len]; omega
  rw [bt_is h1, bt_is h2]
  have : ∀ (l : List Int) (hl : i < l.length), l = ((txt s).drop a).take (b - a) → l[i] = (txt s)[a + i] := by
    intro l hl e; subst e; rw [List.getElem_take, List.getElem_drop]
  exact this _ h1 txt_extract

/-- Where a line begins. -/
def lnB (s : ByteArray) : Nat → Nat
  | 0 => 0
  | n + 1 => if bt s (n : Int) = 10 then n + 1 else lnB s n

/-- Where a line ends. -/
def lnF (s : ByteArray) : Nat → Nat → Nat
  | 0, t => t
  | d + 1, t => if bt s (t : Int) = 10 then t else lnF s d (t + 1)

theorem lnB_le {s : ByteArray} : ∀ {n : Nat}, lnB s n ≤ n
  | 0 => Nat.le_refl 0
  | n + 1 => by
    have := lnB_le (s := s) (n := n)
    rw [lnB]; split <;> omega

theorem lnF_le {s : ByteArray} : ∀ {d t : Nat}, t ≤ lnF s d t ∧ lnF s d t ≤ t + d
  | 0, t => ⟨Nat.le_refl _, Nat.le_refl _⟩
  | d + 1, t => by
    have := lnF_le (s := s) (d := d) (t := t + 1)
    rw [lnF]; split <;> omega

theorem last_loop {K a : Nat} {s : ByteArray} (ha : a ≤ s.size) (hs : s.size ≤ 100000) : ∀ (n k : Nat), n ≤ a → n < k → bytealg_LastIndexByteString.l0 K (s.extract 0 a) 10 k ((n : Int) - 1) = some ((lnB s n : Int) - 1)
  | 0, k, hn, hk => by
    obtain ⟨k, rfl⟩ : ∃ m, k = m + 1 := ⟨k - 1, by omega⟩
    rw [bytealg_LastIndexByteString.l0, if_neg (by simp)]; rfl
  | n + 1, k, hn, hk => by
    obtain ⟨k, rfl⟩ : ∃ m, k = m + 1 := ⟨k - 1, by omega⟩
    have hsz : (s.extract 0 a).size = a := by rw [ext_size (by omega) ha]; omega
    have e : ((n + 1 : Nat) : Int) - 1 = (n : Int) := by omega
    rw [e, bytealg_LastIndexByteString.l0, if_pos (by simp), if_pos (by omega), bt_ext (by omega) ha, w64 (n := (n : Int) - 1) (by omega) (by omega), last_loop ha hs n k (by omega) (by omega), lnB, Nat.zero_add]
    by_cases c : bt s (n : Int) = 10
    · rw [if_pos (by simpa using c), if_pos c]; congr 1; omega
    · rw [if_neg (by simpa using c), if_neg c]

theorem last_is {K a : Nat} {s : ByteArray} (ha : a ≤ s.size) (hs : s.size ≤ 100000) (hK : s.size + 10 ≤ K) : strings_LastIndexByte K (s.extract 0 a) 10 = some ((lnB s a : Int) - 1) := by
  unfold strings_LastIndexByte bytealg_LastIndexByteString
  have hsz : (s.extract 0 a).size = a := by rw [ext_size (by omega) ha]; omega
  rw [hsz, w64 (n := (a : Int) - 1) (by omega) (by omega), last_loop ha hs a K (Nat.le_refl _) (by omega), Option.bind_some]

theorem ix_line {s : ByteArray} : ∀ (d t : Nat), t + d = s.size → (ixL (s.data.toList.drop t) 10 = -1 ∧ lnF s d t = s.size) ∨ (0 ≤ ixL (s.data.toList.drop t) 10 ∧ (t : Int) + ixL (s.data.toList.drop t) 10 = lnF s d t)
  | 0, t, h => by
    left
    rw [List.drop_eq_nil_of_le (by simp; omega)]
    exact ⟨rfl, by rw [lnF]; omega⟩
  | d + 1, t, h => by
    have hl : t < s.data.toList.length := by simp; omega
    have hb : bt s (t : Int) = ((s.data.toList[t]).toNat : Int) := by
      unfold bt
      rw [Int.toNat_natCast, getElem?_pos s t (by omega), Option.getD_some]
      congr 2
    rw [List.drop_eq_getElem_cons hl, ixL, lnF, hb]
    by_cases c : s.data.toList[t] = 10
    · right
      rw [if_pos (by rw [beq_iff_eq]; exact c), if_pos (by rw [c]; rfl)]
      exact ⟨Int.le_refl 0, by omega⟩
    · have c2 : ¬ ((s.data.toList[t]).toNat : Int) = 10 := fun e => c (UInt8.toNat_inj.1 (by have : (10 : UInt8).toNat = 10 := rfl
                                                                                             omega))
      rw [if_neg (by rw [beq_iff_eq]; exact c), if_neg c2]
      rcases ix_line (s := s) d (t + 1) (by omega) with ⟨h1, h2⟩ | ⟨h1, h2⟩
      · left; rw [h1]; exact ⟨rfl, h2⟩
      · right
        rw [if_neg (by rw [beq_iff_eq]; omega)]
        exact ⟨by omega, by omega⟩

theorem ix_is {s : ByteArray} {b : Nat} (hb : b ≤ s.size) : (ixB (s.extract b s.size) 10 = -1 ∧ lnF s (s.size - b) b = s.size) ∨ (0 ≤ ixB (s.extract b s.size) 10 ∧ (b : Int) + ixB (s.extract b s.size) 10 = lnF s (s.size - b) b) := by
  have e : (s.extract b s.size).data.toList = s.data.toList.drop b := by
    rw [ByteArray.data_extract, Array.toList_extract]
    simp only [List.extract_eq_take_drop]
    exact List.take_of_length_le (by simp)
  unfold ixB
  rw [e]
  exact ix_line (s.size - b) b (by omega)

/-- A region's lines. -/
def lnR (s : ByteArray) (x : Rg) : Rg := ((lnB s (loR x).toNat : Int), (lnF s (s.size - (hiR x).toNat) (hiR x).toNat : Int))

theorem linesR_is {K : Nat} {s : ByteArray} {x : Rg} (hx : inR s.size x = true) (hs : s.size ≤ 100000) (hK : s.size + 10 ≤ K) : carets_Lines_1_sggb_5389a K x.1 x.2 s = some (lnR s x) := by
  unfold inR at hx
  rw [decide_eq_true_eq] at hx
  have hl := lo_hi x
  have h1 := lnB_le (s := s) (n := (loR x).toNat)
  unfold carets_Lines_1_sggb_5389a strings_IndexByte lnR
  rw [spanR_is, Option.bind_some]
  simp only
  rw [last_is (by omega) hs hK, Option.bind_some, if_pos (by omega), Option.bind_some, if_pos (by omega), w64 (n := (lnB s (loR x).toNat : Int) - 1 + 1) (by omega) (by omega)]
  have e1 : (lnB s (loR x).toNat : Int) - 1 + 1 = lnB s (loR x).toNat := by omega
  rw [e1]
  rcases ix_is (s := s) (b := (hiR x).toNat) (by omega) with ⟨h2, h3⟩ | ⟨h2, h3⟩
  · rw [h2, if_neg (by decide), h3]
  · have h4 := lnF_le (s := s) (d := s.size - (hiR x).toNat) (t := (hiR x).toNat)
    rw [if_pos (by simpa using h2), w64 (n := hiR x + ixB (s.extract (hiR x).toNat s.size) 10) (by omega) (by omega)]
    congr 2; omega

theorem lnF_nl {s : ByteArray} : ∀ {d t : Nat}, t + d = s.size → lnF s d t = s.size ∨ bt s (lnF s d t : Int) = 10
  | 0, t, h => .inl (by rw [lnF]; omega)
  | d + 1, t, h => by
    rw [lnF]
    split
    · rename_i c; exact .inr c
    · exact lnF_nl (by omega)

theorem lnB_nl {s : ByteArray} : ∀ {n : Nat}, lnB s n = 0 ∨ ∃ m, lnB s n = m + 1 ∧ bt s (m : Int) = 10
  | 0 => .inl rfl
  | n + 1 => by
    rw [lnB]
    split
    · rename_i c; exact .inr ⟨n, rfl, c⟩
    · exact lnB_nl

theorem nl_edge {s : ByteArray} {n : Nat} (hv : uvalid s = true) (hn : n < s.size) (h : bt s (n : Int) = 10) : isE s n = true ∧ isE s ((n + 1 : Nat) : Int) = true := by
  have h1 : isE s n = true := isE_of hv (by omega) (by omega) (.inr (by unfold cont; omega))
  have h2 := (step_edge h1).1
  have h3 : usz s n = 1 := by unfold usz uszB; rw [if_neg (by omega), if_pos (by omega)]
  rw [h3] at h2
  exact ⟨h1, by rw [show ((n + 1 : Nat) : Int) = (n : Int) + 1 by omega]; exact h2⟩

theorem zero_edge {s : ByteArray} (hv : uvalid s = true) : isE s 0 = true := by
  by_cases h : s.size = 0
  · exact isE_of hv (Int.le_refl 0) (by omega) (.inl (by omega))
  · exact isE_of hv (Int.le_refl 0) (by omega) (.inr (first_edge hv (by omega)))

theorem end_edge {s : ByteArray} (hv : uvalid s = true) : isE s s.size = true := isE_of hv (by omega) (Int.le_refl _) (.inl rfl)

theorem lines_edge {s : ByteArray} {x : Rg} (h : edR s x = true) : edR s (lnR s x) = true := by
  have hi := edR_inR h
  unfold inR at hi
  rw [decide_eq_true_eq] at hi
  have hl := lo_hi x
  have hv : uvalid s = true := by unfold edR at h; rw [Bool.and_eq_true] at h; exact (isE_un h.1).2.2.1
  unfold edR lnR
  rw [Bool.and_eq_true]
  constructor
  · simp only
    have h1 := lnB_le (s := s) (n := (loR x).toNat)
    rcases lnB_nl (s := s) (n := (loR x).toNat) with e | ⟨m, e, c⟩
    · rw [e]; exact zero_edge hv
    · rw [e]; exact (nl_edge hv (by omega) c).2
  · simp only
    have h1 := lnF_le (s := s) (d := s.size - (hiR x).toNat) (t := (hiR x).toNat)
    rcases lnF_nl (s := s) (d := s.size - (hiR x).toNat) (t := (hiR x).toNat) (by omega) with e | c
    · rw [e]; exact end_edge hv
    · by_cases h2 : lnF s (s.size - (hiR x).toNat) (hiR x).toNat = s.size
      · rw [h2]; exact end_edge hv
      · exact (nl_edge hv (by omega) c).1

theorem mkR_all {s : ByteArray} {l : List Rg} (h1 : l ≠ []) (h2 : l.length ≤ 8) (h3 : ∀ x ∈ l, edR s x = true) : mkR s l = (jnR (srtR l []), 0) := by
  unfold mkR
  rw [if_neg (fun e => h1 (List.eq_nil_of_length_eq_zero e)), if_neg (by omega), List.all_eq_true.2 (fun x hx => edR_inR (h3 x hx)), List.all_eq_true.2 h3, if_neg (by simp), if_neg (by simp)]

def stC (r k : Bool) (s : ByteArray) (x : Rg) : Rg :=
  if k = false then (if r = true then x.2 + usz s x.2 else bkP s x.2, if r = true then x.2 + usz s x.2 else bkP s x.2) else (x.1, if r = true then x.2 + usz s x.2 else bkP s x.2)

theorem stC_edge {r k : Bool} {s : ByteArray} {x : Rg} (h : edR s x = true) : edR s (stC r k s x) = true := by
  unfold edR at *
  rw [Bool.and_eq_true] at *
  have hc : isE s (if r = true then x.2 + usz s x.2 else bkP s x.2) = true := by
    cases r
    · exact (back_edge h.2).1
    · exact (step_edge h.2).1
  unfold stC
  cases k
  · exact ⟨hc, hc⟩
  · exact ⟨h.1, hc⟩

theorem stC_one {K : Nat} {r k : Bool} {s : ByteArray} {x : Rg} (hs : s.size ≤ 100000) (hK : s.size + 10 ≤ K) (h : edR s x = true) : carets_Step_1_sggbbb_c6240 K x.1 x.2 r s k = some (stC r k s x) := by
  unfold edR at h
  rw [Bool.and_eq_true] at h
  have he := isE_un h.2
  have hu := usz_ok (s := s) (a := x.2)
  unfold carets_Step_1_sggbbb_c6240 stC
  rw [usize_is (by omega) (by omega), ubk_is hs hK]
  simp only [Option.bind_some, w64 (n := x.2 + usz s x.2) (by omega) (by omega)]
  cases r <;> cases k <;> rfl

theorem each_loop {K : Nat} {l : List Rg} {r k : Bool} {s : ByteArray} (hs : s.size ≤ 100000) (hK : s.size + 10 ≤ K) (hl : l.length ≤ 10000) (he : ∀ x ∈ l, edR s x = true) : ∀ (rest : List Rg) (j n : Nat) (out : List Rg), l.drop j = rest → rest.length < n → out.length ≤ j →
    carets_each_rgccaretsStep1_9ca73.l0 K l r s k n out (j : Int) = some (out ++ rest.map (stC r k s))
  | [], j, n, out, hd, hn, ho => by
    obtain ⟨n, rfl⟩ : ∃ m, n = m + 1 := ⟨n - 1, by omega⟩
    have := drop_nil hd
    rw [carets_each_rgccaretsStep1_9ca73.l0, if_neg (by simp; omega)]; simp
  | x :: rest, j, n, out, hd, hn, ho => by
    obtain ⟨n, rfl⟩ : ∃ m, n = m + 1 := ⟨n - 1, by omega⟩
    obtain ⟨hj, hx, hd'⟩ := drop_cons hd rg0
    rw [List.length_cons] at hn
    have hw : IntKind.wrap .i64 ((j : Int) + 1) = ((j + 1 : Nat) : Int) := by rw [w64 (by omega) (by omega)]; omega
    have hxe := he x (List.mem_of_mem_drop (i := j) (by rw [hd]; simp))
    rw [carets_each_rgccaretsStep1_9ca73.l0, if_pos (by simp; omega), if_pos (by omega)]
    simp only [Int.toNat_natCast, hx, hw, stC_one hs hK hxe, Option.bind_some]
    rw [if_pos (by simp only [List.length_singleton]; omega), each_loop hs hK hl he rest (j + 1) n _ hd' (by omega) (by simp; omega), List.map_cons]
    simp

theorem stepC_is {K : Nat} {l : List Rg} {r k : Bool} {s : ByteArray} (hK : 100000 ≤ K) (hs : s.size ≤ 10000) (hl : l.length ≤ 1000) : carets_Step_rggg K l s r k = some (if isR s l = true then (jnR (srtR (l.map (stC r k s)) []), 0) else ([], 12)) := by
  unfold carets_Step_rggg carets_each_rgccaretsStep1_9ca73
  rw [isR_is hK hs hl, Option.bind_some]
  cases h : isR s l with
  | false => rfl
  | true =>
    obtain ⟨h1, h2, h3, h4⟩ := isR_parts h
    have e := each_loop (K := K) (r := r) (k := k) (by omega) (by omega) (by omega) h3 l 0 K [] rfl (by omega) (by simp)
    rw [show ((0 : Nat) : Int) = 0 from rfl, List.nil_append] at e
    rw [if_neg (by simp), e, Option.bind_some, makeR_is_c hK hs (by rw [List.length_map]; omega), Option.bind_some, Option.bind_some, mkR_all (fun e => h2 (List.map_eq_nil_iff.1 e)) (by rw [List.length_map]; exact h1) (fun y hy => by
      obtain ⟨x, hx, rfl⟩ := List.mem_map.1 hy
      exact stC_edge (h3 x hx))]
    rfl

theorem eachL_loop {K : Nat} {l : List Rg} {s : ByteArray} (hs : s.size ≤ 100000) (hK : s.size + 10 ≤ K) (hl : l.length ≤ 10000) (he : ∀ x ∈ l, inR s.size x = true) : ∀ (rest : List Rg) (j n : Nat) (out : List Rg), l.drop j = rest → rest.length < n → out.length ≤ j →
    carets_each_rgccaretsLines1_e11c4.l0 K l s n out (j : Int) = some (out ++ rest.map (lnR s))
  | [], j, n, out, hd, hn, ho => by
    obtain ⟨n, rfl⟩ : ∃ m, n = m + 1 := ⟨n - 1, by omega⟩
    have := drop_nil hd
    rw [carets_each_rgccaretsLines1_e11c4.l0, if_neg (by simp; omega)]; simp
  | x :: rest, j, n, out, hd, hn, ho => by
    obtain ⟨n, rfl⟩ : ∃ m, n = m + 1 := ⟨n - 1, by omega⟩
    obtain ⟨hj, hx, hd'⟩ := drop_cons hd rg0
    rw [List.length_cons] at hn
    have hw : IntKind.wrap .i64 ((j : Int) + 1) = ((j + 1 : Nat) : Int) := by rw [w64 (by omega) (by omega)]; omega
    have hxe := he x (List.mem_of_mem_drop (i := j) (by rw [hd]; simp))
    rw [carets_each_rgccaretsLines1_e11c4.l0, if_pos (by simp; omega), if_pos (by omega)]
    simp only [Int.toNat_natCast, hx, hw, linesR_is hxe hs hK, Option.bind_some]
    rw [if_pos (by simp only [List.length_singleton]; omega), eachL_loop hs hK hl he rest (j + 1) n _ hd' (by omega) (by simp; omega), List.map_cons]
    simp

theorem linesC_is {K : Nat} {l : List Rg} {s : ByteArray} (hK : 100000 ≤ K) (hs : s.size ≤ 10000) (hl : l.length ≤ 1000) : carets_Lines_rg K l s = some (if isR s l = true then (jnR (srtR (l.map (lnR s)) []), 0) else ([], 12)) := by
  unfold carets_Lines_rg carets_each_rgccaretsLines1_e11c4
  rw [isR_is hK hs hl, Option.bind_some]
  cases h : isR s l with
  | false => rfl
  | true =>
    obtain ⟨h1, h2, h3, h4⟩ := isR_parts h
    have e := eachL_loop (K := K) (by omega) (by omega) (by omega) h4 l 0 K [] rfl (by omega) (by simp)
    rw [show ((0 : Nat) : Int) = 0 from rfl, List.nil_append] at e
    rw [if_neg (by simp), e, Option.bind_some, makeR_is_c hK hs (by rw [List.length_map]; omega), Option.bind_some, Option.bind_some, mkR_all (fun e => h2 (List.map_eq_nil_iff.1 e)) (by rw [List.length_map]; exact h1) (fun y hy => by
      obtain ⟨x, hx, rfl⟩ := List.mem_map.1 hy
      exact lines_edge (h3 x hx))]
    rfl

def tyC (t : ByteArray) (x : Rg) : El := (loR x, (hiR x, t))

theorem typeC_loop {K : Nat} {l : List Rg} {t : ByteArray} (hl : l.length ≤ 10000) : ∀ (rest : List Rg) (j n : Nat) (out : List El), l.drop j = rest → rest.length < n → out.length ≤ j →
    carets_Type_rg.l0 K l t n out (j : Int) = some (out ++ rest.map (tyC t))
  | [], j, n, out, hd, hn, ho => by
    obtain ⟨n, rfl⟩ : ∃ m, n = m + 1 := ⟨n - 1, by omega⟩
    have := drop_nil hd
    rw [carets_Type_rg.l0, if_neg (by simp; omega)]; simp
  | x :: rest, j, n, out, hd, hn, ho => by
    obtain ⟨n, rfl⟩ : ∃ m, n = m + 1 := ⟨n - 1, by omega⟩
    obtain ⟨hj, hx, hd'⟩ := drop_cons hd rg0
    rw [List.length_cons] at hn
    have hw : IntKind.wrap .i64 ((j : Int) + 1) = ((j + 1 : Nat) : Int) := by rw [w64 (by omega) (by omega)]; omega
    rw [carets_Type_rg.l0, if_pos (by simp; omega), if_pos (by omega)]
    simp only [Int.toNat_natCast, hx, hw, spanR_is, Option.bind_some]
    rw [if_pos (by simp only [List.length_singleton]; omega), typeC_loop hl rest (j + 1) n _ hd' (by omega) (by simp; omega), List.map_cons]
    simp [tyC]

theorem typeC_is {K : Nat} {l : List Rg} {t : ByteArray} (hl : l.length ≤ 10000) (hK : l.length < K) : carets_Type_rg K l t = some (l.map (tyC t)) := by
  have e := typeC_loop (K := K) (t := t) hl l 0 K [] rfl hK (by simp)
  rw [List.nil_append] at e
  exact e

def frC (s : ByteArray) (e : Int) (x : Rg) : Int := max (if loR x = hiR x then bkP s (loR x) else loR x) e

def erC (s : ByteArray) : Int → List Rg → List El
  | _, [] => []
  | e, x :: l => if frC s e x ≥ hiR x then erC s e l else (frC s e x, (hiR x, ByteArray.empty)) :: erC s (hiR x) l

theorem eraseC_loop {K : Nat} {l : List Rg} {s : ByteArray} (hs : s.size ≤ 100000) (hK : s.size + 10 ≤ K) (hl : l.length ≤ 10000) : ∀ (rest : List Rg) (j n : Nat) (out : List El) (e : Int), l.drop j = rest → rest.length < n → out.length ≤ j →
    carets_Erase_rg.l0 K l s n out e (j : Int) = some (out ++ erC s e rest)
  | [], j, n, out, e, hd, hn, ho => by
    obtain ⟨n, rfl⟩ : ∃ m, n = m + 1 := ⟨n - 1, by omega⟩
    have := drop_nil hd
    rw [carets_Erase_rg.l0, if_neg (by simp; omega)]; simp [erC]
  | x :: rest, j, n, out, e, hd, hn, ho => by
    obtain ⟨n, rfl⟩ : ∃ m, n = m + 1 := ⟨n - 1, by omega⟩
    obtain ⟨hj, hx, hd'⟩ := drop_cons hd rg0
    rw [List.length_cons] at hn
    have hw : IntKind.wrap .i64 ((j : Int) + 1) = ((j + 1 : Nat) : Int) := by rw [w64 (by omega) (by omega)]; omega
    rw [carets_Erase_rg.l0, if_pos (by simp; omega), if_pos (by omega)]
    simp only [Int.toNat_natCast, hx, hw, spanR_is, ubk_is hs hK, Option.bind_some, mx2_is]
    have e0 : (if (loR x == hiR x) = true then some (bkP s (loR x)) else some (loR x)) = some (if loR x = hiR x then bkP s (loR x) else loR x) := by
      by_cases c : loR x = hiR x
      · rw [if_pos (by simpa using c), if_pos c]
      · rw [if_neg (by simpa using c), if_neg c]
    rw [e0, Option.bind_some, show max (if loR x = hiR x then bkP s (loR x) else loR x) e = frC s e x from rfl, erC]
    by_cases c : frC s e x ≥ hiR x
    · rw [if_pos (by simpa using c), if_pos c, eraseC_loop hs hK hl rest (j + 1) n out e hd' (by omega) (by omega)]
    · rw [if_neg (by simpa using c), if_neg c, if_pos (by simp only [List.length_singleton]; omega), eraseC_loop hs hK hl rest (j + 1) n _ (hiR x) hd' (by omega) (by simp; omega)]
      simp

theorem eraseC_is {K : Nat} {l : List Rg} {s : ByteArray} (hK : 100000 ≤ K) (hs : s.size ≤ 10000) (hl : l.length ≤ 1000) : carets_Erase_rg K l s = some (if isR s l = true then erC s 0 l else []) := by
  unfold carets_Erase_rg
  rw [isR_is hK hs hl, Option.bind_some]
  cases h : isR s l with
  | false => rfl
  | true =>
    have e := eraseC_loop (K := K) (l := l) (s := s) (by omega) (by omega) (by omega) l 0 K [] 0 rfl (by omega) (by simp)
    rw [show ((0 : Nat) : Int) = 0 from rfl, List.nil_append] at e
    rw [if_neg (by simp), e, if_pos rfl]

theorem known25 {K : Nat} (hK : 100000 < K) : palinodelaw25_known K = some true := by
  unfold palinodelaw25_known
  have s1 : (ByteArray.mk #[97, 98, 99, 100]).size = 4 := rfl
  have s2 : (ByteArray.mk #[97, 10, 98, 99]).size = 4 := rfl
  have s3 : (ByteArray.mk #[]).size = 0 := rfl
  rw [typeC_is (by simp) (by simp; omega), Option.bind_some, eraseC_is (by omega) (by omega) (by simp), Option.bind_some, stepC_is (by omega) (by omega) (by simp), Option.bind_some, linesC_is (by omega) (by omega) (by simp), Option.bind_some, linesC_is (by omega) (by omega) (by simp), Option.bind_some]
  simp only [str_beq]
  decide +kernel

def gdC (s : ByteArray) (x : El) : Prop := 0 ≤ x.1 ∧ x.1 ≤ x.2.1 ∧ x.2.1 ≤ s.size ∧ isE s x.1 = true ∧ isE s x.2.1 = true ∧ uvalid x.2.2 = true ∧ x.2.2.size ≤ 60

def odC : El → List El → Prop
  | _, [] => True
  | p, x :: l => (p.2.1 ≤ x.1 ∧ (p.1 < p.2.1 ∨ p.2.1 < x.1)) ∧ odC x l

def odL : List El → Prop
  | [] => True
  | x :: l => odC x l

def dlC (l : List El) : Int := (l.map fun x : El => x.2.1 - x.1).sum

def txC (l : List El) : Int := (l.map fun x : El => (x.2.2.size : Int)).sum

theorem odC_L {p : El} {l : List El} (h : odC p l) : odL l := by
  cases l with
  | nil => trivial
  | cons x l => exact h.2

theorem ck0_loop {K : Nat} {l : List El} {s : ByteArray} (hl : l.length ≤ 100) (hg : ∀ x ∈ l, gdC s x) : ∀ (rest : List El) (j k : Nat), l.drop j = rest → rest.length < k → palinoderef17_Check_gr.l0 K l s k (j : Int) = some (.inr ())
  | [], j, k, hd, hk => by
    obtain ⟨k, rfl⟩ : ∃ m, k = m + 1 := ⟨k - 1, by omega⟩
    have := drop_nil hd
    rw [palinoderef17_Check_gr.l0, if_neg (by simp; omega)]
  | x :: rest, j, k, hd, hk => by
    obtain ⟨k, rfl⟩ : ∃ m, k = m + 1 := ⟨k - 1, by omega⟩
    obtain ⟨hj, hx, hd'⟩ := drop_cons hd el0
    rw [List.length_cons] at hk
    have hw : IntKind.wrap .i64 ((j : Int) + 1) = ((j + 1 : Nat) : Int) := by rw [w64 (by omega) (by omega)]; omega
    obtain ⟨g1, g2, g3, -⟩ := hg x (List.mem_of_mem_drop (i := j) (by rw [hd]; simp))
    have hb : (0 : Int) ≤ (j : Int) ∧ (j : Int) < ((l.length : Nat) : Int) := by omega
    rw [palinoderef17_Check_gr.l0, if_pos (by simp; omega)]
    simp only [Int.toNat_natCast, hx, hw, if_pos hb]
    rw [if_neg (by simp; omega), if_neg (by simp; omega), Option.bind_some, if_neg (by simp; omega)]
    exact ck0_loop hl hg rest (j + 1) k hd' (by omega)

theorem ck1_loop {K : Nat} {l : List El} {s : ByteArray} (hK : s.size + 10 ≤ K) (hs : s.size ≤ 1000000) (hl : l.length ≤ 100) (hg : ∀ x ∈ l, gdC s x) : ∀ (rest : List El) (j k : Nat), l.drop j = rest → rest.length < k → palinoderef17_Check_gr.l1 K l s k (j : Int) = some (.inr ())
  | [], j, k, hd, hk => by
    obtain ⟨k, rfl⟩ : ∃ m, k = m + 1 := ⟨k - 1, by omega⟩
    have := drop_nil hd
    rw [palinoderef17_Check_gr.l1, if_neg (by simp; omega)]
  | x :: rest, j, k, hd, hk => by
    obtain ⟨k, rfl⟩ : ∃ m, k = m + 1 := ⟨k - 1, by omega⟩
    obtain ⟨hj, hx, hd'⟩ := drop_cons hd el0
    rw [List.length_cons] at hk
    have hw : IntKind.wrap .i64 ((j : Int) + 1) = ((j + 1 : Nat) : Int) := by rw [w64 (by omega) (by omega)]; omega
    obtain ⟨g1, g2, g3, g4, g5, -⟩ := hg x (List.mem_of_mem_drop (i := j) (by rw [hd]; simp))
    have hb : (0 : Int) ≤ (j : Int) ∧ (j : Int) < ((l.length : Nat) : Int) := by omega
    rw [palinoderef17_Check_gr.l1, if_pos (by simp; omega)]
    simp only [Int.toNat_natCast, hx, hw, if_pos hb, redge_is hK hs, g4, g5, Option.bind_some]
    rw [if_neg (by simp), Option.bind_some, if_neg (by simp)]
    exact ck1_loop hK hs hl hg rest (j + 1) k hd' (by omega)

theorem cko_loop {K : Nat} {l : List El} {s : ByteArray} (hl : l.length ≤ 100) (hg : ∀ x ∈ l, gdC s x) : ∀ (rest : List El) (j k : Nat) (p : El), l.drop j = rest → rest.length < k → 0 < j → l.getD (j - 1) el0 = p → gdC s p → odC p rest → palinoderef11_Ordered_r.l0 K l k (j : Int) = some true
  | [], j, k, p, hd, hk, h0, hp, hgp, ho => by
    obtain ⟨k, rfl⟩ : ∃ m, k = m + 1 := ⟨k - 1, by omega⟩
    have := drop_nil hd
    rw [palinoderef11_Ordered_r.l0, if_neg (by simp; omega)]
  | x :: rest, j, k, p, hd, hk, h0, hp, hgp, ho => by
    obtain ⟨k, rfl⟩ : ∃ m, k = m + 1 := ⟨k - 1, by omega⟩
    obtain ⟨hj, hx, hd'⟩ := drop_cons hd el0
    rw [List.length_cons] at hk
    have hw : IntKind.wrap .i64 ((j : Int) + 1) = ((j + 1 : Nat) : Int) := by rw [w64 (by omega) (by omega)]; omega
    have hw2 : IntKind.wrap .i64 ((j : Int) - 1) = ((j - 1 : Nat) : Int) := by rw [w64 (by omega) (by omega)]; omega
    have hgx := hg x (List.mem_of_mem_drop (i := j) (by rw [hd]; simp))
    have hg2 := hgp.2.1
    obtain ⟨⟨o1, o2⟩, o3⟩ := ho
    rw [palinoderef11_Ordered_r.l0, if_pos (by simp; omega)]
    simp only [hw, hw2, Int.toNat_natCast, hx, hp]
    rw [if_pos (by omega), if_neg (by simp; omega)]
    have e : (if (x.1 == p.1) = true then some (p.1 == p.2.1) else some false) = some false := by
      by_cases c : x.1 = p.1
      · rw [if_pos (by simpa using c)]; congr 1; rw [beq_eq_false_iff_ne]; omega
      · rw [if_neg (by simpa using c)]
    rw [e, Option.bind_some, if_neg (by simp)]
    exact cko_loop hl hg rest (j + 1) k x hd' (by omega) (by omega) (by rw [Nat.add_sub_cancel]; exact hx) hgx o3

theorem cko_is {K : Nat} {l : List El} {s : ByteArray} (hK : 1000 ≤ K) (hl : l.length ≤ 100) (hg : ∀ x ∈ l, gdC s x) (ho : odL l) : palinoderef11_Ordered_r K l = some true := by
  unfold palinoderef11_Ordered_r
  cases l with
  | nil =>
    obtain ⟨k, rfl⟩ : ∃ m, K = m + 1 := ⟨K - 1, by omega⟩
    rw [palinoderef11_Ordered_r.l0, if_neg (by simp)]
  | cons x l =>
    exact cko_loop hl hg l 1 K x rfl (by rw [List.length_cons] at hl; omega) (by omega) rfl (hg x (by simp)) ho

theorem ck2_loop {K : Nat} {l : List El} {s : ByteArray} (hK : 1000 ≤ K) (hl : l.length ≤ 100) (hg : ∀ x ∈ l, gdC s x) : ∀ (rest : List El) (j k : Nat), l.drop j = rest → rest.length < k → palinoderef17_Check_gr.l2 K l k (j : Int) = some (.inr ())
  | [], j, k, hd, hk => by
    obtain ⟨k, rfl⟩ : ∃ m, k = m + 1 := ⟨k - 1, by omega⟩
    have := drop_nil hd
    rw [palinoderef17_Check_gr.l2, if_neg (by simp; omega)]
  | x :: rest, j, k, hd, hk => by
    obtain ⟨k, rfl⟩ : ∃ m, k = m + 1 := ⟨k - 1, by omega⟩
    obtain ⟨hj, hx, hd'⟩ := drop_cons hd el0
    rw [List.length_cons] at hk
    have hw : IntKind.wrap .i64 ((j : Int) + 1) = ((j + 1 : Nat) : Int) := by rw [w64 (by omega) (by omega)]; omega
    obtain ⟨g1, g2, g3, g4, g5, g6, g7⟩ := hg x (List.mem_of_mem_drop (i := j) (by rw [hd]; simp))
    rw [palinoderef17_Check_gr.l2, if_pos (by simp; omega)]
    simp only [Int.toNat_natCast, hx, hw]
    rw [rvalid_is (by omega) (by omega), Option.bind_some, if_pos (by omega), g6, if_neg (by simp)]
    exact ck2_loop hK hl hg rest (j + 1) k hd' (by omega)

theorem ck3_loop {K : Nat} {l : List El} {s : ByteArray} (hs : s.size ≤ 10000) (hl : l.length ≤ 100) (hg : ∀ x ∈ l, gdC s x) : ∀ (rest : List El) (j k : Nat) (n : Int), l.drop j = rest → rest.length < k → -10000 * (j : Int) ≤ n → n ≤ 10000 → j ≤ l.length → ∃ n', palinoderef17_Check_gr.l3 K l k n (j : Int) = some n' ∧ n' ≤ n ∧ -10000 * (l.length : Int) ≤ n'
  | [], j, k, n, hd, hk, h1, h2, h3 => by
    obtain ⟨k, rfl⟩ : ∃ m, k = m + 1 := ⟨k - 1, by omega⟩
    have := drop_nil hd
    rw [palinoderef17_Check_gr.l3, if_neg (by simp; omega)]
    exact ⟨n, rfl, Int.le_refl _, by omega⟩
  | x :: rest, j, k, n, hd, hk, h1, h2, h3 => by
    obtain ⟨k, rfl⟩ : ∃ m, k = m + 1 := ⟨k - 1, by omega⟩
    obtain ⟨hj, hx, hd'⟩ := drop_cons hd el0
    rw [List.length_cons] at hk
    have hw : IntKind.wrap .i64 ((j : Int) + 1) = ((j + 1 : Nat) : Int) := by rw [w64 (by omega) (by omega)]; omega
    obtain ⟨g1, g2, g3, -⟩ := hg x (List.mem_of_mem_drop (i := j) (by rw [hd]; simp))
    obtain ⟨n', e1, e2, e3⟩ := ck3_loop (K := K) hs hl hg rest (j + 1) k (n - (x.2.1 - x.1)) hd' (by omega) (by omega) (by omega) (by omega)
    rw [palinoderef17_Check_gr.l3, if_pos (by simp; omega), if_pos (by omega)]
    simp only [Int.toNat_natCast, hx, hw]
    rw [w64 (n := x.2.1 - x.1) (by omega) (by omega), w64 (n := n - (x.2.1 - x.1)) (by omega) (by omega)]
    exact ⟨n', e1, by omega, e3⟩

theorem ck4_loop {K : Nat} {l : List El} {s : ByteArray} (hl : l.length ≤ 100) (hg : ∀ x ∈ l, gdC s x) : ∀ (rest : List El) (j k : Nat) (n : Int), l.drop j = rest → rest.length < k → -1000000 ≤ n → n ≤ 10000 + 60 * (j : Int) → palinoderef17_Check_gr.l4 K l k n (j : Int) = some 0
  | [], j, k, n, hd, hk, h1, h2 => by
    obtain ⟨k, rfl⟩ : ∃ m, k = m + 1 := ⟨k - 1, by omega⟩
    have := drop_nil hd
    rw [palinoderef17_Check_gr.l4, if_neg (by simp; omega)]
  | x :: rest, j, k, n, hd, hk, h1, h2 => by
    obtain ⟨k, rfl⟩ : ∃ m, k = m + 1 := ⟨k - 1, by omega⟩
    obtain ⟨hj, hx, hd'⟩ := drop_cons hd el0
    rw [List.length_cons] at hk
    have hw : IntKind.wrap .i64 ((j : Int) + 1) = ((j + 1 : Nat) : Int) := by rw [w64 (by omega) (by omega)]; omega
    obtain ⟨g1, g2, g3, g4, g5, g6, g7⟩ := hg x (List.mem_of_mem_drop (i := j) (by rw [hd]; simp))
    rw [palinoderef17_Check_gr.l4, if_pos (by simp; omega), if_pos (by omega)]
    simp only [Int.toNat_natCast, hx, hw]
    rw [w64 (n := 20000 - n) (by omega) (by omega), w64 (n := n + ((x.2.2.size : Nat) : Int)) (by omega) (by omega), if_neg (by simp; omega)]
    exact ck4_loop hl hg rest (j + 1) k _ hd' (by omega) (by omega) (by omega)

theorem check17_is {K : Nat} {l : List El} {s : ByteArray} (hK : 100000 ≤ K) (hs : s.size ≤ 1000) (hv : uvalid s = true) (hl : l.length ≤ 8) (hg : ∀ x ∈ l, gdC s x) (ho : odL l) : palinoderef17_Check_gr K s l = some 0 := by
  unfold palinoderef17_Check_gr
  have e0 := ck0_loop (K := K) (by omega) hg l 0 K rfl (by omega)
  have e1 := ck1_loop (K := K) (by omega) (by omega) (by omega) hg l 0 K rfl (by omega)
  have e2 := ck2_loop (K := K) (by omega) (by omega) hg l 0 K rfl (by omega)
  obtain ⟨n, e3, n1, n2⟩ := ck3_loop (K := K) (s := s) (by omega) (by omega) hg l 0 K (s.size : Int) rfl (by omega) (by omega) (by omega) (by omega)
  have e4 := ck4_loop (K := K) (by omega) hg l 0 K n rfl (by omega) (by omega) (by omega)
  rw [show ((0 : Nat) : Int) = 0 from rfl] at e0 e1 e2 e3 e4
  rw [rvalid_is (by omega) (by omega), Option.bind_some, hv, if_neg (by simp), if_neg (by simp; omega), e0, Option.bind_some, Sum.elim_inr, e1, Option.bind_some, Sum.elim_inr, cko_is (by omega) (by omega) hg ho, Option.bind_some, if_neg (by simp), e2, Option.bind_some, Sum.elim_inr, e3, Option.bind_some, if_neg (by simp; omega), e4]

/-- What doing changes makes. -/
def doF (s : ByteArray) : ByteArray → Int → List El → ByteArray
  | t, a, [] => t ++ s.extract a.toNat s.size
  | t, a, x :: l => doF s ((t ++ s.extract a.toNat x.1.toNat) ++ x.2.2) x.2.1 l

theorem do_loop {K : Nat} {l : List El} {s : ByteArray} (hs : s.size ≤ 10000) (hl : l.length ≤ 100) (hg : ∀ x ∈ l, gdC s x) : ∀ (rest : List El) (j k : Nat) (t : ByteArray) (a : Int), l.drop j = rest → rest.length < k → t.size ≤ 100000 * (j + 1) → j ≤ l.length → 0 ≤ a → a ≤ s.size → (∀ x r, rest = x :: r → a ≤ x.1) → odL rest →
    palinoderef17_Do_gr.l0 K l s k t a (j : Int) = some (doF s t a rest)
  | [], j, k, t, a, hd, hk, ht, hjl, h0, h1, ha, ho => by
    obtain ⟨k, rfl⟩ : ∃ m, k = m + 1 := ⟨k - 1, by omega⟩
    have := drop_nil hd
    have he : (s.extract a.toNat s.size).size ≤ s.size := by rw [ByteArray.size_extract]; omega
    rw [palinoderef17_Do_gr.l0, if_neg (by simp; omega), if_pos (by omega)]; rfl
  | x :: rest, j, k, t, a, hd, hk, ht, hjl, h0, h1, ha, ho => by
    obtain ⟨k, rfl⟩ : ∃ m, k = m + 1 := ⟨k - 1, by omega⟩
    obtain ⟨hj, hx, hd'⟩ := drop_cons hd el0
    rw [List.length_cons] at hk
    have hw : IntKind.wrap .i64 ((j : Int) + 1) = ((j + 1 : Nat) : Int) := by rw [w64 (by omega) (by omega)]; omega
    obtain ⟨g1, g2, g3, g4, g5, g6, g7⟩ := hg x (List.mem_of_mem_drop (i := j) (by rw [hd]; simp))
    have hax := ha x rest rfl
    have he : (s.extract a.toNat x.1.toNat).size ≤ s.size := by rw [ByteArray.size_extract]; omega
    have hsz : (t ++ s.extract a.toNat x.1.toNat).size = t.size + (s.extract a.toNat x.1.toNat).size := ByteArray.size_append
    have hsz2 : ((t ++ s.extract a.toNat x.1.toNat) ++ x.2.2).size = t.size + (s.extract a.toNat x.1.toNat).size + x.2.2.size := by rw [ByteArray.size_append, hsz]
    rw [palinoderef17_Do_gr.l0, if_pos (by simp; omega)]
    simp only [Int.toNat_natCast, hx, hw]
    rw [if_pos (by rw [hsz]; omega), doF]
    refine do_loop hs hl hg rest (j + 1) k _ _ hd' (by omega) (by rw [hsz2]; omega) (by omega) (by omega) g3 (fun y r e => ?_) (odC_L ho)
    subst e
    exact ho.1.1

theorem do17_is {K : Nat} {l : List El} {s : ByteArray} (hK : 100000 ≤ K) (hs : s.size ≤ 1000) (hv : uvalid s = true) (hl : l.length ≤ 8) (hg : ∀ x ∈ l, gdC s x) (ho : odL l) : palinoderef17_Do_gr K s l = some (doF s ByteArray.empty 0 l) := by
  unfold palinoderef17_Do_gr
  rw [check17_is hK hs hv hl hg ho, Option.bind_some, if_neg (by simp)]
  exact do_loop (by omega) (by omega) hg l 0 K ByteArray.empty 0 rfl (by omega) (by rw [empty_size]; omega) (by omega) (Int.le_refl 0) (by omega) (fun x r e => by subst e; exact (hg x (by simp)).1) ho

theorem doF_size {s : ByteArray} : ∀ {l : List El} {t : ByteArray} {a : Int}, (∀ x ∈ l, gdC s x) → odL l → 0 ≤ a → a ≤ s.size → (∀ x r, l = x :: r → a ≤ x.1) → ((doF s t a l).size : Int) = t.size + (s.size - a) - dlC l + txC l
  | [], t, a, _, _, h0, h1, _ => by
    rw [doF, ByteArray.size_append, ext_size (by omega) (Nat.le_refl _)]
    unfold dlC txC
    simp only [List.map_nil, List.sum_nil]; omega
  | x :: l, t, a, hg, ho, h0, h1, ha => by
    obtain ⟨g1, g2, g3, g4, g5, g6, g7⟩ := hg x (by simp)
    have hax := ha x l rfl
    have ih := doF_size (l := l) (t := (t ++ s.extract a.toNat x.1.toNat) ++ x.2.2) (a := x.2.1) (fun y hy => hg y (by simp [hy])) (odC_L ho) (by omega) g3 fun y r e => by subst e; exact ho.1.1
    rw [doF, ih, ByteArray.size_append, ByteArray.size_append, ext_size (by omega) (by omega)]
    unfold dlC txC
    simp only [List.map_cons, List.sum_cons]; omega

theorem doF_val {s : ByteArray} (hv : uvalid s = true) : ∀ {l : List El} {t : ByteArray} {a : Int}, (∀ x ∈ l, gdC s x) → odL l → edg s a → uvalid t = true → (∀ x r, l = x :: r → a ≤ x.1) → uvalid (doF s t a l) = true
  | [], t, a, _, _, ha, ht, _ => by
    rw [doF]
    have := ext_val ha (edg_end hv) ha.2.1
    rw [Int.toNat_natCast] at this
    exact uvalid_app ht this
  | x :: l, t, a, hg, ho, ha, ht, hax => by
    obtain ⟨g1, g2, g3, g4, g5, g6, g7⟩ := hg x (by simp)
    rw [doF]
    exact doF_val hv (fun y hy => hg y (by simp [hy])) (odC_L ho) (isE_edg g5) (uvalid_app (uvalid_app ht (ext_val ha (isE_edg g4) (hax x l rfl))) g6) fun y r e => by subst e; exact ho.1.1

theorem one_isR {s : ByteArray} {x : Rg} (h1 : isE s x.1 = true) (h2 : isE s x.2 = true) : isR s [x] = true :=
  isR_of (by simp) (by simp) (fun y hy => by rw [List.mem_singleton.1 hy]; unfold edR; rw [h1, h2]; rfl) rfl

theorem er_end {s : ByteArray} (hv : uvalid s = true) (h : 0 < s.size) : erC s 0 [((s.size : Int), (s.size : Int))] = [(bkP s s.size, ((s.size : Int), ByteArray.empty))] := by
  have hb := back_edge (end_edge hv)
  have e1 : loR ((s.size : Int), (s.size : Int)) = s.size := by unfold loR; simp only; omega
  have e2 : hiR ((s.size : Int), (s.size : Int)) = s.size := by unfold hiR; simp only; omega
  have e3 : frC s 0 ((s.size : Int), (s.size : Int)) = bkP s s.size := by unfold frC; rw [e1, e2, if_pos rfl]; omega
  rw [erC, e3, e2, if_neg (by omega), erC]

theorem words_loop {K : Nat} (hK : 100000 ≤ K) : ∀ (d : Nat) (t : ByteArray) (i k : Nat), t.size = d → d < k → d + i ≤ 60 → uvalid t = true → ∃ z : ByteArray, palinodelaw25_CaretsWords.l0 K k t (i : Int) = some (.inr z) ∧ z.size = 0 := by
  intro d
  induction d using Nat.strongRecOn with
  | _ d ih =>
  intro t i k hd hk hi hv
  obtain ⟨k, rfl⟩ : ∃ m, k = m + 1 := ⟨k - 1, by omega⟩
  rw [palinodelaw25_CaretsWords.l0, if_pos (by rw [decide_eq_true_eq]; omega), str_nil, Option.bind_some]
  by_cases h : t.size = 0
  · rw [decide_eq_true h, if_neg (by simp)]
    exact ⟨t, rfl, h⟩
  · have hw : IntKind.wrap .i64 ((i : Int) + 1) = ((i + 1 : Nat) : Int) := by rw [w64 (by omega) (by omega)]; omega
    have he := end_edge hv
    obtain ⟨b1, b2, b3, b4⟩ := back_edge he
    have b5 := b4 (by omega)
    have hve : uvalid ByteArray.empty = true := rfl
    have hg : ∀ y ∈ [(bkP t t.size, ((t.size : Int), ByteArray.empty))], gdC t y := fun y hy => by
      rw [List.mem_singleton.1 hy]
      exact ⟨b3, b2, Int.le_refl _, b1, he, hve, by simp only [empty_size]; omega⟩
    have ho : odL [(bkP t t.size, ((t.size : Int), ByteArray.empty))] := trivial
    have hsz := doF_size (s := t) (t := ByteArray.empty) (a := 0) hg ho (Int.le_refl 0) (by omega) fun x r e => (hg x (by rw [e]; simp)).1
    have hval := doF_val hv (t := ByteArray.empty) (a := 0) hg ho edg_0 hve fun x r e => (hg x (by rw [e]; simp)).1
    have hd1 : dlC [(bkP t t.size, ((t.size : Int), ByteArray.empty))] = t.size - bkP t t.size := by unfold dlC; simp
    have ht1 : txC [(bkP t t.size, ((t.size : Int), ByteArray.empty))] = 0 := by unfold txC; simp [empty_size]
    rw [hd1, ht1, empty_size] at hsz
    rw [decide_eq_false h, if_pos (show (!false) = true from rfl), eraseC_is hK (by omega) (by simp), Option.bind_some, one_isR he he, if_pos rfl, er_end hv (by omega)]
    simp only [List.length_singleton, List.getD_cons_zero]
    rw [if_neg (by simp), if_neg (by simp), rbk_is (by omega) (by omega), Option.bind_some, if_pos (by omega), bne_self_eq_false, Option.bind_some, if_neg (by simp), do17_is hK (by omega) hv (by simp) hg ho, Option.bind_some, hw]
    exact ih _ (by omega) _ (i + 1) k rfl (by omega) (by omega) hval

theorem CaretsWords_pure (s : ByteArray) (os : Kd.ok .str s) : ∃ K, palinodelaw25_CaretsWords K s = some true := by
  refine ⟨200000, ?_⟩
  clear os
  unfold palinodelaw25_CaretsWords
  rw [known25 (by omega), Option.bind_some, if_neg (by simp)]
  by_cases h1 : s.size > 60
  · rw [if_pos (by simp; omega), Option.bind_some, if_pos rfl]
  rw [if_neg (by simp; omega), rvalid_is (by omega) (by omega), Option.bind_some, Option.bind_some]
  cases hv : uvalid s with
  | false => rfl
  | true =>
    obtain ⟨z, hz, hz0⟩ := words_loop (K := 200000) (by omega) s.size s 0 200000 rfl (by omega) (by omega) hv
    rw [show ((0 : Nat) : Int) = 0 from rfl] at hz
    have e1 : loR ((s.size : Int), (0 : Int)) = 0 := by unfold loR; simp only; omega
    have e2 : hiR ((s.size : Int), (0 : Int)) = s.size := by unfold hiR; simp only; omega
    have hb0 : bkP s 0 = 0 := by unfold bkP; rw [if_neg (fun h => by have := h.1; omega)]
    have e3 : frC s 0 ((s.size : Int), (0 : Int)) = 0 := by
      unfold frC
      rw [e1, e2]
      split
      · rw [hb0]; omega
      · omega
    have her : erC s 0 [((s.size : Int), (0 : Int))] = if s.size = 0 then [] else [(0, ((s.size : Int), ByteArray.empty))] := by
      rw [erC, e3, e2]
      by_cases h0 : s.size = 0
      · rw [if_pos (show (0 : Int) ≥ (s.size : Int) by omega), if_pos h0, erC]
      · rw [if_neg (show ¬ (0 : Int) ≥ (s.size : Int) by omega), if_neg h0, erC]
    have hempty : carets_Erase_rg 200000 [(0, 0)] (ByteArray.mk #[]) = some [] := by
      have hs0 : (ByteArray.mk #[]).size = 0 := rfl
      rw [eraseC_is (by omega) (by omega) (by simp)]
      decide +kernel
    rw [if_neg (by simp), hz, Option.bind_some, Sum.elim_inr, eraseC_is (by omega) (by omega) (by simp), Option.bind_some, one_isR (end_edge hv) (zero_edge hv), if_pos rfl, her, str_nil, decide_eq_true hz0, if_pos rfl, hempty, Option.bind_some, if_pos (by simp), str_nil]
    by_cases h0 : s.size = 0
    · rw [decide_eq_true h0, if_pos rfl, if_pos h0]; rfl
    · rw [decide_eq_false h0, if_neg (by simp), if_neg h0]
      simp only [List.length_singleton, List.getD_cons_zero, str_beq]
      rw [if_pos (by simp), if_pos (by omega)]
      simp

end Go.Pal
