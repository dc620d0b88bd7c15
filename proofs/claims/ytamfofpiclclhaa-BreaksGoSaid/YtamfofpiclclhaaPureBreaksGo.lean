/- Whatever breaks and one text put in: those behind the text go along, those ahead stay; where all else is taken away one is left. -/
import Derived.Test.YtamfofpiclclhaaFunBreaksGo
namespace Go.Pal
open Go
set_option linter.unusedVariables false
set_option linter.unusedSimpArgs false
set_option linter.unnecessarySimpa false
theorem w64 {n : Int} (h1 : -9223372036854775808 ≤ n) (h2 : n < 9223372036854775808) : IntKind.wrap .i64 n = n := by
  simp only [IntKind.wrap, IntKind.bits, IntKind.signed]
  simp
  omega

theorem drop_cons {α : Type} {l : List α} {j : Nat} {g : α} {r : List α} (h : l.drop j = g :: r) (d : α) : j < l.length ∧ l.getD j d = g ∧ l.drop (j + 1) = r := by
  have hj : j < l.length := by
    rcases Nat.lt_or_ge j l.length with h' | h'
    · exact h'
    · rw [List.drop_eq_nil_of_le h'] at h; cases h
  rw [List.drop_eq_getElem_cons hj] at h
  obtain ⟨h1, h2⟩ := List.cons.inj h
  exact ⟨hj, by simp [List.getD, hj, h1], h2⟩

theorem drop_nil {α : Type} {l : List α} {j : Nat} (h : l.drop j = []) : l.length ≤ j := List.drop_eq_nil_iff.1 h

theorem split_last {α : Type} : ∀ {l : List α}, l ≠ [] → ∃ m x, l = m ++ [x] := by
  intro l h
  exact ⟨l.dropLast, l.getLast h, (List.dropLast_concat_getLast h).symm⟩

theorem mx2_eq (a b : Int) : mx2 a b = max a b := by unfold mx2; split <;> omega

theorem mn2_eq (a b : Int) : mn2 a b = min a b := by unfold mn2; split <;> omega

/-- The counts of e, those from f to t told anew. -/
def put (e : List Int) (f t c : Int) : List Int := e.take f.toNat ++ List.replicate (t - f).toNat c ++ e.drop t.toNat

theorem tmod_u8 {n m : Int} (h0 : 0 ≤ n) (hm : 0 < m) : 0 ≤ Int.tmod n m ∧ Int.tmod n m < m := by
  rw [Int.tmod_eq_emod_of_nonneg h0]
  exact ⟨Int.emod_nonneg _ (by omega), Int.emod_lt_of_pos _ hm⟩

/-- The place of the how-manieth that has no count. -/
def up : List Int → Int → Int → Int
  | [], _, i => i
  | c :: r, k, i => if c ≠ 0 then up r k (i + 1) else if k = 0 then i else up r (k - 1) (i + 1)

/-- A text's bytes. -/
def txt (s : ByteArray) : List Int := s.data.toList.map fun b => (b.toNat : Int)

theorem txt_len {s : ByteArray} : (txt s).length = s.size := by simp [txt]

theorem ofBytes_txt {s : ByteArray} : ofBytes (txt s) = s := by
  cases s with
  | mk d =>
    unfold ofBytes txt
    rw [List.map_map]
    have : ((fun n : Int => UInt8.ofNat n.toNat) ∘ fun b : UInt8 => (b.toNat : Int)) = id := by
      funext b; simp
    rw [this]; simp

theorem txt_get {s : ByteArray} {j : Nat} (h : j < (txt s).length) (hs : j < s.size) : (txt s)[j] = (s[j].toNat : Int) := by
  have : ∀ (l : List Int) (h : j < l.length), l = s.data.toList.map (fun b => (b.toNat : Int)) → l[j] = (s[j].toNat : Int) := by
    intro l h e
    subst e
    rw [List.getElem_map, Array.getElem_toList]
    rfl
  exact this _ h rfl

theorem bt_is {s : ByteArray} {j : Nat} (h : j < (txt s).length) : bt s (j : Int) = (txt s)[j] := by
  have hs : j < s.size := by rw [← txt_len]; exact h
  rw [txt_get h hs]
  unfold bt
  simp [hs]

theorem byte_all {P : Int → Prop} (h : ∀ m : Fin 256, P ((m.val : Nat) : Int)) {c : Int} (h0 : 0 ≤ c) (h1 : c ≤ 255) : P c := by
  have := h ⟨c.toNat, by omega⟩
  simpa [Int.toNat_of_nonneg h0] using this

theorem bt_ok {s : ByteArray} {i : Int} : 0 ≤ bt s i ∧ bt s i ≤ 255 := by
  unfold bt
  have := (s[i.toNat]?.getD 0).toNat_lt
  omega

/-- A byte that goes on. -/
def cont (b : Int) : Prop := 128 ≤ b ∧ b < 192

instance (b : Int) : Decidable (cont b) := inferInstanceAs (Decidable (_ ∧ _))

theorem and_192 {b : Int} (h0 : 0 ≤ b) (h1 : b ≤ 255) : (IntKind.wrap .u8 (BitVec.toNat (BitVec.ofInt (IntKind.bits .u8) b &&& BitVec.ofInt (IntKind.bits .u8) (192 : Int))) != (128 : Int)) = !decide (cont b) :=
  byte_all (P := fun b => (IntKind.wrap .u8 (BitVec.toNat (BitVec.ofInt (IntKind.bits .u8) b &&& BitVec.ofInt (IntKind.bits .u8) (192 : Int))) != (128 : Int)) = !decide (cont b)) (by decide +kernel) h0 h1

theorem not_192 {b : Int} (h0 : 0 ≤ b) (h1 : b ≤ 255) : IntKind.wrap .u8 (BitVec.toNat (BitVec.ofInt (IntKind.bits .u8) b &&& ~~~BitVec.ofInt (IntKind.bits .u8) (192 : Int))) = b % 64 :=
  byte_all (P := fun b => IntKind.wrap .u8 (BitVec.toNat (BitVec.ofInt (IntKind.bits .u8) b &&& ~~~BitVec.ofInt (IntKind.bits .u8) (192 : Int))) = b % 64) (by decide +kernel) h0 h1

theorem not_128 {b : Int} (h0 : 0 ≤ b) (h1 : b ≤ 255) : IntKind.wrap .u8 (BitVec.toNat (BitVec.ofInt (IntKind.bits .u8) b &&& ~~~BitVec.ofInt (IntKind.bits .u8) (128 : Int))) = b % 128 :=
  byte_all (P := fun b => IntKind.wrap .u8 (BitVec.toNat (BitVec.ofInt (IntKind.bits .u8) b &&& ~~~BitVec.ofInt (IntKind.bits .u8) (128 : Int))) = b % 128) (by decide +kernel) h0 h1

theorem not_224 {b : Int} (h0 : 0 ≤ b) (h1 : b ≤ 255) : IntKind.wrap .u8 (BitVec.toNat (BitVec.ofInt (IntKind.bits .u8) b &&& ~~~BitVec.ofInt (IntKind.bits .u8) (224 : Int))) = b % 32 :=
  byte_all (P := fun b => IntKind.wrap .u8 (BitVec.toNat (BitVec.ofInt (IntKind.bits .u8) b &&& ~~~BitVec.ofInt (IntKind.bits .u8) (224 : Int))) = b % 32) (by decide +kernel) h0 h1

theorem not_240 {b : Int} (h0 : 0 ≤ b) (h1 : b ≤ 255) : IntKind.wrap .u8 (BitVec.toNat (BitVec.ofInt (IntKind.bits .u8) b &&& ~~~BitVec.ofInt (IntKind.bits .u8) (240 : Int))) = b % 16 :=
  byte_all (P := fun b => IntKind.wrap .u8 (BitVec.toNat (BitVec.ofInt (IntKind.bits .u8) b &&& ~~~BitVec.ofInt (IntKind.bits .u8) (240 : Int))) = b % 16) (by decide +kernel) h0 h1

theorem not_248 {b : Int} (h0 : 0 ≤ b) (h1 : b ≤ 255) : IntKind.wrap .u8 (BitVec.toNat (BitVec.ofInt (IntKind.bits .u8) b &&& ~~~BitVec.ofInt (IntKind.bits .u8) (248 : Int))) = b % 8 :=
  byte_all (P := fun b => IntKind.wrap .u8 (BitVec.toNat (BitVec.ofInt (IntKind.bits .u8) b &&& ~~~BitVec.ofInt (IntKind.bits .u8) (248 : Int))) = b % 8) (by decide +kernel) h0 h1

theorem is_128 {b : Int} (h0 : 0 ≤ b) (h1 : b ≤ 255) : (IntKind.wrap .u8 (BitVec.toNat (BitVec.ofInt (IntKind.bits .u8) b &&& BitVec.ofInt (IntKind.bits .u8) (128 : Int))) == (0 : Int)) = decide (b < 128) :=
  byte_all (P := fun b => (IntKind.wrap .u8 (BitVec.toNat (BitVec.ofInt (IntKind.bits .u8) b &&& BitVec.ofInt (IntKind.bits .u8) (128 : Int))) == (0 : Int)) = decide (b < 128)) (by decide +kernel) h0 h1

theorem is_224 {b : Int} (h0 : 0 ≤ b) (h1 : b ≤ 255) : (IntKind.wrap .u8 (BitVec.toNat (BitVec.ofInt (IntKind.bits .u8) b &&& BitVec.ofInt (IntKind.bits .u8) (224 : Int))) == (192 : Int)) = decide (192 ≤ b ∧ b < 224) :=
  byte_all (P := fun b => (IntKind.wrap .u8 (BitVec.toNat (BitVec.ofInt (IntKind.bits .u8) b &&& BitVec.ofInt (IntKind.bits .u8) (224 : Int))) == (192 : Int)) = decide (192 ≤ b ∧ b < 224)) (by decide +kernel) h0 h1

theorem is_240 {b : Int} (h0 : 0 ≤ b) (h1 : b ≤ 255) : (IntKind.wrap .u8 (BitVec.toNat (BitVec.ofInt (IntKind.bits .u8) b &&& BitVec.ofInt (IntKind.bits .u8) (240 : Int))) == (224 : Int)) = decide (224 ≤ b ∧ b < 240) :=
  byte_all (P := fun b => (IntKind.wrap .u8 (BitVec.toNat (BitVec.ofInt (IntKind.bits .u8) b &&& BitVec.ofInt (IntKind.bits .u8) (240 : Int))) == (224 : Int)) = decide (224 ≤ b ∧ b < 240)) (by decide +kernel) h0 h1

theorem is_248 {b : Int} (h0 : 0 ≤ b) (h1 : b ≤ 255) : (IntKind.wrap .u8 (BitVec.toNat (BitVec.ofInt (IntKind.bits .u8) b &&& BitVec.ofInt (IntKind.bits .u8) (248 : Int))) == (240 : Int)) = decide (240 ≤ b ∧ b < 248) :=
  byte_all (P := fun b => (IntKind.wrap .u8 (BitVec.toNat (BitVec.ofInt (IntKind.bits .u8) b &&& BitVec.ofInt (IntKind.bits .u8) (248 : Int))) == (240 : Int)) = decide (240 ≤ b ∧ b < 248)) (by decide +kernel) h0 h1

theorem and_63 {b : Int} (h0 : 0 ≤ b) (h1 : b ≤ 255) : IntKind.wrap .i64 (BitVec.toNat (BitVec.ofInt (IntKind.bits .i64) b &&& BitVec.ofInt (IntKind.bits .i64) (63 : Int))) = b % 64 :=
  byte_all (P := fun b => IntKind.wrap .i64 (BitVec.toNat (BitVec.ofInt (IntKind.bits .i64) b &&& BitVec.ofInt (IntKind.bits .i64) (63 : Int))) = b % 64) (by decide +kernel) h0 h1

theorem and_31 {b : Int} (h0 : 0 ≤ b) (h1 : b ≤ 255) : IntKind.wrap .i64 (BitVec.toNat (BitVec.ofInt (IntKind.bits .i64) b &&& BitVec.ofInt (IntKind.bits .i64) (31 : Int))) = b % 32 :=
  byte_all (P := fun b => IntKind.wrap .i64 (BitVec.toNat (BitVec.ofInt (IntKind.bits .i64) b &&& BitVec.ofInt (IntKind.bits .i64) (31 : Int))) = b % 32) (by decide +kernel) h0 h1

theorem and_15 {b : Int} (h0 : 0 ≤ b) (h1 : b ≤ 255) : IntKind.wrap .i64 (BitVec.toNat (BitVec.ofInt (IntKind.bits .i64) b &&& BitVec.ofInt (IntKind.bits .i64) (15 : Int))) = b % 16 :=
  byte_all (P := fun b => IntKind.wrap .i64 (BitVec.toNat (BitVec.ofInt (IntKind.bits .i64) b &&& BitVec.ofInt (IntKind.bits .i64) (15 : Int))) = b % 16) (by decide +kernel) h0 h1

theorem and_7 {b : Int} (h0 : 0 ≤ b) (h1 : b ≤ 255) : IntKind.wrap .i64 (BitVec.toNat (BitVec.ofInt (IntKind.bits .i64) b &&& BitVec.ofInt (IntKind.bits .i64) (7 : Int))) = b % 8 :=
  byte_all (P := fun b => IntKind.wrap .i64 (BitVec.toNat (BitVec.ofInt (IntKind.bits .i64) b &&& BitVec.ofInt (IntKind.bits .i64) (7 : Int))) = b % 8) (by decide +kernel) h0 h1

theorem div_64 {b : Int} (h0 : 0 ≤ b) (h1 : b ≤ 255) : (Int.fdiv b 64 != 2) = !decide (cont b) :=
  byte_all (P := fun b => (Int.fdiv b 64 != 2) = !decide (cont b)) (by decide +kernel) h0 h1

theorem or_lo {r x : Nat} (hx : x < 64) : (r * 64) ||| x = r * 64 + x := by
  have := Nat.two_pow_add_eq_or_of_lt (i := 6) hx r
  rw [Nat.mul_comm] at this
  exact this.symm

theorem w32 {n : Int} (h1 : -2147483648 ≤ n) (h2 : n < 2147483648) : IntKind.wrap .i32 n = n := by
  simp only [IntKind.wrap, IntKind.bits, IntKind.signed]
  simp
  omega

theorem or_32 {r x : Int} (h0 : 0 ≤ r) (h1 : r < 1048576) (h2 : 0 ≤ x) (h3 : x < 64) : IntKind.wrap .i32 (BitVec.toNat (BitVec.ofInt (IntKind.bits .i32) (IntKind.wrap .i32 (r * (64 : Int))) ||| BitVec.ofInt (IntKind.bits .i32) (IntKind.wrap .i32 x))) = r * 64 + x := by
  rw [w32 (n := r * 64) (by omega) (by omega), w32 (n := x) (by omega) (by omega)]
  obtain ⟨a, rfl⟩ : ∃ a : Nat, r = a := ⟨r.toNat, by omega⟩
  obtain ⟨b, rfl⟩ : ∃ b : Nat, x = b := ⟨x.toNat, by omega⟩
  have e1 : (BitVec.ofInt (IntKind.bits .i32) ((a : Int) * 64) ||| BitVec.ofInt (IntKind.bits .i32) (b : Int)).toNat = a * 64 + b := by
    rw [BitVec.toNat_or, BitVec.toNat_ofInt, BitVec.toNat_ofInt]
    have h4 : ((a : Int) * 64 % ((2 ^ IntKind.bits .i32 : Nat) : Int)).toNat = a * 64 := by
      have : IntKind.bits .i32 = 32 := rfl
      rw [this]; omega
    have h5 : ((b : Int) % ((2 ^ IntKind.bits .i32 : Nat) : Int)).toNat = b := by
      have : IntKind.bits .i32 = 32 := rfl
      rw [this]; omega
    rw [h4, h5, or_lo (by omega)]
  rw [e1, w32 (by omega) (by omega)]
  omega

theorem or_64 {r x : Int} (h0 : 0 ≤ r) (h1 : r < 1048576) (h2 : 0 ≤ x) (h3 : x < 64) : IntKind.wrap .i64 (BitVec.toNat (BitVec.ofInt (IntKind.bits .i64) (IntKind.wrap .i64 (r * (64 : Int))) ||| BitVec.ofInt (IntKind.bits .i64) x)) = r * 64 + x := by
  rw [w64 (n := r * 64) (by omega) (by omega)]
  obtain ⟨a, rfl⟩ : ∃ a : Nat, r = a := ⟨r.toNat, by omega⟩
  obtain ⟨b, rfl⟩ : ∃ b : Nat, x = b := ⟨x.toNat, by omega⟩
  have e1 : (BitVec.ofInt (IntKind.bits .i64) ((a : Int) * 64) ||| BitVec.ofInt (IntKind.bits .i64) (b : Int)).toNat = a * 64 + b := by
    rw [BitVec.toNat_or, BitVec.toNat_ofInt, BitVec.toNat_ofInt]
    have h4 : ((a : Int) * 64 % ((2 ^ IntKind.bits .i64 : Nat) : Int)).toNat = a * 64 := by
      have : IntKind.bits .i64 = 64 := rfl
      rw [this]; omega
    have h5 : ((b : Int) % ((2 ^ IntKind.bits .i64 : Nat) : Int)).toNat = b := by
      have : IntKind.bits .i64 = 64 := rfl
      rw [this]; omega
    rw [h4, h5, or_lo (by omega)]
  rw [e1, w64 (by omega) (by omega)]
  omega

/-- How many bytes a code point has that begins with these, of so many; 0: there is none. -/
def uszB (n c d e f : Int) : Int :=
  if c < 128 then 1
  else if 192 ≤ c ∧ c < 224 then (if 2 ≤ n ∧ cont d ∧ 128 ≤ c % 32 * 64 + d % 64 then 2 else 0)
  else if 224 ≤ c ∧ c < 240 then (if 3 ≤ n ∧ cont d ∧ cont e ∧ 2048 ≤ (c % 16 * 64 + d % 64) * 64 + e % 64 ∧ ¬ (55296 ≤ (c % 16 * 64 + d % 64) * 64 + e % 64 ∧ (c % 16 * 64 + d % 64) * 64 + e % 64 < 57344) then 3 else 0)
  else if 240 ≤ c ∧ c < 248 then (if 4 ≤ n ∧ cont d ∧ cont e ∧ cont f ∧ 65536 ≤ ((c % 8 * 64 + d % 64) * 64 + e % 64) * 64 + f % 64 ∧ ((c % 8 * 64 + d % 64) * 64 + e % 64) * 64 + f % 64 ≤ 1114111 then 4 else 0)
  else 0

theorem long_end {K : Nat} {s : ByteArray} {a : Int} {n r i : Int} {k : Nat} (h : ¬ i < n) : utf_long.l0 K n a s (k + 1) r i = some (.inr r) := by
  rw [utf_long.l0, if_neg (by simpa using h)]

theorem long_bad {K : Nat} {s : ByteArray} {a : Int} (h0 : 0 ≤ a) (hs : (s.size : Int) ≤ 1000000000000) {n r i : Int} {k : Nat} (h : i < n) (hi : 0 ≤ i) (hr : a + i < s.size) (hc : ¬ cont (bt s (a + i))) : utf_long.l0 K n a s (k + 1) r i = some (.inl (0, 0)) := by
  rw [utf_long.l0, w64 (n := a + i) (by omega) (by omega), if_pos (by simpa using h), if_pos ⟨by omega, by omega⟩, and_192 bt_ok.1 bt_ok.2, if_pos (by simpa using hc)]

theorem long_go {K : Nat} {s : ByteArray} {a : Int} (h0 : 0 ≤ a) (hs : (s.size : Int) ≤ 1000000000000) {n r i : Int} {k : Nat} (h : i < n) (hi : 0 ≤ i) (hr : a + i < s.size) (hc : cont (bt s (a + i))) (r0 : 0 ≤ r) (r1 : r < 1048576) : utf_long.l0 K n a s (k + 1) r i = utf_long.l0 K n a s k (r * 64 + bt s (a + i) % 64) (i + 1) := by
  have hb := bt_ok (s := s) (i := a + i)
  rw [utf_long.l0, w64 (n := a + i) (by omega) (by omega), if_pos (by simpa using h), if_pos ⟨by omega, by omega⟩, and_192 hb.1 hb.2, if_neg (by simpa using hc), not_192 hb.1 hb.2, or_32 r0 r1 (by omega) (by omega), w64 (n := i + 1) (by omega) (by omega)]

theorem size1_bad {K : Nat} {s : ByteArray} {a : Int} (h0 : 0 ≤ a) (hs : (s.size : Int) ≤ 1000000000000) {n r i : Int} {k : Nat} (h : i < n) (hi : 0 ≤ i) (hr : a + i < s.size) (hc : ¬ cont (bt s (a + i))) : palinoderef1_Size.l0 K n a s (k + 1) r i = some (.inl 0) := by
  have hb := bt_ok (s := s) (i := a + i)
  rw [palinoderef1_Size.l0, w64 (n := a + i) (by omega) (by omega), if_pos (by simpa using h), if_pos ⟨by omega, by omega⟩, w64 (n := bt s (a + i)) (by omega) (by omega), div_64 hb.1 hb.2, if_pos (by simpa using hc)]

theorem size1_end {K : Nat} {s : ByteArray} {a : Int} {n r i : Int} {k : Nat} (h : ¬ i < n) : palinoderef1_Size.l0 K n a s (k + 1) r i = some (.inr r) := by
  rw [palinoderef1_Size.l0, if_neg (by simpa using h)]

theorem size1_go {K : Nat} {s : ByteArray} {a : Int} (h0 : 0 ≤ a) (hs : (s.size : Int) ≤ 1000000000000) {n r i : Int} {k : Nat} (h : i < n) (hi : 0 ≤ i) (hr : a + i < s.size) (hc : cont (bt s (a + i))) (r0 : 0 ≤ r) (r1 : r < 1048576) : palinoderef1_Size.l0 K n a s (k + 1) r i = palinoderef1_Size.l0 K n a s k (r * 64 + bt s (a + i) % 64) (i + 1) := by
  have hb := bt_ok (s := s) (i := a + i)
  rw [palinoderef1_Size.l0, w64 (n := a + i) (by omega) (by omega), if_pos (by simpa using h), if_pos ⟨by omega, by omega⟩, w64 (n := bt s (a + i)) (by omega) (by omega), div_64 hb.1 hb.2, if_neg (by simpa using hc), and_63 hb.1 hb.2, or_64 r0 r1 (by omega) (by omega), w64 (n := i + 1) (by omega) (by omega)]

/-- How many bytes the code point has that begins at a place. -/
def usz (s : ByteArray) (a : Int) : Int := if a < 0 ∨ a ≥ s.size then 0 else uszB (s.size - a) (bt s a) (bt s (a + 1)) (bt s (a + 2)) (bt s (a + 3))

theorem uszB_ok {n c d e f : Int} (hn : 1 ≤ n) : 0 ≤ uszB n c d e f ∧ uszB n c d e f ≤ 4 ∧ uszB n c d e f ≤ n := by
  unfold uszB
  split
  · omega
  · split
    · split <;> omega
    · split
      · split <;> omega
      · split
        · split <;> omega
        · omega

theorem usz_ok {s : ByteArray} {a : Int} : 0 ≤ usz s a ∧ usz s a ≤ 4 ∧ (0 ≤ a → a < s.size → a + usz s a ≤ s.size) := by
  unfold usz
  split
  · rename_i h; exact ⟨by omega, by omega, fun h1 h2 => by omega⟩
  · have := uszB_ok (n := s.size - a) (c := bt s a) (d := bt s (a + 1)) (e := bt s (a + 2)) (f := bt s (a + 3)) (by omega)
    exact ⟨by omega, by omega, fun h1 h2 => by omega⟩

theorem point_is {K : Nat} {r : Int} (h0 : 0 ≤ r) : utf_isPoint K r = some (decide (r ≤ 1114111 ∧ ¬ (55296 ≤ r ∧ r < 57344))) := by
  unfold utf_isPoint
  rw [if_pos (by simpa using h0)]
  by_cases h1 : r ≤ 1114111
  · rw [if_pos (by simpa using h1)]
    by_cases h2 : r < 55296
    · rw [if_pos (by simpa using h2)]
      congr 1; symm; simp; omega
    · rw [if_neg (by simpa using h2)]
      congr 1
      by_cases h3 : r > 57343
      · simp [h3]; omega
      · simp [h3]; omega
  · rw [if_neg (by simpa using h1)]
    congr 1; symm; simp; omega

/-- What is read: the code point, and its bytes. -/
def tell (n v least : Int) : Int × Int := if least ≤ v ∧ v ≤ 1114111 ∧ ¬ (55296 ≤ v ∧ v < 57344) then (v, n) else (0, 0)

theorem long_tell {K : Nat} {n v least : Int} (h0 : 0 ≤ v) : ((if decide (v < least) = true then some true else (utf_isPoint K v).bind fun r_28 => some (!r_28)).bind fun z_39 => if z_39 = true then some ((0 : Int), (0 : Int)) else some (v, n)) = some (tell n v least) := by
  unfold tell
  rw [point_is h0]
  by_cases h1 : v < least
  · rw [if_pos (by simpa using h1), Option.bind_some, if_pos rfl, if_neg (by omega)]
  · rw [if_neg (by simpa using h1), Option.bind_some, Option.bind_some]
    by_cases h2 : v ≤ 1114111 ∧ ¬ (55296 ≤ v ∧ v < 57344)
    · rw [if_neg (by simp; omega), if_pos (by omega)]
    · rw [if_pos (by simp; omega), if_neg (by omega)]

theorem long1_is {K : Nat} {s : ByteArray} {a : Int} (hK : 10 ≤ K) (h0 : 0 ≤ a) (hs : (s.size : Int) ≤ 1000000000000) (ha : a < s.size) (hc : bt s a < 128) : utf_long K s a 1 128 0 0 = some (bt s a, 1) := by
  obtain ⟨k, rfl⟩ : ∃ k, K = k + 5 := ⟨K - 5, by omega⟩
  have hb := bt_ok (s := s) (i := a)
  unfold utf_long
  rw [w64 (by omega) (by omega), if_neg (by simp; omega), if_pos ⟨h0, ha⟩, not_128 hb.1 hb.2, w32 (by omega) (by omega), long_end (by omega), Option.bind_some]
  simp only [Sum.elim_inr]
  rw [long_tell (by omega)]
  unfold tell
  rw [if_pos (by omega)]
  congr 2
  omega

theorem long2_is {K : Nat} {s : ByteArray} {a : Int} (hK : 10 ≤ K) (h0 : 0 ≤ a) (hs : (s.size : Int) ≤ 1000000000000) (ha : a < s.size) : utf_long K s a 2 224 192 128 =
    some (if 2 ≤ (s.size : Int) - a ∧ cont (bt s (a + 1)) then tell 2 (bt s a % 32 * 64 + bt s (a + 1) % 64) 128 else (0, 0)) := by
  obtain ⟨k, rfl⟩ : ∃ k, K = k + 5 := ⟨K - 5, by omega⟩
  have hb := bt_ok (s := s) (i := a)
  have hb1 := bt_ok (s := s) (i := a + 1)
  unfold utf_long
  rw [w64 (by omega) (by omega)]
  by_cases hn : (s.size : Int) - a < 2
  · rw [if_pos (by simpa using hn), if_neg (by omega)]
  · rw [if_neg (by simpa using hn), if_pos ⟨h0, ha⟩, not_224 hb.1 hb.2, w32 (by omega) (by omega)]
    by_cases c1 : cont (bt s (a + 1))
    · rw [long_go h0 hs (by omega) (by omega) (by omega) c1 (by omega) (by omega), long_end (by omega), Option.bind_some]
      simp only [Sum.elim_inr]
      rw [long_tell (by omega), if_pos ⟨by omega, c1⟩]
    · rw [long_bad h0 hs (by omega) (by omega) (by omega) c1, Option.bind_some, if_neg (fun h => c1 h.2)]
      rfl

theorem long3_is {K : Nat} {s : ByteArray} {a : Int} (hK : 10 ≤ K) (h0 : 0 ≤ a) (hs : (s.size : Int) ≤ 1000000000000) (ha : a < s.size) : utf_long K s a 3 240 224 2048 =
    some (if 3 ≤ (s.size : Int) - a ∧ cont (bt s (a + 1)) ∧ cont (bt s (a + 2)) then tell 3 ((bt s a % 16 * 64 + bt s (a + 1) % 64) * 64 + bt s (a + 2) % 64) 2048 else (0, 0)) := by
  obtain ⟨k, rfl⟩ : ∃ k, K = k + 5 := ⟨K - 5, by omega⟩
  have hb := bt_ok (s := s) (i := a)
  have hb1 := bt_ok (s := s) (i := a + 1)
  have hb2 := bt_ok (s := s) (i := a + 2)
  unfold utf_long
  rw [w64 (by omega) (by omega)]
  by_cases hn : (s.size : Int) - a < 3
  · rw [if_pos (by simpa using hn), if_neg (by omega)]
  · rw [if_neg (by simpa using hn), if_pos ⟨h0, ha⟩, not_240 hb.1 hb.2, w32 (by omega) (by omega)]
    by_cases c1 : cont (bt s (a + 1))
    · rw [long_go h0 hs (by omega) (by omega) (by omega) c1 (by omega) (by omega)]
      by_cases c2 : cont (bt s (a + 2))
      · rw [show (1 : Int) + 1 = 2 from rfl, long_go h0 hs (by omega) (by omega) (by omega) c2 (by omega) (by omega), long_end (by omega), Option.bind_some]
        simp only [Sum.elim_inr]
        rw [long_tell (by omega), if_pos ⟨by omega, c1, c2⟩]
      · rw [show (1 : Int) + 1 = 2 from rfl, long_bad h0 hs (by omega) (by omega) (by omega) c2, Option.bind_some, if_neg (fun h => c2 h.2.2)]
        rfl
    · rw [long_bad h0 hs (by omega) (by omega) (by omega) c1, Option.bind_some, if_neg (fun h => c1 h.2.1)]
      rfl

theorem long4_go {K k : Nat} {s : ByteArray} {a : Int} (h0 : 0 ≤ a) (hs : (s.size : Int) ≤ 1000000000000) (hn : ¬ (s.size : Int) - a < 4) : utf_long.l0 K 4 a s (k + 4) (bt s a % 8) 1 =
    some (if cont (bt s (a + 1)) ∧ cont (bt s (a + 2)) ∧ cont (bt s (a + 3)) then .inr (((bt s a % 8 * 64 + bt s (a + 1) % 64) * 64 + bt s (a + 2) % 64) * 64 + bt s (a + 3) % 64) else .inl (0, 0)) := by
  have hb := bt_ok (s := s) (i := a)
  have hb1 := bt_ok (s := s) (i := a + 1)
  have hb2 := bt_ok (s := s) (i := a + 2)
  have hb3 := bt_ok (s := s) (i := a + 3)
  have r1 : 0 ≤ bt s a % 8 ∧ bt s a % 8 < 8 := by omega
  have r2 : 0 ≤ bt s (a + 1) % 64 ∧ bt s (a + 1) % 64 < 64 := by omega
  have r3 : 0 ≤ bt s (a + 2) % 64 ∧ bt s (a + 2) % 64 < 64 := by omega
  by_cases c1 : cont (bt s (a + 1))
  · have g1 := long_go (K := K) h0 hs (n := 4) (r := bt s a % 8) (i := 1) (k := k + 3) (by omega) (by omega) (by omega) c1 (by omega) (by omega)
    rw [g1, show (1 : Int) + 1 = 2 from rfl]
    by_cases c2 : cont (bt s (a + 2))
    · have g2 := long_go (K := K) h0 hs (n := 4) (r := bt s a % 8 * 64 + bt s (a + 1) % 64) (i := 2) (k := k + 2) (by omega) (by omega) (by omega) c2 (by omega) (by omega)
      rw [g2, show (2 : Int) + 1 = 3 from rfl]
      by_cases c3 : cont (bt s (a + 3))
      · have g3 := long_go (K := K) h0 hs (n := 4) (r := (bt s a % 8 * 64 + bt s (a + 1) % 64) * 64 + bt s (a + 2) % 64) (i := 3) (k := k + 1) (by omega) (by omega) (by omega) c3 (by omega) (by omega)
        rw [g3, long_end (by omega), if_pos ⟨c1, c2, c3⟩]
      · have g3 := long_bad (K := K) h0 hs (n := 4) (r := (bt s a % 8 * 64 + bt s (a + 1) % 64) * 64 + bt s (a + 2) % 64) (i := 3) (k := k + 1) (by omega) (by omega) (by omega) c3
        rw [g3, if_neg (fun h => c3 h.2.2)]
    · have g2 := long_bad (K := K) h0 hs (n := 4) (r := bt s a % 8 * 64 + bt s (a + 1) % 64) (i := 2) (k := k + 2) (by omega) (by omega) (by omega) c2
      rw [g2, if_neg (fun h => c2 h.2.1)]
  · have g1 := long_bad (K := K) h0 hs (n := 4) (r := bt s a % 8) (i := 1) (k := k + 3) (by omega) (by omega) (by omega) c1
    rw [g1, if_neg (fun h => c1 h.1)]

theorem long4_is {K : Nat} {s : ByteArray} {a least : Int} (hK : 10 ≤ K) (h0 : 0 ≤ a) (hs : (s.size : Int) ≤ 1000000000000) (ha : a < s.size) : utf_long K s a 4 248 240 least =
    some (if 4 ≤ (s.size : Int) - a ∧ cont (bt s (a + 1)) ∧ cont (bt s (a + 2)) ∧ cont (bt s (a + 3)) then tell 4 (((bt s a % 8 * 64 + bt s (a + 1) % 64) * 64 + bt s (a + 2) % 64) * 64 + bt s (a + 3) % 64) least else (0, 0)) := by
  obtain ⟨k, rfl⟩ : ∃ k, K = k + 4 := ⟨K - 4, by omega⟩
  have hb := bt_ok (s := s) (i := a)
  have r0 : 0 ≤ bt s a % 8 ∧ bt s a % 8 < 8 := by omega
  have r1 : 0 ≤ bt s (a + 1) % 64 := by omega
  have r2 : 0 ≤ bt s (a + 2) % 64 := by omega
  have r3 : 0 ≤ bt s (a + 3) % 64 := by omega
  unfold utf_long
  rw [w64 (n := (s.size : Int) - a) (by omega) (by omega)]
  by_cases hn : (s.size : Int) - a < 4
  · rw [if_pos (by simpa using hn), if_neg (by omega)]
  · rw [if_neg (by simpa using hn), if_pos ⟨h0, ha⟩, not_248 hb.1 hb.2, w32 (n := bt s a % 8) (by omega) (by omega), long4_go h0 hs hn]
    by_cases c : cont (bt s (a + 1)) ∧ cont (bt s (a + 2)) ∧ cont (bt s (a + 3))
    · rw [if_pos c, Option.bind_some, if_pos ⟨by omega, c⟩]
      simp only [Sum.elim_inr]
      generalize bt s a % 8 = x0 at *
      generalize bt s (a + 1) % 64 = x1 at *
      generalize bt s (a + 2) % 64 = x2 at *
      generalize bt s (a + 3) % 64 = x3 at *
      rw [long_tell (by omega)]
    · rw [if_neg c, Option.bind_some, if_neg (fun h => c h.2)]
      simp only [Sum.elim_inl]

/-- The code point at a place, and its bytes. -/
def upt (s : ByteArray) (a : Int) : Int × Int :=
  if a < 0 ∨ a ≥ s.size then (0, 0)
  else if bt s a < 128 then (bt s a, 1)
  else if 192 ≤ bt s a ∧ bt s a < 224 then (if 2 ≤ (s.size : Int) - a ∧ cont (bt s (a + 1)) then tell 2 (bt s a % 32 * 64 + bt s (a + 1) % 64) 128 else (0, 0))
  else if 224 ≤ bt s a ∧ bt s a < 240 then (if 3 ≤ (s.size : Int) - a ∧ cont (bt s (a + 1)) ∧ cont (bt s (a + 2)) then tell 3 ((bt s a % 16 * 64 + bt s (a + 1) % 64) * 64 + bt s (a + 2) % 64) 2048 else (0, 0))
  else if 240 ≤ bt s a ∧ bt s a < 248 then (if 4 ≤ (s.size : Int) - a ∧ cont (bt s (a + 1)) ∧ cont (bt s (a + 2)) ∧ cont (bt s (a + 3)) then tell 4 (((bt s a % 8 * 64 + bt s (a + 1) % 64) * 64 + bt s (a + 2) % 64) * 64 + bt s (a + 3) % 64) 65536 else (0, 0))
  else (0, 0)

theorem tell_snd {n v least : Int} : (tell n v least).2 = if least ≤ v ∧ v ≤ 1114111 ∧ ¬ (55296 ≤ v ∧ v < 57344) then n else 0 := by
  unfold tell; split <;> rfl

theorem upt_snd {s : ByteArray} {a : Int} : (upt s a).2 = usz s a := by
  unfold upt usz uszB
  have hb := bt_ok (s := s) (i := a)
  have hb1 := bt_ok (s := s) (i := a + 1)
  have hb2 := bt_ok (s := s) (i := a + 2)
  have hb3 := bt_ok (s := s) (i := a + 3)
  by_cases h : a < 0 ∨ a ≥ s.size
  · rw [if_pos h, if_pos h]
  · rw [if_neg h, if_neg h]
    by_cases h1 : bt s a < 128
    · rw [if_pos h1, if_pos h1]
    · rw [if_neg h1, if_neg h1]
      by_cases h2 : 192 ≤ bt s a ∧ bt s a < 224
      · rw [if_pos h2, if_pos h2]
        by_cases c : 2 ≤ (s.size : Int) - a ∧ cont (bt s (a + 1))
        · rw [if_pos c, tell_snd]
          congr 1
          apply propext
          constructor
          · intro h; exact ⟨c.1, c.2, h.1⟩
          · intro h; exact ⟨h.2.2, by omega, by omega⟩
        · rw [if_neg c, if_neg (fun h => c ⟨h.1, h.2.1⟩)]
      · rw [if_neg h2, if_neg h2]
        by_cases h3 : 224 ≤ bt s a ∧ bt s a < 240
        · rw [if_pos h3, if_pos h3]
          by_cases c : 3 ≤ (s.size : Int) - a ∧ cont (bt s (a + 1)) ∧ cont (bt s (a + 2))
          · rw [if_pos c, tell_snd]
            congr 1
            apply propext
            constructor
            · intro h; exact ⟨c.1, c.2.1, c.2.2, h.1, h.2.2⟩
            · intro h; exact ⟨h.2.2.2.1, by omega, h.2.2.2.2⟩
          · rw [if_neg c, if_neg (fun h => c ⟨h.1, h.2.1, h.2.2.1⟩)]
        · rw [if_neg h3, if_neg h3]
          by_cases h4 : 240 ≤ bt s a ∧ bt s a < 248
          · rw [if_pos h4, if_pos h4]
            by_cases c : 4 ≤ (s.size : Int) - a ∧ cont (bt s (a + 1)) ∧ cont (bt s (a + 2)) ∧ cont (bt s (a + 3))
            · rw [if_pos c, tell_snd]
              congr 1
              apply propext
              constructor
              · intro h; exact ⟨c.1, c.2.1, c.2.2.1, c.2.2.2, h.1, h.2.1⟩
              · intro h; exact ⟨h.2.2.2.2.1, h.2.2.2.2.2, by omega⟩
            · rw [if_neg c, if_neg (fun h => c ⟨h.1, h.2.1, h.2.2.1, h.2.2.2.1⟩)]
          · rw [if_neg h4, if_neg h4]

theorem upt_is {K : Nat} {s : ByteArray} {a : Int} (hK : 10 ≤ K) (hs : (s.size : Int) ≤ 1000000000000) : utf_point K s a = some (upt s a) := by
  obtain ⟨k, hk⟩ : ∃ k, K = k + 5 := ⟨K - 5, by omega⟩
  have hb := bt_ok (s := s) (i := a)
  unfold utf_point upt
  by_cases h : a < 0 ∨ a ≥ s.size
  · have : (if decide (a < 0) = true then some true else some (decide (a ≥ ((s.size : Nat) : Int)))) = some true := by
      by_cases h1 : a < 0
      · rw [if_pos (by simpa using h1)]
      · rw [if_neg (by simpa using h1)]; simp; omega
    rw [this, Option.bind_some, if_pos rfl, if_pos h]
  · have : (if decide (a < 0) = true then some true else some (decide (a ≥ ((s.size : Nat) : Int)))) = some false := by
      rw [if_neg (by simp; omega)]; simp; omega
    rw [this, Option.bind_some, if_neg (by simp), if_neg h]
    unfold utf_forms
    rw [Option.bind_some]
    have hin : 0 ≤ a ∧ a < ((s.size : Nat) : Int) := ⟨by omega, by omega⟩
    have hw0 : IntKind.wrap .i64 ((0 : Int) + 1) = 1 := by decide
    have hw1 : IntKind.wrap .i64 ((1 : Int) + 1) = 2 := by decide
    have hw2 : IntKind.wrap .i64 ((2 : Int) + 1) = 3 := by decide
    have hw3 : IntKind.wrap .i64 ((3 : Int) + 1) = 4 := by decide
    rw [hk]
    simp only [utf_point.l0, if_pos hin, hw0, hw1, hw2, hw3]
    simp only [show ((0 : Int)).toNat = 0 from rfl, show ((1 : Int)).toNat = 1 from rfl, show ((2 : Int)).toNat = 2 from rfl, show ((3 : Int)).toNat = 3 from rfl, List.getD_cons_zero, List.getD_cons_succ, is_128 hb.1 hb.2, is_224 hb.1 hb.2, is_240 hb.1 hb.2, is_248 hb.1 hb.2]
    rw [← hk]
    simp only [decide_eq_true_eq]
    by_cases h1 : bt s a < 128
    · rw [if_pos (by omega), if_pos (by omega), if_pos h1, if_pos h1, long1_is hK (by omega) hs (by omega) h1]; rfl
    · rw [if_pos (by omega), if_pos (by omega), if_neg h1, if_neg h1, if_pos (by omega), if_pos (by omega)]
      by_cases h2 : 192 ≤ bt s a ∧ bt s a < 224
      · rw [if_pos h2, if_pos h2, long2_is hK (by omega) hs (by omega)]; rfl
      · rw [if_neg h2, if_neg h2, if_pos (by omega), if_pos (by omega)]
        by_cases h3 : 224 ≤ bt s a ∧ bt s a < 240
        · rw [if_pos h3, if_pos h3, long3_is hK (by omega) hs (by omega)]; rfl
        · rw [if_neg h3, if_neg h3, if_pos (by omega), if_pos (by omega)]
          by_cases h4 : 240 ≤ bt s a ∧ bt s a < 248
          · rw [if_pos h4, if_pos h4, long4_is hK (by omega) hs (by omega)]; rfl
          · rw [if_neg h4, if_neg h4, if_neg (by omega)]

theorem usize_is {K : Nat} {s : ByteArray} {a : Int} (hK : 10 ≤ K) (hs : (s.size : Int) ≤ 1000000000000) : utf_Size K s a = some (usz s a) := by
  unfold utf_Size
  rw [upt_is hK hs, Option.bind_some, upt_snd]

theorem size1_tell {n v least : Int} : ((if decide (v < least) = true then some true else if decide (v > 1114111) = true then some true else if decide (v ≥ 55296) = true then some (decide (v < 57344)) else some false).bind fun z_76 => if z_76 = true then some (0 : Int) else some n) = some (tell n v least).2 := by
  rw [tell_snd]
  by_cases h1 : v < least
  · rw [if_pos (by simpa using h1), Option.bind_some, if_pos rfl, if_neg (by omega)]
  · rw [if_neg (by simpa using h1)]
    by_cases h2 : v > 1114111
    · rw [if_pos (by simpa using h2), Option.bind_some, if_pos rfl, if_neg (by omega)]
    · rw [if_neg (by simpa using h2)]
      by_cases h3 : v ≥ 55296
      · rw [if_pos (by simpa using h3), Option.bind_some]
        by_cases h4 : v < 57344
        · rw [if_pos (by simpa using h4), if_neg (by omega)]
        · rw [if_neg (by simpa using h4), if_pos (by omega)]
      · rw [if_neg (by simpa using h3), Option.bind_some, if_neg (by simp), if_pos (by omega)]

theorem s2_go {K k : Nat} {s : ByteArray} {a r : Int} (h0 : 0 ≤ a) (hs : (s.size : Int) ≤ 1000000000000) (hn : ¬ (s.size : Int) - a < 2) (hr : 0 ≤ r ∧ r < 64) : palinoderef1_Size.l0 K 2 a s (k + 4) r 1 =
    some (if cont (bt s (a + 1)) then .inr (r * 64 + bt s (a + 1) % 64) else .inl 0) := by
  by_cases c1 : cont (bt s (a + 1))
  · have g1 := size1_go (K := K) h0 hs (n := 2) (r := r) (i := 1) (k := k + 3) (by omega) (by omega) (by omega) c1 (by omega) (by omega)
    rw [g1, size1_end (by omega), if_pos c1]
  · have g1 := size1_bad (K := K) h0 hs (n := 2) (r := r) (i := 1) (k := k + 3) (by omega) (by omega) (by omega) c1
    rw [g1, if_neg c1]

theorem s3_go {K k : Nat} {s : ByteArray} {a r : Int} (h0 : 0 ≤ a) (hs : (s.size : Int) ≤ 1000000000000) (hn : ¬ (s.size : Int) - a < 3) (hr : 0 ≤ r ∧ r < 64) : palinoderef1_Size.l0 K 3 a s (k + 4) r 1 =
    some (if cont (bt s (a + 1)) ∧ cont (bt s (a + 2)) then .inr ((r * 64 + bt s (a + 1) % 64) * 64 + bt s (a + 2) % 64) else .inl 0) := by
  have r2 : 0 ≤ bt s (a + 1) % 64 ∧ bt s (a + 1) % 64 < 64 := by omega
  by_cases c1 : cont (bt s (a + 1))
  · have g1 := size1_go (K := K) h0 hs (n := 3) (r := r) (i := 1) (k := k + 3) (by omega) (by omega) (by omega) c1 (by omega) (by omega)
    rw [g1, show (1 : Int) + 1 = 2 from rfl]
    by_cases c2 : cont (bt s (a + 2))
    · have g2 := size1_go (K := K) h0 hs (n := 3) (r := r * 64 + bt s (a + 1) % 64) (i := 2) (k := k + 2) (by omega) (by omega) (by omega) c2 (by omega) (by omega)
      rw [g2, size1_end (by omega), if_pos ⟨c1, c2⟩]
    · have g2 := size1_bad (K := K) h0 hs (n := 3) (r := r * 64 + bt s (a + 1) % 64) (i := 2) (k := k + 2) (by omega) (by omega) (by omega) c2
      rw [g2, if_neg (fun h => c2 h.2)]
  · have g1 := size1_bad (K := K) h0 hs (n := 3) (r := r) (i := 1) (k := k + 3) (by omega) (by omega) (by omega) c1
    rw [g1, if_neg (fun h => c1 h.1)]

theorem s4_go {K k : Nat} {s : ByteArray} {a r : Int} (h0 : 0 ≤ a) (hs : (s.size : Int) ≤ 1000000000000) (hn : ¬ (s.size : Int) - a < 4) (hr : 0 ≤ r ∧ r < 64) : palinoderef1_Size.l0 K 4 a s (k + 4) r 1 =
    some (if cont (bt s (a + 1)) ∧ cont (bt s (a + 2)) ∧ cont (bt s (a + 3)) then .inr (((r * 64 + bt s (a + 1) % 64) * 64 + bt s (a + 2) % 64) * 64 + bt s (a + 3) % 64) else .inl 0) := by
  have r2 : 0 ≤ bt s (a + 1) % 64 ∧ bt s (a + 1) % 64 < 64 := by omega
  have r3 : 0 ≤ bt s (a + 2) % 64 ∧ bt s (a + 2) % 64 < 64 := by omega
  by_cases c1 : cont (bt s (a + 1))
  · have g1 := size1_go (K := K) h0 hs (n := 4) (r := r) (i := 1) (k := k + 3) (by omega) (by omega) (by omega) c1 (by omega) (by omega)
    rw [g1, show (1 : Int) + 1 = 2 from rfl]
    by_cases c2 : cont (bt s (a + 2))
    · have g2 := size1_go (K := K) h0 hs (n := 4) (r := r * 64 + bt s (a + 1) % 64) (i := 2) (k := k + 2) (by omega) (by omega) (by omega) c2 (by omega) (by omega)
      rw [g2, show (2 : Int) + 1 = 3 from rfl]
      by_cases c3 : cont (bt s (a + 3))
      · have g3 := size1_go (K := K) h0 hs (n := 4) (r := (r * 64 + bt s (a + 1) % 64) * 64 + bt s (a + 2) % 64) (i := 3) (k := k + 1) (by omega) (by omega) (by omega) c3 (by omega) (by omega)
        rw [g3, size1_end (by omega), if_pos ⟨c1, c2, c3⟩]
      · have g3 := size1_bad (K := K) h0 hs (n := 4) (r := (r * 64 + bt s (a + 1) % 64) * 64 + bt s (a + 2) % 64) (i := 3) (k := k + 1) (by omega) (by omega) (by omega) c3
        rw [g3, if_neg (fun h => c3 h.2.2)]
    · have g2 := size1_bad (K := K) h0 hs (n := 4) (r := r * 64 + bt s (a + 1) % 64) (i := 2) (k := k + 2) (by omega) (by omega) (by omega) c2
      rw [g2, if_neg (fun h => c2 h.2.1)]
  · have g1 := size1_bad (K := K) h0 hs (n := 4) (r := r) (i := 1) (k := k + 3) (by omega) (by omega) (by omega) c1
    rw [g1, if_neg (fun h => c1 h.1)]

/-- A code point of more than one byte, read. -/
theorem size1_many {n r least : Int} {K : Nat} {s : ByteArray} {a : Int} {C : Prop} [Decidable C] {v : Int} (hw : IntKind.wrap .i64 ((s.size : Int) - a) = (s.size : Int) - a) (hg : ¬ (s.size : Int) - a < n → palinoderef1_Size.l0 K n a s K r 1 = some (if C then .inr v else .inl 0)) :
    (if decide (IntKind.wrap .i64 ((((ByteArray.size s) : Nat) : Int) - a) < n) = true then some (0 : Int) else (palinoderef1_Size.l0 K n a s K r 1).bind (Sum.elim (fun z_74 => some z_74) (fun z_75 => (if (decide (z_75 < least)) = true then some true else if (decide (z_75 > (1114111 : Int))) = true then some true else if (decide (z_75 ≥ (55296 : Int))) = true then some (decide (z_75 < (57344 : Int))) else some false).bind (fun z_76 => if z_76 = true then some (0 : Int) else some n)))) =
      some (if n ≤ (s.size : Int) - a ∧ C then tell n v least else (0, 0)).2 := by
  rw [hw]
  by_cases h : (s.size : Int) - a < n
  · rw [if_pos (by simpa using h), if_neg (fun h' => by omega)]
  · rw [if_neg (by simpa using h), hg h]
    by_cases c : C
    · rw [if_pos c, Option.bind_some, if_pos ⟨by omega, c⟩]
      simp only [Sum.elim_inr]
      rw [size1_tell]
    · rw [if_neg c, Option.bind_some, if_neg (fun h' => c h'.2)]
      simp only [Sum.elim_inl]

theorem rsize_is {K : Nat} {s : ByteArray} {a : Int} (hK : 10 ≤ K) (hs : (s.size : Int) ≤ 1000000000000) : palinoderef1_Size K s a = some (usz s a) := by
  obtain ⟨k, hk⟩ : ∃ k, K = k + 4 := ⟨K - 4, by omega⟩
  have hb := bt_ok (s := s) (i := a)
  rw [← upt_snd]
  unfold palinoderef1_Size upt
  by_cases h : a < 0 ∨ a ≥ s.size
  · have : (if decide (a < 0) = true then some true else some (decide (a ≥ ((s.size : Nat) : Int)))) = some true := by
      by_cases h1 : a < 0
      · rw [if_pos (by simpa using h1)]
      · rw [if_neg (by simpa using h1)]; simp; omega
    rw [this, Option.bind_some, if_pos rfl, if_pos h]
  · have : (if decide (a < 0) = true then some true else some (decide (a ≥ ((s.size : Nat) : Int)))) = some false := by
      rw [if_neg (by simp; omega)]; simp; omega
    have hw : IntKind.wrap .i64 ((s.size : Int) - a) = (s.size : Int) - a := w64 (by omega) (by omega)
    have e2 := size1_many (least := 128) (K := K) (s := s) (a := a) (n := 2) (r := bt s a % 32) hw (fun hn => by rw [hk]; exact s2_go (by omega) hs hn (by omega))
    have e3 := size1_many (least := 2048) (K := K) (s := s) (a := a) (n := 3) (r := bt s a % 16) hw (fun hn => by rw [hk]; exact s3_go (by omega) hs hn (by omega))
    have e4 := size1_many (least := 65536) (K := K) (s := s) (a := a) (n := 4) (r := bt s a % 8) hw (fun hn => by rw [hk]; exact s4_go (by omega) hs hn (by omega))
    rw [this, Option.bind_some, if_neg (by simp), if_neg h, if_pos ⟨by omega, by omega⟩, w64 (n := bt s a) (by omega) (by omega), and_31 hb.1 hb.2, and_15 hb.1 hb.2, and_7 hb.1 hb.2]
    by_cases h1 : bt s a < 128
    · rw [if_pos (by simpa using h1), if_pos h1]
    · rw [if_neg (by simpa using h1), if_neg h1]
      by_cases h2 : 192 ≤ bt s a ∧ bt s a < 224
      · rw [if_pos (by simp; omega), Option.bind_some, if_pos (by simp; omega), Option.bind_some, if_pos h2]
        simp only [Sum.elim_inr]
        exact e2
      · have c2 : (if decide (bt s a ≥ 192) = true then some (decide (bt s a < 224)) else some false) = some false := by
          by_cases g : bt s a ≥ 192
          · rw [if_pos (by simpa using g)]; simp; omega
          · rw [if_neg (by simpa using g)]
        rw [c2, Option.bind_some, if_neg (by simp), if_neg h2]
        by_cases h3 : 224 ≤ bt s a ∧ bt s a < 240
        · rw [if_pos (by simp; omega), Option.bind_some, if_pos (by simp; omega), Option.bind_some, if_pos h3]
          simp only [Sum.elim_inr]
          exact e3
        · have c3 : (if decide (bt s a ≥ 224) = true then some (decide (bt s a < 240)) else some false) = some false := by
            by_cases g : bt s a ≥ 224
            · rw [if_pos (by simpa using g)]; simp; omega
            · rw [if_neg (by simpa using g)]
          rw [c3, Option.bind_some, if_neg (by simp), if_neg h3]
          by_cases h4 : 240 ≤ bt s a ∧ bt s a < 248
          · rw [if_pos (by simp; omega), Option.bind_some, if_pos (by simp; omega), Option.bind_some, if_pos h4]
            simp only [Sum.elim_inr]
            exact e4
          · have c4 : (if decide (bt s a ≥ 240) = true then some (decide (bt s a < 248)) else some false) = some false := by
              by_cases g : bt s a ≥ 240
              · rw [if_pos (by simpa using g)]; simp; omega
              · rw [if_neg (by simpa using g)]
            rw [c4, Option.bind_some, if_neg (by simp), if_neg h4, Option.bind_some]
            simp only [Sum.elim_inl]

/-- Whether from a place on there are code points, one behind the other. -/
def uval (s : ByteArray) : Nat → Int → Bool
  | 0, _ => true
  | m + 1, a => if a < s.size then (if usz s a = 0 then false else uval s m (a + usz s a)) else true

def uvalid (s : ByteArray) : Bool := uval s s.size 0

theorem uvalid_loop {K : Nat} {s : ByteArray} (hK : 10 ≤ K) (hs : (s.size : Int) ≤ 1000000000000) : ∀ (d k m : Nat) (a : Int), 0 ≤ a → (s.size : Int) - a ≤ d → a ≤ s.size → d < k → d ≤ m → utf_Valid.l0 K s k a = some (uval s m a) := by
  intro d
  induction d with
  | zero =>
    intro k m a h0 h1 h2 hk hm
    obtain ⟨k, rfl⟩ : ∃ l, k = l + 1 := ⟨k - 1, by omega⟩
    rw [utf_Valid.l0, if_neg (by simp; omega)]
    cases m with
    | zero => rfl
    | succ m => rw [uval, if_neg (by omega)]
  | succ d ih =>
    intro k m a h0 h1 h2 hk hm
    obtain ⟨k, rfl⟩ : ∃ l, k = l + 1 := ⟨k - 1, by omega⟩
    obtain ⟨m, rfl⟩ : ∃ l, m = l + 1 := ⟨m - 1, by omega⟩
    have hu := usz_ok (s := s) (a := a)
    rw [utf_Valid.l0, uval]
    by_cases h : a < s.size
    · have hu3 := hu.2.2 h0 h
      rw [if_pos (by simpa using h), if_pos h, usize_is hK hs, Option.bind_some]
      by_cases hz : usz s a = 0
      · rw [if_pos (by simpa using hz), if_pos hz]
      · rw [if_neg (by simpa using hz), if_neg hz, w64 (by omega) (by omega)]
        exact ih k m _ (by omega) (by omega) (by omega) (by omega) (by omega)
    · rw [if_neg (by simpa using h), if_neg h]

theorem uvalid_is {K : Nat} {s : ByteArray} (hK : s.size + 10 ≤ K) (hs : (s.size : Int) ≤ 1000000000000) : utf_Valid K s = some (uvalid s) := by
  unfold utf_Valid uvalid
  exact uvalid_loop (by omega) hs s.size K s.size 0 (by omega) (by omega) (by omega) (by omega) (by omega)

theorem rvalid_loop {K : Nat} {s : ByteArray} (hK : 10 ≤ K) (hs : (s.size : Int) ≤ 1000000000000) : ∀ (d k m : Nat) (a : Int), 0 ≤ a → (s.size : Int) - a ≤ d → a ≤ s.size → d < k → d ≤ m → palinoderef1_Valid.l0 K s k a = some (uval s m a) := by
  intro d
  induction d with
  | zero =>
    intro k m a h0 h1 h2 hk hm
    obtain ⟨k, rfl⟩ : ∃ l, k = l + 1 := ⟨k - 1, by omega⟩
    rw [palinoderef1_Valid.l0, if_neg (by simp; omega)]
    cases m with
    | zero => rfl
    | succ m => rw [uval, if_neg (by omega)]
  | succ d ih =>
    intro k m a h0 h1 h2 hk hm
    obtain ⟨k, rfl⟩ : ∃ l, k = l + 1 := ⟨k - 1, by omega⟩
    obtain ⟨m, rfl⟩ : ∃ l, m = l + 1 := ⟨m - 1, by omega⟩
    have hu := usz_ok (s := s) (a := a)
    rw [palinoderef1_Valid.l0, uval]
    by_cases h : a < s.size
    · have hu3 := hu.2.2 h0 h
      rw [if_pos (by simpa using h), if_pos h, rsize_is hK hs, Option.bind_some]
      by_cases hz : usz s a = 0
      · rw [if_pos (by simpa using hz), if_pos hz]
      · rw [if_neg (by simpa using hz), if_neg hz, w64 (by omega) (by omega)]
        exact ih k m _ (by omega) (by omega) (by omega) (by omega) (by omega)
    · rw [if_neg (by simpa using h), if_neg h]

theorem rvalid_is {K : Nat} {s : ByteArray} (hK : s.size + 10 ≤ K) (hs : (s.size : Int) ≤ 1000000000000) : palinoderef1_Valid K s = some (uvalid s) := by
  unfold palinoderef1_Valid uvalid
  exact rvalid_loop (by omega) hs s.size K s.size 0 (by omega) (by omega) (by omega) (by omega) (by omega)

theorem toList_loop (s : ByteArray) : ∀ (d i : Nat) (r : List UInt8), s.size - i = d → ByteArray.toList.loop s i r = r.reverse ++ s.data.toList.drop i := by
  intro d
  induction d with
  | zero =>
    intro i r h
    unfold ByteArray.toList.loop
    rw [if_neg (by omega), List.drop_eq_nil_of_le (by have : s.data.toList.length = s.size := by simp
                                                      omega)]
    simp
  | succ d ih =>
    intro i r h
    unfold ByteArray.toList.loop
    have hl : s.data.toList.length = s.size := by simp
    have hi : i < s.data.toList.length := by omega
    rw [if_pos (by omega), ih (i + 1) _ (by omega), List.drop_eq_getElem_cons hi]
    have : s.get! i = s.data.toList[i] := by
      have h2 : i < s.data.size := by simpa using hi
      show s.data[i]! = _
      rw [getElem!_pos s.data i h2]
      simp
    rw [this]
    simp

theorem toList_eq (s : ByteArray) : ByteArray.toList s = s.data.toList := by
  unfold ByteArray.toList
  rw [toList_loop s s.size 0 [] rfl]
  simp

theorem str_beq {a b : ByteArray} : (ByteArray.toList a == ByteArray.toList b) = decide (a = b) := by
  rw [toList_eq, toList_eq]
  by_cases h : a = b
  · subst h; simp
  · have : a.data.toList ≠ b.data.toList := fun h' => h (by have := Array.toList_inj.1 h'; cases a; cases b; simp only at this; rw [this])
    rw [beq_eq_false_iff_ne.2 this]; simp [h]

theorem size_zero {a : ByteArray} : a = ⟨#[]⟩ ↔ a.size = 0 := by
  constructor
  · rintro rfl; rfl
  · intro h
    rw [← ofBytes_txt (s := a)]
    have : txt a = [] := List.eq_nil_of_length_eq_zero (by rw [txt_len]; exact h)
    rw [this]; rfl

theorem str_nil {a : ByteArray} : (ByteArray.toList a == ByteArray.toList (ByteArray.mk #[])) = decide (a.size = 0) := by
  rw [str_beq]
  exact decide_eq_decide.2 size_zero

abbrev El := Int × (Int × ByteArray)

theorem isCopy_is {K : Nat} {x1 x2 : Int} {x3 : ByteArray} : delta_IsCopy K x1 x2 x3 = some (decide (x3.size = 0)) := by
  unfold delta_IsCopy
  rw [str_nil]

theorem elem_is {K : Nat} {x1 x2 base to : Int} {x3 : ByteArray} {ahead copied : Bool} (hK : 30000 ≤ K) : delta_elem K x1 x2 x3 base to ahead copied =
    some (if x3.size = 0 then decide (to ≤ x1 ∧ (to < x1 ∨ copied = false) ∧ x1 < x2 ∧ x2 ≤ base) else decide (x1 = 0 ∧ x2 = 0 ∧ (ahead = false ∨ copied = true) ∧ x3.size ≤ 20000) && uvalid x3) := by
  unfold delta_elem
  rw [isCopy_is, Option.bind_some]
  by_cases h : x3.size = 0
  · rw [if_pos (by simpa using h), if_pos h]
    by_cases h1 : x1 ≥ to
    · rw [if_pos (by simpa using h1)]
      by_cases h2 : x1 > to
      · rw [if_pos (by simpa using h2)]
        by_cases h3 : x1 < x2
        · rw [if_pos (by simpa using h3)]
          congr 1; rw [decide_eq_decide]; omega
        · rw [if_neg (by simpa using h3)]
          congr 1; symm; rw [decide_eq_false_iff_not]; omega
      · rw [if_neg (by simpa using h2)]
        cases copied with
        | true => rw [if_neg (by simp)]; congr 1; symm; rw [decide_eq_false_iff_not]; simp; omega
        | false =>
          rw [if_pos (by simp)]
          by_cases h3 : x1 < x2
          · rw [if_pos (by simpa using h3)]
            congr 1; rw [decide_eq_decide]; simp; omega
          · rw [if_neg (by simpa using h3)]
            congr 1; symm; rw [decide_eq_false_iff_not]; omega
    · rw [if_neg (by simpa using h1)]
      congr 1; symm; rw [decide_eq_false_iff_not]; omega
  · rw [if_neg (by simpa using h), if_neg h]
    by_cases h1 : x1 = 0 ∧ x2 = 0
    · rw [if_pos (by simp [h1])]
      by_cases h2 : x3.size ≤ 20000
      · have hv : utf_Valid K x3 = some (uvalid x3) := uvalid_is (by omega) (by omega)
        cases ahead with
        | false => rw [if_pos (by simp), if_pos (by simp; omega), hv, Option.bind_some]; simp [h1, h2]
        | true =>
          rw [if_neg (by simp)]
          cases copied with
          | true => rw [if_pos rfl, if_pos (by simp; omega), hv, Option.bind_some]; simp [h1, h2]
          | false => rw [if_neg (by simp)]; simp
      · cases ahead with
        | false => rw [if_pos (by simp), if_neg (by simp; omega)]; simp [h2]
        | true =>
          rw [if_neg (by simp)]
          cases copied with
          | true => rw [if_pos rfl, if_neg (by simp; omega)]; simp [h2]
          | false => rw [if_neg (by simp)]; simp
    · rw [if_neg (by simp; omega)]
      congr 1; symm
      rw [Bool.and_eq_false_iff, decide_eq_false_iff_not]
      left
      exact fun h' => h1 ⟨h'.1, h'.2.1⟩

/-- Elements that may come behind others. -/
def isL (base : Int) : Int → Int → Option Bool → List El → Bool
  | _, _, _, [] => true
  | size, to, pre, x :: r =>
    if x.2.2.size = 0 then
      decide (to ≤ x.1 ∧ (to < x.1 ∨ pre ≠ some true) ∧ x.1 < x.2.1 ∧ x.2.1 ≤ base ∧ size + (x.2.1 - x.1) ≤ 20000) && isL base (size + (x.2.1 - x.1)) x.2.1 (some true) r
    else
      (decide (x.1 = 0 ∧ x.2.1 = 0 ∧ pre ≠ some false ∧ size + x.2.2.size ≤ 20000) && uvalid x.2.2) && isL base (size + x.2.2.size) to (some false) r

/-- Whether elements are a delta. -/
def isD (base : Int) (l : List El) : Bool := decide (0 ≤ base ∧ base ≤ 20000 ∧ l.length ≤ 60) && isL base 0 0 none l

def preOf (d : List El) (j : Nat) : Option Bool := if j = 0 then none else some (decide ((d.getD (j - 1) ((0 : Int), ((0 : Int), ByteArray.empty))).2.2.size = 0))

theorem preOf_succ {d : List El} {j : Nat} {x : El} (h : d.getD j ((0 : Int), ((0 : Int), ByteArray.empty)) = x) : preOf d (j + 1) = some (decide (x.2.2.size = 0)) := by
  unfold preOf
  rw [if_neg (by omega), Nat.add_sub_cancel, h]

theorem is_loop {K : Nat} {d : List El} {base : Int} (hK : 30000 ≤ K) (hb : base ≤ 20000) (hl : d.length ≤ 60) : ∀ (rest : List El) (j k : Nat) (size to : Int), d.drop j = rest → rest.length < k → 0 ≤ size → size ≤ 20000 → 0 ≤ to → to ≤ 20000 →
    delta_Is.l0 K d base k size to (j : Int) = some (isL base size to (preOf d j) rest)
  | [], j, k, size, to, hd, hk, h0, h1, h2, h3 => by
    obtain ⟨k, rfl⟩ : ∃ m, k = m + 1 := ⟨k - 1, by simp at hk; omega⟩
    have := drop_nil hd
    rw [delta_Is.l0, if_neg (by simp; omega)]
    rfl
  | x :: rest, j, k, size, to, hd, hk, h0, h1, h2, h3 => by
    obtain ⟨k, rfl⟩ : ∃ m, k = m + 1 := ⟨k - 1, by simp at hk; omega⟩
    obtain ⟨hj, hgd, hd'⟩ := drop_cons hd ((0 : Int), ((0 : Int), ByteArray.empty))
    have hk' : rest.length < k := by simp at hk; omega
    have hw : IntKind.wrap .i64 ((j : Int) + 1) = ((j + 1 : Nat) : Int) := by rw [w64 (by omega) (by omega)]; omega
    have hw1 : IntKind.wrap .i64 ((j : Int) - 1) = (j : Int) - 1 := w64 (by omega) (by omega)
    have hps := preOf_succ hgd
    have hnext := fun (size' to' : Int) (a0 : 0 ≤ size') (a1 : size' ≤ 20000) (a2 : 0 ≤ to') (a3 : to' ≤ 20000) => is_loop (K := K) hK hb hl rest (j + 1) k size' to' hd' hk' a0 a1 a2 a3
    rw [hps] at hnext
    have hcp : (if decide ((j : Int) > 0) = true then (delta_IsCopy K (d.getD ((j : Int) - 1).toNat ((0 : Int), ((0 : Int), ByteArray.empty))).1 (d.getD ((j : Int) - 1).toNat ((0 : Int), ((0 : Int), ByteArray.empty))).2.1 (d.getD ((j : Int) - 1).toNat ((0 : Int), ((0 : Int), ByteArray.empty))).2.2).bind fun r_22 => if 0 ≤ (j : Int) - 1 ∧ (j : Int) - 1 < ((d.length : Nat) : Int) then some r_22 else none else some false) = some (preOf d j == some true) := by
      unfold preOf
      by_cases hj0 : j = 0
      · subst hj0; simp
      · rw [if_pos (by simp; omega), isCopy_is, Option.bind_some, if_pos ⟨by omega, by omega⟩, if_neg hj0, show ((j : Int) - 1).toNat = j - 1 by omega]
        simp
    have hah : ∀ b : Bool, (decide ((j : Int) > 0) = false ∨ b = true) ↔ (preOf d j = none ∨ b = true) := by
      intro b
      unfold preOf
      by_cases hj0 : j = 0
      · subst hj0; simp
      · simp [hj0]
    rw [delta_Is.l0]
    simp only [Int.toNat_natCast, hgd, hw, hw1]
    rw [if_pos (by simpa using hj), if_pos ⟨by omega, by omega⟩, hcp, Option.bind_some, elem_is hK, Option.bind_some, isCopy_is, isL]
    by_cases hz : x.2.2.size = 0
    · rw [if_pos hz, if_pos hz, hz]
      by_cases hc : to ≤ x.1 ∧ (to < x.1 ∨ (preOf d j == some true) = false) ∧ x.1 < x.2.1 ∧ x.2.1 ≤ base
      · rw [show decide (to ≤ x.1 ∧ (to < x.1 ∨ (preOf d j == some true) = false) ∧ x.1 < x.2.1 ∧ x.2.1 ≤ base) = true from decide_eq_true hc, if_neg (by simp), Option.bind_some, if_pos (by simp), Option.bind_some]
        simp only [Int.natCast_zero, Int.add_zero]
        rw [w64 (n := x.2.1 - x.1) (by omega) (by omega), w64 (n := x.2.1 - x.1) (by omega) (by omega), w64 (n := size + (x.2.1 - x.1)) (by omega) (by omega)]
        have hp : (preOf d j == some true) = false ↔ preOf d j ≠ some true := by simp
        by_cases hs : size + (x.2.1 - x.1) ≤ 20000
        · rw [if_neg (by simpa using hs), hnext _ _ (by omega) hs (by omega) (by omega), hz]
          have : decide (to ≤ x.1 ∧ (to < x.1 ∨ preOf d j ≠ some true) ∧ x.1 < x.2.1 ∧ x.2.1 ≤ base ∧ size + (x.2.1 - x.1) ≤ 20000) = true := by
            rw [decide_eq_true_eq]
            rw [hp] at hc
            exact ⟨hc.1, hc.2.1, hc.2.2.1, hc.2.2.2, hs⟩
          rw [this]; simp
        · rw [if_pos (by simp; omega)]
          have : decide (to ≤ x.1 ∧ (to < x.1 ∨ preOf d j ≠ some true) ∧ x.1 < x.2.1 ∧ x.2.1 ≤ base ∧ size + (x.2.1 - x.1) ≤ 20000) = false := by
            rw [decide_eq_false_iff_not]
            exact fun h => hs h.2.2.2.2
          rw [this]; rfl
      · rw [show decide (to ≤ x.1 ∧ (to < x.1 ∨ (preOf d j == some true) = false) ∧ x.1 < x.2.1 ∧ x.2.1 ≤ base) = false from decide_eq_false hc, if_pos (by simp)]
        have hp : (preOf d j == some true) = false ↔ preOf d j ≠ some true := by simp
        have : decide (to ≤ x.1 ∧ (to < x.1 ∨ preOf d j ≠ some true) ∧ x.1 < x.2.1 ∧ x.2.1 ≤ base ∧ size + (x.2.1 - x.1) ≤ 20000) = false := by
          rw [decide_eq_false_iff_not]
          rw [hp] at hc
          exact fun h => hc ⟨h.1, h.2.1, h.2.2.1, h.2.2.2.1⟩
        rw [this]; rfl
    · rw [if_neg hz, if_neg hz]
      have hpre : (decide ((j : Int) > 0) = false ∨ (preOf d j == some true) = true) ↔ preOf d j ≠ some false := by
        rw [hah]
        cases preOf d j with
        | none => simp
        | some b => cases b <;> simp
      by_cases hc : x.1 = 0 ∧ x.2.1 = 0 ∧ (decide ((j : Int) > 0) = false ∨ (preOf d j == some true) = true) ∧ x.2.2.size ≤ 20000
      · rw [show decide (x.1 = 0 ∧ x.2.1 = 0 ∧ (decide ((j : Int) > 0) = false ∨ (preOf d j == some true) = true) ∧ x.2.2.size ≤ 20000) = true from by rw [decide_eq_true_eq]; exact hc]
        cases hv : uvalid x.2.2 with
        | false => rw [if_pos (by simp)]; simp
        | true =>
          rw [if_neg (by simp), Option.bind_some, if_neg (by simpa using hz), Option.bind_some]
          rw [hc.1, hc.2.1, Int.sub_zero, w64 (n := 0) (by omega) (by omega), Int.zero_add, w64 (n := (x.2.2.size : Int)) (by omega) (by omega), w64 (n := size + (x.2.2.size : Int)) (by omega) (by omega)]
          by_cases hs : size + (x.2.2.size : Int) ≤ 20000
          · rw [if_neg (by simpa using hs), hnext _ _ (by omega) hs (by omega) (by omega)]
            have : decide ((0 : Int) = 0 ∧ (0 : Int) = 0 ∧ preOf d j ≠ some false ∧ size + (x.2.2.size : Int) ≤ 20000) = true := by
              rw [decide_eq_true_eq]
              exact ⟨rfl, rfl, hpre.1 hc.2.2.1, hs⟩
            rw [this]
            simp [hz]
          · rw [if_pos (by simp; omega)]
            have : decide ((0 : Int) = 0 ∧ (0 : Int) = 0 ∧ preOf d j ≠ some false ∧ size + (x.2.2.size : Int) ≤ 20000) = false := by
              rw [decide_eq_false_iff_not]
              exact fun h => hs h.2.2.2
            rw [this]; rfl
      · rw [show decide (x.1 = 0 ∧ x.2.1 = 0 ∧ (decide ((j : Int) > 0) = false ∨ (preOf d j == some true) = true) ∧ x.2.2.size ≤ 20000) = false from by rw [decide_eq_false_iff_not]; exact hc]
        rw [if_pos (by simp)]
        have : decide (x.1 = 0 ∧ x.2.1 = 0 ∧ preOf d j ≠ some false ∧ size + (x.2.2.size : Int) ≤ 20000) = false := by
          rw [decide_eq_false_iff_not]
          exact fun h => hc ⟨h.1, h.2.1, hpre.2 h.2.2.1, by omega⟩
        rw [this]; rfl

theorem is_is {K : Nat} {d : List El} {base : Int} (hK : 30000 ≤ K) : delta_Is K base d = some (isD base d) := by
  unfold delta_Is isD
  by_cases h1 : base < 0
  · rw [if_pos (by simpa using h1), Option.bind_some, if_pos rfl]
    congr 1; symm; rw [Bool.and_eq_false_iff, decide_eq_false_iff_not]; left; omega
  · rw [if_neg (by simpa using h1)]
    by_cases h2 : base > 20000
    · rw [if_pos (by simpa using h2), Option.bind_some, if_pos rfl]
      congr 1; symm; rw [Bool.and_eq_false_iff, decide_eq_false_iff_not]; left; omega
    · rw [if_neg (by simpa using h2), Option.bind_some]
      by_cases h3 : d.length > 60
      · rw [if_pos (by simp; omega)]
        congr 1; symm; rw [Bool.and_eq_false_iff, decide_eq_false_iff_not]; left; omega
      · have h := is_loop (K := K) (d := d) (base := base) hK (by omega) (by omega) d 0 K 0 0 rfl (by omega) (by omega) (by omega) (by omega) (by omega)
        rw [Int.natCast_zero] at h
        rw [if_neg (by simp; omega), h]
        have : decide (0 ≤ base ∧ base ≤ 20000 ∧ d.length ≤ 60) = true := by rw [decide_eq_true_eq]; omega
        rw [this]
        rfl

abbrev el0 : El := ((0 : Int), ((0 : Int), ByteArray.empty))

def lastIs (b : Bool) (l : List El) : Prop := l ≠ [] ∧ decide ((l.getD (l.length - 1) el0).2.2.size = 0) = b

instance (b : Bool) (l : List El) : Decidable (lastIs b l) := inferInstanceAs (Decidable (_ ∧ _))

/-- Bytes kept, behind elements. -/
def mkCopy (l : List El) (f t : Int) : List El :=
  if f = t then l else if lastIs true l ∧ (l.getD (l.length - 1) el0).2.1 = f then l.set (l.length - 1) ((l.getD (l.length - 1) el0).1, (t, (l.getD (l.length - 1) el0).2.2)) else l ++ [(f, (t, ByteArray.empty))]

/-- A text put in, behind elements. -/
def mkPut (l : List El) (s : ByteArray) : List El :=
  if s.size = 0 then l else if lastIs false l then l.set (l.length - 1) ((l.getD (l.length - 1) el0).1, ((l.getD (l.length - 1) el0).2.1, (l.getD (l.length - 1) el0).2.2 ++ s)) else l ++ [(0, (0, s))]

def sumT : List El → Nat
  | [] => 0
  | x :: r => x.2.2.size + sumT r

def sumK : List El → Int
  | [] => 0
  | x :: r => (x.2.1 - x.1) + sumK r

theorem sumT_app : ∀ {l r : List El}, sumT (l ++ r) = sumT l + sumT r
  | [], r => by simp [sumT]
  | x :: l, r => by simp only [List.cons_append, sumT, sumT_app]; omega

theorem sumK_app : ∀ {l r : List El}, sumK (l ++ r) = sumK l + sumK r
  | [], r => by simp [sumK]
  | x :: l, r => by simp only [List.cons_append, sumK, sumK_app]; omega

theorem le_sumT : ∀ {l : List El} {x : El}, x ∈ l → x.2.2.size ≤ sumT l
  | y :: l, x, h => by
    rw [sumT]
    rcases List.mem_cons.1 h with rfl | h
    · omega
    · have := le_sumT h; omega

theorem empty_size : ByteArray.empty.size = 0 := rfl

theorem getD_last {l : List El} {p : El} : (l ++ [p]).getD ((l ++ [p]).length - 1) el0 = p := by
  simp [List.getD]

theorem set_last {α : Type} {l : List α} {p q : α} : (l ++ [p]).set ((l ++ [p]).length - 1) q = l ++ [q] := by
  have : (l ++ [p]).length - 1 = l.length := by simp
  rw [this, List.set_append_right _ _ (Nat.le_refl _), Nat.sub_self, List.set_cons_zero]

theorem mkCopy_nil {f t : Int} : mkCopy [] f t = if f = t then [] else [(f, (t, ByteArray.empty))] := by
  unfold mkCopy
  split
  · rfl
  · rw [if_neg (fun h => h.1.1 rfl)]; rfl

theorem lastIs_app {b : Bool} {l : List El} {p : El} : lastIs b (l ++ [p]) ↔ decide (p.2.2.size = 0) = b := by
  unfold lastIs
  rw [getD_last]
  exact ⟨fun h => h.2, fun h => ⟨by simp, h⟩⟩

theorem mkCopy_app {l : List El} {p : El} {f t : Int} : mkCopy (l ++ [p]) f t = if f = t then l ++ [p] else if p.2.2.size = 0 ∧ p.2.1 = f then l ++ [(p.1, (t, p.2.2))] else l ++ [p] ++ [(f, (t, ByteArray.empty))] := by
  unfold mkCopy
  rw [getD_last, set_last]
  by_cases h : f = t
  · rw [if_pos h, if_pos h]
  · rw [if_neg h, if_neg h]
    by_cases h2 : p.2.2.size = 0 ∧ p.2.1 = f
    · rw [if_pos ⟨lastIs_app.2 (decide_eq_true h2.1), h2.2⟩, if_pos h2]
    · rw [if_neg (fun h' => h2 ⟨of_decide_eq_true (lastIs_app.1 h'.1), h'.2⟩), if_neg h2]

theorem mkPut_nil {s : ByteArray} : mkPut [] s = if s.size = 0 then [] else [(0, (0, s))] := by
  unfold mkPut
  split
  · rfl
  · rw [if_neg (fun h => h.1 rfl)]; rfl

theorem mkPut_app {l : List El} {p : El} {s : ByteArray} : mkPut (l ++ [p]) s = if s.size = 0 then l ++ [p] else if p.2.2.size = 0 then l ++ [p] ++ [(0, (0, s))] else l ++ [(p.1, (p.2.1, p.2.2 ++ s))] := by
  unfold mkPut
  rw [getD_last, set_last]
  by_cases h : s.size = 0
  · rw [if_pos h, if_pos h]
  · rw [if_neg h, if_neg h]
    by_cases h2 : p.2.2.size = 0
    · rw [if_neg (fun h' => by have := lastIs_app.1 h'; simp [h2] at this), if_pos h2]
    · rw [if_pos (lastIs_app.2 (decide_eq_false h2)), if_neg h2]

theorem bsize_app {a b : ByteArray} : (a ++ b).size = a.size + b.size := ByteArray.size_append

theorem mkCopy_len {l : List El} {f t : Int} : (mkCopy l f t).length ≤ l.length + 1 := by
  unfold mkCopy
  split
  · omega
  · split <;> simp

theorem mkPut_len {l : List El} {s : ByteArray} : (mkPut l s).length ≤ l.length + 1 := by
  unfold mkPut
  split
  · omega
  · split <;> simp

theorem mkCopy_sumT {l : List El} {f t : Int} : sumT (mkCopy l f t) = sumT l := by
  by_cases h : l = []
  · subst h; rw [mkCopy_nil]; split <;> simp [sumT, empty_size]
  · obtain ⟨m, p, rfl⟩ := split_last h
    rw [mkCopy_app]
    split
    · rfl
    · split
      · simp [sumT_app, sumT]
      · simp [sumT_app, sumT, empty_size]

theorem mkPut_sumT {l : List El} {s : ByteArray} : sumT (mkPut l s) = sumT l + s.size := by
  by_cases h : l = []
  · subst h; rw [mkPut_nil]; split
    · simp [sumT]; omega
    · simp [sumT]
  · obtain ⟨m, p, rfl⟩ := split_last h
    rw [mkPut_app]
    split
    · omega
    · split
      · simp [sumT_app, sumT] <;> omega
      · simp [sumT_app, sumT, bsize_app] <;> omega

theorem copy_is {K : Nat} {m f t : Int} {l : List El} (hl : l.length ≤ 1000000000) : delta_Maker_Copy_bgg_11dec K m l f t = some (mkCopy l f t) := by
  unfold delta_Maker_Copy_bgg_11dec mkCopy
  have hw : IntKind.wrap .i64 ((l.length : Int) - 1) = (l.length : Int) - 1 := w64 (by omega) (by omega)
  rw [hw]
  by_cases h : f = t
  · rw [if_pos (by simpa using h), if_pos h]
  · rw [if_neg (by simpa using h), if_neg h]
    by_cases he : l = []
    · subst he
      rw [if_neg (by simp), Option.bind_some, if_neg (by simp), if_pos (by simp), if_neg (fun h => h.1.1 rfl)]
    · have hp : 0 < l.length := List.length_pos_iff.2 he
      have hn : ((l.length : Int) - 1).toNat = l.length - 1 := by omega
      rw [if_pos (by simp; omega), hn, isCopy_is, Option.bind_some]
      by_cases hz : (l.getD (l.length - 1) el0).2.2.size = 0
      · rw [if_pos (decide_eq_true hz), if_pos ⟨by omega, by omega⟩, Option.bind_some]
        by_cases hq : (l.getD (l.length - 1) el0).2.1 = f
        · rw [if_pos (by simpa using hq), if_pos ⟨by omega, by omega⟩, if_pos ⟨⟨he, decide_eq_true hz⟩, hq⟩]
        · rw [if_neg (by simpa using hq), if_pos (by simp; omega), if_neg (fun h => hq h.2)]
      · rw [if_neg (by simpa using hz), if_pos ⟨by omega, by omega⟩, Option.bind_some, if_neg (by simp), if_pos (by simp; omega), if_neg (fun h => hz (of_decide_eq_true h.1.2))]

theorem putm_is {K : Nat} {m : Int} {l : List El} {s : ByteArray} (hl : l.length ≤ 1000000000) (ht : sumT l + s.size ≤ 9223372036854775807) : delta_Maker_Put_bg_92925 K m l s = some (mkPut l s) := by
  unfold delta_Maker_Put_bg_92925 mkPut
  have hw : IntKind.wrap .i64 ((l.length : Int) - 1) = (l.length : Int) - 1 := w64 (by omega) (by omega)
  rw [hw, str_nil]
  by_cases h : s.size = 0
  · rw [if_pos (by simpa using h), if_pos h]
  · rw [if_neg (by simpa using h), if_neg h]
    by_cases he : l = []
    · subst he
      rw [if_neg (by simp), Option.bind_some, if_neg (by simp), if_pos (by simp), if_neg (fun h => h.1 rfl)]
    · have hp : 0 < l.length := List.length_pos_iff.2 he
      have hn : ((l.length : Int) - 1).toNat = l.length - 1 := by omega
      have hm : l.getD (l.length - 1) el0 ∈ l := by
        rw [List.getD, List.getElem?_eq_getElem (by omega)]
        simp
      have hs := le_sumT hm
      rw [if_pos (by simp; omega), hn, isCopy_is, Option.bind_some, if_pos ⟨by omega, by omega⟩, Option.bind_some]
      by_cases hz : (l.getD (l.length - 1) el0).2.2.size = 0
      · rw [show decide ((l.getD (l.length - 1) ((0 : Int), ((0 : Int), ByteArray.empty))).2.2.size = 0) = true from decide_eq_true hz, if_neg (by simp), if_pos (by simp; omega), if_neg (fun h => by have := h.2; rw [decide_eq_true hz] at this; cases this)]
      · have h3 : (l.getD (l.length - 1) ((0 : Int), ((0 : Int), ByteArray.empty))).2.2.size ≤ sumT l := hs
        rw [show decide ((l.getD (l.length - 1) ((0 : Int), ((0 : Int), ByteArray.empty))).2.2.size = 0) = false from decide_eq_false hz, if_pos (by simp), if_pos ⟨by omega, by omega, by omega⟩, if_pos ⟨he, decide_eq_false hz⟩]

/-- Changes, one behind the other. -/
def bld : List El → Int → List El → List El × Int
  | acc, a, [] => (acc, a)
  | acc, a, c :: r => bld (mkPut (mkCopy acc a c.1) c.2.2) c.2.1 r

theorem bld_len : ∀ {l acc : List El} {a : Int}, (bld acc a l).1.length ≤ acc.length + 2 * l.length
  | [], acc, a => by simp [bld]
  | c :: r, acc, a => by
    rw [bld]
    have h1 := bld_len (l := r) (acc := mkPut (mkCopy acc a c.1) c.2.2) (a := c.2.1)
    have h2 := mkPut_len (l := mkCopy acc a c.1) (s := c.2.2)
    have h3 := mkCopy_len (l := acc) (f := a) (t := c.1)
    simp only [List.length_cons]; omega

theorem build_loop {K : Nat} {l : List El} {base : Int} : ∀ (rest : List El) (j k : Nat) (acc : List El) (a : Int), l.drop j = rest → rest.length < k → l.length ≤ 1000000 → acc.length ≤ 2 * j → sumT acc + sumT rest ≤ 9000000000000000000 →
    delta_Build_gr.l0 K l base k acc a (j : Int) = some (bld acc a rest)
  | [], j, k, acc, a, hd, hk, hl, ha, ht => by
    obtain ⟨k, rfl⟩ : ∃ m, k = m + 1 := ⟨k - 1, by simp at hk; omega⟩
    have := drop_nil hd
    rw [delta_Build_gr.l0, if_neg (by simp; omega)]
    rfl
  | c :: rest, j, k, acc, a, hd, hk, hl, ha, ht => by
    obtain ⟨k, rfl⟩ : ∃ m, k = m + 1 := ⟨k - 1, by simp at hk; omega⟩
    obtain ⟨hj, hgd, hd'⟩ := drop_cons hd el0
    have hk' : rest.length < k := by simp at hk; omega
    have hw : IntKind.wrap .i64 ((j : Int) + 1) = ((j + 1 : Nat) : Int) := by rw [w64 (by omega) (by omega)]; omega
    have h2 := mkPut_len (l := mkCopy acc a c.1) (s := c.2.2)
    have h3 := mkCopy_len (l := acc) (f := a) (t := c.1)
    have s1 := mkCopy_sumT (l := acc) (f := a) (t := c.1)
    have s2 := mkPut_sumT (l := mkCopy acc a c.1) (s := c.2.2)
    simp only [sumT] at ht
    rw [delta_Build_gr.l0]
    simp only [Int.toNat_natCast, hgd, hw]
    rw [if_pos (by simpa using hj), if_pos ⟨by omega, by omega⟩, copy_is (by omega), Option.bind_some, putm_is (by omega) (by omega), Option.bind_some, build_loop rest (j + 1) k _ _ hd' hk' hl (by omega) (by omega)]
    rfl

def rngL (base : Int) (l : List El) : Bool := l.all fun c => decide (0 ≤ c.1 ∧ c.1 ≤ c.2.1 ∧ c.2.1 ≤ base)

def ordL : Option El → List El → Bool
  | _, [] => true
  | none, b :: r => ordL (some b) r
  | some a, b :: r => !decide (b.1 < a.2.1 ∨ a.1 = b.1 ∧ a.2.1 = b.1) && ordL (some b) r

def valL (l : List El) : Bool := l.all fun c => uvalid c.2.2

def lngL : Int → List El → Int
  | _, [] => 0
  | left, c :: r => if c.2.2.size > left then 13 else lngL (left - c.2.2.size) r

theorem rng_loop {K : Nat} {l : List El} {base : Int} (hl : l.length ≤ 1000000000) : ∀ (rest : List El) (j k : Nat), l.drop j = rest → rest.length < k →
    delta_check_gr.l0 K l base k (j : Int) = some (if rngL base rest = true then .inr () else .inl 10)
  | [], j, k, hd, hk => by
    obtain ⟨k, rfl⟩ : ∃ m, k = m + 1 := ⟨k - 1, by simp at hk; omega⟩
    have := drop_nil hd
    rw [delta_check_gr.l0, if_neg (by simp; omega)]
    rfl
  | c :: rest, j, k, hd, hk => by
    obtain ⟨k, rfl⟩ : ∃ m, k = m + 1 := ⟨k - 1, by simp at hk; omega⟩
    obtain ⟨hj, hgd, hd'⟩ := drop_cons hd el0
    have hk' : rest.length < k := by simp at hk; omega
    have hw : IntKind.wrap .i64 ((j : Int) + 1) = ((j + 1 : Nat) : Int) := by rw [w64 (by omega) (by omega)]; omega
    rw [delta_check_gr.l0]
    simp only [Int.toNat_natCast, hgd, hw]
    rw [if_pos (by simpa using hj), if_pos ⟨by omega, by omega⟩, rng_loop hl rest (j + 1) k hd' hk', show rngL base (c :: rest) = (decide (0 ≤ c.1 ∧ c.1 ≤ c.2.1 ∧ c.2.1 ≤ base) && rngL base rest) from rfl]
    by_cases h1 : c.1 < 0
    · rw [if_pos (by simpa using h1), Option.bind_some, if_pos rfl, decide_eq_false (by omega)]; rfl
    · rw [if_neg (by simpa using h1)]
      by_cases h2 : c.1 > c.2.1
      · rw [if_pos (by simpa using h2), Option.bind_some, if_pos rfl, decide_eq_false (by omega)]; rfl
      · rw [if_neg (by simpa using h2), Option.bind_some]
        by_cases h3 : c.2.1 > base
        · rw [if_pos (by simpa using h3), decide_eq_false (by omega)]; rfl
        · rw [if_neg (by simpa using h3), decide_eq_true (by omega)]; rfl

theorem ord_loop {K : Nat} {l : List El} (hl : l.length ≤ 1000000000) : ∀ (rest : List El) (j k : Nat), l.drop j = rest → rest.length < k → 1 ≤ j →
    delta_Ordered_r.l0 K l k (j : Int) = some (ordL (some (l.getD (j - 1) el0)) rest)
  | [], j, k, hd, hk, h1 => by
    obtain ⟨k, rfl⟩ : ∃ m, k = m + 1 := ⟨k - 1, by simp at hk; omega⟩
    have := drop_nil hd
    rw [delta_Ordered_r.l0, if_neg (by simp; omega)]
    rfl
  | c :: rest, j, k, hd, hk, h1 => by
    obtain ⟨k, rfl⟩ : ∃ m, k = m + 1 := ⟨k - 1, by simp at hk; omega⟩
    obtain ⟨hj, hgd, hd'⟩ := drop_cons hd el0
    have hk' : rest.length < k := by simp at hk; omega
    have hw : IntKind.wrap .i64 ((j : Int) + 1) = ((j + 1 : Nat) : Int) := by rw [w64 (by omega) (by omega)]; omega
    have hw1 : IntKind.wrap .i64 ((j : Int) - 1) = (j : Int) - 1 := w64 (by omega) (by omega)
    have hn : ((j : Int) - 1).toNat = j - 1 := by omega
    have hr := ord_loop (K := K) hl rest (j + 1) k hd' hk' (by omega)
    rw [Nat.add_sub_cancel, hgd] at hr
    rw [delta_Ordered_r.l0]
    simp only [Int.toNat_natCast, hgd, hw, hw1, hn]
    rw [if_pos (by simpa using hj), if_pos ⟨by omega, by omega, by omega, by omega⟩, hr, ordL]
    by_cases a1 : c.1 < (l.getD (j - 1) el0).2.1
    · rw [if_pos (by simpa using a1), Option.bind_some, if_pos rfl, decide_eq_true (.inl a1)]; rfl
    · rw [if_neg (by simpa using a1)]
      by_cases a2 : (l.getD (j - 1) el0).1 = c.1
      · rw [if_pos (by simpa using a2), Option.bind_some]
        by_cases a3 : (l.getD (j - 1) el0).2.1 = c.1
        · rw [if_pos (by simpa using a3), decide_eq_true (.inr ⟨a2, a3⟩)]; rfl
        · rw [if_neg (by simpa using a3), decide_eq_false (by omega)]; rfl
      · rw [if_neg (by simpa using a2), Option.bind_some, if_neg (by simp), decide_eq_false (by omega)]; rfl

theorem ord_is {K : Nat} {l : List El} (hl : l.length ≤ 1000000000) (hK : l.length < K) : delta_Ordered_r K l = some (ordL none l) := by
  unfold delta_Ordered_r
  cases l with
  | nil =>
    obtain ⟨k, rfl⟩ : ∃ m, K = m + 1 := ⟨K - 1, by simp at hK; omega⟩
    rw [delta_Ordered_r.l0, if_neg (by simp)]; rfl
  | cons c r =>
    have h := ord_loop (K := K) hl r 1 K rfl (by simp at hK; omega) (by omega)
    rw [show ((1 : Nat) : Int) = 1 from rfl] at h
    rw [h]; rfl

theorem val_loop {K : Nat} {l : List El} (hl : l.length ≤ 1000000000) (ht : ∀ x ∈ l, x.2.2.size + 10 ≤ K ∧ x.2.2.size ≤ 1000000000000) : ∀ (rest : List El) (j k : Nat), l.drop j = rest → rest.length < k →
    delta_check_gr.l1 K l k (j : Int) = some (if valL rest = true then .inr () else .inl 12)
  | [], j, k, hd, hk => by
    obtain ⟨k, rfl⟩ : ∃ m, k = m + 1 := ⟨k - 1, by simp at hk; omega⟩
    have := drop_nil hd
    rw [delta_check_gr.l1, if_neg (by simp; omega)]
    rfl
  | c :: rest, j, k, hd, hk => by
    obtain ⟨k, rfl⟩ : ∃ m, k = m + 1 := ⟨k - 1, by simp at hk; omega⟩
    obtain ⟨hj, hgd, hd'⟩ := drop_cons hd el0
    have hk' : rest.length < k := by simp at hk; omega
    have hw : IntKind.wrap .i64 ((j : Int) + 1) = ((j + 1 : Nat) : Int) := by rw [w64 (by omega) (by omega)]; omega
    have hc : c ∈ l := by rw [← hgd]; simp [List.getD, hj]
    have hcs := ht c hc
    rw [delta_check_gr.l1]
    simp only [Int.toNat_natCast, hgd, hw]
    rw [if_pos (by simpa using hj), if_pos ⟨by omega, by omega⟩, uvalid_is (by omega) (by omega), Option.bind_some, val_loop hl ht rest (j + 1) k hd' hk', show valL (c :: rest) = (uvalid c.2.2 && valL rest) from rfl]
    cases uvalid c.2.2 <;> simp

theorem lng_loop {K : Nat} {l : List El} (hl : l.length ≤ 1000000000) : ∀ (rest : List El) (j k : Nat) (left : Int), l.drop j = rest → rest.length < k → 0 ≤ left → left ≤ 1000000000000 →
    delta_long_gr.l1 K l k left (j : Int) = some (lngL left rest)
  | [], j, k, left, hd, hk, h0, h1 => by
    obtain ⟨k, rfl⟩ : ∃ m, k = m + 1 := ⟨k - 1, by simp at hk; omega⟩
    have := drop_nil hd
    rw [delta_long_gr.l1, if_neg (by simp; omega)]
    rfl
  | c :: rest, j, k, left, hd, hk, h0, h1 => by
    obtain ⟨k, rfl⟩ : ∃ m, k = m + 1 := ⟨k - 1, by simp at hk; omega⟩
    obtain ⟨hj, hgd, hd'⟩ := drop_cons hd el0
    have hk' : rest.length < k := by simp at hk; omega
    have hw : IntKind.wrap .i64 ((j : Int) + 1) = ((j + 1 : Nat) : Int) := by rw [w64 (by omega) (by omega)]; omega
    rw [delta_long_gr.l1]
    simp only [Int.toNat_natCast, hgd, hw]
    rw [if_pos (by simpa using hj), if_pos ⟨by omega, by omega⟩, lngL]
    by_cases h : c.2.2.size > left
    · rw [if_pos (by simpa using h), if_pos h]
    · rw [if_neg (by simpa using h), if_neg h, w64 (by omega) (by omega), lng_loop hl rest (j + 1) k _ hd' hk' (by omega) (by omega)]

theorem gap_loop {K : Nat} {l : List El} (hl : l.length ≤ 1000000) (hr : rngL 20000 l = true) : ∀ (rest : List El) (j k : Nat) (left : Int), l.drop j = rest → rest.length < k → j ≤ l.length → 0 ≤ left → left ≤ 20000 + 20000 * j →
    delta_long_gr.l0 K l k left (j : Int) = some (left + sumK rest) ∧ 0 ≤ left + sumK rest ∧ left + sumK rest ≤ 20000 + 20000 * l.length
  | [], j, k, left, hd, hk, hj, h0, h1 => by
    obtain ⟨k, rfl⟩ : ∃ m, k = m + 1 := ⟨k - 1, by simp at hk; omega⟩
    have := drop_nil hd
    rw [delta_long_gr.l0, if_neg (by simp; omega)]
    simp only [sumK, Int.add_zero]
    exact ⟨trivial, h0, by omega⟩
  | c :: rest, j, k, left, hd, hk, hjl, h0, h1 => by
    obtain ⟨k, rfl⟩ : ∃ m, k = m + 1 := ⟨k - 1, by simp at hk; omega⟩
    obtain ⟨hj, hgd, hd'⟩ := drop_cons hd el0
    have hk' : rest.length < k := by simp at hk; omega
    have hw : IntKind.wrap .i64 ((j : Int) + 1) = ((j + 1 : Nat) : Int) := by rw [w64 (by omega) (by omega)]; omega
    have hc : c ∈ l := by rw [← hgd]; simp [List.getD, hj]
    have hcr := of_decide_eq_true (List.all_eq_true.1 hr c hc)
    rw [delta_long_gr.l0]
    simp only [Int.toNat_natCast, hgd, hw]
    rw [if_pos (by simpa using hj), if_pos ⟨by omega, by omega⟩, w64 (n := c.2.1 - c.1) (by omega) (by omega), w64 (n := left + (c.2.1 - c.1)) (by omega) (by omega)]
    obtain ⟨e1, e2, e3⟩ := gap_loop (K := K) hl hr rest (j + 1) k (left + (c.2.1 - c.1)) hd' hk' (by omega) (by omega) (by omega)
    simp only [sumK]
    rw [e1]
    exact ⟨by congr 1; omega, by omega, by omega⟩

theorem rngL_mono {b c : Int} (h : b ≤ c) {l : List El} (hr : rngL b l = true) : rngL c l = true := by
  unfold rngL at *
  rw [List.all_eq_true] at *
  intro x hx
  have := of_decide_eq_true (hr x hx)
  exact decide_eq_true (by omega)

/-- The first error of changes, by kind. -/
def chk (base : Int) (l : List El) : Int :=
  if base < 0 ∨ base > 20000 then 10 else if rngL base l = false then 10 else if ordL none l = false then 180 else if valL l = false then 12 else lngL (20000 - base + sumK l) l

theorem check_is {K : Nat} {l : List El} {base : Int} (hl : l.length ≤ 1000000) (hK : l.length < K) (ht : ∀ x ∈ l, x.2.2.size + 10 ≤ K ∧ x.2.2.size ≤ 1000000000000) : delta_check_gr K base l = some (chk base l) := by
  unfold delta_check_gr chk
  by_cases h1 : base < 0
  · rw [if_pos (by simpa using h1), Option.bind_some, if_pos rfl, if_pos (.inl h1)]
  · rw [if_neg (by simpa using h1), Option.bind_some]
    by_cases h2 : base > 20000
    · rw [if_pos (by simpa using h2), if_pos (.inr h2)]
    · rw [if_neg (by simpa using h2), if_neg (by omega)]
      have e0 := rng_loop (K := K) (base := base) (l := l) (by omega) l 0 K rfl (by omega)
      rw [Int.natCast_zero] at e0
      rw [e0, Option.bind_some]
      cases hr : rngL base l with
      | false => simp
      | true =>
        simp only [if_true, Sum.elim_inr, Bool.true_eq_false, if_false]
        rw [ord_is (by omega) hK, Option.bind_some]
        cases ho : ordL none l with
        | false => simp
        | true =>
          have e1 := val_loop (K := K) (l := l) (by omega) ht l 0 K rfl (by omega)
          rw [Int.natCast_zero] at e1
          rw [if_neg (by simp), e1, Option.bind_some]
          cases hv : valL l with
          | false => simp
          | true =>
            simp only [if_true, Sum.elim_inr, Bool.true_eq_false, if_false]
            unfold delta_long_gr
            obtain ⟨e2, e3, e4⟩ := gap_loop (K := K) (l := l) hl (rngL_mono (by omega) hr) l 0 K (20000 - base) rfl (by omega) (by omega) (by omega) (by omega)
            have e5 := lng_loop (K := K) (l := l) (by omega) l 0 K (20000 - base + sumK l) rfl (by omega) (by omega) (by omega)
            rw [Int.natCast_zero] at e2 e5
            rw [w64 (n := 20000 - base) (by omega) (by omega), e2, Option.bind_some, e5]
            rfl

/-- What is built. -/
def bldD (base : Int) (l : List El) : Int × (List El × Int) :=
  if chk base l ≠ 0 then (0, ([], chk base l)) else if (mkCopy (bld [] 0 l).1 (bld [] 0 l).2 base).length > 60 then (0, ([], 70)) else (base, (mkCopy (bld [] 0 l).1 (bld [] 0 l).2 base, 0))

theorem build_is {K : Nat} {l : List El} {base : Int} (hl : l.length ≤ 1000000) (hK : l.length < K) (ht : ∀ x ∈ l, x.2.2.size + 10 ≤ K ∧ x.2.2.size ≤ 1000000000000) : delta_Build_gr K base l = some (bldD base l) := by
  unfold delta_Build_gr bldD
  rw [check_is hl hK ht, Option.bind_some]
  by_cases h : chk base l = 0
  · have hs : sumT l ≤ 1000000000000 * l.length := by
      have : ∀ (r : List El), (∀ x ∈ r, x.2.2.size ≤ 1000000000000) → sumT r ≤ 1000000000000 * r.length := by
        intro r
        induction r with
        | nil => intro _; simp [sumT]
        | cons x r ih =>
          intro hx
          have h1 := hx x (by simp)
          have h2 := ih fun y hy => hx y (by simp [hy])
          simp only [sumT, List.length_cons]; omega
      exact this l fun x hx => (ht x hx).2
    have e := build_loop (K := K) (l := l) (base := base) l 0 K [] 0 rfl hK hl (by simp) (by simp only [sumT]; omega)
    rw [Int.natCast_zero] at e
    have hbl := bld_len (l := l) (acc := []) (a := 0)
    simp only [List.length_nil] at hbl
    rw [if_neg (by simpa using h), if_neg (by simpa using h)]
    unfold delta_NewMaker
    rw [Option.bind_some, e, Option.bind_some, copy_is (by omega), Option.bind_some]
    unfold delta_Maker_Delta_b_ee1c6
    by_cases h6 : (mkCopy (bld [] 0 l).1 (bld [] 0 l).2 base).length > 60
    · rw [if_pos (by simp; omega), if_pos h6]; rfl
    · rw [if_neg (by simp; omega), if_neg h6]; rfl
  · rw [if_pos (by simpa using h), if_pos h]

/-- An element of a delta. -/
def okE (base : Int) (x : El) : Prop := 0 ≤ x.1 ∧ x.1 ≤ x.2.1 ∧ x.2.1 ≤ base ∧ (x.2.2.size = 0 ∨ x.1 = 0 ∧ x.2.1 = 0)

theorem isL_ok {base : Int} (hb : 0 ≤ base) : ∀ {l : List El} {size to : Int} {pre : Option Bool}, isL base size to pre l = true → 0 ≤ to → size ≤ 20000 → (∀ x ∈ l, okE base x) ∧ size + sumK l + sumT l ≤ 20000
  | [], size, to, pre, h, h0, h1 => ⟨by simp, by simp [sumK, sumT]; omega⟩
  | x :: r, size, to, pre, h, h0, h1 => by
    rw [isL] at h
    split at h
    · rename_i hz
      rw [Bool.and_eq_true, decide_eq_true_eq] at h
      obtain ⟨⟨c1, c2, c3, c4, c5⟩, hr⟩ := h
      obtain ⟨e1, e2⟩ := isL_ok hb hr (by omega) c5
      refine ⟨fun y hy => ?_, by simp only [sumK, sumT, hz]; omega⟩
      rcases List.mem_cons.1 hy with rfl | hy
      · exact ⟨by omega, by omega, c4, .inl hz⟩
      · exact e1 y hy
    · rw [Bool.and_eq_true, Bool.and_eq_true, decide_eq_true_eq] at h
      obtain ⟨⟨⟨c1, c2, c3, c4⟩, hv⟩, hr⟩ := h
      obtain ⟨e1, e2⟩ := isL_ok hb hr h0 c4
      refine ⟨fun y hy => ?_, by simp only [sumK, sumT]; omega⟩
      rcases List.mem_cons.1 hy with rfl | hy
      · exact ⟨by omega, by omega, by omega, .inr ⟨c1, c2⟩⟩
      · exact e1 y hy

theorem isD_ok {base : Int} {l : List El} (h : isD base l = true) : 0 ≤ base ∧ base ≤ 20000 ∧ l.length ≤ 60 ∧ (∀ x ∈ l, okE base x) ∧ sumK l + sumT l ≤ 20000 := by
  unfold isD at h
  rw [Bool.and_eq_true, decide_eq_true_eq] at h
  obtain ⟨⟨h1, h2, h3⟩, h4⟩ := h
  obtain ⟨e1, e2⟩ := isL_ok h1 h4 (by omega) (by omega)
  exact ⟨h1, h2, h3, e1, by omega⟩

theorem sumK_nonneg {base : Int} : ∀ {l : List El}, (∀ x ∈ l, okE base x) → 0 ≤ sumK l
  | [], _ => by simp [sumK]
  | x :: r, h => by
    have h1 := h x (by simp)
    have h2 := sumK_nonneg (l := r) fun y hy => h y (by simp [hy])
    have := h1.2.1
    simp only [sumK]; omega

theorem sums_loop11 {K : Nat} {d : List El} {base : Int} (hb : base ≤ 20000) (hl : d.length ≤ 1000) : ∀ (rest : List El) (j k : Nat) (kept put : Int), d.drop j = rest → rest.length < k → (∀ x ∈ rest, okE base x) → 0 ≤ kept → 0 ≤ put → kept + sumK rest ≤ 1000000 → put + sumT rest ≤ 1000000 →
    delta_sums.l0 K d k kept put (j : Int) = some (kept + sumK rest, put + sumT rest)
  | [], j, k, kept, put, hd, hk, hx, h0, h1, h2, h3 => by
    obtain ⟨k, rfl⟩ : ∃ m, k = m + 1 := ⟨k - 1, by simp at hk; omega⟩
    have := drop_nil hd
    rw [delta_sums.l0, if_neg (by simp; omega)]
    simp [sumK, sumT]
  | x :: rest, j, k, kept, put, hd, hk, hx, h0, h1, h2, h3 => by
    obtain ⟨k, rfl⟩ : ∃ m, k = m + 1 := ⟨k - 1, by simp at hk; omega⟩
    obtain ⟨hj, hgd, hd'⟩ := drop_cons hd el0
    have hk' : rest.length < k := by simp at hk; omega
    have hw : IntKind.wrap .i64 ((j : Int) + 1) = ((j + 1 : Nat) : Int) := by rw [w64 (by omega) (by omega)]; omega
    obtain ⟨o1, o2, o3, o4⟩ := hx x (by simp)
    have hr : ∀ y ∈ rest, okE base y := fun y hy => hx y (by simp [hy])
    have hn := sumK_nonneg hr
    simp only [sumK, sumT] at h2 h3
    rw [delta_sums.l0]
    simp only [Int.toNat_natCast, hgd, hw]
    rw [if_pos (by simpa using hj), if_pos ⟨by omega, by omega⟩, w64 (n := x.2.1 - x.1) (by omega) (by omega), w64 (n := kept + (x.2.1 - x.1)) (by omega) (by omega), w64 (n := put + (x.2.2.size : Int)) (by omega) (by omega),
      sums_loop11 hb hl rest (j + 1) k _ _ hd' hk' hr (by omega) (by omega) (by omega) (by omega)]
    simp only [sumK, sumT]
    congr 2 <;> omega

theorem sums_is {K : Nat} {d : List El} {base : Int} (hK : 30000 ≤ K) : delta_sums K base d = some (if isD base d = true then (sumK d, (sumT d : Int)) else (0, 0)) := by
  unfold delta_sums
  rw [is_is hK, Option.bind_some]
  cases h : isD base d with
  | false => simp
  | true =>
    obtain ⟨h1, h2, h3, h4, h5⟩ := isD_ok h
    have hn := sumK_nonneg h4
    have e := sums_loop11 (K := K) h2 (by omega) d 0 K 0 0 rfl (by omega) h4 (by omega) (by omega) (by omega) (by omega)
    rw [Int.natCast_zero] at e
    rw [if_neg (by simp), e]
    simp

theorem dsize_is {K : Nat} {d : List El} {base : Int} (hK : 30000 ≤ K) : delta_Size K base d = some (if isD base d = true then sumK d + sumT d else 0) := by
  unfold delta_Size
  rw [sums_is hK, Option.bind_some]
  by_cases h : isD base d = true
  · obtain ⟨h1, h2, h3, h4, h5⟩ := isD_ok h
    have hn := sumK_nonneg h4
    rw [if_pos h, if_pos h, w64 (by simp only; omega) (by simp only; omega)]
  · rw [if_neg h, if_neg h]; rfl

/-- What elements make of a text's bytes. -/
def apS (s : List Int) : List El → List Int
  | [] => []
  | x :: r => ((s.drop x.1.toNat).take (x.2.1 - x.1).toNat ++ txt x.2.2) ++ apS s r

theorem ris_loop {K : Nat} {d : List El} {base : Int} (hK : 30000 ≤ K) (hb : base ≤ 20000) (hl : d.length ≤ 60) : ∀ (rest : List El) (j k : Nat) (size to : Int) (text : Bool), d.drop j = rest → rest.length < k → 0 ≤ size → size ≤ 20000 → 0 ≤ to → to ≤ 20000 → text = decide (preOf d j ≠ some true) →
    palinoderef11_Is.l0 K d base k to text size (j : Int) = some (isL base size to (preOf d j) rest)
  | [], j, k, size, to, text, hd, hk, h0, h1, h2, h3, ht => by
    obtain ⟨k, rfl⟩ : ∃ m, k = m + 1 := ⟨k - 1, by simp at hk; omega⟩
    have := drop_nil hd
    rw [palinoderef11_Is.l0, if_neg (by simp; omega)]
    rfl
  | x :: rest, j, k, size, to, text, hd, hk, h0, h1, h2, h3, ht => by
    obtain ⟨k, rfl⟩ : ∃ m, k = m + 1 := ⟨k - 1, by simp at hk; omega⟩
    obtain ⟨hj, hgd, hd'⟩ := drop_cons hd el0
    have hk' : rest.length < k := by simp at hk; omega
    have hw : IntKind.wrap .i64 ((j : Int) + 1) = ((j + 1 : Nat) : Int) := by rw [w64 (by omega) (by omega)]; omega
    have hws : IntKind.wrap .i64 ((20000 : Int) - size) = 20000 - size := w64 (by omega) (by omega)
    have hps := preOf_succ hgd
    have hnext := fun (size' to' : Int) (text' : Bool) (a0 : 0 ≤ size') (a1 : size' ≤ 20000) (a2 : 0 ≤ to') (a3 : to' ≤ 20000) (a4 : text' = decide (preOf d (j + 1) ≠ some true)) => ris_loop (K := K) hK hb hl rest (j + 1) k size' to' text' hd' hk' a0 a1 a2 a3 a4
    rw [hps] at hnext
    have hj0 : j = 0 ↔ preOf d j = none := by
      unfold preOf
      by_cases h : j = 0 <;> simp [h]
    rw [palinoderef11_Is.l0]
    simp only [Int.toNat_natCast, hgd, hw, hws, str_nil]
    rw [if_pos (by simpa using hj), if_pos ⟨by omega, by omega⟩, isL]
    by_cases hz : x.2.2.size = 0
    · rw [if_neg (by simpa using hz), if_pos hz]
      by_cases c1 : x.1 < to
      · rw [if_pos (by simpa using c1), Option.bind_some, if_pos rfl, decide_eq_false (by omega)]; rfl
      · rw [if_neg (by simpa using c1)]
        have tail : (if decide (x.2.1 ≤ x.1) = true then some true else if decide (x.2.1 > base) = true then some true else some (decide (IntKind.wrap .i64 (x.2.1 - x.1) > 20000 - size))) = some (!decide (x.1 < x.2.1 ∧ x.2.1 ≤ base ∧ size + (x.2.1 - x.1) ≤ 20000)) := by
          by_cases a1 : x.2.1 ≤ x.1
          · rw [if_pos (by simpa using a1), decide_eq_false (by omega)]; rfl
          · rw [if_neg (by simpa using a1)]
            by_cases a2 : x.2.1 > base
            · rw [if_pos (by simpa using a2), decide_eq_false (by omega)]; rfl
            · rw [if_neg (by simpa using a2), w64 (by omega) (by omega)]
              by_cases a3 : size + (x.2.1 - x.1) ≤ 20000
              · rw [decide_eq_true (show x.1 < x.2.1 ∧ x.2.1 ≤ base ∧ size + (x.2.1 - x.1) ≤ 20000 by omega), decide_eq_false (by omega)]; rfl
              · rw [decide_eq_false (show ¬ (x.1 < x.2.1 ∧ x.2.1 ≤ base ∧ size + (x.2.1 - x.1) ≤ 20000) by omega), decide_eq_true (by omega)]; rfl
        rw [tail]
        have main : (if decide ((j : Int) > 0) = true then if (!text) = true then if (x.1 == to) = true then some true else some (!decide (x.1 < x.2.1 ∧ x.2.1 ≤ base ∧ size + (x.2.1 - x.1) ≤ 20000)) else some (!decide (x.1 < x.2.1 ∧ x.2.1 ≤ base ∧ size + (x.2.1 - x.1) ≤ 20000)) else some (!decide (x.1 < x.2.1 ∧ x.2.1 ≤ base ∧ size + (x.2.1 - x.1) ≤ 20000))) =
            some (!decide (to ≤ x.1 ∧ (to < x.1 ∨ preOf d j ≠ some true) ∧ x.1 < x.2.1 ∧ x.2.1 ≤ base ∧ size + (x.2.1 - x.1) ≤ 20000)) := by
          by_cases hp : preOf d j = some true
          · have hjp : ¬ j = 0 := fun h => by rw [hj0.1 h] at hp; cases hp
            have hte : text = false := by rw [ht, hp]; simp
            rw [if_pos (by simp; omega), hte, if_pos (by simp)]
            by_cases a1 : x.1 = to
            · rw [if_pos (by simpa using a1), decide_eq_false (show ¬ (to ≤ x.1 ∧ (to < x.1 ∨ preOf d j ≠ some true) ∧ x.1 < x.2.1 ∧ x.2.1 ≤ base ∧ size + (x.2.1 - x.1) ≤ 20000) by
                intro h
                rcases h.2.1 with h' | h'
                · omega
                · exact h' hp)]
              rfl
            · rw [if_neg (by simpa using a1)]
              congr 2
              rw [decide_eq_decide]
              exact ⟨fun h => ⟨by omega, .inl (by omega), h⟩, fun h => h.2.2⟩
          · have hte : text = true := by rw [ht]; exact decide_eq_true hp
            have hfin : (decide (x.1 < x.2.1 ∧ x.2.1 ≤ base ∧ size + (x.2.1 - x.1) ≤ 20000)) = decide (to ≤ x.1 ∧ (to < x.1 ∨ preOf d j ≠ some true) ∧ x.1 < x.2.1 ∧ x.2.1 ≤ base ∧ size + (x.2.1 - x.1) ≤ 20000) := by
              rw [decide_eq_decide]
              exact ⟨fun h => ⟨by omega, .inr hp, h⟩, fun h => h.2.2⟩
            rw [hte, hfin]
            simp
        rw [main, Option.bind_some]
        by_cases c : to ≤ x.1 ∧ (to < x.1 ∨ preOf d j ≠ some true) ∧ x.1 < x.2.1 ∧ x.2.1 ≤ base ∧ size + (x.2.1 - x.1) ≤ 20000
        · rw [decide_eq_true c, if_neg (by simp), w64 (n := size + x.2.1) (by omega) (by omega), w64 (n := size + x.2.1 - x.1) (by omega) (by omega), hnext _ _ _ (by omega) (by omega) (by omega) (by omega) (by rw [decide_eq_true hz]; simp), decide_eq_true hz, show size + x.2.1 - x.1 = size + (x.2.1 - x.1) by omega]
          rfl
        · rw [decide_eq_false c, if_pos (by simp)]; rfl
    · rw [if_pos (by simpa using hz), if_neg hz]
      have inner : (if decide ((x.2.2.size : Int) > 20000 - size) = true then some true else (palinoderef1_Valid K x.2.2).bind fun r_33 => some (!r_33)) = some (!(decide (size + (x.2.2.size : Int) ≤ 20000) && uvalid x.2.2)) := by
        by_cases a1 : (x.2.2.size : Int) > 20000 - size
        · rw [if_pos (by simpa using a1), decide_eq_false (by omega)]; rfl
        · rw [if_neg (by simpa using a1), decide_eq_true (by omega), rvalid_is (by omega) (by omega)]; rfl
      rw [inner]
      by_cases c1 : x.1 = 0
      · rw [if_neg (by simpa using c1)]
        by_cases c2 : x.2.1 = 0
        · rw [if_neg (by simpa using c2)]
          have main : (if decide ((j : Int) > 0) = true then if text = true then some true else some (!(decide (size + (x.2.2.size : Int) ≤ 20000) && uvalid x.2.2)) else some (!(decide (size + (x.2.2.size : Int) ≤ 20000) && uvalid x.2.2))) =
              some (!(decide (x.1 = 0 ∧ x.2.1 = 0 ∧ preOf d j ≠ some false ∧ size + (x.2.2.size : Int) ≤ 20000) && uvalid x.2.2)) := by
            by_cases hp : preOf d j = some false
            · have hjp : ¬ j = 0 := fun h => by rw [hj0.1 h] at hp; cases hp
              have hte : text = true := by rw [ht, hp]; simp
              rw [if_pos (by simp; omega), hte, if_pos rfl, decide_eq_false (fun h => h.2.2.1 hp)]; rfl
            · have hfin : decide (size + (x.2.2.size : Int) ≤ 20000) = decide (x.1 = 0 ∧ x.2.1 = 0 ∧ preOf d j ≠ some false ∧ size + (x.2.2.size : Int) ≤ 20000) := by
                rw [decide_eq_decide]
                exact ⟨fun h => ⟨c1, c2, hp, h⟩, fun h => h.2.2.2⟩
              rw [hfin]
              by_cases hjp : j = 0
              · rw [if_neg (by simp; omega)]
              · have : preOf d j = some true := by
                  cases hq : preOf d j with
                  | none => exact absurd (hj0.2 hq) hjp
                  | some b => cases b with
                    | true => rfl
                    | false => exact absurd hq hp
                have hte : text = false := by rw [ht, this]; simp
                rw [if_pos (by simp; omega), hte, if_neg (by simp)]
          rw [main, Option.bind_some]
          cases hb2 : (decide (x.1 = 0 ∧ x.2.1 = 0 ∧ preOf d j ≠ some false ∧ size + (x.2.2.size : Int) ≤ 20000) && uvalid x.2.2) with
          | false => rw [if_pos (by simp)]; rfl
          | true =>
            rw [Bool.and_eq_true, decide_eq_true_eq] at hb2
            rw [if_neg (by simp), w64 (n := size + (x.2.2.size : Int)) (by omega) (by omega), hnext _ _ _ (by omega) hb2.1.2.2.2 h2 h3 (by rw [decide_eq_false hz]; simp), decide_eq_false hz]
            rfl
        · rw [if_pos (by simpa using c2), Option.bind_some, if_pos rfl, decide_eq_false (fun h => c2 h.2.1)]; rfl
      · rw [if_pos (by simpa using c1), Option.bind_some, if_pos rfl, decide_eq_false (fun h => c1 h.1)]; rfl

theorem ris_is {K : Nat} {d : List El} {base : Int} (hK : 30000 ≤ K) : palinoderef11_Is K base d = some (isD base d) := by
  unfold palinoderef11_Is isD
  by_cases h1 : base < 0
  · rw [if_pos (by simpa using h1), Option.bind_some, if_pos rfl, decide_eq_false (by omega)]; rfl
  · rw [if_neg (by simpa using h1)]
    by_cases h2 : base > 20000
    · rw [if_pos (by simpa using h2), Option.bind_some, if_pos rfl, decide_eq_false (by omega)]; rfl
    · rw [if_neg (by simpa using h2), Option.bind_some]
      by_cases h3 : d.length > 60
      · rw [if_pos (by simp; omega), decide_eq_false (by omega)]; rfl
      · have h := ris_loop (K := K) (d := d) (base := base) hK (by omega) (by omega) d 0 K 0 0 true rfl (by omega) (by omega) (by omega) (by omega) (by omega) rfl
        rw [Int.natCast_zero] at h
        rw [if_neg (by simp; omega), h, decide_eq_true (by omega)]
        rfl

abbrev Ce := Int × Int

def cellsT (t : ByteArray) : List Ce := (txt t).map fun b => (-1, b)

def cellsC : Int → Nat → List Ce
  | _, 0 => []
  | f, m + 1 => (f, 0) :: cellsC (f + 1) m

/-- The cells of elements. -/
def cells : List El → List Ce
  | [] => []
  | x :: r => (cellsT x.2.2 ++ cellsC x.1 (x.2.1 - x.1).toNat) ++ cells r

theorem cellsT_len {t : ByteArray} : (cellsT t).length = t.size := by simp [cellsT, txt_len]

theorem cellsC_len : ∀ {m : Nat} {f : Int}, (cellsC f m).length = m
  | 0, _ => rfl
  | m + 1, f => by rw [cellsC, List.length_cons, cellsC_len]

theorem cells_len {base : Int} : ∀ {l : List El}, (∀ x ∈ l, okE base x) → ((cells l).length : Int) = sumK l + sumT l
  | [], _ => rfl
  | x :: r, h => by
    obtain ⟨o1, o2, o3, o4⟩ := h x (by simp)
    have := cells_len (l := r) fun y hy => h y (by simp [hy])
    simp only [cells, sumK, sumT, List.length_append, cellsT_len, cellsC_len]
    omega

theorem cellsT_loop {K : Nat} {d : List El} {i : Nat} {x : El} (hx : d.getD i el0 = x) (hs : x.2.2.size ≤ 1000000) : ∀ (n j k : Nat) (out : List Ce), j + n = x.2.2.size → n < k → out.length ≤ 10000000 + j →
    palinoderef11_Cells.l1 K d (i : Int) k out (j : Int) = some (out ++ (cellsT x.2.2).drop j) := by
  have htl := txt_len (s := x.2.2)
  have hcl := cellsT_len (t := x.2.2)
  intro n
  induction n with
  | zero =>
    intro j k out hj hk ho
    obtain ⟨k, rfl⟩ : ∃ m, k = m + 1 := ⟨k - 1, by omega⟩
    rw [palinoderef11_Cells.l1, Int.toNat_natCast, hx, if_neg (by simp; omega), List.drop_eq_nil_of_le (by omega)]
    simp
  | succ n ih =>
    intro j k out hj hk ho
    obtain ⟨k, rfl⟩ : ∃ m, k = m + 1 := ⟨k - 1, by omega⟩
    have hw : IntKind.wrap .i64 ((j : Int) + 1) = ((j + 1 : Nat) : Int) := by rw [w64 (by omega) (by omega)]; omega
    have hjt : j < (txt x.2.2).length := by omega
    have hjc : j < (cellsT x.2.2).length := by omega
    have hg : (cellsT x.2.2)[j] = (-1, (txt x.2.2)[j]) := by
      have : ∀ (l : List Ce) (h : j < l.length), l = (txt x.2.2).map (fun b => (-1, b)) → l[j] = (-1, (txt x.2.2)[j]) := by
        intro l h e; subst e; rw [List.getElem_map]
      exact this _ hjc rfl
    rw [palinoderef11_Cells.l1, Int.toNat_natCast, hx, if_pos (by simp; omega), bt_is hjt, if_pos ⟨by omega, by omega, by simp; omega⟩, hw, ih (j + 1) k _ (by omega) (by omega) (by simp; omega), List.drop_eq_getElem_cons hjc, hg]
    simp only [List.append_assoc, List.singleton_append]

theorem cellsC_loop {K : Nat} {d : List El} {i : Nat} {x : El} (hx : d.getD i el0 = x) (h1 : x.2.1 ≤ 1000000) : ∀ (n k : Nat) (f : Int) (out : List Ce), 0 ≤ f → f + n = x.2.1 ∨ n = 0 ∧ x.2.1 ≤ f → n < k → out.length + n ≤ 100000000 →
    palinoderef11_Cells.l2 K d (i : Int) k out f = some (out ++ cellsC f n) := by
  intro n
  induction n with
  | zero =>
    intro k f out h0 hf hk ho
    obtain ⟨k, rfl⟩ : ∃ m, k = m + 1 := ⟨k - 1, by omega⟩
    rw [palinoderef11_Cells.l2, Int.toNat_natCast, hx, if_neg (by simp; omega)]
    simp [cellsC]
  | succ n ih =>
    intro k f out h0 hf hk ho
    obtain ⟨k, rfl⟩ : ∃ m, k = m + 1 := ⟨k - 1, by omega⟩
    rw [palinoderef11_Cells.l2, Int.toNat_natCast, hx, if_pos (by simp; omega), if_pos (by simp; omega), w64 (by omega) (by omega), ih k (f + 1) _ (by omega) (by omega) (by omega) (by simp; omega), cellsC]
    simp only [List.append_assoc, List.singleton_append]

theorem cells_loop {K : Nat} {d : List El} {base : Int} (hK : 100000 ≤ K) (hb : base ≤ 20000) (hl : d.length ≤ 1000) : ∀ (rest : List El) (j k : Nat) (out : List Ce), d.drop j = rest → rest.length < k → (∀ x ∈ rest, okE base x) → out.length + sumK rest + sumT rest ≤ 20000 →
    palinoderef11_Cells.l0 K d k out (j : Int) = some (out ++ cells rest)
  | [], j, k, out, hd, hk, hx, ho => by
    obtain ⟨k, rfl⟩ : ∃ m, k = m + 1 := ⟨k - 1, by simp at hk; omega⟩
    have := drop_nil hd
    rw [palinoderef11_Cells.l0, if_neg (by simp; omega)]
    simp [cells]
  | x :: rest, j, k, out, hd, hk, hx, ho => by
    obtain ⟨k, rfl⟩ : ∃ m, k = m + 1 := ⟨k - 1, by simp at hk; omega⟩
    obtain ⟨hj, hgd, hd'⟩ := drop_cons hd el0
    have hk' : rest.length < k := by simp at hk; omega
    have hw : IntKind.wrap .i64 ((j : Int) + 1) = ((j + 1 : Nat) : Int) := by rw [w64 (by omega) (by omega)]; omega
    obtain ⟨o1, o2, o3, o4⟩ := hx x (by simp)
    have hr : ∀ y ∈ rest, okE base y := fun y hy => hx y (by simp [hy])
    have hnn := sumK_nonneg hr
    simp only [sumK, sumT] at ho
    have e1 := cellsT_loop (K := K) (d := d) (i := j) hgd (by omega) x.2.2.size 0 K out (by omega) (by omega) (by omega)
    rw [Int.natCast_zero, List.drop_zero] at e1
    have hcl := cellsT_len (t := x.2.2)
    have e2 := cellsC_loop (K := K) (d := d) (i := j) hgd (by omega) (x.2.1 - x.1).toNat K x.1 (out ++ cellsT x.2.2) o1 (by omega) (by omega) (by simp; omega)
    rw [palinoderef11_Cells.l0, if_pos (by simpa using hj), if_pos ⟨by omega, by omega⟩, e1, Option.bind_some, Int.toNat_natCast, hgd, e2, Option.bind_some, hw, cells_loop hK hb hl rest (j + 1) k _ hd' hk' hr (by simp [cellsC_len]; omega), cells]
    simp only [List.append_assoc]

theorem cells_is {K : Nat} {d : List El} {base : Int} (hK : 100000 ≤ K) (h : isD base d = true) : palinoderef11_Cells K base d = some (cells d) := by
  obtain ⟨h1, h2, h3, h4, h5⟩ := isD_ok h
  unfold palinoderef11_Cells
  have e := cells_loop (K := K) hK h2 (by omega) d 0 K [] rfl (by omega) h4 (by simp; omega)
  rw [Int.natCast_zero] at e
  rw [e]; rfl

theorem txt_app {a b : ByteArray} : txt (a ++ b) = txt a ++ txt b := by
  unfold txt
  rw [ByteArray.data_append]
  simp

theorem bt_left {a b : ByteArray} {i : Nat} (h : i < a.size) : bt (a ++ b) (i : Int) = bt a (i : Int) := by
  have h1 : i < (txt a).length := by rw [txt_len]; exact h
  have h2 : i < (txt (a ++ b)).length := by rw [txt_len, bsize_app]; omega
  rw [bt_is h1, bt_is h2]
  have : ∀ (l : List Int) (hl : i < l.length), l = txt a ++ txt b → l[i] = (txt a)[i] := by
    intro l hl e; subst e; rw [List.getElem_append_left]
  exact this _ h2 txt_app

theorem bt_right {a b : ByteArray} {i : Nat} : bt (a ++ b) ((a.size + i : Nat) : Int) = bt b (i : Int) := by
  by_cases h : i < b.size
  · have h1 : i < (txt b).length := by rw [txt_len]; exact h
    have h2 : a.size + i < (txt (a ++ b)).length := by rw [txt_len, bsize_app]; omega
    rw [bt_is h1, bt_is h2]
    have : ∀ (l : List Int) (hl : a.size + i < l.length), l = txt a ++ txt b → l[a.size + i] = (txt b)[i] := by
      intro l hl e
      subst e
      rw [List.getElem_append_right (by rw [txt_len]; omega)]
      congr 1
      rw [txt_len]; omega
    exact this _ h2 txt_app
  · have h1 : ¬ i < b.size := h
    have h2 : ¬ a.size + i < (a ++ b).size := by rw [bsize_app]; omega
    unfold bt
    rw [Int.toNat_natCast, Int.toNat_natCast]
    simp [h1, h2]

theorem uszB_mono {n n' c d e f d' e' f' : Int} (hn : n ≤ n') (hd : 2 ≤ n → d' = d) (he : 3 ≤ n → e' = e) (hf : 4 ≤ n → f' = f) (h : uszB n c d e f ≠ 0) : uszB n' c d' e' f' = uszB n c d e f := by
  unfold uszB at *
  split
  · rfl
  · rename_i h1
    rw [if_neg h1] at h
    split
    · rename_i h2
      rw [if_pos h2] at h
      by_cases c2 : 2 ≤ n ∧ cont d ∧ 128 ≤ c % 32 * 64 + d % 64
      · rw [hd c2.1, if_pos c2, if_pos ⟨by omega, c2.2⟩]
      · rw [if_neg c2] at h; exact absurd rfl h
    · rename_i h2
      rw [if_neg h2] at h
      split
      · rename_i h3
        rw [if_pos h3] at h
        by_cases c3 : 3 ≤ n ∧ cont d ∧ cont e ∧ 2048 ≤ (c % 16 * 64 + d % 64) * 64 + e % 64 ∧ ¬ (55296 ≤ (c % 16 * 64 + d % 64) * 64 + e % 64 ∧ (c % 16 * 64 + d % 64) * 64 + e % 64 < 57344)
        · rw [hd (by omega), he c3.1, if_pos c3, if_pos ⟨by omega, c3.2⟩]
        · rw [if_neg c3] at h; exact absurd rfl h
      · rename_i h3
        rw [if_neg h3] at h
        split
        · rename_i h4
          rw [if_pos h4] at h
          by_cases c4 : 4 ≤ n ∧ cont d ∧ cont e ∧ cont f ∧ 65536 ≤ ((c % 8 * 64 + d % 64) * 64 + e % 64) * 64 + f % 64 ∧ ((c % 8 * 64 + d % 64) * 64 + e % 64) * 64 + f % 64 ≤ 1114111
          · rw [hd (by omega), he (by omega), hf c4.1, if_pos c4, if_pos ⟨by omega, c4.2⟩]
          · rw [if_neg c4] at h; exact absurd rfl h
        · first
          | rfl
          | (rename_i h4
             rw [if_neg h4] at h
             exact absurd rfl h)

theorem usz_left {a b : ByteArray} {i : Nat} (h : usz a (i : Int) ≠ 0) : usz (a ++ b) (i : Int) = usz a (i : Int) := by
  unfold usz at *
  by_cases h1 : (i : Int) < 0 ∨ (i : Int) ≥ a.size
  · rw [if_pos h1] at h; exact absurd rfl h
  · have hb := bsize_app (a := a) (b := b)
    rw [if_neg h1] at h ⊢
    rw [if_neg (by omega), bt_left (by omega)]
    refine uszB_mono (by omega) (fun hh => ?_) (fun hh => ?_) (fun hh => ?_) h
    · have e : (i : Int) + 1 = ((i + 1 : Nat) : Int) := by omega
      rw [e, bt_left (by omega)]
    · have e : (i : Int) + 2 = ((i + 2 : Nat) : Int) := by omega
      rw [e, bt_left (by omega)]
    · have e : (i : Int) + 3 = ((i + 3 : Nat) : Int) := by omega
      rw [e, bt_left (by omega)]

theorem usz_right {a b : ByteArray} {i : Nat} : usz (a ++ b) ((a.size + i : Nat) : Int) = usz b (i : Int) := by
  unfold usz
  have hb := bsize_app (a := a) (b := b)
  by_cases h1 : (i : Int) < 0 ∨ (i : Int) ≥ b.size
  · rw [if_pos h1, if_pos (by omega)]
  · rw [if_neg h1, if_neg (by omega), bt_right]
    have e1 : ((a.size + i : Nat) : Int) + 1 = ((a.size + (i + 1) : Nat) : Int) := by omega
    have e2 : ((a.size + i : Nat) : Int) + 2 = ((a.size + (i + 2) : Nat) : Int) := by omega
    have e3 : ((a.size + i : Nat) : Int) + 3 = ((a.size + (i + 3) : Nat) : Int) := by omega
    rw [e1, e2, e3, bt_right, bt_right, bt_right, show ((a ++ b).size : Int) - ((a.size + i : Nat) : Int) = (b.size : Int) - i by omega]
    rfl

theorem uval_fuel {s : ByteArray} : ∀ (d m m' : Nat) (a : Nat), s.size - a ≤ d → d ≤ m → d ≤ m' → uval s m (a : Int) = uval s m' (a : Int) := by
  intro d
  induction d with
  | zero =>
    intro m m' a h hm hm'
    cases m with
    | zero => cases m' with
      | zero => rfl
      | succ m' => rw [uval, uval, if_neg (by omega)]
    | succ m => cases m' with
      | zero => rw [uval, uval, if_neg (by omega)]
      | succ m' => rw [uval, uval, if_neg (by omega), if_neg (by omega)]
  | succ d ih =>
    intro m m' a h hm hm'
    obtain ⟨m, rfl⟩ : ∃ l, m = l + 1 := ⟨m - 1, by omega⟩
    obtain ⟨m', rfl⟩ : ∃ l, m' = l + 1 := ⟨m' - 1, by omega⟩
    have hu := usz_ok (s := s) (a := a)
    rw [uval, uval]
    split
    · split
      · rfl
      · obtain ⟨n, hn⟩ : ∃ n : Nat, (a : Int) + usz s a = n := ⟨((a : Int) + usz s a).toNat, by omega⟩
        rw [hn]
        exact ih m m' n (by omega) (by omega) (by omega)
    · rfl

theorem uval_app {a b : ByteArray} (hb : uvalid b = true) : ∀ (d i m : Nat), a.size - i = d → i ≤ a.size → d + b.size ≤ m → uval a d (i : Int) = true → uval (a ++ b) m (i : Int) = true := by
  have hsz := bsize_app (a := a) (b := b)
  have right : ∀ (e j m : Nat), b.size - j ≤ e → j ≤ b.size → e ≤ m → uval b e (j : Int) = true → uval (a ++ b) m ((a.size + j : Nat) : Int) = true := by
    intro e
    induction e with
    | zero =>
      intro j m h1 h2 h3 h4
      cases m with
      | zero => rfl
      | succ m => rw [uval, if_neg (by omega)]
    | succ e ih =>
      intro j m h1 h2 h3 h4
      obtain ⟨m, rfl⟩ : ∃ l, m = l + 1 := ⟨m - 1, by omega⟩
      have hu := usz_ok (s := b) (a := j)
      rw [uval] at h4 ⊢
      by_cases hj : (j : Int) < b.size
      · have hu3 := hu.2.2 (by omega) hj
        rw [if_pos hj] at h4
        rw [if_pos (by omega), usz_right]
        by_cases hz : usz b j = 0
        · rw [if_pos hz] at h4; cases h4
        · rw [if_neg hz] at h4 ⊢
          obtain ⟨n, hn⟩ : ∃ n : Nat, usz b j = n := ⟨(usz b j).toNat, by omega⟩
          rw [hn] at h4 hu3 hz ⊢
          have e1 : ((a.size + j : Nat) : Int) + (n : Int) = ((a.size + (j + n) : Nat) : Int) := by omega
          have e2 : (j : Int) + (n : Int) = ((j + n : Nat) : Int) := by omega
          rw [e1]
          rw [e2] at h4
          exact ih (j + n) m (by omega) (by omega) (by omega) h4
      · rw [if_neg (by omega)]
  intro d
  induction d using Nat.strongRecOn with
  | _ d ih =>
    intro i m h1 h2 h3 h4
    by_cases hi : i = a.size
    · subst hi
      have := right b.size 0 m (by omega) (by omega) (by omega) hb
      simpa using this
    · obtain ⟨d, rfl⟩ : ∃ l, d = l + 1 := ⟨d - 1, by omega⟩
      obtain ⟨m, rfl⟩ : ∃ l, m = l + 1 := ⟨m - 1, by omega⟩
      have hu := usz_ok (s := a) (a := i)
      have hu3 := hu.2.2 (by omega) (by omega)
      rw [uval, if_pos (by omega)] at h4
      rw [uval, if_pos (by omega)]
      by_cases hz : usz a i = 0
      · rw [if_pos hz] at h4; cases h4
      · rw [if_neg hz] at h4
        rw [usz_left hz, if_neg hz]
        obtain ⟨n, hn⟩ : ∃ n : Nat, usz a i = n := ⟨(usz a i).toNat, by omega⟩
        rw [hn] at h4 hu3 hz ⊢
        have e2 : (i : Int) + (n : Int) = ((i + n : Nat) : Int) := by omega
        rw [e2] at h4 ⊢
        refine ih (a.size - (i + n)) (by omega) (i + n) m rfl (by omega) (by omega) ?_
        rw [uval_fuel (a.size - (i + n)) (a.size - (i + n)) d (i + n) (by omega) (by omega) (by omega)]
        exact h4

theorem uvalid_app {a b : ByteArray} (ha : uvalid a = true) (hb : uvalid b = true) : uvalid (a ++ b) = true := by
  unfold uvalid
  have h := uval_app hb a.size 0 (a ++ b).size (by omega) (by omega) (by rw [bsize_app]; omega) ha
  exact h

/-- Elements that may come behind others, however long. -/
def isS (base : Int) : Int → Option Bool → List El → Prop
  | _, _, [] => True
  | to, pre, x :: r =>
    if x.2.2.size = 0 then (to ≤ x.1 ∧ (to < x.1 ∨ pre ≠ some true) ∧ x.1 < x.2.1 ∧ x.2.1 ≤ base) ∧ isS base x.2.1 (some true) r
    else (x.1 = 0 ∧ x.2.1 = 0 ∧ pre ≠ some false ∧ uvalid x.2.2 = true) ∧ isS base to (some false) r

def lastTo : Int → List El → Int
  | to, [] => to
  | to, x :: r => lastTo (if x.2.2.size = 0 then x.2.1 else to) r

def lastPre : Option Bool → List El → Option Bool
  | p, [] => p
  | _, x :: r => lastPre (some (decide (x.2.2.size = 0))) r

theorem isS_app {base : Int} : ∀ {l r : List El} {to : Int} {pre : Option Bool}, isS base to pre (l ++ r) ↔ isS base to pre l ∧ isS base (lastTo to l) (lastPre pre l) r
  | [], r, to, pre => by simp [isS, lastTo, lastPre]
  | x :: l, r, to, pre => by
    rw [List.cons_append, isS, isS, lastTo, lastPre]
    by_cases h : x.2.2.size = 0
    · rw [if_pos h, if_pos h, if_pos h, decide_eq_true h, isS_app]
      exact ⟨fun h => ⟨⟨h.1, h.2.1⟩, h.2.2⟩, fun h => ⟨h.1.1, h.1.2, h.2⟩⟩
    · rw [if_neg h, if_neg h, if_neg h, decide_eq_false h, isS_app]
      exact ⟨fun h => ⟨⟨h.1, h.2.1⟩, h.2.2⟩, fun h => ⟨h.1.1, h.1.2, h.2⟩⟩

theorem lastTo_app : ∀ {l : List El} {x : El} {to : Int}, lastTo to (l ++ [x]) = if x.2.2.size = 0 then x.2.1 else lastTo to l
  | [], _, _ => rfl
  | y :: l, x, to => by rw [List.cons_append, lastTo, lastTo_app, lastTo]

theorem lastPre_app : ∀ {l : List El} {x : El} {p : Option Bool}, lastPre p (l ++ [x]) = some (decide (x.2.2.size = 0))
  | [], _, _ => rfl
  | y :: l, x, p => by rw [List.cons_append, lastPre, lastPre_app]

theorem isS_isL {base : Int} : ∀ {l : List El} {size to : Int} {pre : Option Bool}, isS base to pre l → size + sumK l + sumT l ≤ 20000 → isL base size to pre l = true
  | [], _, _, _, _, _ => rfl
  | x :: r, size, to, pre, h, hs => by
    have nn : ∀ {r : List El} {to : Int} {pre : Option Bool}, isS base to pre r → 0 ≤ sumK r := by
      intro r
      induction r with
      | nil => intro _ _ _; simp [sumK]
      | cons y r ih =>
        intro to pre h
        rw [isS] at h
        split at h
        · have := ih h.2; have := h.1.2.2.1; simp only [sumK]; omega
        · have := ih h.2; have := h.1.1; have := h.1.2.1; simp only [sumK]; omega
    rw [isS] at h
    simp only [sumK, sumT] at hs
    rw [isL]
    by_cases hz : x.2.2.size = 0
    · rw [if_pos hz] at h ⊢
      have hn := nn h.2
      rw [isS_isL h.2 (by omega), decide_eq_true ⟨h.1.1, h.1.2.1, h.1.2.2.1, h.1.2.2.2, by omega⟩]
      rfl
    · rw [if_neg hz] at h ⊢
      have hn := nn h.2
      have h1 := h.1.1
      have h2 := h.1.2.1
      rw [isS_isL h.2 (by omega), decide_eq_true ⟨h.1.1, h.1.2.1, h.1.2.2.1, by omega⟩, h.1.2.2.2]
      rfl

/-- What a maker has made, up to a place. -/
def Made (base : Int) (acc : List El) (a : Int) : Prop := isS base 0 none acc ∧ lastTo 0 acc ≤ a ∧ 0 ≤ a ∧ a ≤ base

theorem made_copy {base a f : Int} {acc : List El} (h : Made base acc a) (h1 : a ≤ f) (h2 : f ≤ base) : Made base (mkCopy acc a f) f := by
  obtain ⟨m1, m2, m3, m4⟩ := h
  by_cases he : acc = []
  · subst he
    rw [mkCopy_nil]
    by_cases hf : a = f
    · rw [if_pos hf]; exact ⟨m1, by rw [lastTo]; omega, by omega, h2⟩
    · rw [if_neg hf]
      refine ⟨?_, ?_, by omega, h2⟩
      · rw [isS, if_pos empty_size]
        exact ⟨⟨m3, .inr (by simp), by simp only; omega, h2⟩, trivial⟩
      · rw [lastTo, if_pos empty_size, lastTo]; simp
  · obtain ⟨l, p, rfl⟩ := split_last he
    rw [mkCopy_app]
    by_cases hf : a = f
    · rw [if_pos hf]; exact ⟨m1, by omega, by omega, h2⟩
    · rw [if_neg hf]
      have m1' := m1
      rw [isS_app] at m1'
      obtain ⟨i1, i2⟩ := m1'
      rw [lastTo_app] at m2
      by_cases hp : p.2.2.size = 0 ∧ p.2.1 = a
      · rw [if_pos hp]
        rw [isS, if_pos hp.1] at i2
        refine ⟨?_, ?_, by omega, h2⟩
        · rw [isS_app]
          refine ⟨i1, ?_⟩
          rw [isS, if_pos (show (p.1, (f, p.2.2)).2.2.size = 0 from hp.1)]
          have := i2.1.2.2.1
          exact ⟨⟨i2.1.1, i2.1.2.1, by simp only; omega, h2⟩, trivial⟩
        · rw [lastTo_app, if_pos (show (p.1, (f, p.2.2)).2.2.size = 0 from hp.1)]
          simp
      · rw [if_neg hp]
        refine ⟨?_, ?_, by omega, h2⟩
        · rw [isS_app]
          refine ⟨m1, ?_⟩
          rw [isS, if_pos empty_size, lastTo_app, lastPre_app]
          refine ⟨⟨by simpa using m2, ?_, by simp only; omega, h2⟩, trivial⟩
          by_cases hz : p.2.2.size = 0
          · rw [if_pos hz] at m2 ⊢
            left
            simp only
            have : p.2.1 ≠ a := fun e => hp ⟨hz, e⟩
            omega
          · right
            rw [decide_eq_false hz]
            simp
        · rw [lastTo_app, if_pos empty_size]; simp

theorem made_put {base a : Int} {acc : List El} {s : ByteArray} (h : Made base acc a) (hv : uvalid s = true) : Made base (mkPut acc s) a := by
  obtain ⟨m1, m2, m3, m4⟩ := h
  by_cases he : acc = []
  · subst he
    rw [mkPut_nil]
    by_cases hz : s.size = 0
    · rw [if_pos hz]; exact ⟨m1, m2, m3, m4⟩
    · rw [if_neg hz]
      refine ⟨?_, ?_, m3, m4⟩
      · rw [isS, if_neg hz]
        exact ⟨⟨rfl, rfl, by simp, hv⟩, trivial⟩
      · rw [lastTo, if_neg hz, lastTo]; exact m3
  · obtain ⟨l, p, rfl⟩ := split_last he
    rw [mkPut_app]
    by_cases hz : s.size = 0
    · rw [if_pos hz]; exact ⟨m1, m2, m3, m4⟩
    · rw [if_neg hz]
      have m1' := m1
      rw [isS_app] at m1'
      obtain ⟨i1, i2⟩ := m1'
      by_cases hp : p.2.2.size = 0
      · rw [if_pos hp]
        refine ⟨?_, ?_, m3, m4⟩
        · rw [isS_app]
          refine ⟨m1, ?_⟩
          rw [isS, if_neg hz, lastPre_app, decide_eq_true hp]
          exact ⟨⟨rfl, rfl, by simp, hv⟩, trivial⟩
        · rw [lastTo_app, if_neg hz]; exact m2
      · rw [if_neg hp]
        rw [isS, if_neg hp] at i2
        have hz2 : ¬ (p.2.2 ++ s).size = 0 := by rw [bsize_app]; omega
        refine ⟨?_, ?_, m3, m4⟩
        · rw [isS_app]
          refine ⟨i1, ?_⟩
          rw [isS, if_neg hz2]
          exact ⟨⟨i2.1.1, i2.1.2.1, i2.1.2.2.1, uvalid_app i2.1.2.2.2 hv⟩, trivial⟩
        · rw [lastTo_app, if_neg hz2]
          rw [lastTo_app, if_neg hp] at m2
          exact m2

theorem mkPut_sumK {l : List El} {s : ByteArray} : sumK (mkPut l s) = sumK l := by
  by_cases h : l = []
  · subst h; rw [mkPut_nil]; split <;> simp [sumK]
  · obtain ⟨m, p, rfl⟩ := split_last h
    rw [mkPut_app]
    split
    · rfl
    · split <;> simp [sumK_app, sumK]

theorem mkCopy_sumK {l : List El} {a f : Int} : sumK (mkCopy l a f) = sumK l + (f - a) := by
  by_cases h : l = []
  · subst h; rw [mkCopy_nil]; split
    · simp only [sumK]; omega
    · simp only [sumK]; omega
  · obtain ⟨m, p, rfl⟩ := split_last h
    rw [mkCopy_app]
    split
    · omega
    · split
      · rename_i h2
        have := h2.2
        simp only [sumK_app, sumK]; omega
      · simp only [sumK_app, sumK]; omega

theorem apS_app {s : List Int} : ∀ {l r : List El}, apS s (l ++ r) = apS s l ++ apS s r
  | [], r => rfl
  | x :: l, r => by simp only [List.cons_append, apS, apS_app, List.append_assoc]

theorem txt_empty : txt ByteArray.empty = [] := rfl

theorem apS_put {s : List Int} {l : List El} {t : ByteArray} : apS s (mkPut l t) = apS s l ++ txt t := by
  have hz : t.size = 0 → txt t = [] := fun h => List.eq_nil_of_length_eq_zero (by rw [txt_len]; exact h)
  by_cases h : l = []
  · subst h; rw [mkPut_nil]; split
    · rename_i h; rw [hz h]; rfl
    · simp [apS]
  · obtain ⟨m, p, rfl⟩ := split_last h
    rw [mkPut_app]
    split
    · rename_i h; rw [hz h]; simp
    · split
      · rw [apS_app]; simp [apS]
      · rw [apS_app, apS_app]; simp [apS, txt_app]

theorem apS_copy {base a f : Int} {s : List Int} {l : List El} (h : Made base l a) (h1 : a ≤ f) (h2 : f ≤ base) : apS s (mkCopy l a f) = apS s l ++ (s.drop a.toNat).take (f - a).toNat := by
  obtain ⟨m1, m2, m3, m4⟩ := h
  by_cases he : l = []
  · subst he; rw [mkCopy_nil]; split
    · rename_i h; rw [h]; simp [apS]
    · simp [apS, txt_empty]
  · obtain ⟨m, p, rfl⟩ := split_last he
    rw [mkCopy_app]
    split
    · rename_i h; rw [h]; simp
    · split
      · rename_i hp
        rw [isS_app] at m1
        have i2 := m1.2
        rw [isS, if_pos hp.1] at i2
        have hl : 0 ≤ lastTo 0 m := by
          have key : ∀ (r : List El) (to : Int) (pre : Option Bool), 0 ≤ to → isS base to pre r → 0 ≤ lastTo to r := by
            intro r
            induction r with
            | nil => intro to pre h0 _; exact h0
            | cons y r ih =>
              intro to pre h0 hr
              rw [isS] at hr
              rw [lastTo]
              split at hr
              · rename_i hy; rw [if_pos hy]; have := hr.1.1; have := hr.1.2.2.1; exact ih _ _ (by omega) hr.2
              · rename_i hy; rw [if_neg hy]; exact ih _ _ h0 hr.2
          exact key m 0 none (by omega) m1.1
        have q1 := i2.1.1
        have q2 := i2.1.2.2.1
        have htz : txt p.2.2 = [] := List.eq_nil_of_length_eq_zero (by rw [txt_len]; exact hp.1)
        rw [apS_app, apS_app]
        simp only [apS, htz, List.append_nil, List.append_assoc]
        congr 1
        rw [hp.2]
        have e1 : (f - p.1).toNat = (a - p.1).toNat + (f - a).toNat := by omega
        have e2 : a.toNat = p.1.toNat + (a - p.1).toNat := by omega
        rw [e1, e2, List.take_add, List.drop_drop]
      · rw [apS_app]; simp [apS, txt_empty]

/-- What changes make of a text's bytes. -/
def chS (s : List Int) : Int → List El → List Int
  | _, [] => []
  | a, c :: r => ((s.drop a.toNat).take (c.1 - a).toNat ++ txt c.2.2) ++ chS s c.2.1 r

theorem bld_ok {base : Int} {s : List Int} : ∀ {l acc : List El} {a : Int} {prev : Option El}, Made base acc a → rngL base l = true → ordL prev l = true → valL l = true → (∀ p, prev = some p → p.2.1 = a) → (prev = none → a = 0) →
    Made base (bld acc a l).1 (bld acc a l).2 ∧ sumT (bld acc a l).1 = sumT acc + sumT l ∧ sumK (bld acc a l).1 = sumK acc + ((bld acc a l).2 - a) - sumK l ∧ apS s (bld acc a l).1 = apS s acc ++ chS s a l
  | [], acc, a, prev, hm, _, _, _, _, _ => ⟨hm, by simp [bld, sumT], by simp only [bld, sumK]; omega, by simp [bld, chS]⟩
  | c :: r, acc, a, prev, hm, hr, ho, hv, hp, hn => by
    rw [show rngL base (c :: r) = (decide (0 ≤ c.1 ∧ c.1 ≤ c.2.1 ∧ c.2.1 ≤ base) && rngL base r) from rfl, Bool.and_eq_true, decide_eq_true_eq] at hr
    rw [show valL (c :: r) = (uvalid c.2.2 && valL r) from rfl, Bool.and_eq_true] at hv
    obtain ⟨⟨r1, r2, r3⟩, hr'⟩ := hr
    have hac : a ≤ c.1 ∧ ordL (some c) r = true := by
      cases prev with
      | none => rw [hn rfl]; exact ⟨r1, ho⟩
      | some p =>
        rw [ordL, Bool.and_eq_true] at ho
        have h1 := ho.1
        have h2 := hp p rfl
        simp only [Bool.not_eq_true', decide_eq_false_iff_not] at h1
        exact ⟨by omega, ho.2⟩
    have k1 := made_copy hm hac.1 (by omega)
    have k2 := made_put k1 hv.1
    have k3 : Made base (mkPut (mkCopy acc a c.1) c.2.2) c.2.1 := ⟨k2.1, by have := k2.2.1; omega, by omega, r3⟩
    obtain ⟨e1, e2, e3, e4⟩ := bld_ok (s := s) k3 hr' hac.2 hv.2 (fun p hp => by cases hp; rfl) (fun h => by cases h)
    rw [bld]
    refine ⟨e1, by rw [e2, mkPut_sumT, mkCopy_sumT]; simp only [sumT]; omega, by rw [e3, mkPut_sumK, mkCopy_sumK]; simp only [sumK]; omega, ?_⟩
    rw [e4, apS_put, apS_copy hm hac.1 (by omega)]
    simp only [chS, List.append_assoc]

theorem lng_zero : ∀ {l : List El} {left : Int}, lngL left l = 0 → (sumT l : Int) ≤ left ∨ l = []
  | [], _, _ => .inr rfl
  | c :: r, left, h => by
    rw [lngL] at h
    split at h
    · cases h
    · left
      simp only [sumT]
      rcases lng_zero h with h' | h'
      · omega
      · subst h'; simp only [sumT]; omega

/-- What is built is a delta; what it makes. -/
theorem built_ok {base : Int} {l : List El} {s : List Int} (h : (bldD base l).2.2 = 0) : 0 ≤ base ∧ base ≤ 20000 ∧ rngL base l = true ∧ ordL none l = true ∧ valL l = true ∧ (bldD base l).1 = base ∧ isD base (bldD base l).2.1 = true ∧
    sumT (bldD base l).2.1 = sumT l ∧ sumK (bldD base l).2.1 = base - sumK l ∧ apS s (bldD base l).2.1 = chS s 0 l ++ (s.drop (bld [] 0 l).2.toNat).take (base - (bld [] 0 l).2).toNat := by
  unfold bldD at *
  split at h
  · rename_i h1
    exact absurd h h1
  · rename_i h1
    split at h
    · cases h
    · rename_i h2
      rw [if_neg h1, if_neg h2]
      have h1' : chk base l = 0 := by simpa using h1
      unfold chk at h1'
      split at h1'
      · cases h1'
      · split at h1'
        · cases h1'
        · split at h1'
          · cases h1'
          · split at h1'
            · cases h1'
            · rename_i a1 a2 a3 a4
              have b2 : rngL base l = true := by simpa using a2
              have b3 : ordL none l = true := by simpa using a3
              have b4 : valL l = true := by simpa using a4
              have hm : Made base [] 0 := ⟨trivial, by simp [lastTo], by omega, by omega⟩
              obtain ⟨e1, e2, e3, e4⟩ := bld_ok (s := s) hm b2 b3 b4 (fun p hp => by cases hp) (fun _ => rfl)
              have hle := e1.2.2.2
              have f1 := made_copy e1 hle (by omega)
              have f2 := mkCopy_sumK (l := (bld [] 0 l).1) (a := (bld [] 0 l).2) (f := base)
              have f3 := mkCopy_sumT (l := (bld [] 0 l).1) (f := (bld [] 0 l).2) (t := base)
              have f4 := apS_copy (s := s) e1 hle (by omega)
              simp only [sumT, sumK, apS] at e2 e3 e4
              have hlong : base - sumK l + sumT l ≤ 20000 := by
                rcases lng_zero h1' with h' | h'
                · omega
                · subst h'; simp only [sumK, sumT]; omega
              refine ⟨by omega, by omega, b2, b3, b4, rfl, ?_, by rw [f3, e2]; omega, by rw [f2, e3]; omega, by rw [f4, e4]; rfl⟩
              have h60 : (mkCopy (bld [] 0 l).1 (bld [] 0 l).2 base).length ≤ 60 := by omega
              unfold isD
              rw [decide_eq_true ⟨by omega, by omega, h60⟩, isS_isL f1.1 (by rw [f2, f3, e2, e3]; omega)]
              rfl

theorem cellsC_add : ∀ {m n : Nat} {f : Int}, cellsC f (m + n) = cellsC f m ++ cellsC (f + m) n
  | 0, n, f => by simp [cellsC]
  | m + 1, n, f => by
    rw [show m + 1 + n = (m + n) + 1 by omega, cellsC, cellsC_add, cellsC, show f + 1 + (m : Int) = f + ((m + 1 : Nat) : Int) by omega]
    rfl

theorem cellsT_app {a b : ByteArray} : cellsT (a ++ b) = cellsT a ++ cellsT b := by
  unfold cellsT
  rw [txt_app, List.map_append]

theorem cellsT_nil {t : ByteArray} (h : t.size = 0) : cellsT t = [] := List.eq_nil_of_length_eq_zero (by rw [cellsT_len]; exact h)

theorem cells_app : ∀ {l r : List El}, cells (l ++ r) = cells l ++ cells r
  | [], r => rfl
  | x :: l, r => by simp only [List.cons_append, cells, cells_app, List.append_assoc]

theorem cells_put {base : Int} {l : List El} {t : ByteArray} (hm : isS base 0 none l) : cells (mkPut l t) = cells l ++ cellsT t := by
  by_cases h : l = []
  · subst h; rw [mkPut_nil]; split
    · rename_i h; rw [cellsT_nil h]; rfl
    · simp [cells, cellsC]
  · obtain ⟨m, p, rfl⟩ := split_last h
    rw [mkPut_app]
    split
    · rename_i h; rw [cellsT_nil h]; simp
    · split
      · rw [cells_app]; simp [cells, cellsC]
      · rename_i hp
        rw [isS_app] at hm
        have i2 := hm.2
        rw [isS, if_neg hp] at i2
        rw [cells_app, cells_app]
        simp [cells, cellsT_app, i2.1.1, i2.1.2.1, cellsC]

theorem cells_copy {base a f : Int} {l : List El} (h : Made base l a) (h1 : a ≤ f) : cells (mkCopy l a f) = cells l ++ cellsC a (f - a).toNat := by
  obtain ⟨m1, m2, m3, m4⟩ := h
  have ce : cellsT ByteArray.empty = [] := cellsT_nil rfl
  by_cases he : l = []
  · subst he; rw [mkCopy_nil]; split
    · rename_i h; rw [h]; simp [cells, cellsC]
    · simp [cells, ce]
  · obtain ⟨m, p, rfl⟩ := split_last he
    rw [mkCopy_app]
    split
    · rename_i h; rw [h]; simp [cellsC]
    · split
      · rename_i hp
        rw [isS_app] at m1
        have i2 := m1.2
        rw [isS, if_pos hp.1] at i2
        have q2 := i2.1.2.2.1
        have htz := cellsT_nil hp.1
        rw [cells_app, cells_app]
        simp only [cells, htz, List.append_nil, List.nil_append, List.append_assoc]
        congr 1
        rw [hp.2]
        rw [show (f - p.1).toNat = (a - p.1).toNat + (f - a).toNat by omega, cellsC_add, show p.1 + ((a - p.1).toNat : Int) = a by omega]
      · rw [cells_app]; simp [cells, ce]

/-- What changes make, cell by cell. -/
def chC : Int → List El → List Ce
  | _, [] => []
  | a, c :: r => (cellsC a (c.1 - a).toNat ++ cellsT c.2.2) ++ chC c.2.1 r

theorem bld_cells {base : Int} : ∀ {l acc : List El} {a : Int} {prev : Option El}, Made base acc a → rngL base l = true → ordL prev l = true → valL l = true → (∀ p, prev = some p → p.2.1 = a) → (prev = none → a = 0) →
    Made base (bld acc a l).1 (bld acc a l).2 ∧ cells (bld acc a l).1 = cells acc ++ chC a l
  | [], acc, a, prev, hm, _, _, _, _, _ => ⟨hm, by simp [bld, chC]⟩
  | c :: r, acc, a, prev, hm, hr, ho, hv, hp, hn => by
    rw [show rngL base (c :: r) = (decide (0 ≤ c.1 ∧ c.1 ≤ c.2.1 ∧ c.2.1 ≤ base) && rngL base r) from rfl, Bool.and_eq_true, decide_eq_true_eq] at hr
    rw [show valL (c :: r) = (uvalid c.2.2 && valL r) from rfl, Bool.and_eq_true] at hv
    obtain ⟨⟨r1, r2, r3⟩, hr'⟩ := hr
    have hac : a ≤ c.1 ∧ ordL (some c) r = true := by
      cases prev with
      | none => rw [hn rfl]; exact ⟨r1, ho⟩
      | some p =>
        rw [ordL, Bool.and_eq_true] at ho
        have h1 := ho.1
        have h2 := hp p rfl
        simp only [Bool.not_eq_true', decide_eq_false_iff_not] at h1
        exact ⟨by omega, ho.2⟩
    have k1 := made_copy hm hac.1 (by omega)
    have k2 := made_put k1 hv.1
    have k3 : Made base (mkPut (mkCopy acc a c.1) c.2.2) c.2.1 := ⟨k2.1, by have := k2.2.1; omega, by omega, r3⟩
    obtain ⟨e1, e2⟩ := bld_cells k3 hr' hac.2 hv.2 (fun p hp => by cases hp; rfl) (fun h => by cases h)
    rw [bld]
    refine ⟨e1, ?_⟩
    rw [e2, cells_put k1.1, cells_copy hm hac.1]
    simp only [chC, List.append_assoc]

/-- How many at the head are put in. -/
def runT : List Ce → Nat
  | [] => 0
  | c :: r => if c.1 < 0 then runT r + 1 else 0

/-- How many at the head go on from a place. -/
def runC : Int → List Ce → Nat
  | _, [] => 0
  | a, c :: r => if c.1 = a + 1 then runC c.1 r + 1 else 0

/-- Cells, told. -/
def told : Nat → List Ce → List El
  | 0, _ => []
  | _, [] => []
  | m + 1, c :: r =>
    if c.1 < 0 then (0, (0, ofBytes (c.2 :: (r.take (runT r)).map (·.2)))) :: told m (r.drop (runT r))
    else (c.1, (c.1 + runC c.1 r + 1, ByteArray.empty)) :: told m (r.drop (runC c.1 r))

def mvE (p : Int) : Int → Int → List El → Int × Int
  | n, w, [] => (n, w)
  | n, w, x :: r => if x.2.2.size = 0 then (if x.1 ≥ p then (n, w) else if x.2.1 > p then (n + (w + min x.2.1 p - x.1), 0) else mvE p (n + (w + min x.2.1 p - x.1)) 0 r) else mvE p n (w + x.2.2.size) r

theorem move_loop {K : Nat} {d : List El} {a base p : Int} (hp : mn2 (mx2 a 0) base = p) (hb : base ≤ 20000) (hl : d.length ≤ 1000) : ∀ (rest : List El) (j k : Nat) (n w : Int), d.drop j = rest → rest.length < k → (∀ x ∈ rest, okE base x) → 0 ≤ n → 0 ≤ w → n + w + sumK rest + sumT rest ≤ 1000000 →
    offset_Move.l0 K d a base k n w (j : Int) = some (mvE p n w rest)
  | [], j, k, n, w, hd, hk, hx, h0, h1, h2 => by
    obtain ⟨k, rfl⟩ : ∃ m, k = m + 1 := ⟨k - 1, by simp at hk; omega⟩
    have := drop_nil hd
    rw [offset_Move.l0, if_neg (by simp; omega)]
    rfl
  | x :: rest, j, k, n, w, hd, hk, hx, h0, h1, h2 => by
    obtain ⟨k, rfl⟩ : ∃ m, k = m + 1 := ⟨k - 1, by simp at hk; omega⟩
    obtain ⟨hj, hgd, hd'⟩ := drop_cons hd el0
    have hk' : rest.length < k := by simp at hk; omega
    have hw : IntKind.wrap .i64 ((j : Int) + 1) = ((j + 1 : Nat) : Int) := by rw [w64 (by omega) (by omega)]; omega
    obtain ⟨o1, o2, o3, o4⟩ := hx x (by simp)
    have hr : ∀ y ∈ rest, okE base y := fun y hy => hx y (by simp [hy])
    have hnn := sumK_nonneg hr
    simp only [sumK, sumT] at h2
    rw [offset_Move.l0]
    simp only [Int.toNat_natCast, hgd, hw, hp, mn2_eq]
    rw [if_pos (by simpa using hj), if_pos ⟨by omega, by omega⟩, isCopy_is, Option.bind_some, mvE]
    by_cases hz : x.2.2.size = 0
    · rw [decide_eq_true hz, if_neg (by simp), if_pos hz]
      by_cases c1 : x.1 ≥ p
      · rw [if_pos (by simpa using c1), if_pos c1]
      · rw [if_neg (by simpa using c1), if_neg c1, w64 (n := w + min x.2.1 p) (by omega) (by omega), w64 (n := w + min x.2.1 p - x.1) (by omega) (by omega), w64 (n := n + (w + min x.2.1 p - x.1)) (by omega) (by omega)]
        by_cases c2 : x.2.1 > p
        · rw [if_pos (by simpa using c2), if_pos c2]
        · rw [if_neg (by simpa using c2), if_neg c2, move_loop hp hb hl rest (j + 1) k _ _ hd' hk' hr (by omega) (by omega) (by omega)]
    · rw [decide_eq_false hz, if_pos (by simp), if_neg hz, w64 (n := w + (x.2.2.size : Int)) (by omega) (by omega), move_loop hp hb hl rest (j + 1) k _ _ hd' hk' hr (by omega) (by omega) (by omega)]

theorem mvE_ok {base p : Int} (hp : 0 ≤ p) : ∀ {l : List El} {n w : Int}, (∀ x ∈ l, okE base x) → 0 ≤ n → 0 ≤ w → n ≤ (mvE p n w l).1 ∧ 0 ≤ (mvE p n w l).2 ∧ (mvE p n w l).1 + (mvE p n w l).2 ≤ n + w + sumK l + sumT l
  | [], n, w, _, h0, h1 => by simp only [mvE, sumK, sumT]; omega
  | x :: r, n, w, hx, h0, h1 => by
    obtain ⟨o1, o2, o3, o4⟩ := hx x (by simp)
    have hr : ∀ y ∈ r, okE base y := fun y hy => hx y (by simp [hy])
    have hnn := sumK_nonneg hr
    rw [mvE]
    simp only [sumK, sumT]
    split
    · split
      · simp only; omega
      · split
        · simp only; omega
        · have := mvE_ok hp (l := r) (n := n + (w + min x.2.1 p - x.1)) (w := 0) hr (by omega) (by omega)
          omega
    · have := mvE_ok hp (l := r) (n := n) (w := w + x.2.2.size) hr h0 (by omega)
      omega

/-- Where a place goes. -/
def mv (base : Int) (d : List El) (a : Int) (after : Bool) : Int := if isD base d = true then (if after = true then (mvE (min (max a 0) base) 0 0 d).1 + (mvE (min (max a 0) base) 0 0 d).2 else (mvE (min (max a 0) base) 0 0 d).1) else 0

theorem move_is {K : Nat} {d : List El} {base a : Int} {after : Bool} (hK : 30000 ≤ K) : offset_Move K base d a after = some (mv base d a after) := by
  unfold offset_Move mv
  rw [is_is hK, Option.bind_some]
  by_cases h : isD base d = true
  · obtain ⟨h1, h2, h3, h4, h5⟩ := isD_ok h
    have hn := sumK_nonneg h4
    have e := move_loop (K := K) (d := d) (a := a) (base := base) rfl h2 (by omega) d 0 K 0 0 rfl (by omega) h4 (by omega) (by omega) (by omega)
    rw [Int.natCast_zero, mn2_eq, mx2_eq] at e
    obtain ⟨m1, m2, m3⟩ := mvE_ok (base := base) (p := min (max a 0) base) (by omega) (l := d) (n := 0) (w := 0) h4 (by omega) (by omega)
    rw [h, if_neg (by simp), if_pos rfl, e, Option.bind_some]
    cases after with
    | false => rfl
    | true => rw [if_pos rfl, if_pos rfl, w64 (by omega) (by omega)]
  · rw [if_pos (by simpa using h), if_neg h]

theorem isL_isS {base : Int} : ∀ {l : List El} {size to : Int} {pre : Option Bool}, isL base size to pre l = true → isS base to pre l
  | [], _, _, _, _ => trivial
  | x :: r, size, to, pre, h => by
    rw [isL] at h
    rw [isS]
    split at h
    · rename_i hz
      rw [Bool.and_eq_true, decide_eq_true_eq] at h
      rw [if_pos hz]
      exact ⟨⟨h.1.1, h.1.2.1, h.1.2.2.1, h.1.2.2.2.1⟩, isL_isS h.2⟩
    · rename_i hz
      rw [Bool.and_eq_true, Bool.and_eq_true, decide_eq_true_eq] at h
      rw [if_neg hz]
      exact ⟨⟨h.1.1.1, h.1.1.2.1, h.1.1.2.2.1, h.1.2⟩, isL_isS h.2⟩

theorem isD_isS {base : Int} {l : List El} (h : isD base l = true) : isS base 0 none l := by
  unfold isD at h
  rw [Bool.and_eq_true] at h
  exact isL_isS h.2

def mvC (p : Int) : Int → Int → List Ce → Int
  | _, acc, [] => acc
  | i, acc, c :: r => mvC p (i + 1) (if 0 ≤ c.1 ∧ c.1 < p then i + 1 else acc) r

theorem mvC_T {p : Int} {R : List Ce} {acc : Int} : ∀ {l : List Int} {i : Int}, mvC p i acc (l.map (fun b => ((-1 : Int), b)) ++ R) = mvC p (i + l.length) acc R
  | [], i => by simp
  | b :: l, i => by
    rw [List.map_cons, List.cons_append, mvC, if_neg (by simp), mvC_T]
    congr 1
    simp only [List.length_cons]; omega

theorem mvC_C {p : Int} {R : List Ce} : ∀ {m : Nat} {f i acc : Int}, 0 ≤ f → mvC p i acc (cellsC f m ++ R) = mvC p (i + m) (if f < p ∧ 1 ≤ m then i + min (m : Int) (p - f) else acc) R
  | 0, f, i, acc, h => by simp [cellsC]
  | m + 1, f, i, acc, h => by
    rw [cellsC, List.cons_append, mvC, mvC_C (by omega), show i + 1 + (m : Int) = i + ((m + 1 : Nat) : Int) by omega]
    congr 1
    by_cases h1 : f < p
    · rw [if_pos (show f < p ∧ 1 ≤ m + 1 from ⟨h1, by omega⟩), if_pos (show 0 ≤ ((f, (0 : Int)) : Ce).1 ∧ ((f, (0 : Int)) : Ce).1 < p from ⟨h, h1⟩)]
      by_cases h2 : f + 1 < p ∧ 1 ≤ m
      · rw [if_pos h2]; omega
      · rw [if_neg h2]; omega
    · rw [if_neg (show ¬ (f < p ∧ 1 ≤ m + 1) from fun h' => h1 h'.1), if_neg (show ¬ (0 ≤ ((f, (0 : Int)) : Ce).1 ∧ ((f, (0 : Int)) : Ce).1 < p) from fun h' => h1 h'.2), if_neg (by omega)]

theorem mvC_stop {base p : Int} : ∀ {l : List El} {to : Int} {pre : Option Bool} {i acc : Int}, 0 ≤ to → isS base to pre l → p ≤ to → mvC p i acc (cells l) = acc
  | [], to, pre, i, acc, h0, h, hp => rfl
  | x :: r, to, pre, i, acc, h0, h, hp => by
    rw [isS] at h
    rw [cells]
    split at h
    · rename_i hz
      rw [cellsT_nil hz, List.nil_append, mvC_C (by have := h.1.1; omega), if_neg (by have := h.1.1; omega)]
      exact mvC_stop (by have := h.1.1; have := h.1.2.2.1; omega) h.2 (by have := h.1.1; have := h.1.2.2.1; omega)
    · have hcc : cellsC x.1 (x.2.1 - x.1).toNat = [] := by rw [h.1.1, h.1.2.1]; rfl
      rw [hcc, List.append_nil, show cellsT x.2.2 = (txt x.2.2).map (fun b => ((-1 : Int), b)) from rfl, mvC_T]
      exact mvC_stop h0 h.2 hp

theorem runT_neg {A R : List Ce} (h : ∀ c ∈ A, c.1 < 0) : runT (A ++ R) = A.length + runT R := by
  induction A with
  | nil => simp
  | cons c A ih =>
    rw [List.cons_append, runT, if_pos (h c (by simp)), ih fun d hd => h d (by simp [hd])]
    simp only [List.length_cons]; omega

theorem runT_pos {c : Ce} {R : List Ce} (h : 0 ≤ c.1) : runT (c :: R) = 0 := by rw [runT, if_neg (by omega)]

theorem cellsT_neg {t : ByteArray} : ∀ c ∈ cellsT t, c.1 < 0 := by
  intro c hc
  obtain ⟨b, _, rfl⟩ := List.mem_map.1 hc
  simp

theorem mv_cells {base p : Int} (hp : 0 ≤ p) : ∀ {l : List El} {to : Int} {pre : Option Bool} {A B : List Ce} {n w : Nat}, 0 ≤ to → isS base to pre l → A.length = n → B.length = w → (∀ c ∈ B, c.1 < 0) →
    ∃ n' w' : Nat, mvE p n w l = ((n' : Int), (w' : Int)) ∧ mvC p (n + w : Nat) n (cells l) = n' ∧ runT ((A ++ (B ++ cells l)).drop n') = w' ∧ n' ≤ n + w + (cells l).length
  | [], to, pre, A, B, n, w, h0, h, hA, hB, hB2 => by
    refine ⟨n, w, rfl, rfl, ?_, by omega⟩
    rw [← hA, List.drop_left]
    simp only [cells, List.append_nil]
    have := runT_neg (R := []) hB2
    rw [List.append_nil] at this
    rw [this, hB]; rfl
  | x :: r, to, pre, A, B, n, w, h0, h, hA, hB, hB2 => by
    rw [isS] at h
    rw [mvE, cells]
    by_cases hz : x.2.2.size = 0
    · rw [if_pos hz] at h
      rw [if_pos hz, cellsT_nil hz, List.nil_append]
      have q1 := h.1.1
      have q2 := h.1.2.2.1
      obtain ⟨m, hm⟩ : ∃ m : Nat, (x.2.1 - x.1).toNat = m := ⟨_, rfl⟩
      rw [hm, mvC_C (by omega)]
      by_cases c1 : x.1 ≥ p
      · rw [if_pos c1]
        refine ⟨n, w, rfl, ?_, ?_, by omega⟩
        · rw [if_neg (by omega), mvC_stop (by omega) h.2 (by omega)]
        · obtain ⟨m, rfl⟩ : ∃ k, m = k + 1 := ⟨m - 1, by omega⟩
          rw [← hA, List.drop_left, runT_neg hB2, cellsC, List.cons_append, runT_pos (by simp only; omega), hB]; omega
      · rw [if_neg c1]
        by_cases c2 : x.2.1 > p
        · rw [if_pos c2]
          refine ⟨n + w + (p - x.1).toNat, 0, ?_, ?_, ?_, by simp only [List.length_append, cellsC_len]; omega⟩
          · congr 1
            omega
          · rw [if_pos ⟨by omega, by omega⟩, mvC_stop (by omega) h.2 (by omega)]
            omega
          · obtain ⟨k, hk⟩ : ∃ k : Nat, (p - x.1).toNat = k := ⟨_, rfl⟩
            obtain ⟨j, hj⟩ : ∃ j : Nat, m = k + (j + 1) := ⟨m - k - 1, by omega⟩
            rw [hk, hj, cellsC_add, ← hA, ← hB]
            have e : A ++ (B ++ (cellsC x.1 k ++ cellsC (x.1 + k) (j + 1) ++ cells r)) = (A ++ B ++ cellsC x.1 k) ++ (cellsC (x.1 + k) (j + 1) ++ cells r) := by simp only [List.append_assoc]
            have e2 : A.length + B.length + k = (A ++ B ++ cellsC x.1 k).length := by simp [cellsC_len]; omega
            rw [e, e2, List.drop_left, cellsC, List.cons_append, runT_pos (by simp only; omega)]
        · rw [if_neg c2]
          have hmin : min x.2.1 p = x.2.1 := by omega
          obtain ⟨n', w', e1, e2, e3, e4⟩ := mv_cells hp (l := r) (to := x.2.1) (pre := some true) (A := A ++ B ++ cellsC x.1 m) (B := []) (n := n + w + m) (w := 0) (by omega) h.2 (by simp [cellsC_len, hA, hB]; omega) rfl (by simp)
          refine ⟨n', w', ?_, ?_, ?_, by simp only [List.length_append, cellsC_len]; omega⟩
          · rw [hmin, show ((n : Int) + ((w : Int) + x.2.1 - x.1)) = ((n + w + m : Nat) : Int) by omega]
            exact e1
          · rw [if_pos ⟨by omega, by omega⟩]
            rw [← e2]
            congr 1 <;> omega
          · rw [← e3]
            simp only [List.append_assoc, List.nil_append]
    · rw [if_neg hz] at h
      have hcc : cellsC x.1 (x.2.1 - x.1).toNat = [] := by rw [h.1.1, h.1.2.1]; rfl
      rw [if_neg hz, hcc, List.append_nil]
      obtain ⟨n', w', e1, e2, e3, e4⟩ := mv_cells hp (l := r) (to := to) (pre := some false) (A := A) (B := B ++ cellsT x.2.2) (n := n) (w := w + x.2.2.size) h0 h.2 hA (by simp [hB, cellsT_len]) (by
        intro c hc
        rcases List.mem_append.1 hc with hc | hc
        · exact hB2 c hc
        · exact cellsT_neg c hc)
      refine ⟨n', w', ?_, ?_, ?_, by simp only [List.length_append, cellsT_len]; omega⟩
      · rw [← e1]; congr 1
      · rw [show cellsT x.2.2 = (txt x.2.2).map (fun b => ((-1 : Int), b)) from rfl, mvC_T, ← e2, txt_len]
        congr 1; omega
      · rw [← e3]
        simp only [List.append_assoc]

theorem rmove_loop {K : Nat} {l : List Ce} {a base p : Int} (hp : mx2 0 (mn2 a base) = p) (hs : l.length ≤ 1000000) : ∀ (rest : List Ce) (j k : Nat) (n : Int), l.drop j = rest → rest.length < k → palinoderef11_Move.l0 K l a base k n (j : Int) = some (mvC p j n rest)
  | [], j, k, n, hd, hk => by
    obtain ⟨k, rfl⟩ : ∃ m, k = m + 1 := ⟨k - 1, by simp at hk; omega⟩
    have := drop_nil hd
    rw [palinoderef11_Move.l0, if_neg (by simp; omega)]
    rfl
  | c :: rest, j, k, n, hd, hk => by
    obtain ⟨k, rfl⟩ : ∃ m, k = m + 1 := ⟨k - 1, by simp at hk; omega⟩
    obtain ⟨hj, hgd, hd'⟩ := drop_cons hd ((0 : Int), (0 : Int))
    have hk' : rest.length < k := by simp at hk; omega
    have hw : IntKind.wrap .i64 ((j : Int) + 1) = ((j + 1 : Nat) : Int) := by rw [w64 (by omega) (by omega)]; omega
    have hin : 0 ≤ (j : Int) ∧ (j : Int) < ((l.length : Nat) : Int) := ⟨by omega, by omega⟩
    rw [palinoderef11_Move.l0]
    simp only [Int.toNat_natCast, hgd, hw, hp, if_pos hin]
    rw [if_pos (by simpa using hj), mvC, show (j : Int) + 1 = ((j + 1 : Nat) : Int) by omega]
    by_cases h1 : c.1 ≥ 0
    · rw [if_pos (by simpa using h1), Option.bind_some]
      by_cases h2 : c.1 < p
      · rw [if_pos (by simpa using h2), if_pos ⟨h1, h2⟩]
        exact rmove_loop hp hs rest (j + 1) k _ hd' hk'
      · rw [if_neg (by simpa using h2), if_neg (fun h => h2 h.2)]
        exact rmove_loop hp hs rest (j + 1) k _ hd' hk'
    · rw [if_neg (by simpa using h1), Option.bind_some, if_neg (by simp), if_neg (fun h => h1 h.1)]
      exact rmove_loop hp hs rest (j + 1) k _ hd' hk'

theorem rrun_loop {K : Nat} {l : List Ce} (hs : l.length ≤ 1000000) : ∀ (rest : List Ce) (j k : Nat), l.drop j = rest → rest.length < k → j ≤ l.length → palinoderef11_Move.l1 K l k (j : Int) = some ((j + runT rest : Nat) : Int)
  | [], j, k, hd, hk, hj => by
    obtain ⟨k, rfl⟩ : ∃ m, k = m + 1 := ⟨k - 1, by simp at hk; omega⟩
    have := drop_nil hd
    rw [palinoderef11_Move.l1, if_neg (by simp; omega), Option.bind_some, if_neg (by simp)]
    rfl
  | c :: rest, j, k, hd, hk, hjl => by
    obtain ⟨k, rfl⟩ : ∃ m, k = m + 1 := ⟨k - 1, by simp at hk; omega⟩
    obtain ⟨hj, hgd, hd'⟩ := drop_cons hd ((0 : Int), (0 : Int))
    have hk' : rest.length < k := by simp at hk; omega
    have hw : IntKind.wrap .i64 ((j : Int) + 1) = ((j + 1 : Nat) : Int) := by rw [w64 (by omega) (by omega)]; omega
    rw [palinoderef11_Move.l1]
    simp only [Int.toNat_natCast, hgd, hw]
    rw [if_pos (by simpa using hj), if_pos ⟨by omega, by omega⟩, Option.bind_some, runT]
    by_cases h : c.1 < 0
    · rw [if_pos (by simpa using h), if_pos h, rrun_loop hs rest (j + 1) k hd' hk' (by omega), show j + 1 + runT rest = j + (runT rest + 1) by omega]
    · rw [if_neg (by simpa using h), if_neg h]
      rfl

theorem rmove_is {K : Nat} {d : List El} {base a : Int} {after : Bool} (hK : 100000 ≤ K) : palinoderef11_Move K base d a after = some (mv base d a after) := by
  unfold palinoderef11_Move mv
  rw [ris_is (by omega), Option.bind_some]
  by_cases h : isD base d = true
  · obtain ⟨h1, h2, h3, h4, h5⟩ := isD_ok h
    have hS := isD_isS h
    have hcl := cells_len h4
    have hn := sumK_nonneg h4
    obtain ⟨n', w', e1, e2, e3, e4⟩ := mv_cells (base := base) (p := min (max a 0) base) (by omega) (l := d) (to := 0) (pre := none) (A := []) (B := []) (n := 0) (w := 0) (by omega) hS rfl rfl (by simp)
    simp only [List.nil_append, Nat.zero_add] at e3 e4
    have em : mvE (min (max a 0) base) 0 0 d = ((n' : Int), (w' : Int)) := e1
    have l1 := rmove_loop (K := K) (l := cells d) (a := a) (base := base) (p := min (max a 0) base) (by rw [mx2_eq, mn2_eq]; omega) (by omega) (cells d) 0 K 0 rfl (by omega)
    have e2' : mvC (min (max a 0) base) ((0 : Nat) : Int) 0 (cells d) = n' := e2
    rw [e2', Int.natCast_zero] at l1
    have l2 := rrun_loop (K := K) (l := cells d) (by omega) ((cells d).drop n') n' K rfl (by simp; omega) (by omega)
    rw [e3] at l2
    rw [h, if_neg (by simp), if_pos rfl, cells_is hK h, Option.bind_some, l1, Option.bind_some, em]
    cases after with
    | false => simp
    | true =>
      rw [if_neg (by simp), l2, if_pos rfl]
      congr 1
  · rw [if_pos (by simpa using h), if_neg h]

/-- Where a place goes, by cells. -/
theorem mv_by {base a : Int} {d : List El} {C : List Ce} {after : Bool} (h : isD base d = true) (hC : cells d = C) : ∃ n : Nat, mvC (min (max a 0) base) 0 0 C = n ∧ n ≤ C.length ∧ mv base d a after = if after = true then ((n + runT (C.drop n) : Nat) : Int) else n := by
  obtain ⟨h1, h2, h3, h4, h5⟩ := isD_ok h
  obtain ⟨n', w', e1, e2, e3, e4⟩ := mv_cells (base := base) (p := min (max a 0) base) (by omega) (l := d) (to := 0) (pre := none) (A := []) (B := []) (n := 0) (w := 0) (by omega) (isD_isS h) rfl rfl (by simp)
  simp only [List.nil_append, Nat.zero_add, hC] at e2 e3 e4
  have em : mvE (min (max a 0) base) 0 0 d = ((n' : Int), (w' : Int)) := e1
  refine ⟨n', e2, e4, ?_⟩
  unfold mv
  rw [if_pos h, em, e3]
  cases after
  · rfl
  · rw [if_pos rfl, if_pos rfl]; simp

theorem lng_is2 : ∀ {l : List El} {left : Int}, 0 ≤ left → lngL left l = if (sumT l : Int) > left then 13 else 0
  | [], left, h => by rw [if_neg (by simp only [sumT]; omega)]; rfl
  | c :: r, left, h => by
    rw [lngL]
    by_cases h1 : (c.2.2.size : Int) > left
    · rw [if_pos h1, if_pos (by simp only [sumT]; omega)]
    · rw [if_neg h1, lng_is2 (by omega)]
      by_cases h2 : (sumT r : Int) > left - c.2.2.size
      · rw [if_pos h2, if_pos (by simp only [sumT]; omega)]
      · rw [if_neg h2, if_neg (by simp only [sumT]; omega)]

theorem built_cells {base : Int} {l : List El} (h : (bldD base l).2.2 = 0) : cells (bldD base l).2.1 = chC 0 l ++ cellsC (bld [] 0 l).2 (base - (bld [] 0 l).2).toNat := by
  obtain ⟨c1, c2, c3, c4, c5, c6, c7, c8, c9, c10⟩ := built_ok (s := []) h
  have hm : Made base [] 0 := ⟨trivial, by simp [lastTo], by omega, by omega⟩
  obtain ⟨m1, m2⟩ := bld_cells hm c3 c4 c5 (fun p hp => by cases hp) (fun _ => rfl)
  have f2 := cells_copy m1 m1.2.2.2
  unfold bldD at h ⊢
  split at h
  · rename_i h1; exact absurd h h1
  · rename_i h1
    split at h
    · cases h
    · rename_i h2
      rw [if_neg h1, if_neg h2, f2, m2]; rfl

/-- One change. -/
theorem one_is {n a b : Nat} {t : ByteArray} (h1 : a ≤ b) (h2 : b ≤ n) (hn : n ≤ 10000) (ht : t.size ≤ 1000) : (uvalid t = false → (bldD n [((a : Int), ((b : Int), t))]).2.2 = 12) ∧
    (uvalid t = true → (bldD n [((a : Int), ((b : Int), t))]).2.2 = 0 ∧ (bldD n [((a : Int), ((b : Int), t))]).1 = n ∧ isD n (bldD n [((a : Int), ((b : Int), t))]).2.1 = true ∧ cells (bldD n [((a : Int), ((b : Int), t))]).2.1 = cellsC 0 a ++ (cellsT t ++ cellsC b (n - b))) := by
  have r1 : rngL n [((a : Int), ((b : Int), t))] = true := by simp [rngL]; omega
  have r2 : ordL none [((a : Int), ((b : Int), t))] = true := rfl
  have hv : valL [((a : Int), ((b : Int), t))] = uvalid t := by simp [valL]
  have hc : chk n [((a : Int), ((b : Int), t))] = if uvalid t = false then 12 else 0 := by
    unfold chk
    rw [if_neg (by omega), r1, r2, hv, if_neg (by simp), if_neg (by simp)]
    cases uvalid t with
    | false => rfl
    | true =>
      rw [if_neg (by simp), if_neg (by simp), lng_is2 (by simp only [sumK]; omega), if_neg (by simp only [sumK, sumT]; omega)]
  have hbl : bld [] 0 [((a : Int), ((b : Int), t))] = (mkPut (mkCopy [] 0 a) t, (b : Int)) := rfl
  constructor
  · intro h
    unfold bldD
    rw [hc, if_pos h, if_pos (by omega)]
  · intro h
    have hz : (bldD n [((a : Int), ((b : Int), t))]).2.2 = 0 := by
      have l1 := mkCopy_len (l := []) (f := 0) (t := a)
      have l2 := mkPut_len (l := mkCopy [] 0 a) (s := t)
      have l3 := mkCopy_len (l := mkPut (mkCopy [] 0 a) t) (f := b) (t := n)
      simp only [List.length_nil] at l1
      unfold bldD
      rw [hc, if_neg (show ¬ uvalid t = false by simp [h]), if_neg (show ¬ (0 : Int) ≠ 0 by simp), hbl]
      simp only
      rw [if_neg (by omega)]
    obtain ⟨c1, c2, c3, c4, c5, c6, c7, c8, c9, c10⟩ := built_ok (s := []) hz
    refine ⟨hz, c6, c7, ?_⟩
    rw [built_cells hz, hbl]
    simp only [chC, List.append_nil, List.append_assoc]
    rw [show ((a : Int) - 0).toNat = a by omega, show ((n : Int) - (b : Int)).toNat = n - b by omega]

theorem runT_C {m : Nat} {f : Int} (h : 0 ≤ f) : runT (cellsC f m) = 0 := by
  cases m with
  | zero => rfl
  | succ m => rw [cellsC, runT_pos (by simpa using h)]

theorem dropC : ∀ {k m : Nat} {f : Int}, (cellsC f m).drop k = cellsC (f + k) (m - k)
  | 0, m, f => by simp
  | k + 1, 0, f => by simp [cellsC]
  | k + 1, m + 1, f => by
    rw [cellsC, List.drop_succ_cons, dropC, show f + 1 + (k : Int) = f + ((k + 1 : Nat) : Int) by omega, show m + 1 - (k + 1) = m - k by omega]

/-- Where places go by one text put in. -/
theorem plain_put {n a x : Nat} {t : ByteArray} (h2 : a ≤ n) (hn : n ≤ 10000) (ht : t.size ≤ 1000) (hx : x ≤ n) (hv : uvalid t = true) :
    mv n (bldD n [((a : Int), ((a : Int), t))]).2.1 x false = (if x > a then x + t.size else x : Nat) ∧ mv n (bldD n [((a : Int), ((a : Int), t))]).2.1 x true = (if x ≥ a then x + t.size else x : Nat) := by
  obtain ⟨c1, c2, c3, c4⟩ := (one_is (n := n) (a := a) (b := a) (t := t) (Nat.le_refl _) h2 hn ht).2 hv
  obtain ⟨q, q1, q2, q3⟩ := mv_by (a := (x : Int)) (after := false) c3 c4
  obtain ⟨q', q1', q2', q3'⟩ := mv_by (a := (x : Int)) (after := true) c3 c4
  have hqq : q = q' := by rw [q1] at q1'; omega
  subst hqq
  rw [q3, q3', if_neg (by simp), if_pos rfl]
  rw [show min (max (x : Int) 0) (n : Int) = x by omega, mvC_C (Int.le_refl 0), show cellsT t = (txt t).map (fun b => ((-1 : Int), b)) from rfl, mvC_T] at q1
  have e := mvC_C (p := (x : Int)) (R := []) (m := n - a) (f := (a : Int)) (i := 0 + (a : Int) + (txt t).length) (acc := if (0 : Int) < x ∧ 1 ≤ a then 0 + min (a : Int) (x - 0) else 0) (by omega)
  rw [List.append_nil] at e
  rw [e, mvC, txt_len] at q1
  have hq : q = if x > a then x + t.size else x := by
    by_cases c : x > a
    · rw [if_pos c]; rw [if_pos (by omega)] at q1; omega
    · rw [if_neg c]
      rw [if_neg (by omega)] at q1
      by_cases cx : (0 : Int) < x ∧ 1 ≤ a
      · rw [if_pos cx] at q1; omega
      · rw [if_neg cx] at q1; omega
  refine ⟨by rw [hq], ?_⟩
  have hT := cellsT_len (t := t)
  have hrun : runT ((cellsC 0 a ++ (cellsT t ++ cellsC a (n - a))).drop q) = if x = a then t.size else 0 := by
    rw [hq]
    by_cases c : x > a
    · rw [if_pos c, if_neg (by omega)]
      have e1 : x + t.size = (cellsC 0 a ++ cellsT t).length + (x - a) := by simp [cellsC_len, hT]; omega
      rw [← List.append_assoc, e1, ← List.drop_drop, List.drop_left, dropC]
      exact runT_C (by omega)
    · rw [if_neg c]
      by_cases ce : x = a
      · subst ce
        rw [if_pos rfl]
        have e2 := List.drop_left (l₁ := cellsC 0 x) (l₂ := cellsT t ++ cellsC x (n - x))
        rw [cellsC_len] at e2
        rw [e2, runT_neg cellsT_neg, runT_C (by omega), hT]; rfl
      · rw [if_neg ce, List.drop_append_of_le_length (by rw [cellsC_len]; omega), dropC]
        obtain ⟨m, hm⟩ : ∃ m, a - x = m + 1 := ⟨a - x - 1, by omega⟩
        rw [hm, cellsC, List.cons_append, runT_pos (by simp only; omega)]
  rw [hrun, hq]
  by_cases c : x > a
  · rw [if_pos c, if_neg (by omega), if_pos (by omega), Nat.add_zero]
  · rw [if_neg c]
    by_cases ce : x = a
    · rw [if_pos ce, if_pos (by omega)]
    · rw [if_neg ce, if_neg (by omega), Nat.add_zero]

/-- Where places go by one part taken away. -/
theorem plain_cut {n a b x : Nat} (h1 : a ≤ b) (h2 : b ≤ n) (hn : n ≤ 10000) (hx : x ≤ n) (after : Bool) :
    mv n (bldD n [((a : Int), ((b : Int), ByteArray.empty))]).2.1 x after = (if x > a then max a (x + a - b) else x : Nat) := by
  have hv : uvalid ByteArray.empty = true := rfl
  obtain ⟨c1, c2, c3, c4⟩ := (one_is (n := n) (a := a) (b := b) (t := ByteArray.empty) h1 h2 hn (by rw [empty_size]; omega)).2 hv
  rw [cellsT_nil rfl, List.nil_append] at c4
  obtain ⟨q, q1, q2, q3⟩ := mv_by (a := (x : Int)) (after := after) c3 c4
  rw [q3]
  rw [show min (max (x : Int) 0) (n : Int) = x by omega, mvC_C (Int.le_refl 0)] at q1
  have e := mvC_C (p := (x : Int)) (R := []) (m := n - b) (f := (b : Int)) (i := 0 + (a : Int)) (acc := if (0 : Int) < x ∧ 1 ≤ a then 0 + min (a : Int) (x - 0) else 0) (by omega)
  rw [List.append_nil] at e
  rw [e, mvC] at q1
  have hq : q = if x > a then max a (x + a - b) else x := by
    by_cases c : (b : Int) < x ∧ 1 ≤ n - b
    · rw [if_pos c] at q1; rw [if_pos (by omega)]; omega
    · rw [if_neg c] at q1
      by_cases cx : (0 : Int) < x ∧ 1 ≤ a
      · rw [if_pos cx] at q1; split <;> omega
      · rw [if_neg cx] at q1; split <;> omega
  have hall : ∀ c ∈ cellsC 0 a ++ cellsC b (n - b), 0 ≤ c.1 := by
    have key : ∀ (m : Nat) (f : Int) (c : Ce), 0 ≤ f → c ∈ cellsC f m → 0 ≤ c.1 := by
      intro m
      induction m with
      | zero => intro f c _ h; simp [cellsC] at h
      | succ m ih =>
        intro f c h0 h
        rw [cellsC] at h
        rcases List.mem_cons.1 h with rfl | h
        · exact h0
        · exact ih (f + 1) c (by omega) h
    intro c hc
    rcases List.mem_append.1 hc with hc | hc
    · exact key _ _ c (by omega) hc
    · exact key _ _ c (by omega) hc
  have hrun : runT ((cellsC 0 a ++ cellsC b (n - b)).drop q) = 0 := by
    cases hd : (cellsC 0 a ++ cellsC b (n - b)).drop q with
    | nil => rfl
    | cons c R =>
      refine runT_pos (hall c (List.mem_of_mem_drop (i := q) ?_))
      rw [hd]; simp
  rw [hrun, hq]
  cases after <;> rfl

/-- Ones ahead of a place, then noughts. -/
def f1 (x : Int) : Int → Nat → List Int
  | _, 0 => []
  | a, n + 1 => (if a < x then 1 else 0) :: f1 x (a + 1) n

theorem wu64 {n : Int} (h1 : 0 ≤ n) (h2 : n < 18446744073709551616) : IntKind.wrap .u64 n = n := by
  simp only [IntKind.wrap, IntKind.bits, IntKind.signed]
  simp
  omega

theorem half_is {i j : Nat} (h : i + j < 1000000) : IntKind.wrap .i64 (Int.fdiv (IntKind.wrap .u64 (IntKind.wrap .i64 ((i : Int) + (j : Int)))) 2) = (((i + j) / 2 : Nat) : Int) := by
  rw [w64 (n := (i : Int) + (j : Int)) (by omega) (by omega), wu64 (n := (i : Int) + (j : Int)) (by omega) (by omega), Int.fdiv_eq_ediv_of_nonneg _ (by decide), show ((i : Int) + (j : Int)) / 2 = (((i + j) / 2 : Nat) : Int) by omega, w64 (by omega) (by omega)]

/-- Searched by halves. -/
def bs (p : Nat → Bool) : Nat → Nat → Nat → Option Nat
  | 0, _, _ => none
  | k + 1, i, j => if i < j then (if p ((i + j) / 2) = true then bs p k ((i + j) / 2 + 1) j else bs p k i ((i + j) / 2)) else some i

theorem bs_is {p : Nat → Bool} : ∀ (k i j : Nat), j - i < k → i ≤ j → ∃ r, bs p k i j = some r ∧ i ≤ r ∧ r ≤ j ∧ (r = i ∨ p (r - 1) = true) ∧ (r = j ∨ p r = false)
  | 0, i, j, h, _ => by omega
  | k + 1, i, j, h, hij => by
    rw [bs]
    by_cases h1 : i < j
    · rw [if_pos h1]
      by_cases h2 : p ((i + j) / 2) = true
      · rw [if_pos h2]
        obtain ⟨r, e1, e2, e3, e4, e5⟩ := bs_is k ((i + j) / 2 + 1) j (by omega) (by omega)
        refine ⟨r, e1, by omega, e3, ?_, e5⟩
        rcases e4 with e4 | e4
        · right; rw [e4]; exact h2
        · right; exact e4
      · rw [if_neg h2]
        obtain ⟨r, e1, e2, e3, e4, e5⟩ := bs_is k i ((i + j) / 2) (by omega) (by omega)
        refine ⟨r, e1, e2, by omega, e4, ?_⟩
        rcases e5 with e5 | e5
        · right; rw [e5]; simpa using h2
        · right; exact e5
    · rw [if_neg h1]
      exact ⟨i, rfl, Nat.le_refl _, hij, .inl rfl, .inl (by omega)⟩

theorem mn2_is {a b : Int} : mn2 a b = min a b := by unfold mn2; split <;> omega

/-- In order, behind p, below n. -/
def okB (n : Int) : Int → List Int → Bool
  | _, [] => true
  | p, x :: l => decide (p < x ∧ x < n) && okB n x l

def isB (n : Int) (l : List Int) : Bool := okB (min n 20000) 0 l && decide (l.length ≤ 60)

def prevB (l : List Int) (j : Nat) : Int := if j = 0 then 0 else l.getD (j - 1) 0

theorem prevB_succ {l : List Int} {j : Nat} {x : Int} (h : l.getD j 0 = x) : prevB l (j + 1) = x := by
  unfold prevB; rw [if_neg (by omega), show j + 1 - 1 = j by omega, h]

theorem okB_cons {n p x : Int} {l : List Int} : okB n p (x :: l) = true ↔ (p < x ∧ x < n) ∧ okB n x l = true := by
  rw [okB, Bool.and_eq_true, decide_eq_true_eq]

theorem okB_mem {n : Int} : ∀ {l : List Int} {p : Int}, okB n p l = true → ∀ x ∈ l, p < x ∧ x < n
  | [], _, _, x, hx => by cases hx
  | y :: l, p, h, x, hx => by
    rw [okB_cons] at h
    rcases List.mem_cons.1 hx with rfl | hx
    · exact h.1
    · have := okB_mem h.2 x hx; omega

theorem okB_lt {n : Int} : ∀ {l : List Int} {p : Int}, okB n p l = true → l.Pairwise (· < ·)
  | [], _, _ => List.Pairwise.nil
  | x :: l, p, h => by
    rw [okB_cons] at h
    exact List.pairwise_cons.2 ⟨fun y hy => (okB_mem h.2 y hy).1, okB_lt h.2⟩

theorem okB_of {n : Int} : ∀ {l : List Int} {p : Int}, l.Pairwise (· < ·) → (∀ x ∈ l, p < x ∧ x < n) → okB n p l = true
  | [], _, _, _ => rfl
  | x :: l, p, h, hm => by
    rw [List.pairwise_cons] at h
    rw [okB_cons]
    exact ⟨hm x (by simp), okB_of h.2 fun y hy => ⟨h.1 y hy, (hm y (by simp [hy])).2⟩⟩

theorem okB_mono {n m p : Int} (h : n ≤ m) {l : List Int} (hl : okB n p l = true) : okB m p l = true :=
  okB_of (okB_lt hl) fun x hx => by have := okB_mem hl x hx; omega

theorem isB_loop {K : Nat} {l : List Int} {n : Int} (hl : l.length ≤ 1000000000000) : ∀ (rest : List Int) (j k : Nat), l.drop j = rest → rest.length < k → 0 ≤ prevB l j →
    breaks_Is_ng.l0 K l n k (j : Int) = some (okB (min n 20000) (prevB l j) rest && decide (l.length ≤ 60))
  | [], j, k, hd, hk, h0 => by
    obtain ⟨k, rfl⟩ : ∃ m, k = m + 1 := ⟨k - 1, by omega⟩
    have := drop_nil hd
    rw [breaks_Is_ng.l0, if_neg (by simp; omega), okB, Bool.true_and]
    congr 1; rw [decide_eq_decide]; omega
  | x :: rest, j, k, hd, hk, h0 => by
    obtain ⟨k, rfl⟩ : ∃ m, k = m + 1 := ⟨k - 1, by omega⟩
    obtain ⟨hj, hx, hd'⟩ := drop_cons hd (0 : Int)
    rw [List.length_cons] at hk
    have hw : IntKind.wrap .i64 ((j : Int) + 1) = ((j + 1 : Nat) : Int) := by rw [w64 (by omega) (by omega)]; omega
    rw [breaks_Is_ng.l0, if_pos (by simp; omega), if_pos (by omega)]
    simp only [Int.toNat_natCast, hx, hw, mn2_is]
    have e : (if decide (x ≤ 0) = true then some true else if decide (x ≥ min n 20000) = true then some true else if decide ((j : Int) > 0) = true then if 0 ≤ IntKind.wrap .i64 ((j : Int) - 1) ∧ IntKind.wrap .i64 ((j : Int) - 1) < ((l.length : Nat) : Int) then some (decide (x ≤ l.getD (IntKind.wrap .i64 ((j : Int) - 1)).toNat 0)) else none else some false) = some (decide (¬ (prevB l j < x ∧ x < min n 20000))) := by
      by_cases h1 : x ≤ 0
      · rw [if_pos (by simpa using h1)]; congr 1; symm; rw [decide_eq_true_eq]; omega
      rw [if_neg (by simpa using h1)]
      by_cases h2 : x ≥ min n 20000
      · rw [if_pos (by simpa using h2)]; congr 1; symm; rw [decide_eq_true_eq]; omega
      rw [if_neg (by simpa using h2)]
      by_cases h3 : j = 0
      · subst h3
        rw [if_neg (by simp)]; congr 1; symm; rw [decide_eq_false_iff_not]
        rw [show prevB l 0 = 0 from rfl]; omega
      · have hw2 : IntKind.wrap .i64 ((j : Int) - 1) = ((j - 1 : Nat) : Int) := by rw [w64 (by omega) (by omega)]; omega
        rw [if_pos (by simp; omega), hw2, if_pos (by omega), Int.toNat_natCast]
        have : prevB l j = l.getD (j - 1) 0 := by unfold prevB; rw [if_neg h3]
        rw [this]
        congr 1; rw [decide_eq_decide]; omega
    rw [e, Option.bind_some, okB]
    by_cases h : prevB l j < x ∧ x < min n 20000
    · have ih := isB_loop (K := K) (n := n) hl rest (j + 1) k hd' (by omega) (by rw [prevB_succ hx]; omega)
      rw [prevB_succ hx] at ih
      rw [if_neg (by simp only [decide_eq_true_eq]; exact fun h' => h' h), ih, decide_eq_true h, Bool.true_and]
    · rw [if_pos (by simp only [decide_eq_true_eq]; exact h), decide_eq_false h, Bool.false_and, Bool.false_and]

theorem isB_is {K : Nat} {l : List Int} {n : Int} (hl : l.length ≤ 1000000000000) (hK : l.length < K) : breaks_Is_ng K l n = some (isB n l) :=
  isB_loop hl l 0 K rfl hK (by simp [prevB])

theorem isLess_is {K : Nat} {a b : Int} : cmp_Less K a b = some (decide (a < b)) := by
  unfold cmp_Less cmp_isNaN
  rw [Option.bind_some, bne_self_eq_false, if_neg (by simp)]

theorem bsB_is {K : Nat} {l : List Int} {t : Int} (hD : l.length ≤ 100000) : ∀ (k i j : Nat), i ≤ j → j ≤ l.length → slices_BinarySearch_ng.l0 K l t k (i : Int) (j : Int) = (bs (fun h => decide (l.getD h 0 < t)) k i j).map (fun n : Nat => (n : Int))
  | 0, i, j, hij, hj => rfl
  | k + 1, i, j, hij, hj => by
    rw [slices_BinarySearch_ng.l0, bs]
    by_cases h : i < j
    · have hw : IntKind.wrap .i64 ((((i + j) / 2 : Nat) : Int) + 1) = (((i + j) / 2 + 1 : Nat) : Int) := by rw [w64 (by omega) (by omega)]; omega
      rw [if_pos (by simp; omega), if_pos h]
      simp only [half_is (i := i) (j := j) (by omega), Int.toNat_natCast, hw, isLess_is, Option.bind_some]
      rw [if_pos (by omega), bsB_is hD k _ _ (by omega) hj, bsB_is hD k _ _ (by omega) (by omega)]
      split <;> rfl
    · rw [if_neg (by simp; omega), if_neg h]; rfl

theorem lt_get {l : List Int} (h : l.Pairwise (· < ·)) {i j : Nat} (hij : i < j) (hj : j < l.length) : l.getD i 0 < l.getD j 0 := by
  have := List.pairwise_iff_getElem.1 h i j (by omega) hj hij
  simpa [List.getD, List.getElem?_eq_getElem hj, List.getElem?_eq_getElem (show i < l.length by omega)] using this

theorem take_get {l : List Int} {n : Nat} {x : Int} (h : x ∈ l.take n) : ∃ i, i < n ∧ i < l.length ∧ l.getD i 0 = x := by
  obtain ⟨i, hi, rfl⟩ := List.mem_iff_getElem.1 h
  rw [List.length_take] at hi
  exact ⟨i, by omega, by omega, by rw [List.getElem_take]; simp [List.getD, List.getElem?_eq_getElem (show i < l.length by omega)]⟩

theorem drop_get {l : List Int} {n : Nat} {x : Int} (h : x ∈ l.drop n) : ∃ i, n ≤ i ∧ i < l.length ∧ l.getD i 0 = x := by
  obtain ⟨i, hi, rfl⟩ := List.mem_iff_getElem.1 h
  rw [List.length_drop] at hi
  exact ⟨n + i, by omega, by omega, by rw [List.getElem_drop]; simp [List.getD, List.getElem?_eq_getElem (show n + i < l.length by omega)]⟩

theorem getD_mem_drop {l : List Int} {j r : Nat} (h : j < l.length) (hr : r ≤ j) : l.getD j 0 ∈ l.drop r :=
  List.mem_iff_getElem.2 ⟨j - r, by rw [List.length_drop]; omega, by rw [List.getElem_drop]; simp [List.getD, List.getElem?_eq_getElem h, show r + (j - r) = j by omega]⟩

/-- A place searched in a row in order. -/
theorem search_is {K : Nat} {l : List Int} {t : Int} (hK : 100000 < K) (hl : l.length ≤ 100000) (hs : l.Pairwise (· < ·)) :
    ∃ r : Nat, r ≤ l.length ∧ slices_BinarySearch_ng K l t = some ((r : Int), decide (r < l.length ∧ l.getD r 0 = t)) ∧ (∀ x ∈ l.take r, x < t) ∧ ∀ x ∈ l.drop r, t ≤ x := by
  have e0 := bsB_is (K := K) (t := t) hl K 0 l.length (by omega) (Nat.le_refl _)
  obtain ⟨r, e1, e2, e3, e4, e5⟩ := bs_is (p := fun h => decide (l.getD h 0 < t)) K 0 l.length (by omega) (by omega)
  rw [e1, Option.map_some] at e0
  refine ⟨r, e3, ?_, fun x hx => ?_, fun x hx => ?_⟩
  · unfold slices_BinarySearch_ng slices_isNaN
    rw [show ((0 : Nat) : Int) = 0 from rfl] at e0
    rw [e0, Option.bind_some]
    simp only [Int.toNat_natCast, bne_self_eq_false, Option.bind_some]
    by_cases h : r < l.length
    · have hr : (0 : Int) ≤ (r : Int) ∧ (r : Int) < ((l.length : Nat) : Int) := by omega
      simp only [if_pos hr]
      rw [if_pos (by simp; omega)]
      by_cases h2 : l.getD r 0 = t
      · rw [if_pos (by rw [beq_iff_eq]; exact h2), decide_eq_true ⟨h, h2⟩]
      · rw [if_neg (by rw [beq_iff_eq]; exact h2), if_neg (by simp), decide_eq_false fun h' => h2 h'.2]
    · rw [if_neg (by simp; omega), decide_eq_false fun h' => h h'.1]
  · obtain ⟨i, i1, i2, rfl⟩ := take_get hx
    rcases e4 with e4 | e4
    · omega
    · rw [decide_eq_true_eq] at e4
      rcases Nat.lt_or_ge i (r - 1) with h | h
      · have := lt_get hs h (by omega); omega
      · rw [show i = r - 1 by omega]; exact e4
  · obtain ⟨i, i1, i2, rfl⟩ := drop_get hx
    rcases e5 with e5 | e5
    · omega
    · rw [decide_eq_false_iff_not] at e5
      rcases Nat.lt_or_ge r i with h | h
      · have := lt_get hs h (by omega); omega
      · rw [show i = r by omega]; omega

/-- With one place more. -/
def putB (l : List Int) (t : Int) : List Int := l.filter (fun x => decide (x < t)) ++ t :: l.filter (fun x => decide (t < x))

theorem putB_mem {l : List Int} {t x : Int} : x ∈ putB l t ↔ x = t ∨ x ∈ l := by
  unfold putB
  simp only [List.mem_append, List.mem_cons, List.mem_filter, decide_eq_true_eq]
  constructor
  · rintro (h | h | h)
    · exact .inr h.1
    · exact .inl h
    · exact .inr h.1
  · rintro (h | h)
    · exact .inr (.inl h)
    · rcases Int.lt_trichotomy x t with h' | h' | h'
      · exact .inl ⟨h, h'⟩
      · exact .inr (.inl h')
      · exact .inr (.inr ⟨h, h'⟩)

theorem putB_lt {l : List Int} {t : Int} (h : l.Pairwise (· < ·)) : (putB l t).Pairwise (· < ·) := by
  unfold putB
  refine List.pairwise_append.2 ⟨h.sublist List.filter_sublist, List.pairwise_cons.2 ⟨fun y hy => ?_, h.sublist List.filter_sublist⟩, fun x hx y hy => ?_⟩
  · rw [List.mem_filter, decide_eq_true_eq] at hy; exact hy.2
  · rw [List.mem_filter, decide_eq_true_eq] at hx
    rcases List.mem_cons.1 hy with rfl | hy
    · exact hx.2
    · rw [List.mem_filter, decide_eq_true_eq] at hy; omega

theorem putB_split {l : List Int} {t : Int} {r : Nat} (hn : t ∉ l) (h1 : ∀ x ∈ l.take r, x < t) (h2 : ∀ x ∈ l.drop r, t ≤ x) : putB l t = l.take r ++ t :: l.drop r := by
  unfold putB
  have e : l.filter (fun x => decide (x < t)) = (l.take r ++ l.drop r).filter (fun x => decide (x < t)) := by rw [List.take_append_drop]
  have e2 : l.filter (fun x => decide (t < x)) = (l.take r ++ l.drop r).filter (fun x => decide (t < x)) := by rw [List.take_append_drop]
  rw [e, e2, List.filter_append, List.filter_append]
  rw [List.filter_eq_self.2 (fun x hx => by rw [decide_eq_true_eq]; exact h1 x hx), List.filter_eq_nil_iff.2 (fun x hx => by rw [decide_eq_true_eq]; have := h2 x hx; omega), List.append_nil,
    List.filter_eq_nil_iff.2 (fun x hx => by rw [decide_eq_true_eq]; have := h1 x hx; omega), List.nil_append, List.filter_eq_self.2 (fun x hx => ?_)]
  rw [decide_eq_true_eq]
  have := h2 x hx
  have : x ≠ t := fun e => hn (e ▸ List.mem_of_mem_drop hx)
  omega

theorem putB_len {l : List Int} {t : Int} (hs : l.Pairwise (· < ·)) (hn : t ∉ l) : (putB l t).length = l.length + 1 := by
  have hp : (putB l t).Perm (t :: l) := by
    refine (List.perm_ext_iff_of_nodup ?_ ?_).2 fun x => by rw [putB_mem, List.mem_cons]
    · exact (putB_lt hs).imp fun h => by omega
    · exact List.nodup_cons.2 ⟨hn, hs.imp fun h => by omega⟩
  rw [hp.length_eq]; rfl

theorem mem_search {l : List Int} {t : Int} {r : Nat} (h1 : ∀ x ∈ l.take r, x < t) (h2 : ∀ x ∈ l.drop r, t ≤ x) (hs : l.Pairwise (· < ·)) : (r < l.length ∧ l.getD r 0 = t) ↔ t ∈ l := by
  constructor
  · rintro ⟨h, e⟩
    rw [← e]
    simp [List.getD, List.getElem?_eq_getElem h]
  · intro h
    rw [← List.take_append_drop r l] at h
    rcases List.mem_append.1 h with h | h
    · have := h1 t h; omega
    · obtain ⟨i, i1, i2, e⟩ := drop_get h
      refine ⟨by omega, ?_⟩
      rcases Nat.lt_or_ge r i with hi | hi
      · have := lt_get hs hi i2
        have := h2 _ (getD_mem_drop (show r < l.length by omega) (Nat.le_refl r))
        omega
      · rw [show r = i by omega]; exact e

theorem putAt_zero {α : Type} {xs ys : List α} (h : ys.length = xs.length) : putAt xs ys 0 = ys := by
  unfold putAt
  rw [List.take_zero, List.nil_append, List.drop_eq_nil_of_le (by omega), List.append_nil]

theorem isB_ok {n : Int} {l : List Int} (h : isB n l = true) : okB (min n 20000) 0 l = true ∧ l.length ≤ 60 := by
  unfold isB at h
  rw [Bool.and_eq_true, decide_eq_true_eq] at h
  exact h

theorem isB_of {n : Int} {l : List Int} (h : okB n 0 l = true) (hn : n ≤ 20000) (hl : l.length ≤ 60) : isB n l = true := by
  unfold isB
  rw [Bool.and_eq_true, decide_eq_true_eq, show min n 20000 = n by omega]
  exact ⟨h, hl⟩

theorem putB_is {K : Nat} {l : List Int} {t : Int} (hK : 100000 < K) (hi : isB 20000 l = true) (h1 : 0 < t) (h2 : t < 20000) :
    breaks_Put_ng K l t = some (if t ∈ l then (l, 0) else if 60 ≤ l.length then ([], 70) else (putB l t, 0)) := by
  obtain ⟨hok, hl⟩ := isB_ok hi
  have hs := okB_lt hok
  obtain ⟨r, r1, r2, r3, r4⟩ := search_is (K := K) (t := t) hK (by omega) hs
  have hmem := mem_search r3 r4 hs
  unfold breaks_Put_ng
  rw [isB_is (by omega) (by omega), Option.bind_some, hi, if_neg (by simp), if_neg (by simp; omega), Option.bind_some, if_neg (by simp; omega), r2, Option.bind_some, w64 (n := ((l.length : Nat) : Int) + 1) (by omega) (by omega), if_pos (by omega)]
  have hrep : (List.replicate (Int.toNat ((l.length : Nat) : Int)) (0 : Int)).length = l.length := by rw [List.length_replicate]; omega
  rw [hrep, List.take_length, putAt_zero (by omega)]
  by_cases hm : t ∈ l
  · rw [decide_eq_true (hmem.2 hm), if_pos rfl, if_pos hm]
  · rw [decide_eq_false fun h => hm (hmem.1 h), if_neg (by simp), if_neg hm]
    by_cases h60 : 60 ≤ l.length
    · rw [if_pos (by simp; omega), if_pos h60]
    · rw [if_neg (by simp; omega), if_neg h60]
      unfold slices_Insert_rgr
      rw [if_pos (by simp; omega), Option.bind_some, Int.toNat_natCast, putB_split hm r3 r4]
      rfl

theorem rIsB_loop {K : Nat} {l : List Int} {n : Int} (hl : l.length ≤ 1000000000000) : ∀ (rest : List Int) (j k : Nat), l.drop j = rest → rest.length < k → 0 ≤ prevB l j →
    palinoderef15_IsBreaks.l0 K l n k (j : Int) = some (okB (min n 20000) (prevB l j) rest && decide (l.length ≤ 60))
  | [], j, k, hd, hk, h0 => by
    obtain ⟨k, rfl⟩ : ∃ m, k = m + 1 := ⟨k - 1, by omega⟩
    have := drop_nil hd
    rw [palinoderef15_IsBreaks.l0, if_neg (by simp; omega), okB, Bool.true_and]
    congr 1; rw [decide_eq_decide]; omega
  | x :: rest, j, k, hd, hk, h0 => by
    obtain ⟨k, rfl⟩ : ∃ m, k = m + 1 := ⟨k - 1, by omega⟩
    obtain ⟨hj, hx, hd'⟩ := drop_cons hd (0 : Int)
    rw [List.length_cons] at hk
    have hw : IntKind.wrap .i64 ((j : Int) + 1) = ((j + 1 : Nat) : Int) := by rw [w64 (by omega) (by omega)]; omega
    have hb : (0 : Int) ≤ (j : Int) ∧ (j : Int) < ((l.length : Nat) : Int) := by omega
    rw [palinoderef15_IsBreaks.l0, if_pos (by simp; omega)]
    simp only [Int.toNat_natCast, hx, hw, mn2_is]
    have e : (if decide (x < 1) = true then if (0 : Int) ≤ (j : Int) ∧ (j : Int) < ((l.length : Nat) : Int) then some true else none else if decide (x ≥ min n 20000) = true then if (0 : Int) ≤ (j : Int) ∧ (j : Int) < ((l.length : Nat) : Int) then some true else none else if decide ((j : Int) > 0) = true then if 0 ≤ (j : Int) ∧ (j : Int) < ((l.length : Nat) : Int) ∧ 0 ≤ IntKind.wrap .i64 ((j : Int) - 1) ∧ IntKind.wrap .i64 ((j : Int) - 1) < ((l.length : Nat) : Int) then some (decide (x ≤ l.getD (IntKind.wrap .i64 ((j : Int) - 1)).toNat 0)) else none else if (0 : Int) ≤ (j : Int) ∧ (j : Int) < ((l.length : Nat) : Int) then some false else none) = some (decide (¬ (prevB l j < x ∧ x < min n 20000))) := by
      simp only [if_pos hb]
      by_cases h1 : x < 1
      · rw [if_pos (by simpa using h1)]; congr 1; symm; rw [decide_eq_true_eq]; omega
      rw [if_neg (by simpa using h1)]
      by_cases h2 : x ≥ min n 20000
      · rw [if_pos (by simpa using h2)]; congr 1; symm; rw [decide_eq_true_eq]; omega
      rw [if_neg (by simpa using h2)]
      by_cases h3 : j = 0
      · subst h3
        rw [if_neg (by simp)]; congr 1; symm; rw [decide_eq_false_iff_not]
        rw [show prevB l 0 = 0 from rfl]; omega
      · have hw2 : IntKind.wrap .i64 ((j : Int) - 1) = ((j - 1 : Nat) : Int) := by rw [w64 (by omega) (by omega)]; omega
        rw [if_pos (by simp; omega), hw2, if_pos (by omega), Int.toNat_natCast]
        have : prevB l j = l.getD (j - 1) 0 := by unfold prevB; rw [if_neg h3]
        rw [this]
        congr 1; rw [decide_eq_decide]; omega
    rw [e, Option.bind_some, okB]
    by_cases h : prevB l j < x ∧ x < min n 20000
    · have ih := rIsB_loop (K := K) (n := n) hl rest (j + 1) k hd' (by omega) (by rw [prevB_succ hx]; omega)
      rw [prevB_succ hx] at ih
      rw [if_neg (by simp only [decide_eq_true_eq]; exact fun h' => h' h), ih, decide_eq_true h, Bool.true_and]
    · rw [if_pos (by simp only [decide_eq_true_eq]; exact h), decide_eq_false h, Bool.false_and, Bool.false_and]

theorem rIsB_is {K : Nat} {l : List Int} {n : Int} (hl : l.length ≤ 1000000000000) (hK : l.length < K) : palinoderef15_IsBreaks K l n = some (isB n l) :=
  rIsB_loop hl l 0 K rfl hK (by simp [prevB])

/-- Where a place stands first. -/
def idxB (v : Int) : List Int → Option Nat
  | [] => none
  | x :: l => if v = x then some 0 else (idxB v l).map (· + 1)

def eraB (v : Int) : List Int → List Int
  | [] => []
  | x :: l => if v = x then l else x :: eraB v l

theorem idxB_none {v : Int} : ∀ {l : List Int}, idxB v l = none ↔ v ∉ l
  | [] => by simp [idxB]
  | x :: l => by
    rw [idxB]
    by_cases h : v = x
    · rw [if_pos h]; simp [h]
    · rw [if_neg h, Option.map_eq_none_iff, idxB_none, List.mem_cons]
      exact ⟨fun h1 h2 => h2.elim h h1, fun h1 h2 => h1 (.inr h2)⟩

theorem idxB_some {v : Int} : ∀ {l : List Int} {i : Nat}, idxB v l = some i → i < l.length ∧ l.take i ++ l.drop (i + 1) = eraB v l ∧ l.getD i 0 = v
  | [], i, h => by cases h
  | x :: l, i, h => by
    rw [idxB] at h
    rw [eraB]
    by_cases hv : v = x
    · rw [if_pos hv] at h
      injection h with h
      subst h
      rw [if_pos hv]
      exact ⟨by simp, by simp, by simp [hv]⟩
    · rw [if_neg hv] at h
      obtain ⟨i', h', rfl⟩ := Option.map_eq_some_iff.1 h
      obtain ⟨h1, h2, h3⟩ := idxB_some h'
      rw [if_neg hv, ← h2]
      exact ⟨by simp; omega, by simp, by simpa using h3⟩

theorem index_loop {K : Nat} {l : List Int} {v : Int} (hl : l.length ≤ 1000000000000) : ∀ (rest : List Int) (j k : Nat), l.drop j = rest → rest.length < k →
    slices_Index_rg.l0 K l v k (j : Int) = some (match idxB v rest with | some i => ((j + i : Nat) : Int) | none => -1)
  | [], j, k, hd, hk => by
    obtain ⟨k, rfl⟩ : ∃ m, k = m + 1 := ⟨k - 1, by omega⟩
    have := drop_nil hd
    rw [slices_Index_rg.l0, if_neg (by simp; omega)]; rfl
  | x :: rest, j, k, hd, hk => by
    obtain ⟨k, rfl⟩ : ∃ m, k = m + 1 := ⟨k - 1, by omega⟩
    obtain ⟨hj, hx, hd'⟩ := drop_cons hd (0 : Int)
    rw [List.length_cons] at hk
    have hw : IntKind.wrap .i64 ((j : Int) + 1) = ((j + 1 : Nat) : Int) := by rw [w64 (by omega) (by omega)]; omega
    rw [slices_Index_rg.l0, if_pos (by simp; omega), if_pos (by omega)]
    simp only [Int.toNat_natCast, hx, hw, index_loop hl rest (j + 1) k hd' (by omega)]
    rw [idxB]
    by_cases h : v = x
    · rw [if_pos (by simpa using h), if_pos h]; simp
    · rw [if_neg (by simpa using h), if_neg h]
      cases idxB v rest with
      | none => rfl
      | some i => simp only [Option.map_some]; rw [show j + 1 + i = j + (i + 1) by omega]

theorem index_is {K : Nat} {l : List Int} {v : Int} (hl : l.length ≤ 1000000000000) (hK : l.length < K) : slices_Index_rg K l v = some (match idxB v l with | some i => (i : Int) | none => -1) := by
  have := index_loop (K := K) (v := v) hl l 0 K rfl hK
  simpa [slices_Index_rg] using this

/-- Two copies, one behind the other. -/
theorem two_copies {l : List Int} {i : Nat} (hi : i < l.length) {n : Nat} (hn : n + 1 = l.length) :
    (List.take (List.replicate n (0 : Int)).length (List.take (i - 0) (List.drop 0 l))).length = i ∧ (putAt (List.replicate n (0 : Int)) (List.take (List.replicate n (0 : Int)).length (List.take (i - 0) (List.drop 0 l))) 0).length = n ∧
    putAt (putAt (List.replicate n (0 : Int)) (List.take (List.replicate n (0 : Int)).length (List.take (i - 0) (List.drop 0 l))) 0) (List.take (n - i) (List.take (l.length - (i + 1)) (List.drop (i + 1) l))) i = l.take i ++ l.drop (i + 1) := by
  have h1 : List.take (List.replicate n (0 : Int)).length (List.take (i - 0) (List.drop 0 l)) = l.take i := by
    rw [List.length_replicate, Nat.sub_zero, List.drop_zero, List.take_take, Nat.min_eq_right (by omega)]
  have h2 : (l.take i).length = i := by rw [List.length_take]; omega
  have h3 : putAt (List.replicate n (0 : Int)) (l.take i) 0 = l.take i ++ List.replicate (n - i) 0 := by
    unfold putAt
    rw [List.take_zero, List.nil_append, h2, Nat.zero_add, List.drop_replicate]
  have h4 : List.take (n - i) (List.take (l.length - (i + 1)) (List.drop (i + 1) l)) = l.drop (i + 1) := by
    rw [List.take_take, List.take_of_length_le (by rw [List.length_drop]; omega)]
  rw [h1, h3, h4]
  refine ⟨h2, by rw [List.length_append, h2, List.length_replicate]; omega, ?_⟩
  unfold putAt
  rw [List.take_left' h2, List.length_drop]
  have h5 : List.drop (i + (l.length - (i + 1))) (l.take i ++ List.replicate (n - i) (0 : Int)) = [] := List.drop_eq_nil_of_le (by rw [List.length_append, h2, List.length_replicate]; omega)
  rw [h5, List.append_nil]

theorem takeB_is {K : Nat} {l : List Int} {v : Int} (hK : 1000 ≤ K) (hl : l.length ≤ 100) : breaks_Take_rg K l v = some (if v ∈ l then (eraB v l, 0) else ([], 10)) := by
  unfold breaks_Take_rg
  rw [index_is (by omega) (by omega), Option.bind_some]
  cases hi : idxB v l with
  | none =>
    rw [if_pos (by simp), if_neg (idxB_none.1 hi)]
  | some i =>
    obtain ⟨h1, h2, -⟩ := idxB_some hi
    have hm : v ∈ l := by
      rcases Decidable.em (v ∈ l) with h | h
      · exact h
      · rw [idxB_none.2 h] at hi; cases hi
    obtain ⟨n, hn⟩ : ∃ n, n + 1 = l.length := ⟨l.length - 1, by omega⟩
    obtain ⟨c1, c2, c3⟩ := two_copies h1 hn
    have hw1 : IntKind.wrap .i64 (((l.length : Nat) : Int) - 1) = (n : Int) := by rw [w64 (by omega) (by omega)]; omega
    have hw2 : IntKind.wrap .i64 ((i : Int) + 1) = ((i + 1 : Nat) : Int) := by rw [w64 (by omega) (by omega)]; omega
    simp only [hw1, hw2, Int.toNat_natCast, c1, c2]
    rw [if_neg (by simp), if_pos (by omega), if_pos (by omega), if_pos hm, c3, h2]

def cntB (l : List Int) (t : Int) : Nat := (l.filter fun x => decide (x ≤ t)).length

theorem line_loop {K : Nat} {l : List Int} {t : Int} (hl : l.length ≤ 100000) : ∀ (rest : List Int) (j k n : Nat), l.drop j = rest → rest.length < k → n ≤ j →
    breaks_Line_rg.l0 K l t k (n : Int) (j : Int) = some ((n + cntB rest t : Nat) : Int)
  | [], j, k, n, hd, hk, hn => by
    obtain ⟨k, rfl⟩ : ∃ m, k = m + 1 := ⟨k - 1, by omega⟩
    have := drop_nil hd
    rw [breaks_Line_rg.l0, if_neg (by simp; omega)]; rfl
  | x :: rest, j, k, n, hd, hk, hn => by
    obtain ⟨k, rfl⟩ : ∃ m, k = m + 1 := ⟨k - 1, by omega⟩
    obtain ⟨hj, hx, hd'⟩ := drop_cons hd (0 : Int)
    rw [List.length_cons] at hk
    have hw : IntKind.wrap .i64 ((j : Int) + 1) = ((j + 1 : Nat) : Int) := by rw [w64 (by omega) (by omega)]; omega
    have hw2 : IntKind.wrap .i64 ((n : Int) + 1) = ((n + 1 : Nat) : Int) := by rw [w64 (by omega) (by omega)]; omega
    rw [breaks_Line_rg.l0, if_pos (by simp; omega), if_pos (by omega)]
    simp only [Int.toNat_natCast, hx, hw, hw2]
    rw [line_loop hl rest (j + 1) k (n + 1) hd' (by omega) (by omega), line_loop hl rest (j + 1) k n hd' (by omega) (by omega)]
    unfold cntB
    by_cases h : x ≤ t
    · rw [if_pos (by simpa using h), List.filter_cons_of_pos (by simpa using h), List.length_cons]; congr 2; omega
    · rw [if_neg (by simpa using h), List.filter_cons_of_neg (by simpa using h)]

theorem line_is {K : Nat} {l : List Int} {t : Int} (hl : l.length ≤ 100000) (hK : l.length < K) : breaks_Line_rg K l t = some (cntB l t : Int) := by
  have := line_loop (K := K) (t := t) hl l 0 K 0 rfl hK (Nat.le_refl _)
  simpa [breaks_Line_rg] using this

def stB (e : Int) (out : List Int) (x : Int) : List Int := if 0 < x ∧ x < e ∧ (out.length = 0 ∨ out.getD (out.length - 1) 0 ≠ x) then out ++ [x] else out

theorem stB_len {e x : Int} {out : List Int} : (stB e out x).length ≤ out.length + 1 := by
  unfold stB; split <;> simp

theorem stB_cond {out : List Int} {e x : Int} (ho : out.length ≤ 1000000) :
    (if decide (x > 0) = true then if decide (x < e) = true then if (((out.length : Nat) : Int) == (0 : Int)) = true then some true else if 0 ≤ IntKind.wrap .i64 (((out.length : Nat) : Int) - 1) ∧ IntKind.wrap .i64 (((out.length : Nat) : Int) - 1) < ((out.length : Nat) : Int) then some (out.getD (IntKind.wrap .i64 (((out.length : Nat) : Int) - 1)).toNat 0 != x) else none else some false else some false) = some (decide (0 < x ∧ x < e ∧ (out.length = 0 ∨ out.getD (out.length - 1) 0 ≠ x))) := by
  by_cases h1 : x > 0
  · rw [if_pos (by simpa using h1)]
    by_cases h2 : x < e
    · rw [if_pos (by simpa using h2)]
      by_cases h3 : out.length = 0
      · rw [if_pos (by simp [h3])]; congr 1; symm; rw [decide_eq_true_eq]; exact ⟨h1, h2, .inl h3⟩
      · have hw : IntKind.wrap .i64 (((out.length : Nat) : Int) - 1) = ((out.length - 1 : Nat) : Int) := by rw [w64 (by omega) (by omega)]; omega
        rw [if_neg (by rw [beq_iff_eq]; omega), hw, if_pos (by omega), Int.toNat_natCast]
        congr 1
        by_cases h4 : out.getD (out.length - 1) 0 = x
        · rw [h4, bne_self_eq_false]; symm; rw [decide_eq_false_iff_not]; exact fun h => h.2.2.elim h3 fun h' => h' rfl
        · rw [show (out.getD (out.length - 1) 0 != x) = true by rw [bne_iff_ne]; exact h4]; symm; rw [decide_eq_true_eq]; exact ⟨h1, h2, .inr h4⟩
    · rw [if_neg (by simpa using h2)]; congr 1; symm; rw [decide_eq_false_iff_not]; exact fun h => h2 h.2.1
  · rw [if_neg (by simpa using h1)]; congr 1; symm; rw [decide_eq_false_iff_not]; exact fun h => h1 h.1

theorem editB_loop {K : Nat} {l : List Int} {base e : Int} {d : List El} (hK : 30000 ≤ K) (hl : l.length ≤ 100000) : ∀ (rest : List Int) (j k : Nat) (out : List Int), l.drop j = rest → rest.length < k → out.length ≤ j →
    breaks_Edit.l0 K l base d e k out (j : Int) = some ((rest.map fun x => mv base d x false).foldl (stB e) out, 0)
  | [], j, k, out, hd, hk, ho => by
    obtain ⟨k, rfl⟩ : ∃ m, k = m + 1 := ⟨k - 1, by omega⟩
    have := drop_nil hd
    rw [breaks_Edit.l0, if_neg (by simp; omega)]; rfl
  | x :: rest, j, k, out, hd, hk, ho => by
    obtain ⟨k, rfl⟩ : ∃ m, k = m + 1 := ⟨k - 1, by omega⟩
    obtain ⟨hj, hx, hd'⟩ := drop_cons hd (0 : Int)
    rw [List.length_cons] at hk
    have hw : IntKind.wrap .i64 ((j : Int) + 1) = ((j + 1 : Nat) : Int) := by rw [w64 (by omega) (by omega)]; omega
    have ih := fun o h => editB_loop (base := base) (e := e) (d := d) hK hl rest (j + 1) k o hd' (by omega) h
    have hs := stB_len (e := e) (x := mv base d x false) (out := out)
    rw [breaks_Edit.l0, if_pos (by simp; omega), if_pos (by omega)]
    simp only [Int.toNat_natCast, hx, hw, move_is hK, Option.bind_some]
    rw [stB_cond (by omega), Option.bind_some, List.map_cons, List.foldl_cons, ← ih (stB e out (mv base d x false)) (by omega)]
    by_cases h : 0 < mv base d x false ∧ mv base d x false < e ∧ (out.length = 0 ∨ out.getD (out.length - 1) 0 ≠ mv base d x false)
    · rw [if_pos (by rw [decide_eq_true_eq]; exact h), if_pos (by simp; omega)]; unfold stB; rw [if_pos h]
    · rw [if_neg (by rw [decide_eq_true_eq]; exact h)]; unfold stB; rw [if_neg h]

theorem reditB_loop {K : Nat} {l : List Int} {base : Int} {d : List El} {cs : List Ce} (hK : 100000 ≤ K) (hl : l.length ≤ 100000) : ∀ (rest : List Int) (j k : Nat) (out : List Int), l.drop j = rest → rest.length < k → out.length ≤ j →
    palinoderef15_EditBreaks.l0 K l base d cs k out (j : Int) = some ((rest.map fun x => mv base d x false).foldl (stB cs.length) out, 0)
  | [], j, k, out, hd, hk, ho => by
    obtain ⟨k, rfl⟩ : ∃ m, k = m + 1 := ⟨k - 1, by omega⟩
    have := drop_nil hd
    rw [palinoderef15_EditBreaks.l0, if_neg (by simp; omega)]; rfl
  | x :: rest, j, k, out, hd, hk, ho => by
    obtain ⟨k, rfl⟩ : ∃ m, k = m + 1 := ⟨k - 1, by omega⟩
    obtain ⟨hj, hx, hd'⟩ := drop_cons hd (0 : Int)
    rw [List.length_cons] at hk
    have hw : IntKind.wrap .i64 ((j : Int) + 1) = ((j + 1 : Nat) : Int) := by rw [w64 (by omega) (by omega)]; omega
    have ih := fun o h => reditB_loop (base := base) (cs := cs) (d := d) hK hl rest (j + 1) k o hd' (by omega) h
    have hs := stB_len (e := (cs.length : Int)) (x := mv base d x false) (out := out)
    rw [palinoderef15_EditBreaks.l0, if_pos (by simp; omega)]
    simp only [Int.toNat_natCast, hx, hw, rmove_is hK, Option.bind_some]
    rw [if_pos (by omega), stB_cond (by omega), Option.bind_some, List.map_cons, List.foldl_cons, ← ih (stB cs.length out (mv base d x false)) (by omega)]
    by_cases h : 0 < mv base d x false ∧ mv base d x false < cs.length ∧ (out.length = 0 ∨ out.getD (out.length - 1) 0 ≠ mv base d x false)
    · rw [if_pos (by rw [decide_eq_true_eq]; exact h), if_pos (by simp; omega)]; unfold stB; rw [if_pos h]
    · rw [if_neg (by rw [decide_eq_true_eq]; exact h)]; unfold stB; rw [if_neg h]

def edB (base : Int) (d : List El) (l : List Int) : List Int := (l.map fun x => mv base d x false).foldl (stB (sumK d + sumT d)) []

theorem edit16_is {K : Nat} {l : List Int} {base : Int} {d : List El} (hK : 100000 ≤ K) (hl : l.length ≤ 1000) : breaks_Edit K l base d = some (if isD base d = true ∧ isB base l = true then (edB base d l, 0) else ([], 12)) ∧
    palinoderef15_EditBreaks K l base d = some (if isD base d = true ∧ isB base l = true then (edB base d l, 0) else ([], 12)) := by
  unfold breaks_Edit palinoderef15_EditBreaks
  rw [is_is (by omega), ris_is (by omega), isB_is (by omega) (by omega), rIsB_is (by omega) (by omega)]
  simp only [Option.bind_some]
  by_cases h : isD base d = true ∧ isB base l = true
  · rw [if_pos h, h.1, h.2, if_neg (by simp), Option.bind_some, if_neg (by simp), dsize_is (by omega), Option.bind_some, if_pos h.1, Option.bind_some, if_neg (by simp), cells_is hK h.1, Option.bind_some]
    have e1 := editB_loop (K := K) (base := base) (d := d) (e := sumK d + sumT d) (by omega) (by omega) l 0 K [] rfl (by omega) (by simp)
    have e2 := reditB_loop (K := K) (base := base) (d := d) (cs := cells d) (by omega) (by omega) l 0 K [] rfl (by omega) (by simp)
    rw [show ((0 : Nat) : Int) = 0 from rfl] at e1 e2
    rw [e1, e2, cells_len (isD_ok h.1).2.2.2.1]
    exact ⟨rfl, rfl⟩
  · have : (if (!isD base d) = true then some true else some (!isB base l)) = some true := by
      cases h1 : isD base d with
      | false => rfl
      | true =>
        cases h2 : isB base l with
        | false => rfl
        | true => exact (h ⟨h1, h2⟩).elim
    rw [this, Option.bind_some, Option.bind_some, if_pos rfl, if_pos rfl, if_neg h]
    exact ⟨rfl, rfl⟩

/-- What goes in order and stays within is all kept. -/
theorem foldB_keep {e : Int} : ∀ {r out : List Int}, r.Pairwise (· < ·) → (∀ x ∈ r, 0 < x ∧ x < e) → (∀ x ∈ r, out.length = 0 ∨ out.getD (out.length - 1) 0 < x) → r.foldl (stB e) out = out ++ r
  | [], out, _, _, _ => by simp
  | x :: r, out, h1, h2, h3 => by
    rw [List.pairwise_cons] at h1
    have hx := h2 x (by simp)
    have hx3 := h3 x (by simp)
    have e1 : stB e out x = out ++ [x] := by
      unfold stB; rw [if_pos ⟨hx.1, hx.2, hx3.imp id fun h => by omega⟩]
    rw [List.foldl_cons, e1, foldB_keep h1.2 (fun y hy => h2 y (by simp [hy])) fun y hy => .inr ?_, List.append_assoc]
    · rfl
    · have : (out ++ [x]).getD ((out ++ [x]).length - 1) 0 = x := by simp
      rw [this]; exact h1.1 y hy

/-- What goes to one place is kept once. -/
theorem foldB_one {e v : Int} (hv : 0 < v ∧ v < e) : ∀ {r : List Int}, (∀ x ∈ r, x = v) → r.foldl (stB e) [v] = [v]
  | [], _ => rfl
  | x :: r, h => by
    have := h x (by simp)
    subst this
    have e1 : stB e [x] x = [x] := by unfold stB; rw [if_neg]; simp
    rw [List.foldl_cons, e1, foldB_one hv fun y hy => h y (by simp [hy])]

theorem bt_get {s : ByteArray} (i : Nat) : bt s (i : Int) = ((s.get! i).toNat : Int) := by
  unfold bt
  rw [Int.toNat_natCast]
  by_cases h : i < s.size
  · rw [getElem?_pos s i h, Option.getD_some]
    congr 2
    show s.data[i] = s.data[i]!
    rw [getElem!_pos s.data i h]
  · rw [getElem?_neg s i h, Option.getD_none]
    show ((0 : UInt8).toNat : Int) = ((s.data[i]!).toNat : Int)
    rw [getElem!_neg s.data i h]; rfl

theorem enc_size {c : Nat} (hc : c ≤ 1114111 ∧ ¬ (55296 ≤ c ∧ c < 57344)) : (Utf8.encode (c : Int)).size = if c < 128 then 1 else if c < 2048 then 2 else if c < 65536 then 3 else 4 := by
  have hv : Utf8.valid (c : Int) = true := by
    unfold Utf8.valid
    simp only [Bool.or_eq_true, Bool.and_eq_true, decide_eq_true_eq]; omega
  unfold Utf8.encode
  simp only [hv, if_true, Int.toNat_natCast]
  by_cases h1 : c < 128
  · rw [if_pos h1, if_pos h1]; rfl
  · rw [if_neg h1, if_neg h1]
    by_cases h2 : c < 2048
    · rw [if_pos h2, if_pos h2]; rfl
    · rw [if_neg h2, if_neg h2]
      by_cases h3 : c < 65536
      · rw [if_pos h3, if_pos h3]; rfl
      · rw [if_neg h3, if_neg h3]; rfl

theorem get_lt {s : ByteArray} {i : Nat} : (s.get! i).toNat < 256 := (s.get! i).toNat_lt

/-- Go's walk told by four bytes. -/
def dcd (n t b0 b1 b2 b3 : Nat) : Nat × Nat :=
  if b0 < 128 then (b0, 1)
  else if b0 / 32 == 6 && (decide (t + 1 < n) && b1 / 64 == 2) then
    (if b0 % 32 * 64 + b1 % 64 ≥ 128 then (b0 % 32 * 64 + b1 % 64, 2) else (65533, 1))
  else if b0 / 16 == 14 && (decide (t + 1 < n) && b1 / 64 == 2) && (decide (t + 2 < n) && b2 / 64 == 2) then
    (if decide (b0 % 16 * 4096 + b1 % 64 * 64 + b2 % 64 ≥ 2048) && Utf8.valid (b0 % 16 * 4096 + b1 % 64 * 64 + b2 % 64 : Nat) then (b0 % 16 * 4096 + b1 % 64 * 64 + b2 % 64, 3) else (65533, 1))
  else if b0 / 8 == 30 && (decide (t + 1 < n) && b1 / 64 == 2) && (decide (t + 2 < n) && b2 / 64 == 2) && (decide (t + 3 < n) && b3 / 64 == 2) then
    (if decide (b0 % 8 * 262144 + b1 % 64 * 4096 + b2 % 64 * 64 + b3 % 64 ≥ 65536) && Utf8.valid (b0 % 8 * 262144 + b1 % 64 * 4096 + b2 % 64 * 64 + b3 % 64 : Nat) then (b0 % 8 * 262144 + b1 % 64 * 4096 + b2 % 64 * 64 + b3 % 64, 4) else (65533, 1))
  else (65533, 1)

theorem dcd_is {s : ByteArray} {t : Nat} : Utf8.decode s t = dcd s.size t (s.get! t).toNat (s.get! (t + 1)).toNat (s.get! (t + 2)).toNat (s.get! (t + 3)).toNat := rfl

theorem dcd_ok {n t b0 b1 b2 b3 : Nat} (ht : t < n) (h0 : b0 < 256) (hz : uszB ((n : Int) - t) b0 b1 b2 b3 ≠ 0) :
    ∃ c z : Nat, dcd n t b0 b1 b2 b3 = (c, z) ∧ uszB ((n : Int) - t) b0 b1 b2 b3 = z ∧ (Utf8.encode (c : Int)).size = z ∧ (c = 10 ↔ b0 = 10) := by
  unfold uszB cont at *
  unfold dcd
  by_cases h1 : b0 < 128
  · rw [if_pos h1, if_pos (show (b0 : Int) < 128 by omega)]
    refine ⟨b0, 1, rfl, rfl, ?_, Iff.rfl⟩
    rw [enc_size (by omega), if_pos h1]
  rw [if_neg (show ¬ (b0 : Int) < 128 by omega)] at hz ⊢
  rw [if_neg h1]
  by_cases h2 : 192 ≤ b0 ∧ b0 < 224
  · rw [if_pos (show (192 : Int) ≤ b0 ∧ (b0 : Int) < 224 by omega)] at hz ⊢
    by_cases c : 2 ≤ (n : Int) - t ∧ ((128 : Int) ≤ b1 ∧ (b1 : Int) < 192) ∧ (128 : Int) ≤ b0 % 32 * 64 + b1 % 64
    · rw [if_pos c, if_pos (by simp; omega), if_pos (by omega)]
      refine ⟨_, 2, rfl, rfl, ?_, by omega⟩
      rw [enc_size (by omega), if_neg (by omega), if_pos (by omega)]
    · rw [if_neg c] at hz; exact (hz rfl).elim
  rw [if_neg (show ¬ ((192 : Int) ≤ b0 ∧ (b0 : Int) < 224) by omega)] at hz ⊢
  rw [if_neg (by simp; omega)]
  by_cases h3 : 224 ≤ b0 ∧ b0 < 240
  · rw [if_pos (show (224 : Int) ≤ b0 ∧ (b0 : Int) < 240 by omega)] at hz ⊢
    by_cases c : 3 ≤ (n : Int) - t ∧ ((128 : Int) ≤ b1 ∧ (b1 : Int) < 192) ∧ ((128 : Int) ≤ b2 ∧ (b2 : Int) < 192) ∧ (2048 : Int) ≤ (b0 % 16 * 64 + b1 % 64) * 64 + b2 % 64 ∧ ¬ ((55296 : Int) ≤ (b0 % 16 * 64 + b1 % 64) * 64 + b2 % 64 ∧ ((b0 : Int) % 16 * 64 + b1 % 64) * 64 + b2 % 64 < 57344)
    · have hc : b0 % 16 * 4096 + b1 % 64 * 64 + b2 % 64 ≤ 1114111 ∧ ¬ (55296 ≤ b0 % 16 * 4096 + b1 % 64 * 64 + b2 % 64 ∧ b0 % 16 * 4096 + b1 % 64 * 64 + b2 % 64 < 57344) := by omega
      have hv : Utf8.valid ((b0 % 16 * 4096 + b1 % 64 * 64 + b2 % 64 : Nat) : Int) = true := by
        unfold Utf8.valid
        simp only [Bool.or_eq_true, Bool.and_eq_true, decide_eq_true_eq]; omega
      rw [if_pos c, if_pos (by simp; omega), hv, if_pos (by simp; omega)]
      refine ⟨_, 3, rfl, rfl, ?_, by omega⟩
      rw [enc_size hc, if_neg (by omega), if_neg (by omega), if_pos (by omega)]
    · rw [if_neg c] at hz; exact (hz rfl).elim
  rw [if_neg (show ¬ ((224 : Int) ≤ b0 ∧ (b0 : Int) < 240) by omega)] at hz ⊢
  rw [if_neg (by simp; omega)]
  by_cases h4 : 240 ≤ b0 ∧ b0 < 248
  · rw [if_pos (show (240 : Int) ≤ b0 ∧ (b0 : Int) < 248 by omega)] at hz ⊢
    by_cases c : 4 ≤ (n : Int) - t ∧ ((128 : Int) ≤ b1 ∧ (b1 : Int) < 192) ∧ ((128 : Int) ≤ b2 ∧ (b2 : Int) < 192) ∧ ((128 : Int) ≤ b3 ∧ (b3 : Int) < 192) ∧ (65536 : Int) ≤ ((b0 % 8 * 64 + b1 % 64) * 64 + b2 % 64) * 64 + b3 % 64 ∧ (((b0 : Int) % 8 * 64 + b1 % 64) * 64 + b2 % 64) * 64 + b3 % 64 ≤ 1114111
    · have hc : b0 % 8 * 262144 + b1 % 64 * 4096 + b2 % 64 * 64 + b3 % 64 ≤ 1114111 ∧ ¬ (55296 ≤ b0 % 8 * 262144 + b1 % 64 * 4096 + b2 % 64 * 64 + b3 % 64 ∧ b0 % 8 * 262144 + b1 % 64 * 4096 + b2 % 64 * 64 + b3 % 64 < 57344) := by omega
      have hv : Utf8.valid ((b0 % 8 * 262144 + b1 % 64 * 4096 + b2 % 64 * 64 + b3 % 64 : Nat) : Int) = true := by
        unfold Utf8.valid
        simp only [Bool.or_eq_true, Bool.and_eq_true, decide_eq_true_eq]; omega
      rw [if_pos c, if_pos (by simp; omega), hv, if_pos (by simp; omega)]
      refine ⟨_, 4, rfl, rfl, ?_, by omega⟩
      rw [enc_size hc, if_neg (by omega), if_neg (by omega), if_neg (by omega)]
    · rw [if_neg c] at hz; exact (hz rfl).elim
  rw [if_neg (show ¬ ((240 : Int) ≤ b0 ∧ (b0 : Int) < 248) by omega)] at hz
  exact (hz rfl).elim

theorem decode_is {s : ByteArray} {t : Nat} (ht : t < s.size) (hz : usz s t ≠ 0) :
    ∃ c z : Nat, Utf8.decode s t = (c, z) ∧ usz s t = z ∧ (Utf8.encode (c : Int)).size = z ∧ (c = 10 ↔ bt s t = 10) := by
  unfold usz at *
  rw [if_neg (by omega)] at hz ⊢
  rw [show (t : Int) + 1 = ((t + 1 : Nat) : Int) by omega, show (t : Int) + 2 = ((t + 2 : Nat) : Int) by omega, show (t : Int) + 3 = ((t + 3 : Nat) : Int) by omega, bt_get, bt_get, bt_get, bt_get] at hz
  rw [show (t : Int) + 1 = ((t + 1 : Nat) : Int) by omega, show (t : Int) + 2 = ((t + 2 : Nat) : Int) by omega, show (t : Int) + 3 = ((t + 3 : Nat) : Int) by omega, bt_get, bt_get, bt_get, bt_get, dcd_is]
  obtain ⟨c, z, h1, h2, h3, h4⟩ := dcd_ok ht get_lt hz
  exact ⟨c, z, h1, h2, h3, by rw [h4]; omega⟩

def wrF (s : ByteArray) (w : Int) : Nat → Nat → List Int → Int → List Int
  | 0, _, out, _ => out
  | d + 1, t, out, n => if t < s.size then wrF s w d (t + (usz s t).toNat) (if usz s t > w - n then (if out.length < 60 then out ++ [(t : Int)] else out) else out) (if bt s t = 10 then 0 else (if usz s t > w - n then 0 else n) + usz s t) else out

theorem wrF_full {s : ByteArray} {w : Int} : ∀ {d t : Nat} {out : List Int} {n : Int}, 60 ≤ out.length → wrF s w d t out n = out
  | 0, _, _, _, _ => rfl
  | d + 1, t, out, n, h => by
    rw [wrF, if_neg (show ¬ out.length < 60 by omega)]
    split
    · rw [show (if usz s t > w - n then out else out) = out by split <;> rfl]
      exact wrF_full h
    · rfl

theorem wrap_loop {K : Nat} {s : ByteArray} {w : Int} (hs : s.size ≤ 100000) (hw : 4 ≤ w ∧ w ≤ 9223372036854775807) : ∀ (d t k m : Nat) (out : List Int) (n : Int), s.size ≤ t + d → d < k → d ≤ m → uval s m t = true → 0 ≤ n → n ≤ w → out.length ≤ 60 →
    breaks_Wrap.l0 K s w k out n t = some (wrF s w d t out n)
  | 0, t, k, m, out, n, hd, hk, hm, hv, h0, h1, ho => by
    obtain ⟨k, rfl⟩ : ∃ m, k = m + 1 := ⟨k - 1, by omega⟩
    rw [breaks_Wrap.l0, if_neg (by simp; omega)]; rfl
  | d + 1, t, k, m, out, n, hd, hk, hm, hv, h0, h1, ho => by
    obtain ⟨k, rfl⟩ : ∃ m, k = m + 1 := ⟨k - 1, by omega⟩
    obtain ⟨m, rfl⟩ : ∃ l, m = l + 1 := ⟨m - 1, by omega⟩
    rw [breaks_Wrap.l0, wrF]
    by_cases h : t < s.size
    · rw [uval, if_pos (show (t : Int) < s.size by omega)] at hv
      have hz : usz s t ≠ 0 := fun e => by rw [if_pos e] at hv; cases hv
      rw [if_neg hz] at hv
      obtain ⟨c, z, e1, e2, e3, e4⟩ := decode_is h hz
      have hz4 := (usz_ok (s := s) (a := (t : Int))).2.1
      rw [e2] at hv hz hz4
      rw [show (t : Int) + (z : Int) = ((t + z : Nat) : Int) by omega] at hv
      have ih := fun o n => wrap_loop (K := K) hs hw d (t + z) k m o n (by omega) (by omega) (by omega) hv
      rw [if_pos (by simpa using h), if_pos h]
      simp only [e1, e3, e2, Int.toNat_natCast]
      rw [w64 (n := w - (z : Int)) (by omega) (by omega)]
      have ec : ((c : Int) == 10) = decide (bt s t = 10) := by
        rw [Bool.eq_iff_iff, beq_iff_eq, decide_eq_true_eq, ← e4]; omega
      rw [ec]
      by_cases hb : n > w - z
      · rw [if_pos (by simpa using hb), if_pos (show (z : Int) > w - n by omega), if_pos (show (z : Int) > w - n by omega)]
        by_cases h60 : out.length = 60
        · rw [if_pos (by rw [beq_iff_eq]; omega), Option.bind_some, Sum.elim_inl, if_neg (by omega), wrF_full (by omega)]
        · rw [if_neg (by rw [beq_iff_eq]; omega), if_pos (by simp; omega), Option.bind_some, Sum.elim_inr, if_pos (show out.length < 60 by omega)]
          simp only [decide_eq_true_eq]
          by_cases hn : bt s t = 10
          · rw [if_pos hn, if_pos hn, ih _ _ (by omega) (by omega) (by simp; omega)]
          · rw [if_neg hn, if_neg hn, w64 (n := 0 + (z : Int)) (by omega) (by omega), ih _ _ (by omega) (by omega) (by simp; omega)]
      · rw [if_neg (by simpa using hb), if_neg (show ¬ (z : Int) > w - n by omega), if_neg (show ¬ (z : Int) > w - n by omega), Option.bind_some, Sum.elim_inr]
        simp only [decide_eq_true_eq]
        by_cases hn : bt s t = 10
        · rw [if_pos hn, if_pos hn, ih _ _ (by omega) (by omega) ho]
        · rw [if_neg hn, if_neg hn, w64 (n := n + (z : Int)) (by omega) (by omega), ih _ _ (by omega) (by omega) ho]
    · rw [if_neg (by simpa using h), if_neg h]

theorem wrap_is {K : Nat} {s : ByteArray} {w : Int} (hs : s.size ≤ 100000) (hw : w ≤ 9223372036854775807) (hK : s.size + 10 ≤ K) : breaks_Wrap K s w = some (if uvalid s = true ∧ 4 ≤ w then (wrF s w s.size 0 [] 0, 0) else ([], 12)) := by
  unfold breaks_Wrap
  rw [uvalid_is hK (by omega), Option.bind_some]
  cases hv : uvalid s with
  | false => rw [if_pos (by simp), Option.bind_some, if_pos rfl, if_neg (by simp)]
  | true =>
    rw [if_neg (by simp), Option.bind_some]
    by_cases h : 4 ≤ w
    · rw [if_neg (by simp; omega), if_pos ⟨rfl, h⟩]
      have e := wrap_loop (K := K) hs ⟨h, hw⟩ s.size 0 K s.size [] 0 (by omega) (by omega) (by omega) hv (by omega) (by omega) (by simp)
      rw [e, Option.bind_some]
    · rw [if_pos (by simp; omega), if_neg fun h' => h h'.2]

theorem known16 {K : Nat} (hK : 100000 < K) : palinodelaw16_known K = some true := by
  unfold palinodelaw16_known
  have a1 : breaks_Put_ng K [] 5 = some ([5], 0) := by rw [putB_is hK rfl (by omega) (by omega)]; rfl
  have a2 : breaks_Put_ng K [5] 2 = some ([2, 5], 0) := by rw [putB_is hK (by decide) (by omega) (by omega)]; rfl
  have a3 : breaks_Take_rg K [2, 5] 3 = some ([], 10) := by rw [takeB_is (by omega) (by simp)]; rfl
  have a4 : breaks_Take_rg K [2, 5] 2 = some ([5], 0) := by rw [takeB_is (by omega) (by simp)]; rfl
  have a5 : breaks_Wrap K (ByteArray.mk #[97, 98, 99, 100, 101, 102, 103, 104]) 4 = some ([4], 0) := by
    rw [wrap_is (by decide) (by omega) (by have : (ByteArray.mk #[97, 98, 99, 100, 101, 102, 103, 104]).size = 8 := rfl
                                           omega)]; decide
  have a6 : breaks_Wrap K (ByteArray.mk #[97]) 3 = some ([], 12) := by
    rw [wrap_is (by decide) (by omega) (by have : (ByteArray.mk #[97]).size = 1 := rfl
                                           omega)]; decide
  rw [a1, Option.bind_some]
  simp only
  rw [a2, Option.bind_some]
  simp only
  rw [a3, Option.bind_some, a4, Option.bind_some, a5, Option.bind_some, a6, Option.bind_some, line_is (by simp) (by simp; omega), line_is (by simp) (by simp; omega), isB_is (by simp) (by simp; omega), isB_is (by simp) (by simp; omega)]
  decide

theorem goB_loop {K : Nat} {l : List Int} (hK : 100000 < K) (hl : l.length ≤ 20) (hx : ∀ x ∈ l, 0 ≤ x ∧ x ≤ 255) : ∀ (rest : List Int) (j k : Nat) (m : List Int), l.drop j = rest → rest.length < k → okB 99 0 m = true → m.length ≤ j → j ≤ l.length →
    ∃ m', palinodelaw16_BreaksGo.l0 K l k m (j : Int) = some (.inr m') ∧ okB 99 0 m' = true ∧ m'.length ≤ 20
  | [], j, k, m, hd, hk, h1, h2, h3 => by
    obtain ⟨k, rfl⟩ : ∃ m, k = m + 1 := ⟨k - 1, by omega⟩
    have := drop_nil hd
    rw [palinodelaw16_BreaksGo.l0, if_neg (by simp; omega)]
    exact ⟨m, rfl, h1, by omega⟩
  | x :: rest, j, k, m, hd, hk, h1, h2, h3 => by
    obtain ⟨k, rfl⟩ : ∃ m, k = m + 1 := ⟨k - 1, by omega⟩
    obtain ⟨hj, hgd, hd'⟩ := drop_cons hd (0 : Int)
    rw [List.length_cons] at hk
    have hw : IntKind.wrap .i64 ((j : Int) + 1) = ((j + 1 : Nat) : Int) := by rw [w64 (by omega) (by omega)]; omega
    have hxm : x ∈ l := List.mem_of_mem_drop (i := j) (by rw [hd]; simp)
    have bx := hx x hxm
    have ht := tmod_u8 (m := 98) bx.1 (by omega)
    rw [palinodelaw16_BreaksGo.l0, if_pos (by simp; omega)]
    simp only [Int.toNat_natCast, hgd, hw]
    rw [w64 (n := Int.tmod x 98) (by omega) (by omega), w64 (n := Int.tmod x 98 + 1) (by omega) (by omega), putB_is hK (isB_of (okB_mono (by omega) h1) (by omega) (by omega)) (by omega) (by omega)]
    have hs := okB_lt h1
    by_cases hm : Int.tmod x 98 + 1 ∈ m
    · rw [if_pos hm, Option.bind_some, if_pos (by omega), if_neg (by simp)]
      exact goB_loop hK hl hx rest (j + 1) k m hd' (by omega) h1 (by omega) (by omega)
    · rw [if_neg hm, if_neg (by omega), Option.bind_some, if_pos (by omega), if_neg (by simp)]
      refine goB_loop hK hl hx rest (j + 1) k _ hd' (by omega) (okB_of (putB_lt hs) fun y hy => ?_) (by simp only; rw [putB_len hs hm]; omega) (by omega)
      rcases putB_mem.1 hy with rfl | hy
      · omega
      · exact okB_mem h1 y hy

def shB (p t : Int) (x : Int) : Int := if x > p then x + t else x

theorem toldB_loop {K : Nat} {m : List Int} {a p : Int} {t : ByteArray} {r : List Int × Int} (hp : Int.tmod (IntKind.wrap .i64 a) 100 = p) (ht : t.size ≤ 20) (hm : m.length ≤ 1000) (hb : ∀ x ∈ m, 0 < x ∧ x < 99) (hr : r.1 = m.map (shB p t.size)) : ∀ (rest : List Int) (j k : Nat), m.drop j = rest → rest.length < k →
    palinodelaw16_BreaksGo.l1 K m a t r k (j : Int) = some (.inr ())
  | [], j, k, hd, hk => by
    obtain ⟨k, rfl⟩ : ∃ m, k = m + 1 := ⟨k - 1, by omega⟩
    have := drop_nil hd
    rw [palinodelaw16_BreaksGo.l1, if_neg (by simp; omega)]
  | x :: rest, j, k, hd, hk => by
    obtain ⟨k, rfl⟩ : ∃ m, k = m + 1 := ⟨k - 1, by omega⟩
    obtain ⟨hj, hgd, hd'⟩ := drop_cons hd (0 : Int)
    rw [List.length_cons] at hk
    have hw : IntKind.wrap .i64 ((j : Int) + 1) = ((j + 1 : Nat) : Int) := by rw [w64 (by omega) (by omega)]; omega
    have hxm : x ∈ m := List.mem_of_mem_drop (i := j) (by rw [hd]; simp)
    have bx := hb x hxm
    have hrl : r.1.length = m.length := by rw [hr, List.length_map]
    have hrg : r.1.getD j 0 = shB p t.size x := by
      have : m[j] = x := by rw [← hgd]; simp [List.getD, List.getElem?_eq_getElem hj]
      rw [hr, List.getD_eq_getElem?_getD, List.getElem?_map, List.getElem?_eq_getElem hj, this]; rfl
    rw [palinodelaw16_BreaksGo.l1, if_pos (by simp; omega), if_pos (by omega)]
    simp only [Int.toNat_natCast, hgd, hw, hp, hrl, hrg, w64 (n := x + ((t.size : Nat) : Int)) (by omega) (by omega)]
    have e : (if decide (x > p) = true then some (x + ((t.size : Nat) : Int)) else some x) = some (shB p t.size x) := by
      unfold shB
      by_cases c : x > p
      · rw [if_pos (by simpa using c), if_pos c]
      · rw [if_neg (by simpa using c), if_neg c]
    rw [e, Option.bind_some, if_pos (by omega), if_neg (by simp)]
    exact toldB_loop hp ht hm hb hr rest (j + 1) k hd' (by omega)

theorem BreaksGo_pure (l : List Int) (a : Int) (t : ByteArray) (ol : Kd.ok (.slice (.int .u8)) l) (oa : Kd.ok (.int .u8) a) (ot : Kd.ok .str t) : ∃ K, palinodelaw16_BreaksGo K l a t = some true := by
  refine ⟨200000, ?_⟩
  have hx : ∀ c ∈ l, 0 ≤ c ∧ c ≤ 255 := fun c h => bounds_u8 (ol.2 c h)
  have ba := bounds_u8 oa
  clear ol oa ot
  unfold palinodelaw16_BreaksGo
  rw [known16 (by omega), Option.bind_some, if_neg (by simp)]
  by_cases hl : l.length > 20
  · rw [if_pos (by simp; omega), Option.bind_some, if_pos rfl]
  rw [if_neg (by simp; omega)]
  by_cases ht1 : t.size < 1
  · rw [if_pos (by simp; omega), Option.bind_some, if_pos rfl]
  rw [if_neg (by simp; omega), Option.bind_some]
  by_cases ht : t.size > 20
  · rw [if_pos (by simp; omega)]
  rw [if_neg (by simp; omega)]
  obtain ⟨m, hm, hmo, hml⟩ := goB_loop (K := 200000) (l := l) (by omega) (by omega) hx l 0 200000 [] rfl (by omega) rfl (by simp) (by omega)
  rw [show ((0 : Nat) : Int) = 0 from rfl] at hm
  rw [hm, Option.bind_some, Sum.elim_inr]
  have hp' := tmod_u8 (m := 100) ba.1 (by omega)
  obtain ⟨p, hp⟩ : ∃ p : Nat, Int.tmod (IntKind.wrap .i64 a) 100 = (p : Int) ∧ p < 100 := by
    rw [w64 (n := a) (by omega) (by omega)]
    exact ⟨(Int.tmod a 100).toNat, by omega, by omega⟩
  obtain ⟨hp, hp2⟩ := hp
  have hmb : ∀ x ∈ m, 0 < x ∧ x < 99 := fun x h => okB_mem hmo x h
  have hs := okB_lt hmo
  simp only [hp]
  rw [build_is (by simp) (by simp) (fun x hx => by rw [List.mem_singleton.1 hx]; simp only; omega), Option.bind_some]
  have hone := one_is (n := 100) (a := p) (b := p) (t := t) (Nat.le_refl _) (by omega) (by omega) (by omega)
  cases hv : uvalid t with
  | false =>
    have := hone.1 hv
    rw [show ((100 : Nat) : Int) = 100 from rfl] at this
    rw [this, if_pos (by simp)]; rfl
  | true =>
    obtain ⟨o1, o2, o3, o4⟩ := hone.2 hv
    have hD := isD_ok o3
    have hsum : sumK (bldD ((100 : Nat) : Int) [((p : Int), ((p : Int), t))]).2.1 + sumT (bldD ((100 : Nat) : Int) [((p : Int), ((p : Int), t))]).2.1 = 100 + t.size := by
      rw [← cells_len hD.2.2.2.1, o4]
      simp only [List.length_append, cellsC_len, cellsT_len]; omega
    have hmap : (m.map fun x => mv ((100 : Nat) : Int) (bldD ((100 : Nat) : Int) [((p : Int), ((p : Int), t))]).2.1 x false) = m.map (shB p t.size) := by
      refine List.map_congr_left fun x hx => ?_
      have bx := hmb x hx
      obtain ⟨u, rfl⟩ : ∃ u : Nat, x = u := ⟨x.toNat, by omega⟩
      rw [(plain_put (n := 100) (a := p) (x := u) (t := t) (by omega) (by omega) (by omega) (by omega) hv).1]
      unfold shB
      split <;> split <;> omega
    have hed : edB ((100 : Nat) : Int) (bldD ((100 : Nat) : Int) [((p : Int), ((p : Int), t))]).2.1 m = m.map (shB p t.size) := by
      unfold edB
      rw [hmap, foldB_keep ?_ ?_ fun x hx => .inl rfl, List.nil_append]
      · rw [List.pairwise_map]
        exact hs.imp fun {x y} h => by unfold shB; split <;> split <;> omega
      · intro y hy
        obtain ⟨x, hx, rfl⟩ := List.mem_map.1 hy
        have bx := hmb x hx
        rw [hsum]
        unfold shB
        split <;> omega
    have hi : isB 100 m = true := isB_of (okB_mono (by omega) hmo) (by omega) (by omega)
    rw [show ((100 : Nat) : Int) = 100 from rfl] at o1 o2 o3 hed
    rw [o1, if_neg (by simp), o2, (edit16_is (by omega) (by omega)).1, if_pos ⟨o3, hi⟩, hed, Option.bind_some, if_neg (by simp), Option.bind_some]
    simp only [List.length_map]
    rw [if_neg (by simp)]
    have hto := toldB_loop (K := 200000) (m := m) (r := (m.map (shB p t.size), (0 : Int))) hp (by omega) (by omega) hmb rfl m 0 200000 rfl (by omega)
    rw [show ((0 : Nat) : Int) = 0 from rfl] at hto
    rw [hto, Option.bind_some, Sum.elim_inr]
    -- all but the ends taken away
    obtain ⟨q1, q2, q3, q4⟩ := (one_is (n := 100) (a := 1) (b := 99) (t := ByteArray.empty) (by omega) (by omega) (by omega) (by rw [empty_size]; omega)).2 rfl
    have hD2 := isD_ok q3
    have hsum2 : sumK (bldD ((100 : Nat) : Int) [(((1 : Nat) : Int), (((99 : Nat) : Int), ByteArray.empty))]).2.1 + sumT (bldD ((100 : Nat) : Int) [(((1 : Nat) : Int), (((99 : Nat) : Int), ByteArray.empty))]).2.1 = 2 := by
      rw [← cells_len hD2.2.2.2.1, q4]
      simp only [List.length_append, cellsC_len, cellsT_len, empty_size]; omega
    have hmap2 : ∀ y ∈ (m.map fun x => mv ((100 : Nat) : Int) (bldD ((100 : Nat) : Int) [(((1 : Nat) : Int), (((99 : Nat) : Int), ByteArray.empty))]).2.1 x false), y = 1 := by
      intro y hy
      obtain ⟨x, hx, rfl⟩ := List.mem_map.1 hy
      have bx := hmb x hx
      obtain ⟨u, rfl⟩ : ∃ u : Nat, x = u := ⟨x.toNat, by omega⟩
      rw [plain_cut (n := 100) (a := 1) (b := 99) (x := u) (by omega) (by omega) (by omega) (by omega) false]
      split <;> omega
    have hed2 : edB ((100 : Nat) : Int) (bldD ((100 : Nat) : Int) [(((1 : Nat) : Int), (((99 : Nat) : Int), ByteArray.empty))]).2.1 m = if m.length = 0 then [] else [1] := by
      unfold edB
      rw [hsum2]
      cases m with
      | nil => rfl
      | cons x m =>
        rw [List.map_cons] at hmap2 ⊢
        have h1 := hmap2 _ (List.mem_cons_self)
        rw [List.foldl_cons, h1, show stB 2 [] 1 = [1] from rfl, foldB_one (by omega) fun y hy => hmap2 y (List.mem_cons_of_mem _ hy)]
        rfl
    rw [show ((100 : Nat) : Int) = 100 from rfl, show ((1 : Nat) : Int) = 1 from rfl, show ((99 : Nat) : Int) = 99 from rfl] at q1 q2 q3 hed2
    rw [build_is (by simp) (by simp) (fun x hx => by rw [List.mem_singleton.1 hx]; simp only [empty_size]; omega), Option.bind_some, q2, (edit16_is (by omega) (by omega)).1, if_pos ⟨q3, hi⟩, hed2, Option.bind_some, q1, if_pos (by simp)]
    simp only
    rw [if_pos (by simp)]
    by_cases h0 : m.length = 0
    · rw [if_pos h0, if_pos (by rw [beq_iff_eq]; omega), if_pos (by simp)]
    · rw [if_neg h0, if_neg (by rw [beq_iff_eq]; omega), if_pos (by simp; omega), if_pos (by simp), if_pos (by simp)]
      rfl

end Go.Pal
