/- Whatever styles and one text put in: each byte that is kept has the style that it had; what is put in between two bytes of one span has that, too. -/
import Derived.Test.YtkmdhkmcpllicaaFunSpansGo
namespace Go.Pal
open Go
set_option linter.unusedVariables false
set_option linter.unusedSimpArgs false
set_option linter.unnecessarySimpa false
theorem w64 {n : Int} (h1 : -9223372036854775808 ≤ n) (h2 : n < 9223372036854775808) : IntKind.wrap .i64 n = n := by
  simp only [IntKind.wrap, IntKind.bits, IntKind.signed]
  simp
  omega

theorem drop_cons {α : Type} {l : List α} {j : Nat} {g : α} {r : List α} (h : l.drop j = g :: r) (d : α) : j < l.length ∧ l.getD j d = g ∧ l.drop (j + 1) = r := by
  have hj : j < l.length := by
    rcases Nat.lt_or_ge j l.length with h' | h'
    · exact h'
    · rw [List.drop_eq_nil_of_le h'] at h; cases h
  rw [List.drop_eq_getElem_cons hj] at h
  obtain ⟨h1, h2⟩ := List.cons.inj h
  exact ⟨hj, by simp [List.getD, hj, h1], h2⟩

theorem drop_nil {α : Type} {l : List α} {j : Nat} (h : l.drop j = []) : l.length ≤ j := List.drop_eq_nil_iff.1 h

theorem split_last {α : Type} : ∀ {l : List α}, l ≠ [] → ∃ m x, l = m ++ [x] := by
  intro l h
  exact ⟨l.dropLast, l.getLast h, (List.dropLast_concat_getLast h).symm⟩

theorem mx2_eq (a b : Int) : mx2 a b = max a b := by unfold mx2; split <;> omega

theorem mn2_eq (a b : Int) : mn2 a b = min a b := by unfold mn2; split <;> omega

/-- The counts of e, those from f to t told anew. -/
def put (e : List Int) (f t c : Int) : List Int := e.take f.toNat ++ List.replicate (t - f).toNat c ++ e.drop t.toNat

/-- The count at a place, nothing outside. -/
def at_ (e : List Int) (i : Int) : Int := if i < 0 ∨ i ≥ e.length then 0 else e.getD i.toNat 0

theorem tmod_u8 {n m : Int} (h0 : 0 ≤ n) (hm : 0 < m) : 0 ≤ Int.tmod n m ∧ Int.tmod n m < m := by
  rw [Int.tmod_eq_emod_of_nonneg h0]
  exact ⟨Int.emod_nonneg _ (by omega), Int.emod_lt_of_pos _ hm⟩

/-- The place of the how-manieth that has no count. -/
def up : List Int → Int → Int → Int
  | [], _, i => i
  | c :: r, k, i => if c ≠ 0 then up r k (i + 1) else if k = 0 then i else up r (k - 1) (i + 1)

/-- Runs without their first places. -/
def less (g : Int × Int) (r : List (Int × Int)) (n : Int) : List (Int × Int) := if g.1 - n = 0 then r else (g.1 - n, g.2) :: r

/-- Place by place through two rows of counts. -/
def thru (G : Int → Int → List Int) : List Int → List Int → List Int
  | c :: a, d :: b => G c d ++ thru G a b
  | _, _ => []

/-- A count for each two. -/
def two (F : Int → Int → Int) (a b : List Int) : List Int := thru (fun c d => [F c d]) a b

/-- A text's bytes. -/
def txt (s : ByteArray) : List Int := s.data.toList.map fun b => (b.toNat : Int)

theorem txt_len {s : ByteArray} : (txt s).length = s.size := by simp [txt]

theorem ofBytes_txt {s : ByteArray} : ofBytes (txt s) = s := by
  cases s with
  | mk d =>
    unfold ofBytes txt
    rw [List.map_map]
    have : ((fun n : Int => UInt8.ofNat n.toNat) ∘ fun b : UInt8 => (b.toNat : Int)) = id := by
      funext b; simp
    rw [this]; simp

theorem txt_get {s : ByteArray} {j : Nat} (h : j < (txt s).length) (hs : j < s.size) : (txt s)[j] = (s[j].toNat : Int) := by
  have : ∀ (l : List Int) (h : j < l.length), l = s.data.toList.map (fun b => (b.toNat : Int)) → l[j] = (s[j].toNat : Int) := by
    intro l h e
    subst e
    rw [List.getElem_map, Array.getElem_toList]
    rfl
  exact this _ h rfl

theorem bt_is {s : ByteArray} {j : Nat} (h : j < (txt s).length) : bt s (j : Int) = (txt s)[j] := by
  have hs : j < s.size := by rw [← txt_len]; exact h
  rw [txt_get h hs]
  unfold bt
  simp [hs]

theorem byte_all {P : Int → Prop} (h : ∀ m : Fin 256, P ((m.val : Nat) : Int)) {c : Int} (h0 : 0 ≤ c) (h1 : c ≤ 255) : P c := by
  have := h ⟨c.toNat, by omega⟩
  simpa [Int.toNat_of_nonneg h0] using this

theorem bt_ok {s : ByteArray} {i : Int} : 0 ≤ bt s i ∧ bt s i ≤ 255 := by
  unfold bt
  have := (s[i.toNat]?.getD 0).toNat_lt
  omega

/-- A byte that goes on. -/
def cont (b : Int) : Prop := 128 ≤ b ∧ b < 192

instance (b : Int) : Decidable (cont b) := inferInstanceAs (Decidable (_ ∧ _))

theorem and_192 {b : Int} (h0 : 0 ≤ b) (h1 : b ≤ 255) : (IntKind.wrap .u8 (BitVec.toNat (BitVec.ofInt (IntKind.bits .u8) b &&& BitVec.ofInt (IntKind.bits .u8) (192 : Int))) != (128 : Int)) = !decide (cont b) :=
  byte_all (P := fun b => (IntKind.wrap .u8 (BitVec.toNat (BitVec.ofInt (IntKind.bits .u8) b &&& BitVec.ofInt (IntKind.bits .u8) (192 : Int))) != (128 : Int)) = !decide (cont b)) (by decide +kernel) h0 h1

theorem not_192 {b : Int} (h0 : 0 ≤ b) (h1 : b ≤ 255) : IntKind.wrap .u8 (BitVec.toNat (BitVec.ofInt (IntKind.bits .u8) b &&& ~~~BitVec.ofInt (IntKind.bits .u8) (192 : Int))) = b % 64 :=
  byte_all (P := fun b => IntKind.wrap .u8 (BitVec.toNat (BitVec.ofInt (IntKind.bits .u8) b &&& ~~~BitVec.ofInt (IntKind.bits .u8) (192 : Int))) = b % 64) (by decide +kernel) h0 h1

theorem not_128 {b : Int} (h0 : 0 ≤ b) (h1 : b ≤ 255) : IntKind.wrap .u8 (BitVec.toNat (BitVec.ofInt (IntKind.bits .u8) b &&& ~~~BitVec.ofInt (IntKind.bits .u8) (128 : Int))) = b % 128 :=
  byte_all (P := fun b => IntKind.wrap .u8 (BitVec.toNat (BitVec.ofInt (IntKind.bits .u8) b &&& ~~~BitVec.ofInt (IntKind.bits .u8) (128 : Int))) = b % 128) (by decide +kernel) h0 h1

theorem not_224 {b : Int} (h0 : 0 ≤ b) (h1 : b ≤ 255) : IntKind.wrap .u8 (BitVec.toNat (BitVec.ofInt (IntKind.bits .u8) b &&& ~~~BitVec.ofInt (IntKind.bits .u8) (224 : Int))) = b % 32 :=
  byte_all (P := fun b => IntKind.wrap .u8 (BitVec.toNat (BitVec.ofInt (IntKind.bits .u8) b &&& ~~~BitVec.ofInt (IntKind.bits .u8) (224 : Int))) = b % 32) (by decide +kernel) h0 h1

theorem not_240 {b : Int} (h0 : 0 ≤ b) (h1 : b ≤ 255) : IntKind.wrap .u8 (BitVec.toNat (BitVec.ofInt (IntKind.bits .u8) b &&& ~~~BitVec.ofInt (IntKind.bits .u8) (240 : Int))) = b % 16 :=
  byte_all (P := fun b => IntKind.wrap .u8 (BitVec.toNat (BitVec.ofInt (IntKind.bits .u8) b &&& ~~~BitVec.ofInt (IntKind.bits .u8) (240 : Int))) = b % 16) (by decide +kernel) h0 h1

theorem not_248 {b : Int} (h0 : 0 ≤ b) (h1 : b ≤ 255) : IntKind.wrap .u8 (BitVec.toNat (BitVec.ofInt (IntKind.bits .u8) b &&& ~~~BitVec.ofInt (IntKind.bits .u8) (248 : Int))) = b % 8 :=
  byte_all (P := fun b => IntKind.wrap .u8 (BitVec.toNat (BitVec.ofInt (IntKind.bits .u8) b &&& ~~~BitVec.ofInt (IntKind.bits .u8) (248 : Int))) = b % 8) (by decide +kernel) h0 h1

theorem is_128 {b : Int} (h0 : 0 ≤ b) (h1 : b ≤ 255) : (IntKind.wrap .u8 (BitVec.toNat (BitVec.ofInt (IntKind.bits .u8) b &&& BitVec.ofInt (IntKind.bits .u8) (128 : Int))) == (0 : Int)) = decide (b < 128) :=
  byte_all (P := fun b => (IntKind.wrap .u8 (BitVec.toNat (BitVec.ofInt (IntKind.bits .u8) b &&& BitVec.ofInt (IntKind.bits .u8) (128 : Int))) == (0 : Int)) = decide (b < 128)) (by decide +kernel) h0 h1

theorem is_224 {b : Int} (h0 : 0 ≤ b) (h1 : b ≤ 255) : (IntKind.wrap .u8 (BitVec.toNat (BitVec.ofInt (IntKind.bits .u8) b &&& BitVec.ofInt (IntKind.bits .u8) (224 : Int))) == (192 : Int)) = decide (192 ≤ b ∧ b < 224) :=
  byte_all (P := fun b => (IntKind.wrap .u8 (BitVec.toNat (BitVec.ofInt (IntKind.bits .u8) b &&& BitVec.ofInt (IntKind.bits .u8) (224 : Int))) == (192 : Int)) = decide (192 ≤ b ∧ b < 224)) (by decide +kernel) h0 h1

theorem is_240 {b : Int} (h0 : 0 ≤ b) (h1 : b ≤ 255) : (IntKind.wrap .u8 (BitVec.toNat (BitVec.ofInt (IntKind.bits .u8) b &&& BitVec.ofInt (IntKind.bits .u8) (240 : Int))) == (224 : Int)) = decide (224 ≤ b ∧ b < 240) :=
  byte_all (P := fun b => (IntKind.wrap .u8 (BitVec.toNat (BitVec.ofInt (IntKind.bits .u8) b &&& BitVec.ofInt (IntKind.bits .u8) (240 : Int))) == (224 : Int)) = decide (224 ≤ b ∧ b < 240)) (by decide +kernel) h0 h1

theorem is_248 {b : Int} (h0 : 0 ≤ b) (h1 : b ≤ 255) : (IntKind.wrap .u8 (BitVec.toNat (BitVec.ofInt (IntKind.bits .u8) b &&& BitVec.ofInt (IntKind.bits .u8) (248 : Int))) == (240 : Int)) = decide (240 ≤ b ∧ b < 248) :=
  byte_all (P := fun b => (IntKind.wrap .u8 (BitVec.toNat (BitVec.ofInt (IntKind.bits .u8) b &&& BitVec.ofInt (IntKind.bits .u8) (248 : Int))) == (240 : Int)) = decide (240 ≤ b ∧ b < 248)) (by decide +kernel) h0 h1

theorem and_63 {b : Int} (h0 : 0 ≤ b) (h1 : b ≤ 255) : IntKind.wrap .i64 (BitVec.toNat (BitVec.ofInt (IntKind.bits .i64) b &&& BitVec.ofInt (IntKind.bits .i64) (63 : Int))) = b % 64 :=
  byte_all (P := fun b => IntKind.wrap .i64 (BitVec.toNat (BitVec.ofInt (IntKind.bits .i64) b &&& BitVec.ofInt (IntKind.bits .i64) (63 : Int))) = b % 64) (by decide +kernel) h0 h1

theorem and_31 {b : Int} (h0 : 0 ≤ b) (h1 : b ≤ 255) : IntKind.wrap .i64 (BitVec.toNat (BitVec.ofInt (IntKind.bits .i64) b &&& BitVec.ofInt (IntKind.bits .i64) (31 : Int))) = b % 32 :=
  byte_all (P := fun b => IntKind.wrap .i64 (BitVec.toNat (BitVec.ofInt (IntKind.bits .i64) b &&& BitVec.ofInt (IntKind.bits .i64) (31 : Int))) = b % 32) (by decide +kernel) h0 h1

theorem and_15 {b : Int} (h0 : 0 ≤ b) (h1 : b ≤ 255) : IntKind.wrap .i64 (BitVec.toNat (BitVec.ofInt (IntKind.bits .i64) b &&& BitVec.ofInt (IntKind.bits .i64) (15 : Int))) = b % 16 :=
  byte_all (P := fun b => IntKind.wrap .i64 (BitVec.toNat (BitVec.ofInt (IntKind.bits .i64) b &&& BitVec.ofInt (IntKind.bits .i64) (15 : Int))) = b % 16) (by decide +kernel) h0 h1

theorem and_7 {b : Int} (h0 : 0 ≤ b) (h1 : b ≤ 255) : IntKind.wrap .i64 (BitVec.toNat (BitVec.ofInt (IntKind.bits .i64) b &&& BitVec.ofInt (IntKind.bits .i64) (7 : Int))) = b % 8 :=
  byte_all (P := fun b => IntKind.wrap .i64 (BitVec.toNat (BitVec.ofInt (IntKind.bits .i64) b &&& BitVec.ofInt (IntKind.bits .i64) (7 : Int))) = b % 8) (by decide +kernel) h0 h1

theorem div_64 {b : Int} (h0 : 0 ≤ b) (h1 : b ≤ 255) : (Int.fdiv b 64 != 2) = !decide (cont b) :=
  byte_all (P := fun b => (Int.fdiv b 64 != 2) = !decide (cont b)) (by decide +kernel) h0 h1

theorem or_lo {r x : Nat} (hx : x < 64) : (r * 64) ||| x = r * 64 + x := by
  have := Nat.two_pow_add_eq_or_of_lt (i := 6) hx r
  rw [Nat.mul_comm] at this
  exact this.symm

theorem w32 {n : Int} (h1 : -2147483648 ≤ n) (h2 : n < 2147483648) : IntKind.wrap .i32 n = n := by
  simp only [IntKind.wrap, IntKind.bits, IntKind.signed]
  simp
  omega

theorem or_32 {r x : Int} (h0 : 0 ≤ r) (h1 : r < 1048576) (h2 : 0 ≤ x) (h3 : x < 64) : IntKind.wrap .i32 (BitVec.toNat (BitVec.ofInt (IntKind.bits .i32) (IntKind.wrap .i32 (r * (64 : Int))) ||| BitVec.ofInt (IntKind.bits .i32) (IntKind.wrap .i32 x))) = r * 64 + x := by
  rw [w32 (n := r * 64) (by omega) (by omega), w32 (n := x) (by omega) (by omega)]
  obtain ⟨a, rfl⟩ : ∃ a : Nat, r = a := ⟨r.toNat, by omega⟩
  obtain ⟨b, rfl⟩ : ∃ b : Nat, x = b := ⟨x.toNat, by omega⟩
  have e1 : (BitVec.ofInt (IntKind.bits .i32) ((a : Int) * 64) ||| BitVec.ofInt (IntKind.bits .i32) (b : Int)).toNat = a * 64 + b := by
    rw [BitVec.toNat_or, BitVec.toNat_ofInt, BitVec.toNat_ofInt]
    have h4 : ((a : Int) * 64 % ((2 ^ IntKind.bits .i32 : Nat) : Int)).toNat = a * 64 := by
      have : IntKind.bits .i32 = 32 := rfl
      rw [this]; omega
    have h5 : ((b : Int) % ((2 ^ IntKind.bits .i32 : Nat) : Int)).toNat = b := by
      have : IntKind.bits .i32 = 32 := rfl
      rw [this]; omega
    rw [h4, h5, or_lo (by omega)]
  rw [e1, w32 (by omega) (by omega)]
  omega

theorem or_64 {r x : Int} (h0 : 0 ≤ r) (h1 : r < 1048576) (h2 : 0 ≤ x) (h3 : x < 64) : IntKind.wrap .i64 (BitVec.toNat (BitVec.ofInt (IntKind.bits .i64) (IntKind.wrap .i64 (r * (64 : Int))) ||| BitVec.ofInt (IntKind.bits .i64) x)) = r * 64 + x := by
  rw [w64 (n := r * 64) (by omega) (by omega)]
  obtain ⟨a, rfl⟩ : ∃ a : Nat, r = a := ⟨r.toNat, by omega⟩
  obtain ⟨b, rfl⟩ : ∃ b : Nat, x = b := ⟨x.toNat, by omega⟩
  have e1 : (BitVec.ofInt (IntKind.bits .i64) ((a : Int) * 64) ||| BitVec.ofInt (IntKind.bits .i64) (b : Int)).toNat = a * 64 + b := by
    rw [BitVec.toNat_or, BitVec.toNat_ofInt, BitVec.toNat_ofInt]
    have h4 : ((a : Int) * 64 % ((2 ^ IntKind.bits .i64 : Nat) : Int)).toNat = a * 64 := by
      have : IntKind.bits .i64 = 64 := rfl
      rw [this]; omega
    have h5 : ((b : Int) % ((2 ^ IntKind.bits .i64 : Nat) : Int)).toNat = b := by
      have : IntKind.bits .i64 = 64 := rfl
      rw [this]; omega
    rw [h4, h5, or_lo (by omega)]
  rw [e1, w64 (by omega) (by omega)]
  omega

/-- How many bytes a code point has that begins with these, of so many; 0: there is none. -/
def uszB (n c d e f : Int) : Int :=
  if c < 128 then 1
  else if 192 ≤ c ∧ c < 224 then (if 2 ≤ n ∧ cont d ∧ 128 ≤ c % 32 * 64 + d % 64 then 2 else 0)
  else if 224 ≤ c ∧ c < 240 then (if 3 ≤ n ∧ cont d ∧ cont e ∧ 2048 ≤ (c % 16 * 64 + d % 64) * 64 + e % 64 ∧ ¬ (55296 ≤ (c % 16 * 64 + d % 64) * 64 + e % 64 ∧ (c % 16 * 64 + d % 64) * 64 + e % 64 < 57344) then 3 else 0)
  else if 240 ≤ c ∧ c < 248 then (if 4 ≤ n ∧ cont d ∧ cont e ∧ cont f ∧ 65536 ≤ ((c % 8 * 64 + d % 64) * 64 + e % 64) * 64 + f % 64 ∧ ((c % 8 * 64 + d % 64) * 64 + e % 64) * 64 + f % 64 ≤ 1114111 then 4 else 0)
  else 0

theorem long_end {K : Nat} {s : ByteArray} {a : Int} {n r i : Int} {k : Nat} (h : ¬ i < n) : utf_long.l0 K n a s (k + 1) r i = some (.inr r) := by
  rw [utf_long.l0, if_neg (by simpa using h)]

theorem long_bad {K : Nat} {s : ByteArray} {a : Int} (h0 : 0 ≤ a) (hs : (s.size : Int) ≤ 1000000000000) {n r i : Int} {k : Nat} (h : i < n) (hi : 0 ≤ i) (hr : a + i < s.size) (hc : ¬ cont (bt s (a + i))) : utf_long.l0 K n a s (k + 1) r i = some (.inl (0, 0)) := by
  rw [utf_long.l0, w64 (n := a + i) (by omega) (by omega), if_pos (by simpa using h), if_pos ⟨by omega, by omega⟩, and_192 bt_ok.1 bt_ok.2, if_pos (by simpa using hc)]

theorem long_go {K : Nat} {s : ByteArray} {a : Int} (h0 : 0 ≤ a) (hs : (s.size : Int) ≤ 1000000000000) {n r i : Int} {k : Nat} (h : i < n) (hi : 0 ≤ i) (hr : a + i < s.size) (hc : cont (bt s (a + i))) (r0 : 0 ≤ r) (r1 : r < 1048576) : utf_long.l0 K n a s (k + 1) r i = utf_long.l0 K n a s k (r * 64 + bt s (a + i) % 64) (i + 1) := by
  have hb := bt_ok (s := s) (i := a + i)
  rw [utf_long.l0, w64 (n := a + i) (by omega) (by omega), if_pos (by simpa using h), if_pos ⟨by omega, by omega⟩, and_192 hb.1 hb.2, if_neg (by simpa using hc), not_192 hb.1 hb.2, or_32 r0 r1 (by omega) (by omega), w64 (n := i + 1) (by omega) (by omega)]

theorem size1_bad {K : Nat} {s : ByteArray} {a : Int} (h0 : 0 ≤ a) (hs : (s.size : Int) ≤ 1000000000000) {n r i : Int} {k : Nat} (h : i < n) (hi : 0 ≤ i) (hr : a + i < s.size) (hc : ¬ cont (bt s (a + i))) : palinoderef1_Size.l0 K n a s (k + 1) r i = some (.inl 0) := by
  have hb := bt_ok (s := s) (i := a + i)
  rw [palinoderef1_Size.l0, w64 (n := a + i) (by omega) (by omega), if_pos (by simpa using h), if_pos ⟨by omega, by omega⟩, w64 (n := bt s (a + i)) (by omega) (by omega), div_64 hb.1 hb.2, if_pos (by simpa using hc)]

theorem size1_end {K : Nat} {s : ByteArray} {a : Int} {n r i : Int} {k : Nat} (h : ¬ i < n) : palinoderef1_Size.l0 K n a s (k + 1) r i = some (.inr r) := by
  rw [palinoderef1_Size.l0, if_neg (by simpa using h)]

theorem size1_go {K : Nat} {s : ByteArray} {a : Int} (h0 : 0 ≤ a) (hs : (s.size : Int) ≤ 1000000000000) {n r i : Int} {k : Nat} (h : i < n) (hi : 0 ≤ i) (hr : a + i < s.size) (hc : cont (bt s (a + i))) (r0 : 0 ≤ r) (r1 : r < 1048576) : palinoderef1_Size.l0 K n a s (k + 1) r i = palinoderef1_Size.l0 K n a s k (r * 64 + bt s (a + i) % 64) (i + 1) := by
  have hb := bt_ok (s := s) (i := a + i)
  rw [palinoderef1_Size.l0, w64 (n := a + i) (by omega) (by omega), if_pos (by simpa using h), if_pos ⟨by omega, by omega⟩, w64 (n := bt s (a + i)) (by omega) (by omega), div_64 hb.1 hb.2, if_neg (by simpa using hc), and_63 hb.1 hb.2, or_64 r0 r1 (by omega) (by omega), w64 (n := i + 1) (by omega) (by omega)]

/-- How many bytes the code point has that begins at a place. -/
def usz (s : ByteArray) (a : Int) : Int := if a < 0 ∨ a ≥ s.size then 0 else uszB (s.size - a) (bt s a) (bt s (a + 1)) (bt s (a + 2)) (bt s (a + 3))

theorem uszB_ok {n c d e f : Int} (hn : 1 ≤ n) : 0 ≤ uszB n c d e f ∧ uszB n c d e f ≤ 4 ∧ uszB n c d e f ≤ n := by
  unfold uszB
  split
  · omega
  · split
    · split <;> omega
    · split
      · split <;> omega
      · split
        · split <;> omega
        · omega

theorem usz_ok {s : ByteArray} {a : Int} : 0 ≤ usz s a ∧ usz s a ≤ 4 ∧ (0 ≤ a → a < s.size → a + usz s a ≤ s.size) := by
  unfold usz
  split
  · rename_i h; exact ⟨by omega, by omega, fun h1 h2 => by omega⟩
  · have := uszB_ok (n := s.size - a) (c := bt s a) (d := bt s (a + 1)) (e := bt s (a + 2)) (f := bt s (a + 3)) (by omega)
    exact ⟨by omega, by omega, fun h1 h2 => by omega⟩

theorem point_is {K : Nat} {r : Int} (h0 : 0 ≤ r) : utf_isPoint K r = some (decide (r ≤ 1114111 ∧ ¬ (55296 ≤ r ∧ r < 57344))) := by
  unfold utf_isPoint
  rw [if_pos (by simpa using h0)]
  by_cases h1 : r ≤ 1114111
  · rw [if_pos (by simpa using h1)]
    by_cases h2 : r < 55296
    · rw [if_pos (by simpa using h2)]
      congr 1; symm; simp; omega
    · rw [if_neg (by simpa using h2)]
      congr 1
      by_cases h3 : r > 57343
      · simp [h3]; omega
      · simp [h3]; omega
  · rw [if_neg (by simpa using h1)]
    congr 1; symm; simp; omega

/-- What is read: the code point, and its bytes. -/
def tell (n v least : Int) : Int × Int := if least ≤ v ∧ v ≤ 1114111 ∧ ¬ (55296 ≤ v ∧ v < 57344) then (v, n) else (0, 0)

theorem long_tell {K : Nat} {n v least : Int} (h0 : 0 ≤ v) : ((if decide (v < least) = true then some true else (utf_isPoint K v).bind fun r_28 => some (!r_28)).bind fun z_39 => if z_39 = true then some ((0 : Int), (0 : Int)) else some (v, n)) = some (tell n v least) := by
  unfold tell
  rw [point_is h0]
  by_cases h1 : v < least
  · rw [if_pos (by simpa using h1), Option.bind_some, if_pos rfl, if_neg (by omega)]
  · rw [if_neg (by simpa using h1), Option.bind_some, Option.bind_some]
    by_cases h2 : v ≤ 1114111 ∧ ¬ (55296 ≤ v ∧ v < 57344)
    · rw [if_neg (by simp; omega), if_pos (by omega)]
    · rw [if_pos (by simp; omega), if_neg (by omega)]

theorem long1_is {K : Nat} {s : ByteArray} {a : Int} (hK : 10 ≤ K) (h0 : 0 ≤ a) (hs : (s.size : Int) ≤ 1000000000000) (ha : a < s.size) (hc : bt s a < 128) : utf_long K s a 1 128 0 0 = some (bt s a, 1) := by
  obtain ⟨k, rfl⟩ : ∃ k, K = k + 5 := ⟨K - 5, by omega⟩
  have hb := bt_ok (s := s) (i := a)
  unfold utf_long
  rw [w64 (by omega) (by omega), if_neg (by simp; omega), if_pos ⟨h0, ha⟩, not_128 hb.1 hb.2, w32 (by omega) (by omega), long_end (by omega), Option.bind_some]
  simp only [Sum.elim_inr]
  rw [long_tell (by omega)]
  unfold tell
  rw [if_pos (by omega)]
  congr 2
  omega

theorem long2_is {K : Nat} {s : ByteArray} {a : Int} (hK : 10 ≤ K) (h0 : 0 ≤ a) (hs : (s.size : Int) ≤ 1000000000000) (ha : a < s.size) : utf_long K s a 2 224 192 128 =
    some (if 2 ≤ (s.size : Int) - a ∧ cont (bt s (a + 1)) then tell 2 (bt s a % 32 * 64 + bt s (a + 1) % 64) 128 else (0, 0)) := by
  obtain ⟨k, rfl⟩ : ∃ k, K = k + 5 := ⟨K - 5, by omega⟩
  have hb := bt_ok (s := s) (i := a)
  have hb1 := bt_ok (s := s) (i := a + 1)
  unfold utf_long
  rw [w64 (by omega) (by omega)]
  by_cases hn : (s.size : Int) - a < 2
  · rw [if_pos (by simpa using hn), if_neg (by omega)]
  · rw [if_neg (by simpa using hn), if_pos ⟨h0, ha⟩, not_224 hb.1 hb.2, w32 (by omega) (by omega)]
    by_cases c1 : cont (bt s (a + 1))
    · rw [long_go h0 hs (by omega) (by omega) (by omega) c1 (by omega) (by omega), long_end (by omega), Option.bind_some]
      simp only [Sum.elim_inr]
      rw [long_tell (by omega), if_pos ⟨by omega, c1⟩]
    · rw [long_bad h0 hs (by omega) (by omega) (by omega) c1, Option.bind_some, if_neg (fun h => c1 h.2)]
      rfl

theorem long3_is {K : Nat} {s : ByteArray} {a : Int} (hK : 10 ≤ K) (h0 : 0 ≤ a) (hs : (s.size : Int) ≤ 1000000000000) (ha : a < s.size) : utf_long K s a 3 240 224 2048 =
    some (if 3 ≤ (s.size : Int) - a ∧ cont (bt s (a + 1)) ∧ cont (bt s (a + 2)) then tell 3 ((bt s a % 16 * 64 + bt s (a + 1) % 64) * 64 + bt s (a + 2) % 64) 2048 else (0, 0)) := by
  obtain ⟨k, rfl⟩ : ∃ k, K = k + 5 := ⟨K - 5, by omega⟩
  have hb := bt_ok (s := s) (i := a)
  have hb1 := bt_ok (s := s) (i := a + 1)
  have hb2 := bt_ok (s := s) (i := a + 2)
  unfold utf_long
  rw [w64 (by omega) (by omega)]
  by_cases hn : (s.size : Int) - a < 3
  · rw [if_pos (by simpa using hn), if_neg (by omega)]
  · rw [if_neg (by simpa using hn), if_pos ⟨h0, ha⟩, not_240 hb.1 hb.2, w32 (by omega) (by omega)]
    by_cases c1 : cont (bt s (a + 1))
    · rw [long_go h0 hs (by omega) (by omega) (by omega) c1 (by omega) (by omega)]
      by_cases c2 : cont (bt s (a + 2))
      · rw [show (1 : Int) + 1 = 2 from rfl, long_go h0 hs (by omega) (by omega) (by omega) c2 (by omega) (by omega), long_end (by omega), Option.bind_some]
        simp only [Sum.elim_inr]
        rw [long_tell (by omega), if_pos ⟨by omega, c1, c2⟩]
      · rw [show (1 : Int) + 1 = 2 from rfl, long_bad h0 hs (by omega) (by omega) (by omega) c2, Option.bind_some, if_neg (fun h => c2 h.2.2)]
        rfl
    · rw [long_bad h0 hs (by omega) (by omega) (by omega) c1, Option.bind_some, if_neg (fun h => c1 h.2.1)]
      rfl

theorem long4_go {K k : Nat} {s : ByteArray} {a : Int} (h0 : 0 ≤ a) (hs : (s.size : Int) ≤ 1000000000000) (hn : ¬ (s.size : Int) - a < 4) : utf_long.l0 K 4 a s (k + 4) (bt s a % 8) 1 =
    some (if cont (bt s (a + 1)) ∧ cont (bt s (a + 2)) ∧ cont (bt s (a + 3)) then .inr (((bt s a % 8 * 64 + bt s (a + 1) % 64) * 64 + bt s (a + 2) % 64) * 64 + bt s (a + 3) % 64) else .inl (0, 0)) := by
  have hb := bt_ok (s := s) (i := a)
  have hb1 := bt_ok (s := s) (i := a + 1)
  have hb2 := bt_ok (s := s) (i := a + 2)
  have hb3 := bt_ok (s := s) (i := a + 3)
  have r1 : 0 ≤ bt s a % 8 ∧ bt s a % 8 < 8 := by omega
  have r2 : 0 ≤ bt s (a + 1) % 64 ∧ bt s (a + 1) % 64 < 64 := by omega
  have r3 : 0 ≤ bt s (a + 2) % 64 ∧ bt s (a + 2) % 64 < 64 := by omega
  by_cases c1 : cont (bt s (a + 1))
  · have g1 := long_go (K := K) h0 hs (n := 4) (r := bt s a % 8) (i := 1) (k := k + 3) (by omega) (by omega) (by omega) c1 (by omega) (by omega)
    rw [g1, show (1 : Int) + 1 = 2 from rfl]
    by_cases c2 : cont (bt s (a + 2))
    · have g2 := long_go (K := K) h0 hs (n := 4) (r := bt s a % 8 * 64 + bt s (a + 1) % 64) (i := 2) (k := k + 2) (by omega) (by omega) (by omega) c2 (by omega) (by omega)
      rw [g2, show (2 : Int) + 1 = 3 from rfl]
      by_cases c3 : cont (bt s (a + 3))
      · have g3 := long_go (K := K) h0 hs (n := 4) (r := (bt s a % 8 * 64 + bt s (a + 1) % 64) * 64 + bt s (a + 2) % 64) (i := 3) (k := k + 1) (by omega) (by omega) (by omega) c3 (by omega) (by omega)
        rw [g3, long_end (by omega), if_pos ⟨c1, c2, c3⟩]
      · have g3 := long_bad (K := K) h0 hs (n := 4) (r := (bt s a % 8 * 64 + bt s (a + 1) % 64) * 64 + bt s (a + 2) % 64) (i := 3) (k := k + 1) (by omega) (by omega) (by omega) c3
        rw [g3, if_neg (fun h => c3 h.2.2)]
    · have g2 := long_bad (K := K) h0 hs (n := 4) (r := bt s a % 8 * 64 + bt s (a + 1) % 64) (i := 2) (k := k + 2) (by omega) (by omega) (by omega) c2
      rw [g2, if_neg (fun h => c2 h.2.1)]
  · have g1 := long_bad (K := K) h0 hs (n := 4) (r := bt s a % 8) (i := 1) (k := k + 3) (by omega) (by omega) (by omega) c1
    rw [g1, if_neg (fun h => c1 h.1)]

theorem long4_is {K : Nat} {s : ByteArray} {a least : Int} (hK : 10 ≤ K) (h0 : 0 ≤ a) (hs : (s.size : Int) ≤ 1000000000000) (ha : a < s.size) : utf_long K s a 4 248 240 least =
    some (if 4 ≤ (s.size : Int) - a ∧ cont (bt s (a + 1)) ∧ cont (bt s (a + 2)) ∧ cont (bt s (a + 3)) then tell 4 (((bt s a % 8 * 64 + bt s (a + 1) % 64) * 64 + bt s (a + 2) % 64) * 64 + bt s (a + 3) % 64) least else (0, 0)) := by
  obtain ⟨k, rfl⟩ : ∃ k, K = k + 4 := ⟨K - 4, by omega⟩
  have hb := bt_ok (s := s) (i := a)
  have r0 : 0 ≤ bt s a % 8 ∧ bt s a % 8 < 8 := by omega
  have r1 : 0 ≤ bt s (a + 1) % 64 := by omega
  have r2 : 0 ≤ bt s (a + 2) % 64 := by omega
  have r3 : 0 ≤ bt s (a + 3) % 64 := by omega
  unfold utf_long
  rw [w64 (n := (s.size : Int) - a) (by omega) (by omega)]
  by_cases hn : (s.size : Int) - a < 4
  · rw [if_pos (by simpa using hn), if_neg (by omega)]
  · rw [if_neg (by simpa using hn), if_pos ⟨h0, ha⟩, not_248 hb.1 hb.2, w32 (n := bt s a % 8) (by omega) (by omega), long4_go h0 hs hn]
    by_cases c : cont (bt s (a + 1)) ∧ cont (bt s (a + 2)) ∧ cont (bt s (a + 3))
    · rw [if_pos c, Option.bind_some, if_pos ⟨by omega, c⟩]
      simp only [Sum.elim_inr]
      generalize bt s a % 8 = x0 at *
      generalize bt s (a + 1) % 64 = x1 at *
      generalize bt s (a + 2) % 64 = x2 at *
      generalize bt s (a + 3) % 64 = x3 at *
      rw [long_tell (by omega)]
    · rw [if_neg c, Option.bind_some, if_neg (fun h => c h.2)]
      simp only [Sum.elim_inl]

/-- The code point at a place, and its bytes. -/
def upt (s : ByteArray) (a : Int) : Int × Int :=
  if a < 0 ∨ a ≥ s.size then (0, 0)
  else if bt s a < 128 then (bt s a, 1)
  else if 192 ≤ bt s a ∧ bt s a < 224 then (if 2 ≤ (s.size : Int) - a ∧ cont (bt s (a + 1)) then tell 2 (bt s a % 32 * 64 + bt s (a + 1) % 64) 128 else (0, 0))
  else if 224 ≤ bt s a ∧ bt s a < 240 then (if 3 ≤ (s.size : Int) - a ∧ cont (bt s (a + 1)) ∧ cont (bt s (a + 2)) then tell 3 ((bt s a % 16 * 64 + bt s (a + 1) % 64) * 64 + bt s (a + 2) % 64) 2048 else (0, 0))
  else if 240 ≤ bt s a ∧ bt s a < 248 then (if 4 ≤ (s.size : Int) - a ∧ cont (bt s (a + 1)) ∧ cont (bt s (a + 2)) ∧ cont (bt s (a + 3)) then tell 4 (((bt s a % 8 * 64 + bt s (a + 1) % 64) * 64 + bt s (a + 2) % 64) * 64 + bt s (a + 3) % 64) 65536 else (0, 0))
  else (0, 0)

theorem tell_snd {n v least : Int} : (tell n v least).2 = if least ≤ v ∧ v ≤ 1114111 ∧ ¬ (55296 ≤ v ∧ v < 57344) then n else 0 := by
  unfold tell; split <;> rfl

theorem upt_snd {s : ByteArray} {a : Int} : (upt s a).2 = usz s a := by
  unfold upt usz uszB
  have hb := bt_ok (s := s) (i := a)
  have hb1 := bt_ok (s := s) (i := a + 1)
  have hb2 := bt_ok (s := s) (i := a + 2)
  have hb3 := bt_ok (s := s) (i := a + 3)
  by_cases h : a < 0 ∨ a ≥ s.size
  · rw [if_pos h, if_pos h]
  · rw [if_neg h, if_neg h]
    by_cases h1 : bt s a < 128
    · rw [if_pos h1, if_pos h1]
    · rw [if_neg h1, if_neg h1]
      by_cases h2 : 192 ≤ bt s a ∧ bt s a < 224
      · rw [if_pos h2, if_pos h2]
        by_cases c : 2 ≤ (s.size : Int) - a ∧ cont (bt s (a + 1))
        · rw [if_pos c, tell_snd]
          congr 1
          apply propext
          constructor
          · intro h; exact ⟨c.1, c.2, h.1⟩
          · intro h; exact ⟨h.2.2, by omega, by omega⟩
        · rw [if_neg c, if_neg (fun h => c ⟨h.1, h.2.1⟩)]
      · rw [if_neg h2, if_neg h2]
        by_cases h3 : 224 ≤ bt s a ∧ bt s a < 240
        · rw [if_pos h3, if_pos h3]
          by_cases c : 3 ≤ (s.size : Int) - a ∧ cont (bt s (a + 1)) ∧ cont (bt s (a + 2))
          · rw [if_pos c, tell_snd]
            congr 1
            apply propext
            constructor
            · intro h; exact ⟨c.1, c.2.1, c.2.2, h.1, h.2.2⟩
            · intro h; exact ⟨h.2.2.2.1, by omega, h.2.2.2.2⟩
          · rw [if_neg c, if_neg (fun h => c ⟨h.1, h.2.1, h.2.2.1⟩)]
        · rw [if_neg h3, if_neg h3]
          by_cases h4 : 240 ≤ bt s a ∧ bt s a < 248
          · rw [if_pos h4, if_pos h4]
            by_cases c : 4 ≤ (s.size : Int) - a ∧ cont (bt s (a + 1)) ∧ cont (bt s (a + 2)) ∧ cont (bt s (a + 3))
            · rw [if_pos c, tell_snd]
              congr 1
              apply propext
              constructor
              · intro h; exact ⟨c.1, c.2.1, c.2.2.1, c.2.2.2, h.1, h.2.1⟩
              · intro h; exact ⟨h.2.2.2.2.1, h.2.2.2.2.2, by omega⟩
            · rw [if_neg c, if_neg (fun h => c ⟨h.1, h.2.1, h.2.2.1, h.2.2.2.1⟩)]
          · rw [if_neg h4, if_neg h4]

theorem upt_is {K : Nat} {s : ByteArray} {a : Int} (hK : 10 ≤ K) (hs : (s.size : Int) ≤ 1000000000000) : utf_point K s a = some (upt s a) := by
  obtain ⟨k, hk⟩ : ∃ k, K = k + 5 := ⟨K - 5, by omega⟩
  have hb := bt_ok (s := s) (i := a)
  unfold utf_point upt
  by_cases h : a < 0 ∨ a ≥ s.size
  · have : (if decide (a < 0) = true then some true else some (decide (a ≥ ((s.size : Nat) : Int)))) = some true := by
      by_cases h1 : a < 0
      · rw [if_pos (by simpa using h1)]
      · rw [if_neg (by simpa using h1)]; simp; omega
    rw [this, Option.bind_some, if_pos rfl, if_pos h]
  · have : (if decide (a < 0) = true then some true else some (decide (a ≥ ((s.size : Nat) : Int)))) = some false := by
      rw [if_neg (by simp; omega)]; simp; omega
    rw [this, Option.bind_some, if_neg (by simp), if_neg h]
    unfold utf_forms
    rw [Option.bind_some]
    have hin : 0 ≤ a ∧ a < ((s.size : Nat) : Int) := ⟨by omega, by omega⟩
    have hw0 : IntKind.wrap .i64 ((0 : Int) + 1) = 1 := by decide
    have hw1 : IntKind.wrap .i64 ((1 : Int) + 1) = 2 := by decide
    have hw2 : IntKind.wrap .i64 ((2 : Int) + 1) = 3 := by decide
    have hw3 : IntKind.wrap .i64 ((3 : Int) + 1) = 4 := by decide
    rw [hk]
    simp only [utf_point.l0, if_pos hin, hw0, hw1, hw2, hw3]
    simp only [show ((0 : Int)).toNat = 0 from rfl, show ((1 : Int)).toNat = 1 from rfl, show ((2 : Int)).toNat = 2 from rfl, show ((3 : Int)).toNat = 3 from rfl, List.getD_cons_zero, List.getD_cons_succ, is_128 hb.1 hb.2, is_224 hb.1 hb.2, is_240 hb.1 hb.2, is_248 hb.1 hb.2]
    rw [← hk]
    simp only [decide_eq_true_eq]
    by_cases h1 : bt s a < 128
    · rw [if_pos (by omega), if_pos (by omega), if_pos h1, if_pos h1, long1_is hK (by omega) hs (by omega) h1]; rfl
    · rw [if_pos (by omega), if_pos (by omega), if_neg h1, if_neg h1, if_pos (by omega), if_pos (by omega)]
      by_cases h2 : 192 ≤ bt s a ∧ bt s a < 224
      · rw [if_pos h2, if_pos h2, long2_is hK (by omega) hs (by omega)]; rfl
      · rw [if_neg h2, if_neg h2, if_pos (by omega), if_pos (by omega)]
        by_cases h3 : 224 ≤ bt s a ∧ bt s a < 240
        · rw [if_pos h3, if_pos h3, long3_is hK (by omega) hs (by omega)]; rfl
        · rw [if_neg h3, if_neg h3, if_pos (by omega), if_pos (by omega)]
          by_cases h4 : 240 ≤ bt s a ∧ bt s a < 248
          · rw [if_pos h4, if_pos h4, long4_is hK (by omega) hs (by omega)]; rfl
          · rw [if_neg h4, if_neg h4, if_neg (by omega)]

theorem usize_is {K : Nat} {s : ByteArray} {a : Int} (hK : 10 ≤ K) (hs : (s.size : Int) ≤ 1000000000000) : utf_Size K s a = some (usz s a) := by
  unfold utf_Size
  rw [upt_is hK hs, Option.bind_some, upt_snd]

theorem size1_tell {n v least : Int} : ((if decide (v < least) = true then some true else if decide (v > 1114111) = true then some true else if decide (v ≥ 55296) = true then some (decide (v < 57344)) else some false).bind fun z_76 => if z_76 = true then some (0 : Int) else some n) = some (tell n v least).2 := by
  rw [tell_snd]
  by_cases h1 : v < least
  · rw [if_pos (by simpa using h1), Option.bind_some, if_pos rfl, if_neg (by omega)]
  · rw [if_neg (by simpa using h1)]
    by_cases h2 : v > 1114111
    · rw [if_pos (by simpa using h2), Option.bind_some, if_pos rfl, if_neg (by omega)]
    · rw [if_neg (by simpa using h2)]
      by_cases h3 : v ≥ 55296
      · rw [if_pos (by simpa using h3), Option.bind_some]
        by_cases h4 : v < 57344
        · rw [if_pos (by simpa using h4), if_neg (by omega)]
        · rw [if_neg (by simpa using h4), if_pos (by omega)]
      · rw [if_neg (by simpa using h3), Option.bind_some, if_neg (by simp), if_pos (by omega)]

theorem s2_go {K k : Nat} {s : ByteArray} {a r : Int} (h0 : 0 ≤ a) (hs : (s.size : Int) ≤ 1000000000000) (hn : ¬ (s.size : Int) - a < 2) (hr : 0 ≤ r ∧ r < 64) : palinoderef1_Size.l0 K 2 a s (k + 4) r 1 =
    some (if cont (bt s (a + 1)) then .inr (r * 64 + bt s (a + 1) % 64) else .inl 0) := by
  by_cases c1 : cont (bt s (a + 1))
  · have g1 := size1_go (K := K) h0 hs (n := 2) (r := r) (i := 1) (k := k + 3) (by omega) (by omega) (by omega) c1 (by omega) (by omega)
    rw [g1, size1_end (by omega), if_pos c1]
  · have g1 := size1_bad (K := K) h0 hs (n := 2) (r := r) (i := 1) (k := k + 3) (by omega) (by omega) (by omega) c1
    rw [g1, if_neg c1]

theorem s3_go {K k : Nat} {s : ByteArray} {a r : Int} (h0 : 0 ≤ a) (hs : (s.size : Int) ≤ 1000000000000) (hn : ¬ (s.size : Int) - a < 3) (hr : 0 ≤ r ∧ r < 64) : palinoderef1_Size.l0 K 3 a s (k + 4) r 1 =
    some (if cont (bt s (a + 1)) ∧ cont (bt s (a + 2)) then .inr ((r * 64 + bt s (a + 1) % 64) * 64 + bt s (a + 2) % 64) else .inl 0) := by
  have r2 : 0 ≤ bt s (a + 1) % 64 ∧ bt s (a + 1) % 64 < 64 := by omega
  by_cases c1 : cont (bt s (a + 1))
  · have g1 := size1_go (K := K) h0 hs (n := 3) (r := r) (i := 1) (k := k + 3) (by omega) (by omega) (by omega) c1 (by omega) (by omega)
    rw [g1, show (1 : Int) + 1 = 2 from rfl]
    by_cases c2 : cont (bt s (a + 2))
    · have g2 := size1_go (K := K) h0 hs (n := 3) (r := r * 64 + bt s (a + 1) % 64) (i := 2) (k := k + 2) (by omega) (by omega) (by omega) c2 (by omega) (by omega)
      rw [g2, size1_end (by omega), if_pos ⟨c1, c2⟩]
    · have g2 := size1_bad (K := K) h0 hs (n := 3) (r := r * 64 + bt s (a + 1) % 64) (i := 2) (k := k + 2) (by omega) (by omega) (by omega) c2
      rw [g2, if_neg (fun h => c2 h.2)]
  · have g1 := size1_bad (K := K) h0 hs (n := 3) (r := r) (i := 1) (k := k + 3) (by omega) (by omega) (by omega) c1
    rw [g1, if_neg (fun h => c1 h.1)]

theorem s4_go {K k : Nat} {s : ByteArray} {a r : Int} (h0 : 0 ≤ a) (hs : (s.size : Int) ≤ 1000000000000) (hn : ¬ (s.size : Int) - a < 4) (hr : 0 ≤ r ∧ r < 64) : palinoderef1_Size.l0 K 4 a s (k + 4) r 1 =
    some (if cont (bt s (a + 1)) ∧ cont (bt s (a + 2)) ∧ cont (bt s (a + 3)) then .inr (((r * 64 + bt s (a + 1) % 64) * 64 + bt s (a + 2) % 64) * 64 + bt s (a + 3) % 64) else .inl 0) := by
  have r2 : 0 ≤ bt s (a + 1) % 64 ∧ bt s (a + 1) % 64 < 64 := by omega
  have r3 : 0 ≤ bt s (a + 2) % 64 ∧ bt s (a + 2) % 64 < 64 := by omega
  by_cases c1 : cont (bt s (a + 1))
  · have g1 := size1_go (K := K) h0 hs (n := 4) (r := r) (i := 1) (k := k + 3) (by omega) (by omega) (by omega) c1 (by omega) (by omega)
    rw [g1, show (1 : Int) + 1 = 2 from rfl]
    by_cases c2 : cont (bt s (a + 2))
    · have g2 := size1_go (K := K) h0 hs (n := 4) (r := r * 64 + bt s (a + 1) % 64) (i := 2) (k := k + 2) (by omega) (by omega) (by omega) c2 (by omega) (by omega)
      rw [g2, show (2 : Int) + 1 = 3 from rfl]
      by_cases c3 : cont (bt s (a + 3))
      · have g3 := size1_go (K := K) h0 hs (n := 4) (r := (r * 64 + bt s (a + 1) % 64) * 64 + bt s (a + 2) % 64) (i := 3) (k := k + 1) (by omega) (by omega) (by omega) c3 (by omega) (by omega)
        rw [g3, size1_end (by omega), if_pos ⟨c1, c2, c3⟩]
      · have g3 := size1_bad (K := K) h0 hs (n := 4) (r := (r * 64 + bt s (a + 1) % 64) * 64 + bt s (a + 2) % 64) (i := 3) (k := k + 1) (by omega) (by omega) (by omega) c3
        rw [g3, if_neg (fun h => c3 h.2.2)]
    · have g2 := size1_bad (K := K) h0 hs (n := 4) (r := r * 64 + bt s (a + 1) % 64) (i := 2) (k := k + 2) (by omega) (by omega) (by omega) c2
      rw [g2, if_neg (fun h => c2 h.2.1)]
  · have g1 := size1_bad (K := K) h0 hs (n := 4) (r := r) (i := 1) (k := k + 3) (by omega) (by omega) (by omega) c1
    rw [g1, if_neg (fun h => c1 h.1)]

/-- A code point of more than one byte, read. -/
theorem size1_many {n r least : Int} {K : Nat} {s : ByteArray} {a : Int} {C : Prop} [Decidable C] {v : Int} (hw : IntKind.wrap .i64 ((s.size : Int) - a) = (s.size : Int) - a) (hg : ¬ (s.size : Int) - a < n → palinoderef1_Size.l0 K n a s K r 1 = some (if C then .inr v else .inl 0)) :
    (if decide (IntKind.wrap .i64 ((((ByteArray.size s) : Nat) : Int) - a) < n) = true then some (0 : Int) else (palinoderef1_Size.l0 K n a s K r 1).bind (Sum.elim (fun z_74 => some z_74) (fun z_75 => (if (decide (z_75 < least)) = true then some true else if (decide (z_75 > (1114111 : Int))) = true then some true else if (decide (z_75 ≥ (55296 : Int))) = true then some (decide (z_75 < (57344 : Int))) else some false).bind (fun z_76 => if z_76 = true then some (0 : Int) else some n)))) =
      some (if n ≤ (s.size : Int) - a ∧ C then tell n v least else (0, 0)).2 := by
  rw [hw]
  by_cases h : (s.size : Int) - a < n
  · rw [if_pos (by simpa using h), if_neg (fun h' => by omega)]
  · rw [if_neg (by simpa using h), hg h]
    by_cases c : C
    · rw [if_pos c, Option.bind_some, if_pos ⟨by omega, c⟩]
      simp only [Sum.elim_inr]
      rw [size1_tell]
    · rw [if_neg c, Option.bind_some, if_neg (fun h' => c h'.2)]
      simp only [Sum.elim_inl]

theorem rsize_is {K : Nat} {s : ByteArray} {a : Int} (hK : 10 ≤ K) (hs : (s.size : Int) ≤ 1000000000000) : palinoderef1_Size K s a = some (usz s a) := by
  obtain ⟨k, hk⟩ : ∃ k, K = k + 4 := ⟨K - 4, by omega⟩
  have hb := bt_ok (s := s) (i := a)
  rw [← upt_snd]
  unfold palinoderef1_Size upt
  by_cases h : a < 0 ∨ a ≥ s.size
  · have : (if decide (a < 0) = true then some true else some (decide (a ≥ ((s.size : Nat) : Int)))) = some true := by
      by_cases h1 : a < 0
      · rw [if_pos (by simpa using h1)]
      · rw [if_neg (by simpa using h1)]; simp; omega
    rw [this, Option.bind_some, if_pos rfl, if_pos h]
  · have : (if decide (a < 0) = true then some true else some (decide (a ≥ ((s.size : Nat) : Int)))) = some false := by
      rw [if_neg (by simp; omega)]; simp; omega
    have hw : IntKind.wrap .i64 ((s.size : Int) - a) = (s.size : Int) - a := w64 (by omega) (by omega)
    have e2 := size1_many (least := 128) (K := K) (s := s) (a := a) (n := 2) (r := bt s a % 32) hw (fun hn => by rw [hk]; exact s2_go (by omega) hs hn (by omega))
    have e3 := size1_many (least := 2048) (K := K) (s := s) (a := a) (n := 3) (r := bt s a % 16) hw (fun hn => by rw [hk]; exact s3_go (by omega) hs hn (by omega))
    have e4 := size1_many (least := 65536) (K := K) (s := s) (a := a) (n := 4) (r := bt s a % 8) hw (fun hn => by rw [hk]; exact s4_go (by omega) hs hn (by omega))
    rw [this, Option.bind_some, if_neg (by simp), if_neg h, if_pos ⟨by omega, by omega⟩, w64 (n := bt s a) (by omega) (by omega), and_31 hb.1 hb.2, and_15 hb.1 hb.2, and_7 hb.1 hb.2]
    by_cases h1 : bt s a < 128
    · rw [if_pos (by simpa using h1), if_pos h1]
    · rw [if_neg (by simpa using h1), if_neg h1]
      by_cases h2 : 192 ≤ bt s a ∧ bt s a < 224
      · rw [if_pos (by simp; omega), Option.bind_some, if_pos (by simp; omega), Option.bind_some, if_pos h2]
        simp only [Sum.elim_inr]
        exact e2
      · have c2 : (if decide (bt s a ≥ 192) = true then some (decide (bt s a < 224)) else some false) = some false := by
          by_cases g : bt s a ≥ 192
          · rw [if_pos (by simpa using g)]; simp; omega
          · rw [if_neg (by simpa using g)]
        rw [c2, Option.bind_some, if_neg (by simp), if_neg h2]
        by_cases h3 : 224 ≤ bt s a ∧ bt s a < 240
        · rw [if_pos (by simp; omega), Option.bind_some, if_pos (by simp; omega), Option.bind_some, if_pos h3]
          simp only [Sum.elim_inr]
          exact e3
        · have c3 : (if decide (bt s a ≥ 224) = true then some (decide (bt s a < 240)) else some false) = some false := by
            by_cases g : bt s a ≥ 224
            · rw [if_pos (by simpa using g)]; simp; omega
            · rw [if_neg (by simpa using g)]
          rw [c3, Option.bind_some, if_neg (by simp), if_neg h3]
          by_cases h4 : 240 ≤ bt s a ∧ bt s a < 248
          · rw [if_pos (by simp; omega), Option.bind_some, if_pos (by simp; omega), Option.bind_some, if_pos h4]
            simp only [Sum.elim_inr]
            exact e4
          · have c4 : (if decide (bt s a ≥ 240) = true then some (decide (bt s a < 248)) else some false) = some false := by
              by_cases g : bt s a ≥ 240
              · rw [if_pos (by simpa using g)]; simp; omega
              · rw [if_neg (by simpa using g)]
            rw [c4, Option.bind_some, if_neg (by simp), if_neg h4, Option.bind_some]
            simp only [Sum.elim_inl]

/-- Whether from a place on there are code points, one behind the other. -/
def uval (s : ByteArray) : Nat → Int → Bool
  | 0, _ => true
  | m + 1, a => if a < s.size then (if usz s a = 0 then false else uval s m (a + usz s a)) else true

def uvalid (s : ByteArray) : Bool := uval s s.size 0

theorem uvalid_loop {K : Nat} {s : ByteArray} (hK : 10 ≤ K) (hs : (s.size : Int) ≤ 1000000000000) : ∀ (d k m : Nat) (a : Int), 0 ≤ a → (s.size : Int) - a ≤ d → a ≤ s.size → d < k → d ≤ m → utf_Valid.l0 K s k a = some (uval s m a) := by
  intro d
  induction d with
  | zero =>
    intro k m a h0 h1 h2 hk hm
    obtain ⟨k, rfl⟩ : ∃ l, k = l + 1 := ⟨k - 1, by omega⟩
    rw [utf_Valid.l0, if_neg (by simp; omega)]
    cases m with
    | zero => rfl
    | succ m => rw [uval, if_neg (by omega)]
  | succ d ih =>
    intro k m a h0 h1 h2 hk hm
    obtain ⟨k, rfl⟩ : ∃ l, k = l + 1 := ⟨k - 1, by omega⟩
    obtain ⟨m, rfl⟩ : ∃ l, m = l + 1 := ⟨m - 1, by omega⟩
    have hu := usz_ok (s := s) (a := a)
    rw [utf_Valid.l0, uval]
    by_cases h : a < s.size
    · have hu3 := hu.2.2 h0 h
      rw [if_pos (by simpa using h), if_pos h, usize_is hK hs, Option.bind_some]
      by_cases hz : usz s a = 0
      · rw [if_pos (by simpa using hz), if_pos hz]
      · rw [if_neg (by simpa using hz), if_neg hz, w64 (by omega) (by omega)]
        exact ih k m _ (by omega) (by omega) (by omega) (by omega) (by omega)
    · rw [if_neg (by simpa using h), if_neg h]

theorem uvalid_is {K : Nat} {s : ByteArray} (hK : s.size + 10 ≤ K) (hs : (s.size : Int) ≤ 1000000000000) : utf_Valid K s = some (uvalid s) := by
  unfold utf_Valid uvalid
  exact uvalid_loop (by omega) hs s.size K s.size 0 (by omega) (by omega) (by omega) (by omega) (by omega)

theorem rvalid_loop {K : Nat} {s : ByteArray} (hK : 10 ≤ K) (hs : (s.size : Int) ≤ 1000000000000) : ∀ (d k m : Nat) (a : Int), 0 ≤ a → (s.size : Int) - a ≤ d → a ≤ s.size → d < k → d ≤ m → palinoderef1_Valid.l0 K s k a = some (uval s m a) := by
  intro d
  induction d with
  | zero =>
    intro k m a h0 h1 h2 hk hm
    obtain ⟨k, rfl⟩ : ∃ l, k = l + 1 := ⟨k - 1, by omega⟩
    rw [palinoderef1_Valid.l0, if_neg (by simp; omega)]
    cases m with
    | zero => rfl
    | succ m => rw [uval, if_neg (by omega)]
  | succ d ih =>
    intro k m a h0 h1 h2 hk hm
    obtain ⟨k, rfl⟩ : ∃ l, k = l + 1 := ⟨k - 1, by omega⟩
    obtain ⟨m, rfl⟩ : ∃ l, m = l + 1 := ⟨m - 1, by omega⟩
    have hu := usz_ok (s := s) (a := a)
    rw [palinoderef1_Valid.l0, uval]
    by_cases h : a < s.size
    · have hu3 := hu.2.2 h0 h
      rw [if_pos (by simpa using h), if_pos h, rsize_is hK hs, Option.bind_some]
      by_cases hz : usz s a = 0
      · rw [if_pos (by simpa using hz), if_pos hz]
      · rw [if_neg (by simpa using hz), if_neg hz, w64 (by omega) (by omega)]
        exact ih k m _ (by omega) (by omega) (by omega) (by omega) (by omega)
    · rw [if_neg (by simpa using h), if_neg h]

theorem rvalid_is {K : Nat} {s : ByteArray} (hK : s.size + 10 ≤ K) (hs : (s.size : Int) ≤ 1000000000000) : palinoderef1_Valid K s = some (uvalid s) := by
  unfold palinoderef1_Valid uvalid
  exact rvalid_loop (by omega) hs s.size K s.size 0 (by omega) (by omega) (by omega) (by omega) (by omega)

theorem toList_loop (s : ByteArray) : ∀ (d i : Nat) (r : List UInt8), s.size - i = d → ByteArray.toList.loop s i r = r.reverse ++ s.data.toList.drop i := by
  intro d
  induction d with
  | zero =>
    intro i r h
    unfold ByteArray.toList.loop
    rw [if_neg (by omega), List.drop_eq_nil_of_le (by have : s.data.toList.length = s.size := by simp
                                                      omega)]
    simp
  | succ d ih =>
    intro i r h
    unfold ByteArray.toList.loop
    have hl : s.data.toList.length = s.size := by simp
    have hi : i < s.data.toList.length := by omega
    rw [if_pos (by omega), ih (i + 1) _ (by omega), List.drop_eq_getElem_cons hi]
    have : s.get! i = s.data.toList[i] := by
      have h2 : i < s.data.size := by simpa using hi
      show s.data[i]! = _
      rw [getElem!_pos s.data i h2]
      simp
    rw [this]
    simp

theorem toList_eq (s : ByteArray) : ByteArray.toList s = s.data.toList := by
  unfold ByteArray.toList
  rw [toList_loop s s.size 0 [] rfl]
  simp

theorem str_beq {a b : ByteArray} : (ByteArray.toList a == ByteArray.toList b) = decide (a = b) := by
  rw [toList_eq, toList_eq]
  by_cases h : a = b
  · subst h; simp
  · have : a.data.toList ≠ b.data.toList := fun h' => h (by have := Array.toList_inj.1 h'; cases a; cases b; simp only at this; rw [this])
    rw [beq_eq_false_iff_ne.2 this]; simp [h]

theorem size_zero {a : ByteArray} : a = ⟨#[]⟩ ↔ a.size = 0 := by
  constructor
  · rintro rfl; rfl
  · intro h
    rw [← ofBytes_txt (s := a)]
    have : txt a = [] := List.eq_nil_of_length_eq_zero (by rw [txt_len]; exact h)
    rw [this]; rfl

theorem str_nil {a : ByteArray} : (ByteArray.toList a == ByteArray.toList (ByteArray.mk #[])) = decide (a.size = 0) := by
  rw [str_beq]
  exact decide_eq_decide.2 size_zero

abbrev El := Int × (Int × ByteArray)

theorem isCopy_is {K : Nat} {x1 x2 : Int} {x3 : ByteArray} : delta_IsCopy K x1 x2 x3 = some (decide (x3.size = 0)) := by
  unfold delta_IsCopy
  rw [str_nil]

theorem elem_is {K : Nat} {x1 x2 base to : Int} {x3 : ByteArray} {ahead copied : Bool} (hK : 30000 ≤ K) : delta_elem K x1 x2 x3 base to ahead copied =
    some (if x3.size = 0 then decide (to ≤ x1 ∧ (to < x1 ∨ copied = false) ∧ x1 < x2 ∧ x2 ≤ base) else decide (x1 = 0 ∧ x2 = 0 ∧ (ahead = false ∨ copied = true) ∧ x3.size ≤ 20000) && uvalid x3) := by
  unfold delta_elem
  rw [isCopy_is, Option.bind_some]
  by_cases h : x3.size = 0
  · rw [if_pos (by simpa using h), if_pos h]
    by_cases h1 : x1 ≥ to
    · rw [if_pos (by simpa using h1)]
      by_cases h2 : x1 > to
      · rw [if_pos (by simpa using h2)]
        by_cases h3 : x1 < x2
        · rw [if_pos (by simpa using h3)]
          congr 1; rw [decide_eq_decide]; omega
        · rw [if_neg (by simpa using h3)]
          congr 1; symm; rw [decide_eq_false_iff_not]; omega
      · rw [if_neg (by simpa using h2)]
        cases copied with
        | true => rw [if_neg (by simp)]; congr 1; symm; rw [decide_eq_false_iff_not]; simp; omega
        | false =>
          rw [if_pos (by simp)]
          by_cases h3 : x1 < x2
          · rw [if_pos (by simpa using h3)]
            congr 1; rw [decide_eq_decide]; simp; omega
          · rw [if_neg (by simpa using h3)]
            congr 1; symm; rw [decide_eq_false_iff_not]; omega
    · rw [if_neg (by simpa using h1)]
      congr 1; symm; rw [decide_eq_false_iff_not]; omega
  · rw [if_neg (by simpa using h), if_neg h]
    by_cases h1 : x1 = 0 ∧ x2 = 0
    · rw [if_pos (by simp [h1])]
      by_cases h2 : x3.size ≤ 20000
      · have hv : utf_Valid K x3 = some (uvalid x3) := uvalid_is (by omega) (by omega)
        cases ahead with
        | false => rw [if_pos (by simp), if_pos (by simp; omega), hv, Option.bind_some]; simp [h1, h2]
        | true =>
          rw [if_neg (by simp)]
          cases copied with
          | true => rw [if_pos rfl, if_pos (by simp; omega), hv, Option.bind_some]; simp [h1, h2]
          | false => rw [if_neg (by simp)]; simp
      · cases ahead with
        | false => rw [if_pos (by simp), if_neg (by simp; omega)]; simp [h2]
        | true =>
          rw [if_neg (by simp)]
          cases copied with
          | true => rw [if_pos rfl, if_neg (by simp; omega)]; simp [h2]
          | false => rw [if_neg (by simp)]; simp
    · rw [if_neg (by simp; omega)]
      congr 1; symm
      rw [Bool.and_eq_false_iff, decide_eq_false_iff_not]
      left
      exact fun h' => h1 ⟨h'.1, h'.2.1⟩

/-- Elements that may come behind others. -/
def isL (base : Int) : Int → Int → Option Bool → List El → Bool
  | _, _, _, [] => true
  | size, to, pre, x :: r =>
    if x.2.2.size = 0 then
      decide (to ≤ x.1 ∧ (to < x.1 ∨ pre ≠ some true) ∧ x.1 < x.2.1 ∧ x.2.1 ≤ base ∧ size + (x.2.1 - x.1) ≤ 20000) && isL base (size + (x.2.1 - x.1)) x.2.1 (some true) r
    else
      (decide (x.1 = 0 ∧ x.2.1 = 0 ∧ pre ≠ some false ∧ size + x.2.2.size ≤ 20000) && uvalid x.2.2) && isL base (size + x.2.2.size) to (some false) r

/-- Whether elements are a delta. -/
def isD (base : Int) (l : List El) : Bool := decide (0 ≤ base ∧ base ≤ 20000 ∧ l.length ≤ 60) && isL base 0 0 none l

def preOf (d : List El) (j : Nat) : Option Bool := if j = 0 then none else some (decide ((d.getD (j - 1) ((0 : Int), ((0 : Int), ByteArray.empty))).2.2.size = 0))

theorem preOf_succ {d : List El} {j : Nat} {x : El} (h : d.getD j ((0 : Int), ((0 : Int), ByteArray.empty)) = x) : preOf d (j + 1) = some (decide (x.2.2.size = 0)) := by
  unfold preOf
  rw [if_neg (by omega), Nat.add_sub_cancel, h]

theorem is_loop {K : Nat} {d : List El} {base : Int} (hK : 30000 ≤ K) (hb : base ≤ 20000) (hl : d.length ≤ 60) : ∀ (rest : List El) (j k : Nat) (size to : Int), d.drop j = rest → rest.length < k → 0 ≤ size → size ≤ 20000 → 0 ≤ to → to ≤ 20000 →
    delta_Is.l0 K d base k size to (j : Int) = some (isL base size to (preOf d j) rest)
  | [], j, k, size, to, hd, hk, h0, h1, h2, h3 => by
    obtain ⟨k, rfl⟩ : ∃ m, k = m + 1 := ⟨k - 1, by simp at hk; omega⟩
    have := drop_nil hd
    rw [delta_Is.l0, if_neg (by simp; omega)]
    rfl
  | x :: rest, j, k, size, to, hd, hk, h0, h1, h2, h3 => by
    obtain ⟨k, rfl⟩ : ∃ m, k = m + 1 := ⟨k - 1, by simp at hk; omega⟩
    obtain ⟨hj, hgd, hd'⟩ := drop_cons hd ((0 : Int), ((0 : Int), ByteArray.empty))
    have hk' : rest.length < k := by simp at hk; omega
    have hw : IntKind.wrap .i64 ((j : Int) + 1) = ((j + 1 : Nat) : Int) := by rw [w64 (by omega) (by omega)]; omega
    have hw1 : IntKind.wrap .i64 ((j : Int) - 1) = (j : Int) - 1 := w64 (by omega) (by omega)
    have hps := preOf_succ hgd
    have hnext := fun (size' to' : Int) (a0 : 0 ≤ size') (a1 : size' ≤ 20000) (a2 : 0 ≤ to') (a3 : to' ≤ 20000) => is_loop (K := K) hK hb hl rest (j + 1) k size' to' hd' hk' a0 a1 a2 a3
    rw [hps] at hnext
    have hcp : (if decide ((j : Int) > 0) = true then (delta_IsCopy K (d.getD ((j : Int) - 1).toNat ((0 : Int), ((0 : Int), ByteArray.empty))).1 (d.getD ((j : Int) - 1).toNat ((0 : Int), ((0 : Int), ByteArray.empty))).2.1 (d.getD ((j : Int) - 1).toNat ((0 : Int), ((0 : Int), ByteArray.empty))).2.2).bind fun r_22 => if 0 ≤ (j : Int) - 1 ∧ (j : Int) - 1 < ((d.length : Nat) : Int) then some r_22 else none else some false) = some (preOf d j == some true) := by
      unfold preOf
      by_cases hj0 : j = 0
      · subst hj0; simp
      · rw [if_pos (by simp; omega), isCopy_is, Option.bind_some, if_pos ⟨by omega, by omega⟩, if_neg hj0, show ((j : Int) - 1).toNat = j - 1 by omega]
        simp
    have hah : ∀ b : Bool, (decide ((j : Int) > 0) = false ∨ b = true) ↔ (preOf d j = none ∨ b = true) := by
      intro b
      unfold preOf
      by_cases hj0 : j = 0
      · subst hj0; simp
      · simp [hj0]
    rw [delta_Is.l0]
    simp only [Int.toNat_natCast, hgd, hw, hw1]
    rw [if_pos (by simpa using hj), if_pos ⟨by omega, by omega⟩, hcp, Option.bind_some, elem_is hK, Option.bind_some, isCopy_is, isL]
    by_cases hz : x.2.2.size = 0
    · rw [if_pos hz, if_pos hz, hz]
      by_cases hc : to ≤ x.1 ∧ (to < x.1 ∨ (preOf d j == some true) = false) ∧ x.1 < x.2.1 ∧ x.2.1 ≤ base
      · rw [show decide (to ≤ x.1 ∧ (to < x.1 ∨ (preOf d j == some true) = false) ∧ x.1 < x.2.1 ∧ x.2.1 ≤ base) = true from decide_eq_true hc, if_neg (by simp), Option.bind_some, if_pos (by simp), Option.bind_some]
        simp only [Int.natCast_zero, Int.add_zero]
        rw [w64 (n := x.2.1 - x.1) (by omega) (by omega), w64 (n := x.2.1 - x.1) (by omega) (by omega), w64 (n := size + (x.2.1 - x.1)) (by omega) (by omega)]
        have hp : (preOf d j == some true) = false ↔ preOf d j ≠ some true := by simp
        by_cases hs : size + (x.2.1 - x.1) ≤ 20000
        · rw [if_neg (by simpa using hs), hnext _ _ (by omega) hs (by omega) (by omega), hz]
          have : decide (to ≤ x.1 ∧ (to < x.1 ∨ preOf d j ≠ some true) ∧ x.1 < x.2.1 ∧ x.2.1 ≤ base ∧ size + (x.2.1 - x.1) ≤ 20000) = true := by
            rw [decide_eq_true_eq]
            rw [hp] at hc
            exact ⟨hc.1, hc.2.1, hc.2.2.1, hc.2.2.2, hs⟩
          rw [this]; simp
        · rw [if_pos (by simp; omega)]
          have : decide (to ≤ x.1 ∧ (to < x.1 ∨ preOf d j ≠ some true) ∧ x.1 < x.2.1 ∧ x.2.1 ≤ base ∧ size + (x.2.1 - x.1) ≤ 20000) = false := by
            rw [decide_eq_false_iff_not]
            exact fun h => hs h.2.2.2.2
          rw [this]; rfl
      · rw [show decide (to ≤ x.1 ∧ (to < x.1 ∨ (preOf d j == some true) = false) ∧ x.1 < x.2.1 ∧ x.2.1 ≤ base) = false from decide_eq_false hc, if_pos (by simp)]
        have hp : (preOf d j == some true) = false ↔ preOf d j ≠ some true := by simp
        have : decide (to ≤ x.1 ∧ (to < x.1 ∨ preOf d j ≠ some true) ∧ x.1 < x.2.1 ∧ x.2.1 ≤ base ∧ size + (x.2.1 - x.1) ≤ 20000) = false := by
          rw [decide_eq_false_iff_not]
          rw [hp] at hc
          exact fun h => hc ⟨h.1, h.2.1, h.2.2.1, h.2.2.2.1⟩
        rw [this]; rfl
    · rw [if_neg hz, if_neg hz]
      have hpre : (decide ((j : Int) > 0) = false ∨ (preOf d j == some true) = true) ↔ preOf d j ≠ some false := by
        rw [hah]
        cases preOf d j with
        | none => simp
        | some b => cases b <;> simp
      by_cases hc : x.1 = 0 ∧ x.2.1 = 0 ∧ (decide ((j : Int) > 0) = false ∨ (preOf d j == some true) = true) ∧ x.2.2.size ≤ 20000
      · rw [show decide (x.1 = 0 ∧ x.2.1 = 0 ∧ (decide ((j : Int) > 0) = false ∨ (preOf d j == some true) = true) ∧ x.2.2.size ≤ 20000) = true from by rw [decide_eq_true_eq]; exact hc]
        cases hv : uvalid x.2.2 with
        | false => rw [if_pos (by simp)]; simp
        | true =>
          rw [if_neg (by simp), Option.bind_some, if_neg (by simpa using hz), Option.bind_some]
          rw [hc.1, hc.2.1, Int.sub_zero, w64 (n := 0) (by omega) (by omega), Int.zero_add, w64 (n := (x.2.2.size : Int)) (by omega) (by omega), w64 (n := size + (x.2.2.size : Int)) (by omega) (by omega)]
          by_cases hs : size + (x.2.2.size : Int) ≤ 20000
          · rw [if_neg (by simpa using hs), hnext _ _ (by omega) hs (by omega) (by omega)]
            have : decide ((0 : Int) = 0 ∧ (0 : Int) = 0 ∧ preOf d j ≠ some false ∧ size + (x.2.2.size : Int) ≤ 20000) = true := by
              rw [decide_eq_true_eq]
              exact ⟨rfl, rfl, hpre.1 hc.2.2.1, hs⟩
            rw [this]
            simp [hz]
          · rw [if_pos (by simp; omega)]
            have : decide ((0 : Int) = 0 ∧ (0 : Int) = 0 ∧ preOf d j ≠ some false ∧ size + (x.2.2.size : Int) ≤ 20000) = false := by
              rw [decide_eq_false_iff_not]
              exact fun h => hs h.2.2.2
            rw [this]; rfl
      · rw [show decide (x.1 = 0 ∧ x.2.1 = 0 ∧ (decide ((j : Int) > 0) = false ∨ (preOf d j == some true) = true) ∧ x.2.2.size ≤ 20000) = false from by rw [decide_eq_false_iff_not]; exact hc]
        rw [if_pos (by simp)]
        have : decide (x.1 = 0 ∧ x.2.1 = 0 ∧ preOf d j ≠ some false ∧ size + (x.2.2.size : Int) ≤ 20000) = false := by
          rw [decide_eq_false_iff_not]
          exact fun h => hc ⟨h.1, h.2.1, hpre.2 h.2.2.1, by omega⟩
        rw [this]; rfl

theorem is_is {K : Nat} {d : List El} {base : Int} (hK : 30000 ≤ K) : delta_Is K base d = some (isD base d) := by
  unfold delta_Is isD
  by_cases h1 : base < 0
  · rw [if_pos (by simpa using h1), Option.bind_some, if_pos rfl]
    congr 1; symm; rw [Bool.and_eq_false_iff, decide_eq_false_iff_not]; left; omega
  · rw [if_neg (by simpa using h1)]
    by_cases h2 : base > 20000
    · rw [if_pos (by simpa using h2), Option.bind_some, if_pos rfl]
      congr 1; symm; rw [Bool.and_eq_false_iff, decide_eq_false_iff_not]; left; omega
    · rw [if_neg (by simpa using h2), Option.bind_some]
      by_cases h3 : d.length > 60
      · rw [if_pos (by simp; omega)]
        congr 1; symm; rw [Bool.and_eq_false_iff, decide_eq_false_iff_not]; left; omega
      · have h := is_loop (K := K) (d := d) (base := base) hK (by omega) (by omega) d 0 K 0 0 rfl (by omega) (by omega) (by omega) (by omega) (by omega)
        rw [Int.natCast_zero] at h
        rw [if_neg (by simp; omega), h]
        have : decide (0 ≤ base ∧ base ≤ 20000 ∧ d.length ≤ 60) = true := by rw [decide_eq_true_eq]; omega
        rw [this]
        rfl

abbrev el0 : El := ((0 : Int), ((0 : Int), ByteArray.empty))

def lastIs (b : Bool) (l : List El) : Prop := l ≠ [] ∧ decide ((l.getD (l.length - 1) el0).2.2.size = 0) = b

instance (b : Bool) (l : List El) : Decidable (lastIs b l) := inferInstanceAs (Decidable (_ ∧ _))

/-- Bytes kept, behind elements. -/
def mkCopy (l : List El) (f t : Int) : List El :=
  if f = t then l else if lastIs true l ∧ (l.getD (l.length - 1) el0).2.1 = f then l.set (l.length - 1) ((l.getD (l.length - 1) el0).1, (t, (l.getD (l.length - 1) el0).2.2)) else l ++ [(f, (t, ByteArray.empty))]

/-- A text put in, behind elements. -/
def mkPut (l : List El) (s : ByteArray) : List El :=
  if s.size = 0 then l else if lastIs false l then l.set (l.length - 1) ((l.getD (l.length - 1) el0).1, ((l.getD (l.length - 1) el0).2.1, (l.getD (l.length - 1) el0).2.2 ++ s)) else l ++ [(0, (0, s))]

def sumT : List El → Nat
  | [] => 0
  | x :: r => x.2.2.size + sumT r

def sumK : List El → Int
  | [] => 0
  | x :: r => (x.2.1 - x.1) + sumK r

theorem sumT_app : ∀ {l r : List El}, sumT (l ++ r) = sumT l + sumT r
  | [], r => by simp [sumT]
  | x :: l, r => by simp only [List.cons_append, sumT, sumT_app]; omega

theorem sumK_app : ∀ {l r : List El}, sumK (l ++ r) = sumK l + sumK r
  | [], r => by simp [sumK]
  | x :: l, r => by simp only [List.cons_append, sumK, sumK_app]; omega

theorem le_sumT : ∀ {l : List El} {x : El}, x ∈ l → x.2.2.size ≤ sumT l
  | y :: l, x, h => by
    rw [sumT]
    rcases List.mem_cons.1 h with rfl | h
    · omega
    · have := le_sumT h; omega

theorem empty_size : ByteArray.empty.size = 0 := rfl

theorem getD_last {l : List El} {p : El} : (l ++ [p]).getD ((l ++ [p]).length - 1) el0 = p := by
  simp [List.getD]

theorem set_last {α : Type} {l : List α} {p q : α} : (l ++ [p]).set ((l ++ [p]).length - 1) q = l ++ [q] := by
  have : (l ++ [p]).length - 1 = l.length := by simp
  rw [this, List.set_append_right _ _ (Nat.le_refl _), Nat.sub_self, List.set_cons_zero]

theorem mkCopy_nil {f t : Int} : mkCopy [] f t = if f = t then [] else [(f, (t, ByteArray.empty))] := by
  unfold mkCopy
  split
  · rfl
  · rw [if_neg (fun h => h.1.1 rfl)]; rfl

theorem lastIs_app {b : Bool} {l : List El} {p : El} : lastIs b (l ++ [p]) ↔ decide (p.2.2.size = 0) = b := by
  unfold lastIs
  rw [getD_last]
  exact ⟨fun h => h.2, fun h => ⟨by simp, h⟩⟩

theorem mkCopy_app {l : List El} {p : El} {f t : Int} : mkCopy (l ++ [p]) f t = if f = t then l ++ [p] else if p.2.2.size = 0 ∧ p.2.1 = f then l ++ [(p.1, (t, p.2.2))] else l ++ [p] ++ [(f, (t, ByteArray.empty))] := by
  unfold mkCopy
  rw [getD_last, set_last]
  by_cases h : f = t
  · rw [if_pos h, if_pos h]
  · rw [if_neg h, if_neg h]
    by_cases h2 : p.2.2.size = 0 ∧ p.2.1 = f
    · rw [if_pos ⟨lastIs_app.2 (decide_eq_true h2.1), h2.2⟩, if_pos h2]
    · rw [if_neg (fun h' => h2 ⟨of_decide_eq_true (lastIs_app.1 h'.1), h'.2⟩), if_neg h2]

theorem mkPut_nil {s : ByteArray} : mkPut [] s = if s.size = 0 then [] else [(0, (0, s))] := by
  unfold mkPut
  split
  · rfl
  · rw [if_neg (fun h => h.1 rfl)]; rfl

theorem mkPut_app {l : List El} {p : El} {s : ByteArray} : mkPut (l ++ [p]) s = if s.size = 0 then l ++ [p] else if p.2.2.size = 0 then l ++ [p] ++ [(0, (0, s))] else l ++ [(p.1, (p.2.1, p.2.2 ++ s))] := by
  unfold mkPut
  rw [getD_last, set_last]
  by_cases h : s.size = 0
  · rw [if_pos h, if_pos h]
  · rw [if_neg h, if_neg h]
    by_cases h2 : p.2.2.size = 0
    · rw [if_neg (fun h' => by have := lastIs_app.1 h'; simp [h2] at this), if_pos h2]
    · rw [if_pos (lastIs_app.2 (decide_eq_false h2)), if_neg h2]

theorem bsize_app {a b : ByteArray} : (a ++ b).size = a.size + b.size := ByteArray.size_append

theorem mkCopy_len {l : List El} {f t : Int} : (mkCopy l f t).length ≤ l.length + 1 := by
  unfold mkCopy
  split
  · omega
  · split <;> simp

theorem mkPut_len {l : List El} {s : ByteArray} : (mkPut l s).length ≤ l.length + 1 := by
  unfold mkPut
  split
  · omega
  · split <;> simp

theorem mkCopy_sumT {l : List El} {f t : Int} : sumT (mkCopy l f t) = sumT l := by
  by_cases h : l = []
  · subst h; rw [mkCopy_nil]; split <;> simp [sumT, empty_size]
  · obtain ⟨m, p, rfl⟩ := split_last h
    rw [mkCopy_app]
    split
    · rfl
    · split
      · simp [sumT_app, sumT]
      · simp [sumT_app, sumT, empty_size]

theorem mkPut_sumT {l : List El} {s : ByteArray} : sumT (mkPut l s) = sumT l + s.size := by
  by_cases h : l = []
  · subst h; rw [mkPut_nil]; split
    · simp [sumT]; omega
    · simp [sumT]
  · obtain ⟨m, p, rfl⟩ := split_last h
    rw [mkPut_app]
    split
    · omega
    · split
      · simp [sumT_app, sumT] <;> omega
      · simp [sumT_app, sumT, bsize_app] <;> omega

theorem copy_is {K : Nat} {m f t : Int} {l : List El} (hl : l.length ≤ 1000000000) : delta_Maker_Copy_bgg_11dec K m l f t = some (mkCopy l f t) := by
  unfold delta_Maker_Copy_bgg_11dec mkCopy
  have hw : IntKind.wrap .i64 ((l.length : Int) - 1) = (l.length : Int) - 1 := w64 (by omega) (by omega)
  rw [hw]
  by_cases h : f = t
  · rw [if_pos (by simpa using h), if_pos h]
  · rw [if_neg (by simpa using h), if_neg h]
    by_cases he : l = []
    · subst he
      rw [if_neg (by simp), Option.bind_some, if_neg (by simp), if_pos (by simp), if_neg (fun h => h.1.1 rfl)]
    · have hp : 0 < l.length := List.length_pos_iff.2 he
      have hn : ((l.length : Int) - 1).toNat = l.length - 1 := by omega
      rw [if_pos (by simp; omega), hn, isCopy_is, Option.bind_some]
      by_cases hz : (l.getD (l.length - 1) el0).2.2.size = 0
      · rw [if_pos (decide_eq_true hz), if_pos ⟨by omega, by omega⟩, Option.bind_some]
        by_cases hq : (l.getD (l.length - 1) el0).2.1 = f
        · rw [if_pos (by simpa using hq), if_pos ⟨by omega, by omega⟩, if_pos ⟨⟨he, decide_eq_true hz⟩, hq⟩]
        · rw [if_neg (by simpa using hq), if_pos (by simp; omega), if_neg (fun h => hq h.2)]
      · rw [if_neg (by simpa using hz), if_pos ⟨by omega, by omega⟩, Option.bind_some, if_neg (by simp), if_pos (by simp; omega), if_neg (fun h => hz (of_decide_eq_true h.1.2))]

theorem putm_is {K : Nat} {m : Int} {l : List El} {s : ByteArray} (hl : l.length ≤ 1000000000) (ht : sumT l + s.size ≤ 9223372036854775807) : delta_Maker_Put_bg_92925 K m l s = some (mkPut l s) := by
  unfold delta_Maker_Put_bg_92925 mkPut
  have hw : IntKind.wrap .i64 ((l.length : Int) - 1) = (l.length : Int) - 1 := w64 (by omega) (by omega)
  rw [hw, str_nil]
  by_cases h : s.size = 0
  · rw [if_pos (by simpa using h), if_pos h]
  · rw [if_neg (by simpa using h), if_neg h]
    by_cases he : l = []
    · subst he
      rw [if_neg (by simp), Option.bind_some, if_neg (by simp), if_pos (by simp), if_neg (fun h => h.1 rfl)]
    · have hp : 0 < l.length := List.length_pos_iff.2 he
      have hn : ((l.length : Int) - 1).toNat = l.length - 1 := by omega
      have hm : l.getD (l.length - 1) el0 ∈ l := by
        rw [List.getD, List.getElem?_eq_getElem (by omega)]
        simp
      have hs := le_sumT hm
      rw [if_pos (by simp; omega), hn, isCopy_is, Option.bind_some, if_pos ⟨by omega, by omega⟩, Option.bind_some]
      by_cases hz : (l.getD (l.length - 1) el0).2.2.size = 0
      · rw [show decide ((l.getD (l.length - 1) ((0 : Int), ((0 : Int), ByteArray.empty))).2.2.size = 0) = true from decide_eq_true hz, if_neg (by simp), if_pos (by simp; omega), if_neg (fun h => by have := h.2; rw [decide_eq_true hz] at this; cases this)]
      · have h3 : (l.getD (l.length - 1) ((0 : Int), ((0 : Int), ByteArray.empty))).2.2.size ≤ sumT l := hs
        rw [show decide ((l.getD (l.length - 1) ((0 : Int), ((0 : Int), ByteArray.empty))).2.2.size = 0) = false from decide_eq_false hz, if_pos (by simp), if_pos ⟨by omega, by omega, by omega⟩, if_pos ⟨he, decide_eq_false hz⟩]

/-- Changes, one behind the other. -/
def bld : List El → Int → List El → List El × Int
  | acc, a, [] => (acc, a)
  | acc, a, c :: r => bld (mkPut (mkCopy acc a c.1) c.2.2) c.2.1 r

theorem bld_len : ∀ {l acc : List El} {a : Int}, (bld acc a l).1.length ≤ acc.length + 2 * l.length
  | [], acc, a => by simp [bld]
  | c :: r, acc, a => by
    rw [bld]
    have h1 := bld_len (l := r) (acc := mkPut (mkCopy acc a c.1) c.2.2) (a := c.2.1)
    have h2 := mkPut_len (l := mkCopy acc a c.1) (s := c.2.2)
    have h3 := mkCopy_len (l := acc) (f := a) (t := c.1)
    simp only [List.length_cons]; omega

theorem build_loop {K : Nat} {l : List El} {base : Int} : ∀ (rest : List El) (j k : Nat) (acc : List El) (a : Int), l.drop j = rest → rest.length < k → l.length ≤ 1000000 → acc.length ≤ 2 * j → sumT acc + sumT rest ≤ 9000000000000000000 →
    delta_Build_gr.l0 K l base k acc a (j : Int) = some (bld acc a rest)
  | [], j, k, acc, a, hd, hk, hl, ha, ht => by
    obtain ⟨k, rfl⟩ : ∃ m, k = m + 1 := ⟨k - 1, by simp at hk; omega⟩
    have := drop_nil hd
    rw [delta_Build_gr.l0, if_neg (by simp; omega)]
    rfl
  | c :: rest, j, k, acc, a, hd, hk, hl, ha, ht => by
    obtain ⟨k, rfl⟩ : ∃ m, k = m + 1 := ⟨k - 1, by simp at hk; omega⟩
    obtain ⟨hj, hgd, hd'⟩ := drop_cons hd el0
    have hk' : rest.length < k := by simp at hk; omega
    have hw : IntKind.wrap .i64 ((j : Int) + 1) = ((j + 1 : Nat) : Int) := by rw [w64 (by omega) (by omega)]; omega
    have h2 := mkPut_len (l := mkCopy acc a c.1) (s := c.2.2)
    have h3 := mkCopy_len (l := acc) (f := a) (t := c.1)
    have s1 := mkCopy_sumT (l := acc) (f := a) (t := c.1)
    have s2 := mkPut_sumT (l := mkCopy acc a c.1) (s := c.2.2)
    simp only [sumT] at ht
    rw [delta_Build_gr.l0]
    simp only [Int.toNat_natCast, hgd, hw]
    rw [if_pos (by simpa using hj), if_pos ⟨by omega, by omega⟩, copy_is (by omega), Option.bind_some, putm_is (by omega) (by omega), Option.bind_some, build_loop rest (j + 1) k _ _ hd' hk' hl (by omega) (by omega)]
    rfl

def rngL (base : Int) (l : List El) : Bool := l.all fun c => decide (0 ≤ c.1 ∧ c.1 ≤ c.2.1 ∧ c.2.1 ≤ base)

def ordL : Option El → List El → Bool
  | _, [] => true
  | none, b :: r => ordL (some b) r
  | some a, b :: r => !decide (b.1 < a.2.1 ∨ a.1 = b.1 ∧ a.2.1 = b.1) && ordL (some b) r

def valL (l : List El) : Bool := l.all fun c => uvalid c.2.2

def lngL : Int → List El → Int
  | _, [] => 0
  | left, c :: r => if c.2.2.size > left then 13 else lngL (left - c.2.2.size) r

theorem rng_loop {K : Nat} {l : List El} {base : Int} (hl : l.length ≤ 1000000000) : ∀ (rest : List El) (j k : Nat), l.drop j = rest → rest.length < k →
    delta_check_gr.l0 K l base k (j : Int) = some (if rngL base rest = true then .inr () else .inl 10)
  | [], j, k, hd, hk => by
    obtain ⟨k, rfl⟩ : ∃ m, k = m + 1 := ⟨k - 1, by simp at hk; omega⟩
    have := drop_nil hd
    rw [delta_check_gr.l0, if_neg (by simp; omega)]
    rfl
  | c :: rest, j, k, hd, hk => by
    obtain ⟨k, rfl⟩ : ∃ m, k = m + 1 := ⟨k - 1, by simp at hk; omega⟩
    obtain ⟨hj, hgd, hd'⟩ := drop_cons hd el0
    have hk' : rest.length < k := by simp at hk; omega
    have hw : IntKind.wrap .i64 ((j : Int) + 1) = ((j + 1 : Nat) : Int) := by rw [w64 (by omega) (by omega)]; omega
    rw [delta_check_gr.l0]
    simp only [Int.toNat_natCast, hgd, hw]
    rw [if_pos (by simpa using hj), if_pos ⟨by omega, by omega⟩, rng_loop hl rest (j + 1) k hd' hk', show rngL base (c :: rest) = (decide (0 ≤ c.1 ∧ c.1 ≤ c.2.1 ∧ c.2.1 ≤ base) && rngL base rest) from rfl]
    by_cases h1 : c.1 < 0
    · rw [if_pos (by simpa using h1), Option.bind_some, if_pos rfl, decide_eq_false (by omega)]; rfl
    · rw [if_neg (by simpa using h1)]
      by_cases h2 : c.1 > c.2.1
      · rw [if_pos (by simpa using h2), Option.bind_some, if_pos rfl, decide_eq_false (by omega)]; rfl
      · rw [if_neg (by simpa using h2), Option.bind_some]
        by_cases h3 : c.2.1 > base
        · rw [if_pos (by simpa using h3), decide_eq_false (by omega)]; rfl
        · rw [if_neg (by simpa using h3), decide_eq_true (by omega)]; rfl

theorem ord_loop {K : Nat} {l : List El} (hl : l.length ≤ 1000000000) : ∀ (rest : List El) (j k : Nat), l.drop j = rest → rest.length < k → 1 ≤ j →
    delta_Ordered_r.l0 K l k (j : Int) = some (ordL (some (l.getD (j - 1) el0)) rest)
  | [], j, k, hd, hk, h1 => by
    obtain ⟨k, rfl⟩ : ∃ m, k = m + 1 := ⟨k - 1, by simp at hk; omega⟩
    have := drop_nil hd
    rw [delta_Ordered_r.l0, if_neg (by simp; omega)]
    rfl
  | c :: rest, j, k, hd, hk, h1 => by
    obtain ⟨k, rfl⟩ : ∃ m, k = m + 1 := ⟨k - 1, by simp at hk; omega⟩
    obtain ⟨hj, hgd, hd'⟩ := drop_cons hd el0
    have hk' : rest.length < k := by simp at hk; omega
    have hw : IntKind.wrap .i64 ((j : Int) + 1) = ((j + 1 : Nat) : Int) := by rw [w64 (by omega) (by omega)]; omega
    have hw1 : IntKind.wrap .i64 ((j : Int) - 1) = (j : Int) - 1 := w64 (by omega) (by omega)
    have hn : ((j : Int) - 1).toNat = j - 1 := by omega
    have hr := ord_loop (K := K) hl rest (j + 1) k hd' hk' (by omega)
    rw [Nat.add_sub_cancel, hgd] at hr
    rw [delta_Ordered_r.l0]
    simp only [Int.toNat_natCast, hgd, hw, hw1, hn]
    rw [if_pos (by simpa using hj), if_pos ⟨by omega, by omega, by omega, by omega⟩, hr, ordL]
    by_cases a1 : c.1 < (l.getD (j - 1) el0).2.1
    · rw [if_pos (by simpa using a1), Option.bind_some, if_pos rfl, decide_eq_true (.inl a1)]; rfl
    · rw [if_neg (by simpa using a1)]
      by_cases a2 : (l.getD (j - 1) el0).1 = c.1
      · rw [if_pos (by simpa using a2), Option.bind_some]
        by_cases a3 : (l.getD (j - 1) el0).2.1 = c.1
        · rw [if_pos (by simpa using a3), decide_eq_true (.inr ⟨a2, a3⟩)]; rfl
        · rw [if_neg (by simpa using a3), decide_eq_false (by omega)]; rfl
      · rw [if_neg (by simpa using a2), Option.bind_some, if_neg (by simp), decide_eq_false (by omega)]; rfl

theorem ord_is {K : Nat} {l : List El} (hl : l.length ≤ 1000000000) (hK : l.length < K) : delta_Ordered_r K l = some (ordL none l) := by
  unfold delta_Ordered_r
  cases l with
  | nil =>
    obtain ⟨k, rfl⟩ : ∃ m, K = m + 1 := ⟨K - 1, by simp at hK; omega⟩
    rw [delta_Ordered_r.l0, if_neg (by simp)]; rfl
  | cons c r =>
    have h := ord_loop (K := K) hl r 1 K rfl (by simp at hK; omega) (by omega)
    rw [show ((1 : Nat) : Int) = 1 from rfl] at h
    rw [h]; rfl

theorem val_loop {K : Nat} {l : List El} (hl : l.length ≤ 1000000000) (ht : ∀ x ∈ l, x.2.2.size + 10 ≤ K ∧ x.2.2.size ≤ 1000000000000) : ∀ (rest : List El) (j k : Nat), l.drop j = rest → rest.length < k →
    delta_check_gr.l1 K l k (j : Int) = some (if valL rest = true then .inr () else .inl 12)
  | [], j, k, hd, hk => by
    obtain ⟨k, rfl⟩ : ∃ m, k = m + 1 := ⟨k - 1, by simp at hk; omega⟩
    have := drop_nil hd
    rw [delta_check_gr.l1, if_neg (by simp; omega)]
    rfl
  | c :: rest, j, k, hd, hk => by
    obtain ⟨k, rfl⟩ : ∃ m, k = m + 1 := ⟨k - 1, by simp at hk; omega⟩
    obtain ⟨hj, hgd, hd'⟩ := drop_cons hd el0
    have hk' : rest.length < k := by simp at hk; omega
    have hw : IntKind.wrap .i64 ((j : Int) + 1) = ((j + 1 : Nat) : Int) := by rw [w64 (by omega) (by omega)]; omega
    have hc : c ∈ l := by rw [← hgd]; simp [List.getD, hj]
    have hcs := ht c hc
    rw [delta_check_gr.l1]
    simp only [Int.toNat_natCast, hgd, hw]
    rw [if_pos (by simpa using hj), if_pos ⟨by omega, by omega⟩, uvalid_is (by omega) (by omega), Option.bind_some, val_loop hl ht rest (j + 1) k hd' hk', show valL (c :: rest) = (uvalid c.2.2 && valL rest) from rfl]
    cases uvalid c.2.2 <;> simp

theorem lng_loop {K : Nat} {l : List El} (hl : l.length ≤ 1000000000) : ∀ (rest : List El) (j k : Nat) (left : Int), l.drop j = rest → rest.length < k → 0 ≤ left → left ≤ 1000000000000 →
    delta_long_gr.l1 K l k left (j : Int) = some (lngL left rest)
  | [], j, k, left, hd, hk, h0, h1 => by
    obtain ⟨k, rfl⟩ : ∃ m, k = m + 1 := ⟨k - 1, by simp at hk; omega⟩
    have := drop_nil hd
    rw [delta_long_gr.l1, if_neg (by simp; omega)]
    rfl
  | c :: rest, j, k, left, hd, hk, h0, h1 => by
    obtain ⟨k, rfl⟩ : ∃ m, k = m + 1 := ⟨k - 1, by simp at hk; omega⟩
    obtain ⟨hj, hgd, hd'⟩ := drop_cons hd el0
    have hk' : rest.length < k := by simp at hk; omega
    have hw : IntKind.wrap .i64 ((j : Int) + 1) = ((j + 1 : Nat) : Int) := by rw [w64 (by omega) (by omega)]; omega
    rw [delta_long_gr.l1]
    simp only [Int.toNat_natCast, hgd, hw]
    rw [if_pos (by simpa using hj), if_pos ⟨by omega, by omega⟩, lngL]
    by_cases h : c.2.2.size > left
    · rw [if_pos (by simpa using h), if_pos h]
    · rw [if_neg (by simpa using h), if_neg h, w64 (by omega) (by omega), lng_loop hl rest (j + 1) k _ hd' hk' (by omega) (by omega)]

theorem gap_loop {K : Nat} {l : List El} (hl : l.length ≤ 1000000) (hr : rngL 20000 l = true) : ∀ (rest : List El) (j k : Nat) (left : Int), l.drop j = rest → rest.length < k → j ≤ l.length → 0 ≤ left → left ≤ 20000 + 20000 * j →
    delta_long_gr.l0 K l k left (j : Int) = some (left + sumK rest) ∧ 0 ≤ left + sumK rest ∧ left + sumK rest ≤ 20000 + 20000 * l.length
  | [], j, k, left, hd, hk, hj, h0, h1 => by
    obtain ⟨k, rfl⟩ : ∃ m, k = m + 1 := ⟨k - 1, by simp at hk; omega⟩
    have := drop_nil hd
    rw [delta_long_gr.l0, if_neg (by simp; omega)]
    simp only [sumK, Int.add_zero]
    exact ⟨trivial, h0, by omega⟩
  | c :: rest, j, k, left, hd, hk, hjl, h0, h1 => by
    obtain ⟨k, rfl⟩ : ∃ m, k = m + 1 := ⟨k - 1, by simp at hk; omega⟩
    obtain ⟨hj, hgd, hd'⟩ := drop_cons hd el0
    have hk' : rest.length < k := by simp at hk; omega
    have hw : IntKind.wrap .i64 ((j : Int) + 1) = ((j + 1 : Nat) : Int) := by rw [w64 (by omega) (by omega)]; omega
    have hc : c ∈ l := by rw [← hgd]; simp [List.getD, hj]
    have hcr := of_decide_eq_true (List.all_eq_true.1 hr c hc)
    rw [delta_long_gr.l0]
    simp only [Int.toNat_natCast, hgd, hw]
    rw [if_pos (by simpa using hj), if_pos ⟨by omega, by omega⟩, w64 (n := c.2.1 - c.1) (by omega) (by omega), w64 (n := left + (c.2.1 - c.1)) (by omega) (by omega)]
    obtain ⟨e1, e2, e3⟩ := gap_loop (K := K) hl hr rest (j + 1) k (left + (c.2.1 - c.1)) hd' hk' (by omega) (by omega) (by omega)
    simp only [sumK]
    rw [e1]
    exact ⟨by congr 1; omega, by omega, by omega⟩

theorem rngL_mono {b c : Int} (h : b ≤ c) {l : List El} (hr : rngL b l = true) : rngL c l = true := by
  unfold rngL at *
  rw [List.all_eq_true] at *
  intro x hx
  have := of_decide_eq_true (hr x hx)
  exact decide_eq_true (by omega)

/-- The first error of changes, by kind. -/
def chk (base : Int) (l : List El) : Int :=
  if base < 0 ∨ base > 20000 then 10 else if rngL base l = false then 10 else if ordL none l = false then 180 else if valL l = false then 12 else lngL (20000 - base + sumK l) l

theorem check_is {K : Nat} {l : List El} {base : Int} (hl : l.length ≤ 1000000) (hK : l.length < K) (ht : ∀ x ∈ l, x.2.2.size + 10 ≤ K ∧ x.2.2.size ≤ 1000000000000) : delta_check_gr K base l = some (chk base l) := by
  unfold delta_check_gr chk
  by_cases h1 : base < 0
  · rw [if_pos (by simpa using h1), Option.bind_some, if_pos rfl, if_pos (.inl h1)]
  · rw [if_neg (by simpa using h1), Option.bind_some]
    by_cases h2 : base > 20000
    · rw [if_pos (by simpa using h2), if_pos (.inr h2)]
    · rw [if_neg (by simpa using h2), if_neg (by omega)]
      have e0 := rng_loop (K := K) (base := base) (l := l) (by omega) l 0 K rfl (by omega)
      rw [Int.natCast_zero] at e0
      rw [e0, Option.bind_some]
      cases hr : rngL base l with
      | false => simp
      | true =>
        simp only [if_true, Sum.elim_inr, Bool.true_eq_false, if_false]
        rw [ord_is (by omega) hK, Option.bind_some]
        cases ho : ordL none l with
        | false => simp
        | true =>
          have e1 := val_loop (K := K) (l := l) (by omega) ht l 0 K rfl (by omega)
          rw [Int.natCast_zero] at e1
          rw [if_neg (by simp), e1, Option.bind_some]
          cases hv : valL l with
          | false => simp
          | true =>
            simp only [if_true, Sum.elim_inr, Bool.true_eq_false, if_false]
            unfold delta_long_gr
            obtain ⟨e2, e3, e4⟩ := gap_loop (K := K) (l := l) hl (rngL_mono (by omega) hr) l 0 K (20000 - base) rfl (by omega) (by omega) (by omega) (by omega)
            have e5 := lng_loop (K := K) (l := l) (by omega) l 0 K (20000 - base + sumK l) rfl (by omega) (by omega) (by omega)
            rw [Int.natCast_zero] at e2 e5
            rw [w64 (n := 20000 - base) (by omega) (by omega), e2, Option.bind_some, e5]
            rfl

/-- What is built. -/
def bldD (base : Int) (l : List El) : Int × (List El × Int) :=
  if chk base l ≠ 0 then (0, ([], chk base l)) else if (mkCopy (bld [] 0 l).1 (bld [] 0 l).2 base).length > 60 then (0, ([], 70)) else (base, (mkCopy (bld [] 0 l).1 (bld [] 0 l).2 base, 0))

theorem build_is {K : Nat} {l : List El} {base : Int} (hl : l.length ≤ 1000000) (hK : l.length < K) (ht : ∀ x ∈ l, x.2.2.size + 10 ≤ K ∧ x.2.2.size ≤ 1000000000000) : delta_Build_gr K base l = some (bldD base l) := by
  unfold delta_Build_gr bldD
  rw [check_is hl hK ht, Option.bind_some]
  by_cases h : chk base l = 0
  · have hs : sumT l ≤ 1000000000000 * l.length := by
      have : ∀ (r : List El), (∀ x ∈ r, x.2.2.size ≤ 1000000000000) → sumT r ≤ 1000000000000 * r.length := by
        intro r
        induction r with
        | nil => intro _; simp [sumT]
        | cons x r ih =>
          intro hx
          have h1 := hx x (by simp)
          have h2 := ih fun y hy => hx y (by simp [hy])
          simp only [sumT, List.length_cons]; omega
      exact this l fun x hx => (ht x hx).2
    have e := build_loop (K := K) (l := l) (base := base) l 0 K [] 0 rfl hK hl (by simp) (by simp only [sumT]; omega)
    rw [Int.natCast_zero] at e
    have hbl := bld_len (l := l) (acc := []) (a := 0)
    simp only [List.length_nil] at hbl
    rw [if_neg (by simpa using h), if_neg (by simpa using h)]
    unfold delta_NewMaker
    rw [Option.bind_some, e, Option.bind_some, copy_is (by omega), Option.bind_some]
    unfold delta_Maker_Delta_b_ee1c6
    by_cases h6 : (mkCopy (bld [] 0 l).1 (bld [] 0 l).2 base).length > 60
    · rw [if_pos (by simp; omega), if_pos h6]; rfl
    · rw [if_neg (by simp; omega), if_neg h6]; rfl
  · rw [if_pos (by simpa using h), if_pos h]

/-- An element of a delta. -/
def okE (base : Int) (x : El) : Prop := 0 ≤ x.1 ∧ x.1 ≤ x.2.1 ∧ x.2.1 ≤ base ∧ (x.2.2.size = 0 ∨ x.1 = 0 ∧ x.2.1 = 0)

theorem isL_ok {base : Int} (hb : 0 ≤ base) : ∀ {l : List El} {size to : Int} {pre : Option Bool}, isL base size to pre l = true → 0 ≤ to → size ≤ 20000 → (∀ x ∈ l, okE base x) ∧ size + sumK l + sumT l ≤ 20000
  | [], size, to, pre, h, h0, h1 => ⟨by simp, by simp [sumK, sumT]; omega⟩
  | x :: r, size, to, pre, h, h0, h1 => by
    rw [isL] at h
    split at h
    · rename_i hz
      rw [Bool.and_eq_true, decide_eq_true_eq] at h
      obtain ⟨⟨c1, c2, c3, c4, c5⟩, hr⟩ := h
      obtain ⟨e1, e2⟩ := isL_ok hb hr (by omega) c5
      refine ⟨fun y hy => ?_, by simp only [sumK, sumT, hz]; omega⟩
      rcases List.mem_cons.1 hy with rfl | hy
      · exact ⟨by omega, by omega, c4, .inl hz⟩
      · exact e1 y hy
    · rw [Bool.and_eq_true, Bool.and_eq_true, decide_eq_true_eq] at h
      obtain ⟨⟨⟨c1, c2, c3, c4⟩, hv⟩, hr⟩ := h
      obtain ⟨e1, e2⟩ := isL_ok hb hr h0 c4
      refine ⟨fun y hy => ?_, by simp only [sumK, sumT]; omega⟩
      rcases List.mem_cons.1 hy with rfl | hy
      · exact ⟨by omega, by omega, by omega, .inr ⟨c1, c2⟩⟩
      · exact e1 y hy

theorem isD_ok {base : Int} {l : List El} (h : isD base l = true) : 0 ≤ base ∧ base ≤ 20000 ∧ l.length ≤ 60 ∧ (∀ x ∈ l, okE base x) ∧ sumK l + sumT l ≤ 20000 := by
  unfold isD at h
  rw [Bool.and_eq_true, decide_eq_true_eq] at h
  obtain ⟨⟨h1, h2, h3⟩, h4⟩ := h
  obtain ⟨e1, e2⟩ := isL_ok h1 h4 (by omega) (by omega)
  exact ⟨h1, h2, h3, e1, by omega⟩

theorem sumK_nonneg {base : Int} : ∀ {l : List El}, (∀ x ∈ l, okE base x) → 0 ≤ sumK l
  | [], _ => by simp [sumK]
  | x :: r, h => by
    have h1 := h x (by simp)
    have h2 := sumK_nonneg (l := r) fun y hy => h y (by simp [hy])
    have := h1.2.1
    simp only [sumK]; omega

/-- What elements make of a text's bytes. -/
def apS (s : List Int) : List El → List Int
  | [] => []
  | x :: r => ((s.drop x.1.toNat).take (x.2.1 - x.1).toNat ++ txt x.2.2) ++ apS s r

theorem ris_loop {K : Nat} {d : List El} {base : Int} (hK : 30000 ≤ K) (hb : base ≤ 20000) (hl : d.length ≤ 60) : ∀ (rest : List El) (j k : Nat) (size to : Int) (text : Bool), d.drop j = rest → rest.length < k → 0 ≤ size → size ≤ 20000 → 0 ≤ to → to ≤ 20000 → text = decide (preOf d j ≠ some true) →
    palinoderef11_Is.l0 K d base k to text size (j : Int) = some (isL base size to (preOf d j) rest)
  | [], j, k, size, to, text, hd, hk, h0, h1, h2, h3, ht => by
    obtain ⟨k, rfl⟩ : ∃ m, k = m + 1 := ⟨k - 1, by simp at hk; omega⟩
    have := drop_nil hd
    rw [palinoderef11_Is.l0, if_neg (by simp; omega)]
    rfl
  | x :: rest, j, k, size, to, text, hd, hk, h0, h1, h2, h3, ht => by
    obtain ⟨k, rfl⟩ : ∃ m, k = m + 1 := ⟨k - 1, by simp at hk; omega⟩
    obtain ⟨hj, hgd, hd'⟩ := drop_cons hd el0
    have hk' : rest.length < k := by simp at hk; omega
    have hw : IntKind.wrap .i64 ((j : Int) + 1) = ((j + 1 : Nat) : Int) := by rw [w64 (by omega) (by omega)]; omega
    have hws : IntKind.wrap .i64 ((20000 : Int) - size) = 20000 - size := w64 (by omega) (by omega)
    have hps := preOf_succ hgd
    have hnext := fun (size' to' : Int) (text' : Bool) (a0 : 0 ≤ size') (a1 : size' ≤ 20000) (a2 : 0 ≤ to') (a3 : to' ≤ 20000) (a4 : text' = decide (preOf d (j + 1) ≠ some true)) => ris_loop (K := K) hK hb hl rest (j + 1) k size' to' text' hd' hk' a0 a1 a2 a3 a4
    rw [hps] at hnext
    have hj0 : j = 0 ↔ preOf d j = none := by
      unfold preOf
      by_cases h : j = 0 <;> simp [h]
    rw [palinoderef11_Is.l0]
    simp only [Int.toNat_natCast, hgd, hw, hws, str_nil]
    rw [if_pos (by simpa using hj), if_pos ⟨by omega, by omega⟩, isL]
    by_cases hz : x.2.2.size = 0
    · rw [if_neg (by simpa using hz), if_pos hz]
      by_cases c1 : x.1 < to
      · rw [if_pos (by simpa using c1), Option.bind_some, if_pos rfl, decide_eq_false (by omega)]; rfl
      · rw [if_neg (by simpa using c1)]
        have tail : (if decide (x.2.1 ≤ x.1) = true then some true else if decide (x.2.1 > base) = true then some true else some (decide (IntKind.wrap .i64 (x.2.1 - x.1) > 20000 - size))) = some (!decide (x.1 < x.2.1 ∧ x.2.1 ≤ base ∧ size + (x.2.1 - x.1) ≤ 20000)) := by
          by_cases a1 : x.2.1 ≤ x.1
          · rw [if_pos (by simpa using a1), decide_eq_false (by omega)]; rfl
          · rw [if_neg (by simpa using a1)]
            by_cases a2 : x.2.1 > base
            · rw [if_pos (by simpa using a2), decide_eq_false (by omega)]; rfl
            · rw [if_neg (by simpa using a2), w64 (by omega) (by omega)]
              by_cases a3 : size + (x.2.1 - x.1) ≤ 20000
              · rw [decide_eq_true (show x.1 < x.2.1 ∧ x.2.1 ≤ base ∧ size + (x.2.1 - x.1) ≤ 20000 by omega), decide_eq_false (by omega)]; rfl
              · rw [decide_eq_false (show ¬ (x.1 < x.2.1 ∧ x.2.1 ≤ base ∧ size + (x.2.1 - x.1) ≤ 20000) by omega), decide_eq_true (by omega)]; rfl
        rw [tail]
        have main : (if decide ((j : Int) > 0) = true then if (!text) = true then if (x.1 == to) = true then some true else some (!decide (x.1 < x.2.1 ∧ x.2.1 ≤ base ∧ size + (x.2.1 - x.1) ≤ 20000)) else some (!decide (x.1 < x.2.1 ∧ x.2.1 ≤ base ∧ size + (x.2.1 - x.1) ≤ 20000)) else some (!decide (x.1 < x.2.1 ∧ x.2.1 ≤ base ∧ size + (x.2.1 - x.1) ≤ 20000))) =
            some (!decide (to ≤ x.1 ∧ (to < x.1 ∨ preOf d j ≠ some true) ∧ x.1 < x.2.1 ∧ x.2.1 ≤ base ∧ size + (x.2.1 - x.1) ≤ 20000)) := by
          by_cases hp : preOf d j = some true
          · have hjp : ¬ j = 0 := fun h => by rw [hj0.1 h] at hp; cases hp
            have hte : text = false := by rw [ht, hp]; simp
            rw [if_pos (by simp; omega), hte, if_pos (by simp)]
            by_cases a1 : x.1 = to
            · rw [if_pos (by simpa using a1), decide_eq_false (show ¬ (to ≤ x.1 ∧ (to < x.1 ∨ preOf d j ≠ some true) ∧ x.1 < x.2.1 ∧ x.2.1 ≤ base ∧ size + (x.2.1 - x.1) ≤ 20000) by
                intro h
                rcases h.2.1 with h' | h'
                · omega
                · exact h' hp)]
              rfl
            · rw [if_neg (by simpa using a1)]
              congr 2
              rw [decide_eq_decide]
              exact ⟨fun h => ⟨by omega, .inl (by omega), h⟩, fun h => h.2.2⟩
          · have hte : text = true := by rw [ht]; exact decide_eq_true hp
            have hfin : (decide (x.1 < x.2.1 ∧ x.2.1 ≤ base ∧ size + (x.2.1 - x.1) ≤ 20000)) = decide (to ≤ x.1 ∧ (to < x.1 ∨ preOf d j ≠ some true) ∧ x.1 < x.2.1 ∧ x.2.1 ≤ base ∧ size + (x.2.1 - x.1) ≤ 20000) := by
              rw [decide_eq_decide]
              exact ⟨fun h => ⟨by omega, .inr hp, h⟩, fun h => h.2.2⟩
            rw [hte, hfin]
            simp
        rw [main, Option.bind_some]
        by_cases c : to ≤ x.1 ∧ (to < x.1 ∨ preOf d j ≠ some true) ∧ x.1 < x.2.1 ∧ x.2.1 ≤ base ∧ size + (x.2.1 - x.1) ≤ 20000
        · rw [decide_eq_true c, if_neg (by simp), w64 (n := size + x.2.1) (by omega) (by omega), w64 (n := size + x.2.1 - x.1) (by omega) (by omega), hnext _ _ _ (by omega) (by omega) (by omega) (by omega) (by rw [decide_eq_true hz]; simp), decide_eq_true hz, show size + x.2.1 - x.1 = size + (x.2.1 - x.1) by omega]
          rfl
        · rw [decide_eq_false c, if_pos (by simp)]; rfl
    · rw [if_pos (by simpa using hz), if_neg hz]
      have inner : (if decide ((x.2.2.size : Int) > 20000 - size) = true then some true else (palinoderef1_Valid K x.2.2).bind fun r_33 => some (!r_33)) = some (!(decide (size + (x.2.2.size : Int) ≤ 20000) && uvalid x.2.2)) := by
        by_cases a1 : (x.2.2.size : Int) > 20000 - size
        · rw [if_pos (by simpa using a1), decide_eq_false (by omega)]; rfl
        · rw [if_neg (by simpa using a1), decide_eq_true (by omega), rvalid_is (by omega) (by omega)]; rfl
      rw [inner]
      by_cases c1 : x.1 = 0
      · rw [if_neg (by simpa using c1)]
        by_cases c2 : x.2.1 = 0
        · rw [if_neg (by simpa using c2)]
          have main : (if decide ((j : Int) > 0) = true then if text = true then some true else some (!(decide (size + (x.2.2.size : Int) ≤ 20000) && uvalid x.2.2)) else some (!(decide (size + (x.2.2.size : Int) ≤ 20000) && uvalid x.2.2))) =
              some (!(decide (x.1 = 0 ∧ x.2.1 = 0 ∧ preOf d j ≠ some false ∧ size + (x.2.2.size : Int) ≤ 20000) && uvalid x.2.2)) := by
            by_cases hp : preOf d j = some false
            · have hjp : ¬ j = 0 := fun h => by rw [hj0.1 h] at hp; cases hp
              have hte : text = true := by rw [ht, hp]; simp
              rw [if_pos (by simp; omega), hte, if_pos rfl, decide_eq_false (fun h => h.2.2.1 hp)]; rfl
            · have hfin : decide (size + (x.2.2.size : Int) ≤ 20000) = decide (x.1 = 0 ∧ x.2.1 = 0 ∧ preOf d j ≠ some false ∧ size + (x.2.2.size : Int) ≤ 20000) := by
                rw [decide_eq_decide]
                exact ⟨fun h => ⟨c1, c2, hp, h⟩, fun h => h.2.2.2⟩
              rw [hfin]
              by_cases hjp : j = 0
              · rw [if_neg (by simp; omega)]
              · have : preOf d j = some true := by
                  cases hq : preOf d j with
                  | none => exact absurd (hj0.2 hq) hjp
                  | some b => cases b with
                    | true => rfl
                    | false => exact absurd hq hp
                have hte : text = false := by rw [ht, this]; simp
                rw [if_pos (by simp; omega), hte, if_neg (by simp)]
          rw [main, Option.bind_some]
          cases hb2 : (decide (x.1 = 0 ∧ x.2.1 = 0 ∧ preOf d j ≠ some false ∧ size + (x.2.2.size : Int) ≤ 20000) && uvalid x.2.2) with
          | false => rw [if_pos (by simp)]; rfl
          | true =>
            rw [Bool.and_eq_true, decide_eq_true_eq] at hb2
            rw [if_neg (by simp), w64 (n := size + (x.2.2.size : Int)) (by omega) (by omega), hnext _ _ _ (by omega) hb2.1.2.2.2 h2 h3 (by rw [decide_eq_false hz]; simp), decide_eq_false hz]
            rfl
        · rw [if_pos (by simpa using c2), Option.bind_some, if_pos rfl, decide_eq_false (fun h => c2 h.2.1)]; rfl
      · rw [if_pos (by simpa using c1), Option.bind_some, if_pos rfl, decide_eq_false (fun h => c1 h.1)]; rfl

theorem ris_is {K : Nat} {d : List El} {base : Int} (hK : 30000 ≤ K) : palinoderef11_Is K base d = some (isD base d) := by
  unfold palinoderef11_Is isD
  by_cases h1 : base < 0
  · rw [if_pos (by simpa using h1), Option.bind_some, if_pos rfl, decide_eq_false (by omega)]; rfl
  · rw [if_neg (by simpa using h1)]
    by_cases h2 : base > 20000
    · rw [if_pos (by simpa using h2), Option.bind_some, if_pos rfl, decide_eq_false (by omega)]; rfl
    · rw [if_neg (by simpa using h2), Option.bind_some]
      by_cases h3 : d.length > 60
      · rw [if_pos (by simp; omega), decide_eq_false (by omega)]; rfl
      · have h := ris_loop (K := K) (d := d) (base := base) hK (by omega) (by omega) d 0 K 0 0 true rfl (by omega) (by omega) (by omega) (by omega) (by omega) rfl
        rw [Int.natCast_zero] at h
        rw [if_neg (by simp; omega), h, decide_eq_true (by omega)]
        rfl

abbrev Ce := Int × Int

def cellsT (t : ByteArray) : List Ce := (txt t).map fun b => (-1, b)

def cellsC : Int → Nat → List Ce
  | _, 0 => []
  | f, m + 1 => (f, 0) :: cellsC (f + 1) m

/-- The cells of elements. -/
def cells : List El → List Ce
  | [] => []
  | x :: r => (cellsT x.2.2 ++ cellsC x.1 (x.2.1 - x.1).toNat) ++ cells r

theorem cellsT_len {t : ByteArray} : (cellsT t).length = t.size := by simp [cellsT, txt_len]

theorem cellsC_len : ∀ {m : Nat} {f : Int}, (cellsC f m).length = m
  | 0, _ => rfl
  | m + 1, f => by rw [cellsC, List.length_cons, cellsC_len]

theorem cells_len {base : Int} : ∀ {l : List El}, (∀ x ∈ l, okE base x) → ((cells l).length : Int) = sumK l + sumT l
  | [], _ => rfl
  | x :: r, h => by
    obtain ⟨o1, o2, o3, o4⟩ := h x (by simp)
    have := cells_len (l := r) fun y hy => h y (by simp [hy])
    simp only [cells, sumK, sumT, List.length_append, cellsT_len, cellsC_len]
    omega

theorem cellsT_loop {K : Nat} {d : List El} {i : Nat} {x : El} (hx : d.getD i el0 = x) (hs : x.2.2.size ≤ 1000000) : ∀ (n j k : Nat) (out : List Ce), j + n = x.2.2.size → n < k → out.length ≤ 10000000 + j →
    palinoderef11_Cells.l1 K d (i : Int) k out (j : Int) = some (out ++ (cellsT x.2.2).drop j) := by
  have htl := txt_len (s := x.2.2)
  have hcl := cellsT_len (t := x.2.2)
  intro n
  induction n with
  | zero =>
    intro j k out hj hk ho
    obtain ⟨k, rfl⟩ : ∃ m, k = m + 1 := ⟨k - 1, by omega⟩
    rw [palinoderef11_Cells.l1, Int.toNat_natCast, hx, if_neg (by simp; omega), List.drop_eq_nil_of_le (by omega)]
    simp
  | succ n ih =>
    intro j k out hj hk ho
    obtain ⟨k, rfl⟩ : ∃ m, k = m + 1 := ⟨k - 1, by omega⟩
    have hw : IntKind.wrap .i64 ((j : Int) + 1) = ((j + 1 : Nat) : Int) := by rw [w64 (by omega) (by omega)]; omega
    have hjt : j < (txt x.2.2).length := by omega
    have hjc : j < (cellsT x.2.2).length := by omega
    have hg : (cellsT x.2.2)[j] = (-1, (txt x.2.2)[j]) := by
      have : ∀ (l : List Ce) (h : j < l.length), l = (txt x.2.2).map (fun b => (-1, b)) → l[j] = (-1, (txt x.2.2)[j]) := by
        intro l h e; subst e; rw [List.getElem_map]
      exact this _ hjc rfl
    rw [palinoderef11_Cells.l1, Int.toNat_natCast, hx, if_pos (by simp; omega), bt_is hjt, if_pos ⟨by omega, by omega, by simp; omega⟩, hw, ih (j + 1) k _ (by omega) (by omega) (by simp; omega), List.drop_eq_getElem_cons hjc, hg]
    simp only [List.append_assoc, List.singleton_append]

theorem cellsC_loop {K : Nat} {d : List El} {i : Nat} {x : El} (hx : d.getD i el0 = x) (h1 : x.2.1 ≤ 1000000) : ∀ (n k : Nat) (f : Int) (out : List Ce), 0 ≤ f → f + n = x.2.1 ∨ n = 0 ∧ x.2.1 ≤ f → n < k → out.length + n ≤ 100000000 →
    palinoderef11_Cells.l2 K d (i : Int) k out f = some (out ++ cellsC f n) := by
  intro n
  induction n with
  | zero =>
    intro k f out h0 hf hk ho
    obtain ⟨k, rfl⟩ : ∃ m, k = m + 1 := ⟨k - 1, by omega⟩
    rw [palinoderef11_Cells.l2, Int.toNat_natCast, hx, if_neg (by simp; omega)]
    simp [cellsC]
  | succ n ih =>
    intro k f out h0 hf hk ho
    obtain ⟨k, rfl⟩ : ∃ m, k = m + 1 := ⟨k - 1, by omega⟩
    rw [palinoderef11_Cells.l2, Int.toNat_natCast, hx, if_pos (by simp; omega), if_pos (by simp; omega), w64 (by omega) (by omega), ih k (f + 1) _ (by omega) (by omega) (by omega) (by simp; omega), cellsC]
    simp only [List.append_assoc, List.singleton_append]

theorem cells_loop {K : Nat} {d : List El} {base : Int} (hK : 100000 ≤ K) (hb : base ≤ 20000) (hl : d.length ≤ 1000) : ∀ (rest : List El) (j k : Nat) (out : List Ce), d.drop j = rest → rest.length < k → (∀ x ∈ rest, okE base x) → out.length + sumK rest + sumT rest ≤ 20000 →
    palinoderef11_Cells.l0 K d k out (j : Int) = some (out ++ cells rest)
  | [], j, k, out, hd, hk, hx, ho => by
    obtain ⟨k, rfl⟩ : ∃ m, k = m + 1 := ⟨k - 1, by simp at hk; omega⟩
    have := drop_nil hd
    rw [palinoderef11_Cells.l0, if_neg (by simp; omega)]
    simp [cells]
  | x :: rest, j, k, out, hd, hk, hx, ho => by
    obtain ⟨k, rfl⟩ : ∃ m, k = m + 1 := ⟨k - 1, by simp at hk; omega⟩
    obtain ⟨hj, hgd, hd'⟩ := drop_cons hd el0
    have hk' : rest.length < k := by simp at hk; omega
    have hw : IntKind.wrap .i64 ((j : Int) + 1) = ((j + 1 : Nat) : Int) := by rw [w64 (by omega) (by omega)]; omega
    obtain ⟨o1, o2, o3, o4⟩ := hx x (by simp)
    have hr : ∀ y ∈ rest, okE base y := fun y hy => hx y (by simp [hy])
    have hnn := sumK_nonneg hr
    simp only [sumK, sumT] at ho
    have e1 := cellsT_loop (K := K) (d := d) (i := j) hgd (by omega) x.2.2.size 0 K out (by omega) (by omega) (by omega)
    rw [Int.natCast_zero, List.drop_zero] at e1
    have hcl := cellsT_len (t := x.2.2)
    have e2 := cellsC_loop (K := K) (d := d) (i := j) hgd (by omega) (x.2.1 - x.1).toNat K x.1 (out ++ cellsT x.2.2) o1 (by omega) (by omega) (by simp; omega)
    rw [palinoderef11_Cells.l0, if_pos (by simpa using hj), if_pos ⟨by omega, by omega⟩, e1, Option.bind_some, Int.toNat_natCast, hgd, e2, Option.bind_some, hw, cells_loop hK hb hl rest (j + 1) k _ hd' hk' hr (by simp [cellsC_len]; omega), cells]
    simp only [List.append_assoc]

theorem cells_is {K : Nat} {d : List El} {base : Int} (hK : 100000 ≤ K) (h : isD base d = true) : palinoderef11_Cells K base d = some (cells d) := by
  obtain ⟨h1, h2, h3, h4, h5⟩ := isD_ok h
  unfold palinoderef11_Cells
  have e := cells_loop (K := K) hK h2 (by omega) d 0 K [] rfl (by omega) h4 (by simp; omega)
  rw [Int.natCast_zero] at e
  rw [e]; rfl

theorem txt_app {a b : ByteArray} : txt (a ++ b) = txt a ++ txt b := by
  unfold txt
  rw [ByteArray.data_append]
  simp

theorem bt_left {a b : ByteArray} {i : Nat} (h : i < a.size) : bt (a ++ b) (i : Int) = bt a (i : Int) := by
  have h1 : i < (txt a).length := by rw [txt_len]; exact h
  have h2 : i < (txt (a ++ b)).length := by rw [txt_len, bsize_app]; omega
  rw [bt_is h1, bt_is h2]
  have : ∀ (l : List Int) (hl : i < l.length), l = txt a ++ txt b → l[i] = (txt a)[i] := by
    intro l hl e; subst e; rw [List.getElem_append_left]
  exact this _ h2 txt_app

theorem bt_right {a b : ByteArray} {i : Nat} : bt (a ++ b) ((a.size + i : Nat) : Int) = bt b (i : Int) := by
  by_cases h : i < b.size
  · have h1 : i < (txt b).length := by rw [txt_len]; exact h
    have h2 : a.size + i < (txt (a ++ b)).length := by rw [txt_len, bsize_app]; omega
    rw [bt_is h1, bt_is h2]
    have : ∀ (l : List Int) (hl : a.size + i < l.length), l = txt a ++ txt b → l[a.size + i] = (txt b)[i] := by
      intro l hl e
      subst e
      rw [List.getElem_append_right (by rw [txt_len]; omega)]
      congr 1
      rw [txt_len]; omega
    exact this _ h2 txt_app
  · have h1 : ¬ i < b.size := h
    have h2 : ¬ a.size + i < (a ++ b).size := by rw [bsize_app]; omega
    unfold bt
    rw [Int.toNat_natCast, Int.toNat_natCast]
    simp [h1, h2]

theorem uszB_mono {n n' c d e f d' e' f' : Int} (hn : n ≤ n') (hd : 2 ≤ n → d' = d) (he : 3 ≤ n → e' = e) (hf : 4 ≤ n → f' = f) (h : uszB n c d e f ≠ 0) : uszB n' c d' e' f' = uszB n c d e f := by
  unfold uszB at *
  split
  · rfl
  · rename_i h1
    rw [if_neg h1] at h
    split
    · rename_i h2
      rw [if_pos h2] at h
      by_cases c2 : 2 ≤ n ∧ cont d ∧ 128 ≤ c % 32 * 64 + d % 64
      · rw [hd c2.1, if_pos c2, if_pos ⟨by omega, c2.2⟩]
      · rw [if_neg c2] at h; exact absurd rfl h
    · rename_i h2
      rw [if_neg h2] at h
      split
      · rename_i h3
        rw [if_pos h3] at h
        by_cases c3 : 3 ≤ n ∧ cont d ∧ cont e ∧ 2048 ≤ (c % 16 * 64 + d % 64) * 64 + e % 64 ∧ ¬ (55296 ≤ (c % 16 * 64 + d % 64) * 64 + e % 64 ∧ (c % 16 * 64 + d % 64) * 64 + e % 64 < 57344)
        · rw [hd (by omega), he c3.1, if_pos c3, if_pos ⟨by omega, c3.2⟩]
        · rw [if_neg c3] at h; exact absurd rfl h
      · rename_i h3
        rw [if_neg h3] at h
        split
        · rename_i h4
          rw [if_pos h4] at h
          by_cases c4 : 4 ≤ n ∧ cont d ∧ cont e ∧ cont f ∧ 65536 ≤ ((c % 8 * 64 + d % 64) * 64 + e % 64) * 64 + f % 64 ∧ ((c % 8 * 64 + d % 64) * 64 + e % 64) * 64 + f % 64 ≤ 1114111
          · rw [hd (by omega), he (by omega), hf c4.1, if_pos c4, if_pos ⟨by omega, c4.2⟩]
          · rw [if_neg c4] at h; exact absurd rfl h
        · first
          | rfl
          | (rename_i h4
             rw [if_neg h4] at h
             exact absurd rfl h)

theorem usz_left {a b : ByteArray} {i : Nat} (h : usz a (i : Int) ≠ 0) : usz (a ++ b) (i : Int) = usz a (i : Int) := by
  unfold usz at *
  by_cases h1 : (i : Int) < 0 ∨ (i : Int) ≥ a.size
  · rw [if_pos h1] at h; exact absurd rfl h
  · have hb := bsize_app (a := a) (b := b)
    rw [if_neg h1] at h ⊢
    rw [if_neg (by omega), bt_left (by omega)]
    refine uszB_mono (by omega) (fun hh => ?_) (fun hh => ?_) (fun hh => ?_) h
    · have e : (i : Int) + 1 = ((i + 1 : Nat) : Int) := by omega
      rw [e, bt_left (by omega)]
    · have e : (i : Int) + 2 = ((i + 2 : Nat) : Int) := by omega
      rw [e, bt_left (by omega)]
    · have e : (i : Int) + 3 = ((i + 3 : Nat) : Int) := by omega
      rw [e, bt_left (by omega)]

theorem usz_right {a b : ByteArray} {i : Nat} : usz (a ++ b) ((a.size + i : Nat) : Int) = usz b (i : Int) := by
  unfold usz
  have hb := bsize_app (a := a) (b := b)
  by_cases h1 : (i : Int) < 0 ∨ (i : Int) ≥ b.size
  · rw [if_pos h1, if_pos (by omega)]
  · rw [if_neg h1, if_neg (by omega), bt_right]
    have e1 : ((a.size + i : Nat) : Int) + 1 = ((a.size + (i + 1) : Nat) : Int) := by omega
    have e2 : ((a.size + i : Nat) : Int) + 2 = ((a.size + (i + 2) : Nat) : Int) := by omega
    have e3 : ((a.size + i : Nat) : Int) + 3 = ((a.size + (i + 3) : Nat) : Int) := by omega
    rw [e1, e2, e3, bt_right, bt_right, bt_right, show ((a ++ b).size : Int) - ((a.size + i : Nat) : Int) = (b.size : Int) - i by omega]
    rfl

theorem uval_fuel {s : ByteArray} : ∀ (d m m' : Nat) (a : Nat), s.size - a ≤ d → d ≤ m → d ≤ m' → uval s m (a : Int) = uval s m' (a : Int) := by
  intro d
  induction d with
  | zero =>
    intro m m' a h hm hm'
    cases m with
    | zero => cases m' with
      | zero => rfl
      | succ m' => rw [uval, uval, if_neg (by omega)]
    | succ m => cases m' with
      | zero => rw [uval, uval, if_neg (by omega)]
      | succ m' => rw [uval, uval, if_neg (by omega), if_neg (by omega)]
  | succ d ih =>
    intro m m' a h hm hm'
    obtain ⟨m, rfl⟩ : ∃ l, m = l + 1 := ⟨m - 1, by omega⟩
    obtain ⟨m', rfl⟩ : ∃ l, m' = l + 1 := ⟨m' - 1, by omega⟩
    have hu := usz_ok (s := s) (a := a)
    rw [uval, uval]
    split
    · split
      · rfl
      · obtain ⟨n, hn⟩ : ∃ n : Nat, (a : Int) + usz s a = n := ⟨((a : Int) + usz s a).toNat, by omega⟩
        rw [hn]
        exact ih m m' n (by omega) (by omega) (by omega)
    · rfl

theorem uval_app {a b : ByteArray} (hb : uvalid b = true) : ∀ (d i m : Nat), a.size - i = d → i ≤ a.size → d + b.size ≤ m → uval a d (i : Int) = true → uval (a ++ b) m (i : Int) = true := by
  have hsz := bsize_app (a := a) (b := b)
  have right : ∀ (e j m : Nat), b.size - j ≤ e → j ≤ b.size → e ≤ m → uval b e (j : Int) = true → uval (a ++ b) m ((a.size + j : Nat) : Int) = true := by
    intro e
    induction e with
    | zero =>
      intro j m h1 h2 h3 h4
      cases m with
      | zero => rfl
      | succ m => rw [uval, if_neg (by omega)]
    | succ e ih =>
      intro j m h1 h2 h3 h4
      obtain ⟨m, rfl⟩ : ∃ l, m = l + 1 := ⟨m - 1, by omega⟩
      have hu := usz_ok (s := b) (a := j)
      rw [uval] at h4 ⊢
      by_cases hj : (j : Int) < b.size
      · have hu3 := hu.2.2 (by omega) hj
        rw [if_pos hj] at h4
        rw [if_pos (by omega), usz_right]
        by_cases hz : usz b j = 0
        · rw [if_pos hz] at h4; cases h4
        · rw [if_neg hz] at h4 ⊢
          obtain ⟨n, hn⟩ : ∃ n : Nat, usz b j = n := ⟨(usz b j).toNat, by omega⟩
          rw [hn] at h4 hu3 hz ⊢
          have e1 : ((a.size + j : Nat) : Int) + (n : Int) = ((a.size + (j + n) : Nat) : Int) := by omega
          have e2 : (j : Int) + (n : Int) = ((j + n : Nat) : Int) := by omega
          rw [e1]
          rw [e2] at h4
          exact ih (j + n) m (by omega) (by omega) (by omega) h4
      · rw [if_neg (by omega)]
  intro d
  induction d using Nat.strongRecOn with
  | _ d ih =>
    intro i m h1 h2 h3 h4
    by_cases hi : i = a.size
    · subst hi
      have := right b.size 0 m (by omega) (by omega) (by omega) hb
      simpa using this
    · obtain ⟨d, rfl⟩ : ∃ l, d = l + 1 := ⟨d - 1, by omega⟩
      obtain ⟨m, rfl⟩ : ∃ l, m = l + 1 := ⟨m - 1, by omega⟩
      have hu := usz_ok (s := a) (a := i)
      have hu3 := hu.2.2 (by omega) (by omega)
      rw [uval, if_pos (by omega)] at h4
      rw [uval, if_pos (by omega)]
      by_cases hz : usz a i = 0
      · rw [if_pos hz] at h4; cases h4
      · rw [if_neg hz] at h4
        rw [usz_left hz, if_neg hz]
        obtain ⟨n, hn⟩ : ∃ n : Nat, usz a i = n := ⟨(usz a i).toNat, by omega⟩
        rw [hn] at h4 hu3 hz ⊢
        have e2 : (i : Int) + (n : Int) = ((i + n : Nat) : Int) := by omega
        rw [e2] at h4 ⊢
        refine ih (a.size - (i + n)) (by omega) (i + n) m rfl (by omega) (by omega) ?_
        rw [uval_fuel (a.size - (i + n)) (a.size - (i + n)) d (i + n) (by omega) (by omega) (by omega)]
        exact h4

theorem uvalid_app {a b : ByteArray} (ha : uvalid a = true) (hb : uvalid b = true) : uvalid (a ++ b) = true := by
  unfold uvalid
  have h := uval_app hb a.size 0 (a ++ b).size (by omega) (by omega) (by rw [bsize_app]; omega) ha
  exact h

/-- Elements that may come behind others, however long. -/
def isS (base : Int) : Int → Option Bool → List El → Prop
  | _, _, [] => True
  | to, pre, x :: r =>
    if x.2.2.size = 0 then (to ≤ x.1 ∧ (to < x.1 ∨ pre ≠ some true) ∧ x.1 < x.2.1 ∧ x.2.1 ≤ base) ∧ isS base x.2.1 (some true) r
    else (x.1 = 0 ∧ x.2.1 = 0 ∧ pre ≠ some false ∧ uvalid x.2.2 = true) ∧ isS base to (some false) r

def lastTo : Int → List El → Int
  | to, [] => to
  | to, x :: r => lastTo (if x.2.2.size = 0 then x.2.1 else to) r

def lastPre : Option Bool → List El → Option Bool
  | p, [] => p
  | _, x :: r => lastPre (some (decide (x.2.2.size = 0))) r

theorem isS_app {base : Int} : ∀ {l r : List El} {to : Int} {pre : Option Bool}, isS base to pre (l ++ r) ↔ isS base to pre l ∧ isS base (lastTo to l) (lastPre pre l) r
  | [], r, to, pre => by simp [isS, lastTo, lastPre]
  | x :: l, r, to, pre => by
    rw [List.cons_append, isS, isS, lastTo, lastPre]
    by_cases h : x.2.2.size = 0
    · rw [if_pos h, if_pos h, if_pos h, decide_eq_true h, isS_app]
      exact ⟨fun h => ⟨⟨h.1, h.2.1⟩, h.2.2⟩, fun h => ⟨h.1.1, h.1.2, h.2⟩⟩
    · rw [if_neg h, if_neg h, if_neg h, decide_eq_false h, isS_app]
      exact ⟨fun h => ⟨⟨h.1, h.2.1⟩, h.2.2⟩, fun h => ⟨h.1.1, h.1.2, h.2⟩⟩

theorem lastTo_app : ∀ {l : List El} {x : El} {to : Int}, lastTo to (l ++ [x]) = if x.2.2.size = 0 then x.2.1 else lastTo to l
  | [], _, _ => rfl
  | y :: l, x, to => by rw [List.cons_append, lastTo, lastTo_app, lastTo]

theorem lastPre_app : ∀ {l : List El} {x : El} {p : Option Bool}, lastPre p (l ++ [x]) = some (decide (x.2.2.size = 0))
  | [], _, _ => rfl
  | y :: l, x, p => by rw [List.cons_append, lastPre, lastPre_app]

theorem isS_isL {base : Int} : ∀ {l : List El} {size to : Int} {pre : Option Bool}, isS base to pre l → size + sumK l + sumT l ≤ 20000 → isL base size to pre l = true
  | [], _, _, _, _, _ => rfl
  | x :: r, size, to, pre, h, hs => by
    have nn : ∀ {r : List El} {to : Int} {pre : Option Bool}, isS base to pre r → 0 ≤ sumK r := by
      intro r
      induction r with
      | nil => intro _ _ _; simp [sumK]
      | cons y r ih =>
        intro to pre h
        rw [isS] at h
        split at h
        · have := ih h.2; have := h.1.2.2.1; simp only [sumK]; omega
        · have := ih h.2; have := h.1.1; have := h.1.2.1; simp only [sumK]; omega
    rw [isS] at h
    simp only [sumK, sumT] at hs
    rw [isL]
    by_cases hz : x.2.2.size = 0
    · rw [if_pos hz] at h ⊢
      have hn := nn h.2
      rw [isS_isL h.2 (by omega), decide_eq_true ⟨h.1.1, h.1.2.1, h.1.2.2.1, h.1.2.2.2, by omega⟩]
      rfl
    · rw [if_neg hz] at h ⊢
      have hn := nn h.2
      have h1 := h.1.1
      have h2 := h.1.2.1
      rw [isS_isL h.2 (by omega), decide_eq_true ⟨h.1.1, h.1.2.1, h.1.2.2.1, by omega⟩, h.1.2.2.2]
      rfl

/-- What a maker has made, up to a place. -/
def Made (base : Int) (acc : List El) (a : Int) : Prop := isS base 0 none acc ∧ lastTo 0 acc ≤ a ∧ 0 ≤ a ∧ a ≤ base

theorem made_copy {base a f : Int} {acc : List El} (h : Made base acc a) (h1 : a ≤ f) (h2 : f ≤ base) : Made base (mkCopy acc a f) f := by
  obtain ⟨m1, m2, m3, m4⟩ := h
  by_cases he : acc = []
  · subst he
    rw [mkCopy_nil]
    by_cases hf : a = f
    · rw [if_pos hf]; exact ⟨m1, by rw [lastTo]; omega, by omega, h2⟩
    · rw [if_neg hf]
      refine ⟨?_, ?_, by omega, h2⟩
      · rw [isS, if_pos empty_size]
        exact ⟨⟨m3, .inr (by simp), by simp only; omega, h2⟩, trivial⟩
      · rw [lastTo, if_pos empty_size, lastTo]; simp
  · obtain ⟨l, p, rfl⟩ := split_last he
    rw [mkCopy_app]
    by_cases hf : a = f
    · rw [if_pos hf]; exact ⟨m1, by omega, by omega, h2⟩
    · rw [if_neg hf]
      have m1' := m1
      rw [isS_app] at m1'
      obtain ⟨i1, i2⟩ := m1'
      rw [lastTo_app] at m2
      by_cases hp : p.2.2.size = 0 ∧ p.2.1 = a
      · rw [if_pos hp]
        rw [isS, if_pos hp.1] at i2
        refine ⟨?_, ?_, by omega, h2⟩
        · rw [isS_app]
          refine ⟨i1, ?_⟩
          rw [isS, if_pos (show (p.1, (f, p.2.2)).2.2.size = 0 from hp.1)]
          have := i2.1.2.2.1
          exact ⟨⟨i2.1.1, i2.1.2.1, by simp only; omega, h2⟩, trivial⟩
        · rw [lastTo_app, if_pos (show (p.1, (f, p.2.2)).2.2.size = 0 from hp.1)]
          simp
      · rw [if_neg hp]
        refine ⟨?_, ?_, by omega, h2⟩
        · rw [isS_app]
          refine ⟨m1, ?_⟩
          rw [isS, if_pos empty_size, lastTo_app, lastPre_app]
          refine ⟨⟨by simpa using m2, ?_, by simp only; omega, h2⟩, trivial⟩
          by_cases hz : p.2.2.size = 0
          · rw [if_pos hz] at m2 ⊢
            left
            simp only
            have : p.2.1 ≠ a := fun e => hp ⟨hz, e⟩
            omega
          · right
            rw [decide_eq_false hz]
            simp
        · rw [lastTo_app, if_pos empty_size]; simp

theorem made_put {base a : Int} {acc : List El} {s : ByteArray} (h : Made base acc a) (hv : uvalid s = true) : Made base (mkPut acc s) a := by
  obtain ⟨m1, m2, m3, m4⟩ := h
  by_cases he : acc = []
  · subst he
    rw [mkPut_nil]
    by_cases hz : s.size = 0
    · rw [if_pos hz]; exact ⟨m1, m2, m3, m4⟩
    · rw [if_neg hz]
      refine ⟨?_, ?_, m3, m4⟩
      · rw [isS, if_neg hz]
        exact ⟨⟨rfl, rfl, by simp, hv⟩, trivial⟩
      · rw [lastTo, if_neg hz, lastTo]; exact m3
  · obtain ⟨l, p, rfl⟩ := split_last he
    rw [mkPut_app]
    by_cases hz : s.size = 0
    · rw [if_pos hz]; exact ⟨m1, m2, m3, m4⟩
    · rw [if_neg hz]
      have m1' := m1
      rw [isS_app] at m1'
      obtain ⟨i1, i2⟩ := m1'
      by_cases hp : p.2.2.size = 0
      · rw [if_pos hp]
        refine ⟨?_, ?_, m3, m4⟩
        · rw [isS_app]
          refine ⟨m1, ?_⟩
          rw [isS, if_neg hz, lastPre_app, decide_eq_true hp]
          exact ⟨⟨rfl, rfl, by simp, hv⟩, trivial⟩
        · rw [lastTo_app, if_neg hz]; exact m2
      · rw [if_neg hp]
        rw [isS, if_neg hp] at i2
        have hz2 : ¬ (p.2.2 ++ s).size = 0 := by rw [bsize_app]; omega
        refine ⟨?_, ?_, m3, m4⟩
        · rw [isS_app]
          refine ⟨i1, ?_⟩
          rw [isS, if_neg hz2]
          exact ⟨⟨i2.1.1, i2.1.2.1, i2.1.2.2.1, uvalid_app i2.1.2.2.2 hv⟩, trivial⟩
        · rw [lastTo_app, if_neg hz2]
          rw [lastTo_app, if_neg hp] at m2
          exact m2

theorem mkPut_sumK {l : List El} {s : ByteArray} : sumK (mkPut l s) = sumK l := by
  by_cases h : l = []
  · subst h; rw [mkPut_nil]; split <;> simp [sumK]
  · obtain ⟨m, p, rfl⟩ := split_last h
    rw [mkPut_app]
    split
    · rfl
    · split <;> simp [sumK_app, sumK]

theorem mkCopy_sumK {l : List El} {a f : Int} : sumK (mkCopy l a f) = sumK l + (f - a) := by
  by_cases h : l = []
  · subst h; rw [mkCopy_nil]; split
    · simp only [sumK]; omega
    · simp only [sumK]; omega
  · obtain ⟨m, p, rfl⟩ := split_last h
    rw [mkCopy_app]
    split
    · omega
    · split
      · rename_i h2
        have := h2.2
        simp only [sumK_app, sumK]; omega
      · simp only [sumK_app, sumK]; omega

theorem apS_app {s : List Int} : ∀ {l r : List El}, apS s (l ++ r) = apS s l ++ apS s r
  | [], r => rfl
  | x :: l, r => by simp only [List.cons_append, apS, apS_app, List.append_assoc]

theorem txt_empty : txt ByteArray.empty = [] := rfl

theorem apS_put {s : List Int} {l : List El} {t : ByteArray} : apS s (mkPut l t) = apS s l ++ txt t := by
  have hz : t.size = 0 → txt t = [] := fun h => List.eq_nil_of_length_eq_zero (by rw [txt_len]; exact h)
  by_cases h : l = []
  · subst h; rw [mkPut_nil]; split
    · rename_i h; rw [hz h]; rfl
    · simp [apS]
  · obtain ⟨m, p, rfl⟩ := split_last h
    rw [mkPut_app]
    split
    · rename_i h; rw [hz h]; simp
    · split
      · rw [apS_app]; simp [apS]
      · rw [apS_app, apS_app]; simp [apS, txt_app]

theorem apS_copy {base a f : Int} {s : List Int} {l : List El} (h : Made base l a) (h1 : a ≤ f) (h2 : f ≤ base) : apS s (mkCopy l a f) = apS s l ++ (s.drop a.toNat).take (f - a).toNat := by
  obtain ⟨m1, m2, m3, m4⟩ := h
  by_cases he : l = []
  · subst he; rw [mkCopy_nil]; split
    · rename_i h; rw [h]; simp [apS]
    · simp [apS, txt_empty]
  · obtain ⟨m, p, rfl⟩ := split_last he
    rw [mkCopy_app]
    split
    · rename_i h; rw [h]; simp
    · split
      · rename_i hp
        rw [isS_app] at m1
        have i2 := m1.2
        rw [isS, if_pos hp.1] at i2
        have hl : 0 ≤ lastTo 0 m := by
          have key : ∀ (r : List El) (to : Int) (pre : Option Bool), 0 ≤ to → isS base to pre r → 0 ≤ lastTo to r := by
            intro r
            induction r with
            | nil => intro to pre h0 _; exact h0
            | cons y r ih =>
              intro to pre h0 hr
              rw [isS] at hr
              rw [lastTo]
              split at hr
              · rename_i hy; rw [if_pos hy]; have := hr.1.1; have := hr.1.2.2.1; exact ih _ _ (by omega) hr.2
              · rename_i hy; rw [if_neg hy]; exact ih _ _ h0 hr.2
          exact key m 0 none (by omega) m1.1
        have q1 := i2.1.1
        have q2 := i2.1.2.2.1
        have htz : txt p.2.2 = [] := List.eq_nil_of_length_eq_zero (by rw [txt_len]; exact hp.1)
        rw [apS_app, apS_app]
        simp only [apS, htz, List.append_nil, List.append_assoc]
        congr 1
        rw [hp.2]
        have e1 : (f - p.1).toNat = (a - p.1).toNat + (f - a).toNat := by omega
        have e2 : a.toNat = p.1.toNat + (a - p.1).toNat := by omega
        rw [e1, e2, List.take_add, List.drop_drop]
      · rw [apS_app]; simp [apS, txt_empty]

/-- What changes make of a text's bytes. -/
def chS (s : List Int) : Int → List El → List Int
  | _, [] => []
  | a, c :: r => ((s.drop a.toNat).take (c.1 - a).toNat ++ txt c.2.2) ++ chS s c.2.1 r

theorem bld_ok {base : Int} {s : List Int} : ∀ {l acc : List El} {a : Int} {prev : Option El}, Made base acc a → rngL base l = true → ordL prev l = true → valL l = true → (∀ p, prev = some p → p.2.1 = a) → (prev = none → a = 0) →
    Made base (bld acc a l).1 (bld acc a l).2 ∧ sumT (bld acc a l).1 = sumT acc + sumT l ∧ sumK (bld acc a l).1 = sumK acc + ((bld acc a l).2 - a) - sumK l ∧ apS s (bld acc a l).1 = apS s acc ++ chS s a l
  | [], acc, a, prev, hm, _, _, _, _, _ => ⟨hm, by simp [bld, sumT], by simp only [bld, sumK]; omega, by simp [bld, chS]⟩
  | c :: r, acc, a, prev, hm, hr, ho, hv, hp, hn => by
    rw [show rngL base (c :: r) = (decide (0 ≤ c.1 ∧ c.1 ≤ c.2.1 ∧ c.2.1 ≤ base) && rngL base r) from rfl, Bool.and_eq_true, decide_eq_true_eq] at hr
    rw [show valL (c :: r) = (uvalid c.2.2 && valL r) from rfl, Bool.and_eq_true] at hv
    obtain ⟨⟨r1, r2, r3⟩, hr'⟩ := hr
    have hac : a ≤ c.1 ∧ ordL (some c) r = true := by
      cases prev with
      | none => rw [hn rfl]; exact ⟨r1, ho⟩
      | some p =>
        rw [ordL, Bool.and_eq_true] at ho
        have h1 := ho.1
        have h2 := hp p rfl
        simp only [Bool.not_eq_true', decide_eq_false_iff_not] at h1
        exact ⟨by omega, ho.2⟩
    have k1 := made_copy hm hac.1 (by omega)
    have k2 := made_put k1 hv.1
    have k3 : Made base (mkPut (mkCopy acc a c.1) c.2.2) c.2.1 := ⟨k2.1, by have := k2.2.1; omega, by omega, r3⟩
    obtain ⟨e1, e2, e3, e4⟩ := bld_ok (s := s) k3 hr' hac.2 hv.2 (fun p hp => by cases hp; rfl) (fun h => by cases h)
    rw [bld]
    refine ⟨e1, by rw [e2, mkPut_sumT, mkCopy_sumT]; simp only [sumT]; omega, by rw [e3, mkPut_sumK, mkCopy_sumK]; simp only [sumK]; omega, ?_⟩
    rw [e4, apS_put, apS_copy hm hac.1 (by omega)]
    simp only [chS, List.append_assoc]

theorem lng_zero : ∀ {l : List El} {left : Int}, lngL left l = 0 → (sumT l : Int) ≤ left ∨ l = []
  | [], _, _ => .inr rfl
  | c :: r, left, h => by
    rw [lngL] at h
    split at h
    · cases h
    · left
      simp only [sumT]
      rcases lng_zero h with h' | h'
      · omega
      · subst h'; simp only [sumT]; omega

/-- What is built is a delta; what it makes. -/
theorem built_ok {base : Int} {l : List El} {s : List Int} (h : (bldD base l).2.2 = 0) : 0 ≤ base ∧ base ≤ 20000 ∧ rngL base l = true ∧ ordL none l = true ∧ valL l = true ∧ (bldD base l).1 = base ∧ isD base (bldD base l).2.1 = true ∧
    sumT (bldD base l).2.1 = sumT l ∧ sumK (bldD base l).2.1 = base - sumK l ∧ apS s (bldD base l).2.1 = chS s 0 l ++ (s.drop (bld [] 0 l).2.toNat).take (base - (bld [] 0 l).2).toNat := by
  unfold bldD at *
  split at h
  · rename_i h1
    exact absurd h h1
  · rename_i h1
    split at h
    · cases h
    · rename_i h2
      rw [if_neg h1, if_neg h2]
      have h1' : chk base l = 0 := by simpa using h1
      unfold chk at h1'
      split at h1'
      · cases h1'
      · split at h1'
        · cases h1'
        · split at h1'
          · cases h1'
          · split at h1'
            · cases h1'
            · rename_i a1 a2 a3 a4
              have b2 : rngL base l = true := by simpa using a2
              have b3 : ordL none l = true := by simpa using a3
              have b4 : valL l = true := by simpa using a4
              have hm : Made base [] 0 := ⟨trivial, by simp [lastTo], by omega, by omega⟩
              obtain ⟨e1, e2, e3, e4⟩ := bld_ok (s := s) hm b2 b3 b4 (fun p hp => by cases hp) (fun _ => rfl)
              have hle := e1.2.2.2
              have f1 := made_copy e1 hle (by omega)
              have f2 := mkCopy_sumK (l := (bld [] 0 l).1) (a := (bld [] 0 l).2) (f := base)
              have f3 := mkCopy_sumT (l := (bld [] 0 l).1) (f := (bld [] 0 l).2) (t := base)
              have f4 := apS_copy (s := s) e1 hle (by omega)
              simp only [sumT, sumK, apS] at e2 e3 e4
              have hlong : base - sumK l + sumT l ≤ 20000 := by
                rcases lng_zero h1' with h' | h'
                · omega
                · subst h'; simp only [sumK, sumT]; omega
              refine ⟨by omega, by omega, b2, b3, b4, rfl, ?_, by rw [f3, e2]; omega, by rw [f2, e3]; omega, by rw [f4, e4]; rfl⟩
              have h60 : (mkCopy (bld [] 0 l).1 (bld [] 0 l).2 base).length ≤ 60 := by omega
              unfold isD
              rw [decide_eq_true ⟨by omega, by omega, h60⟩, isS_isL f1.1 (by rw [f2, f3, e2, e3]; omega)]
              rfl

theorem cellsC_add : ∀ {m n : Nat} {f : Int}, cellsC f (m + n) = cellsC f m ++ cellsC (f + m) n
  | 0, n, f => by simp [cellsC]
  | m + 1, n, f => by
    rw [show m + 1 + n = (m + n) + 1 by omega, cellsC, cellsC_add, cellsC, show f + 1 + (m : Int) = f + ((m + 1 : Nat) : Int) by omega]
    rfl

theorem cellsT_app {a b : ByteArray} : cellsT (a ++ b) = cellsT a ++ cellsT b := by
  unfold cellsT
  rw [txt_app, List.map_append]

theorem cellsT_nil {t : ByteArray} (h : t.size = 0) : cellsT t = [] := List.eq_nil_of_length_eq_zero (by rw [cellsT_len]; exact h)

theorem cells_app : ∀ {l r : List El}, cells (l ++ r) = cells l ++ cells r
  | [], r => rfl
  | x :: l, r => by simp only [List.cons_append, cells, cells_app, List.append_assoc]

theorem cells_put {base : Int} {l : List El} {t : ByteArray} (hm : isS base 0 none l) : cells (mkPut l t) = cells l ++ cellsT t := by
  by_cases h : l = []
  · subst h; rw [mkPut_nil]; split
    · rename_i h; rw [cellsT_nil h]; rfl
    · simp [cells, cellsC]
  · obtain ⟨m, p, rfl⟩ := split_last h
    rw [mkPut_app]
    split
    · rename_i h; rw [cellsT_nil h]; simp
    · split
      · rw [cells_app]; simp [cells, cellsC]
      · rename_i hp
        rw [isS_app] at hm
        have i2 := hm.2
        rw [isS, if_neg hp] at i2
        rw [cells_app, cells_app]
        simp [cells, cellsT_app, i2.1.1, i2.1.2.1, cellsC]

theorem cells_copy {base a f : Int} {l : List El} (h : Made base l a) (h1 : a ≤ f) : cells (mkCopy l a f) = cells l ++ cellsC a (f - a).toNat := by
  obtain ⟨m1, m2, m3, m4⟩ := h
  have ce : cellsT ByteArray.empty = [] := cellsT_nil rfl
  by_cases he : l = []
  · subst he; rw [mkCopy_nil]; split
    · rename_i h; rw [h]; simp [cells, cellsC]
    · simp [cells, ce]
  · obtain ⟨m, p, rfl⟩ := split_last he
    rw [mkCopy_app]
    split
    · rename_i h; rw [h]; simp [cellsC]
    · split
      · rename_i hp
        rw [isS_app] at m1
        have i2 := m1.2
        rw [isS, if_pos hp.1] at i2
        have q2 := i2.1.2.2.1
        have htz := cellsT_nil hp.1
        rw [cells_app, cells_app]
        simp only [cells, htz, List.append_nil, List.nil_append, List.append_assoc]
        congr 1
        rw [hp.2]
        rw [show (f - p.1).toNat = (a - p.1).toNat + (f - a).toNat by omega, cellsC_add, show p.1 + ((a - p.1).toNat : Int) = a by omega]
      · rw [cells_app]; simp [cells, ce]

/-- What changes make, cell by cell. -/
def chC : Int → List El → List Ce
  | _, [] => []
  | a, c :: r => (cellsC a (c.1 - a).toNat ++ cellsT c.2.2) ++ chC c.2.1 r

theorem bld_cells {base : Int} : ∀ {l acc : List El} {a : Int} {prev : Option El}, Made base acc a → rngL base l = true → ordL prev l = true → valL l = true → (∀ p, prev = some p → p.2.1 = a) → (prev = none → a = 0) →
    Made base (bld acc a l).1 (bld acc a l).2 ∧ cells (bld acc a l).1 = cells acc ++ chC a l
  | [], acc, a, prev, hm, _, _, _, _, _ => ⟨hm, by simp [bld, chC]⟩
  | c :: r, acc, a, prev, hm, hr, ho, hv, hp, hn => by
    rw [show rngL base (c :: r) = (decide (0 ≤ c.1 ∧ c.1 ≤ c.2.1 ∧ c.2.1 ≤ base) && rngL base r) from rfl, Bool.and_eq_true, decide_eq_true_eq] at hr
    rw [show valL (c :: r) = (uvalid c.2.2 && valL r) from rfl, Bool.and_eq_true] at hv
    obtain ⟨⟨r1, r2, r3⟩, hr'⟩ := hr
    have hac : a ≤ c.1 ∧ ordL (some c) r = true := by
      cases prev with
      | none => rw [hn rfl]; exact ⟨r1, ho⟩
      | some p =>
        rw [ordL, Bool.and_eq_true] at ho
        have h1 := ho.1
        have h2 := hp p rfl
        simp only [Bool.not_eq_true', decide_eq_false_iff_not] at h1
        exact ⟨by omega, ho.2⟩
    have k1 := made_copy hm hac.1 (by omega)
    have k2 := made_put k1 hv.1
    have k3 : Made base (mkPut (mkCopy acc a c.1) c.2.2) c.2.1 := ⟨k2.1, by have := k2.2.1; omega, by omega, r3⟩
    obtain ⟨e1, e2⟩ := bld_cells k3 hr' hac.2 hv.2 (fun p hp => by cases hp; rfl) (fun h => by cases h)
    rw [bld]
    refine ⟨e1, ?_⟩
    rw [e2, cells_put k1.1, cells_copy hm hac.1]
    simp only [chC, List.append_assoc]

/-- How many at the head are put in. -/
def runT : List Ce → Nat
  | [] => 0
  | c :: r => if c.1 < 0 then runT r + 1 else 0

/-- How many at the head go on from a place. -/
def runC : Int → List Ce → Nat
  | _, [] => 0
  | a, c :: r => if c.1 = a + 1 then runC c.1 r + 1 else 0

/-- Cells, told. -/
def told : Nat → List Ce → List El
  | 0, _ => []
  | _, [] => []
  | m + 1, c :: r =>
    if c.1 < 0 then (0, (0, ofBytes (c.2 :: (r.take (runT r)).map (·.2)))) :: told m (r.drop (runT r))
    else (c.1, (c.1 + runC c.1 r + 1, ByteArray.empty)) :: told m (r.drop (runC c.1 r))

def mvE (p : Int) : Int → Int → List El → Int × Int
  | n, w, [] => (n, w)
  | n, w, x :: r => if x.2.2.size = 0 then (if x.1 ≥ p then (n, w) else if x.2.1 > p then (n + (w + min x.2.1 p - x.1), 0) else mvE p (n + (w + min x.2.1 p - x.1)) 0 r) else mvE p n (w + x.2.2.size) r

theorem move_loop {K : Nat} {d : List El} {a base p : Int} (hp : mn2 (mx2 a 0) base = p) (hb : base ≤ 20000) (hl : d.length ≤ 1000) : ∀ (rest : List El) (j k : Nat) (n w : Int), d.drop j = rest → rest.length < k → (∀ x ∈ rest, okE base x) → 0 ≤ n → 0 ≤ w → n + w + sumK rest + sumT rest ≤ 1000000 →
    offset_Move.l0 K d a base k n w (j : Int) = some (mvE p n w rest)
  | [], j, k, n, w, hd, hk, hx, h0, h1, h2 => by
    obtain ⟨k, rfl⟩ : ∃ m, k = m + 1 := ⟨k - 1, by simp at hk; omega⟩
    have := drop_nil hd
    rw [offset_Move.l0, if_neg (by simp; omega)]
    rfl
  | x :: rest, j, k, n, w, hd, hk, hx, h0, h1, h2 => by
    obtain ⟨k, rfl⟩ : ∃ m, k = m + 1 := ⟨k - 1, by simp at hk; omega⟩
    obtain ⟨hj, hgd, hd'⟩ := drop_cons hd el0
    have hk' : rest.length < k := by simp at hk; omega
    have hw : IntKind.wrap .i64 ((j : Int) + 1) = ((j + 1 : Nat) : Int) := by rw [w64 (by omega) (by omega)]; omega
    obtain ⟨o1, o2, o3, o4⟩ := hx x (by simp)
    have hr : ∀ y ∈ rest, okE base y := fun y hy => hx y (by simp [hy])
    have hnn := sumK_nonneg hr
    simp only [sumK, sumT] at h2
    rw [offset_Move.l0]
    simp only [Int.toNat_natCast, hgd, hw, hp, mn2_eq]
    rw [if_pos (by simpa using hj), if_pos ⟨by omega, by omega⟩, isCopy_is, Option.bind_some, mvE]
    by_cases hz : x.2.2.size = 0
    · rw [decide_eq_true hz, if_neg (by simp), if_pos hz]
      by_cases c1 : x.1 ≥ p
      · rw [if_pos (by simpa using c1), if_pos c1]
      · rw [if_neg (by simpa using c1), if_neg c1, w64 (n := w + min x.2.1 p) (by omega) (by omega), w64 (n := w + min x.2.1 p - x.1) (by omega) (by omega), w64 (n := n + (w + min x.2.1 p - x.1)) (by omega) (by omega)]
        by_cases c2 : x.2.1 > p
        · rw [if_pos (by simpa using c2), if_pos c2]
        · rw [if_neg (by simpa using c2), if_neg c2, move_loop hp hb hl rest (j + 1) k _ _ hd' hk' hr (by omega) (by omega) (by omega)]
    · rw [decide_eq_false hz, if_pos (by simp), if_neg hz, w64 (n := w + (x.2.2.size : Int)) (by omega) (by omega), move_loop hp hb hl rest (j + 1) k _ _ hd' hk' hr (by omega) (by omega) (by omega)]

theorem mvE_ok {base p : Int} (hp : 0 ≤ p) : ∀ {l : List El} {n w : Int}, (∀ x ∈ l, okE base x) → 0 ≤ n → 0 ≤ w → n ≤ (mvE p n w l).1 ∧ 0 ≤ (mvE p n w l).2 ∧ (mvE p n w l).1 + (mvE p n w l).2 ≤ n + w + sumK l + sumT l
  | [], n, w, _, h0, h1 => by simp only [mvE, sumK, sumT]; omega
  | x :: r, n, w, hx, h0, h1 => by
    obtain ⟨o1, o2, o3, o4⟩ := hx x (by simp)
    have hr : ∀ y ∈ r, okE base y := fun y hy => hx y (by simp [hy])
    have hnn := sumK_nonneg hr
    rw [mvE]
    simp only [sumK, sumT]
    split
    · split
      · simp only; omega
      · split
        · simp only; omega
        · have := mvE_ok hp (l := r) (n := n + (w + min x.2.1 p - x.1)) (w := 0) hr (by omega) (by omega)
          omega
    · have := mvE_ok hp (l := r) (n := n) (w := w + x.2.2.size) hr h0 (by omega)
      omega

/-- Where a place goes. -/
def mv (base : Int) (d : List El) (a : Int) (after : Bool) : Int := if isD base d = true then (if after = true then (mvE (min (max a 0) base) 0 0 d).1 + (mvE (min (max a 0) base) 0 0 d).2 else (mvE (min (max a 0) base) 0 0 d).1) else 0

theorem move_is {K : Nat} {d : List El} {base a : Int} {after : Bool} (hK : 30000 ≤ K) : offset_Move K base d a after = some (mv base d a after) := by
  unfold offset_Move mv
  rw [is_is hK, Option.bind_some]
  by_cases h : isD base d = true
  · obtain ⟨h1, h2, h3, h4, h5⟩ := isD_ok h
    have hn := sumK_nonneg h4
    have e := move_loop (K := K) (d := d) (a := a) (base := base) rfl h2 (by omega) d 0 K 0 0 rfl (by omega) h4 (by omega) (by omega) (by omega)
    rw [Int.natCast_zero, mn2_eq, mx2_eq] at e
    obtain ⟨m1, m2, m3⟩ := mvE_ok (base := base) (p := min (max a 0) base) (by omega) (l := d) (n := 0) (w := 0) h4 (by omega) (by omega)
    rw [h, if_neg (by simp), if_pos rfl, e, Option.bind_some]
    cases after with
    | false => rfl
    | true => rw [if_pos rfl, if_pos rfl, w64 (by omega) (by omega)]
  · rw [if_pos (by simpa using h), if_neg h]

theorem interval_is {K : Nat} {d : List El} {base a b : Int} (hK : 30000 ≤ K) : offset_Interval K base d a b = some (mv base d a true, max (mv base d a true) (mv base d b false)) := by
  unfold offset_Interval
  rw [move_is hK, Option.bind_some, move_is hK, Option.bind_some, mx2_eq]

theorem isL_isS {base : Int} : ∀ {l : List El} {size to : Int} {pre : Option Bool}, isL base size to pre l = true → isS base to pre l
  | [], _, _, _, _ => trivial
  | x :: r, size, to, pre, h => by
    rw [isL] at h
    rw [isS]
    split at h
    · rename_i hz
      rw [Bool.and_eq_true, decide_eq_true_eq] at h
      rw [if_pos hz]
      exact ⟨⟨h.1.1, h.1.2.1, h.1.2.2.1, h.1.2.2.2.1⟩, isL_isS h.2⟩
    · rename_i hz
      rw [Bool.and_eq_true, Bool.and_eq_true, decide_eq_true_eq] at h
      rw [if_neg hz]
      exact ⟨⟨h.1.1.1, h.1.1.2.1, h.1.1.2.2.1, h.1.2⟩, isL_isS h.2⟩

theorem isD_isS {base : Int} {l : List El} (h : isD base l = true) : isS base 0 none l := by
  unfold isD at h
  rw [Bool.and_eq_true] at h
  exact isL_isS h.2

def mvC (p : Int) : Int → Int → List Ce → Int
  | _, acc, [] => acc
  | i, acc, c :: r => mvC p (i + 1) (if 0 ≤ c.1 ∧ c.1 < p then i + 1 else acc) r

theorem mvC_T {p : Int} {R : List Ce} {acc : Int} : ∀ {l : List Int} {i : Int}, mvC p i acc (l.map (fun b => ((-1 : Int), b)) ++ R) = mvC p (i + l.length) acc R
  | [], i => by simp
  | b :: l, i => by
    rw [List.map_cons, List.cons_append, mvC, if_neg (by simp), mvC_T]
    congr 1
    simp only [List.length_cons]; omega

theorem mvC_C {p : Int} {R : List Ce} : ∀ {m : Nat} {f i acc : Int}, 0 ≤ f → mvC p i acc (cellsC f m ++ R) = mvC p (i + m) (if f < p ∧ 1 ≤ m then i + min (m : Int) (p - f) else acc) R
  | 0, f, i, acc, h => by simp [cellsC]
  | m + 1, f, i, acc, h => by
    rw [cellsC, List.cons_append, mvC, mvC_C (by omega), show i + 1 + (m : Int) = i + ((m + 1 : Nat) : Int) by omega]
    congr 1
    by_cases h1 : f < p
    · rw [if_pos (show f < p ∧ 1 ≤ m + 1 from ⟨h1, by omega⟩), if_pos (show 0 ≤ ((f, (0 : Int)) : Ce).1 ∧ ((f, (0 : Int)) : Ce).1 < p from ⟨h, h1⟩)]
      by_cases h2 : f + 1 < p ∧ 1 ≤ m
      · rw [if_pos h2]; omega
      · rw [if_neg h2]; omega
    · rw [if_neg (show ¬ (f < p ∧ 1 ≤ m + 1) from fun h' => h1 h'.1), if_neg (show ¬ (0 ≤ ((f, (0 : Int)) : Ce).1 ∧ ((f, (0 : Int)) : Ce).1 < p) from fun h' => h1 h'.2), if_neg (by omega)]

theorem mvC_stop {base p : Int} : ∀ {l : List El} {to : Int} {pre : Option Bool} {i acc : Int}, 0 ≤ to → isS base to pre l → p ≤ to → mvC p i acc (cells l) = acc
  | [], to, pre, i, acc, h0, h, hp => rfl
  | x :: r, to, pre, i, acc, h0, h, hp => by
    rw [isS] at h
    rw [cells]
    split at h
    · rename_i hz
      rw [cellsT_nil hz, List.nil_append, mvC_C (by have := h.1.1; omega), if_neg (by have := h.1.1; omega)]
      exact mvC_stop (by have := h.1.1; have := h.1.2.2.1; omega) h.2 (by have := h.1.1; have := h.1.2.2.1; omega)
    · have hcc : cellsC x.1 (x.2.1 - x.1).toNat = [] := by rw [h.1.1, h.1.2.1]; rfl
      rw [hcc, List.append_nil, show cellsT x.2.2 = (txt x.2.2).map (fun b => ((-1 : Int), b)) from rfl, mvC_T]
      exact mvC_stop h0 h.2 hp

theorem runT_neg {A R : List Ce} (h : ∀ c ∈ A, c.1 < 0) : runT (A ++ R) = A.length + runT R := by
  induction A with
  | nil => simp
  | cons c A ih =>
    rw [List.cons_append, runT, if_pos (h c (by simp)), ih fun d hd => h d (by simp [hd])]
    simp only [List.length_cons]; omega

theorem runT_pos {c : Ce} {R : List Ce} (h : 0 ≤ c.1) : runT (c :: R) = 0 := by rw [runT, if_neg (by omega)]

theorem cellsT_neg {t : ByteArray} : ∀ c ∈ cellsT t, c.1 < 0 := by
  intro c hc
  obtain ⟨b, _, rfl⟩ := List.mem_map.1 hc
  simp

theorem mv_cells {base p : Int} (hp : 0 ≤ p) : ∀ {l : List El} {to : Int} {pre : Option Bool} {A B : List Ce} {n w : Nat}, 0 ≤ to → isS base to pre l → A.length = n → B.length = w → (∀ c ∈ B, c.1 < 0) →
    ∃ n' w' : Nat, mvE p n w l = ((n' : Int), (w' : Int)) ∧ mvC p (n + w : Nat) n (cells l) = n' ∧ runT ((A ++ (B ++ cells l)).drop n') = w' ∧ n' ≤ n + w + (cells l).length
  | [], to, pre, A, B, n, w, h0, h, hA, hB, hB2 => by
    refine ⟨n, w, rfl, rfl, ?_, by omega⟩
    rw [← hA, List.drop_left]
    simp only [cells, List.append_nil]
    have := runT_neg (R := []) hB2
    rw [List.append_nil] at this
    rw [this, hB]; rfl
  | x :: r, to, pre, A, B, n, w, h0, h, hA, hB, hB2 => by
    rw [isS] at h
    rw [mvE, cells]
    by_cases hz : x.2.2.size = 0
    · rw [if_pos hz] at h
      rw [if_pos hz, cellsT_nil hz, List.nil_append]
      have q1 := h.1.1
      have q2 := h.1.2.2.1
      obtain ⟨m, hm⟩ : ∃ m : Nat, (x.2.1 - x.1).toNat = m := ⟨_, rfl⟩
      rw [hm, mvC_C (by omega)]
      by_cases c1 : x.1 ≥ p
      · rw [if_pos c1]
        refine ⟨n, w, rfl, ?_, ?_, by omega⟩
        · rw [if_neg (by omega), mvC_stop (by omega) h.2 (by omega)]
        · obtain ⟨m, rfl⟩ : ∃ k, m = k + 1 := ⟨m - 1, by omega⟩
          rw [← hA, List.drop_left, runT_neg hB2, cellsC, List.cons_append, runT_pos (by simp only; omega), hB]; omega
      · rw [if_neg c1]
        by_cases c2 : x.2.1 > p
        · rw [if_pos c2]
          refine ⟨n + w + (p - x.1).toNat, 0, ?_, ?_, ?_, by simp only [List.length_append, cellsC_len]; omega⟩
          · congr 1
            omega
          · rw [if_pos ⟨by omega, by omega⟩, mvC_stop (by omega) h.2 (by omega)]
            omega
          · obtain ⟨k, hk⟩ : ∃ k : Nat, (p - x.1).toNat = k := ⟨_, rfl⟩
            obtain ⟨j, hj⟩ : ∃ j : Nat, m = k + (j + 1) := ⟨m - k - 1, by omega⟩
            rw [hk, hj, cellsC_add, ← hA, ← hB]
            have e : A ++ (B ++ (cellsC x.1 k ++ cellsC (x.1 + k) (j + 1) ++ cells r)) = (A ++ B ++ cellsC x.1 k) ++ (cellsC (x.1 + k) (j + 1) ++ cells r) := by simp only [List.append_assoc]
            have e2 : A.length + B.length + k = (A ++ B ++ cellsC x.1 k).length := by simp [cellsC_len]; omega
            rw [e, e2, List.drop_left, cellsC, List.cons_append, runT_pos (by simp only; omega)]
        · rw [if_neg c2]
          have hmin : min x.2.1 p = x.2.1 := by omega
          obtain ⟨n', w', e1, e2, e3, e4⟩ := mv_cells hp (l := r) (to := x.2.1) (pre := some true) (A := A ++ B ++ cellsC x.1 m) (B := []) (n := n + w + m) (w := 0) (by omega) h.2 (by simp [cellsC_len, hA, hB]; omega) rfl (by simp)
          refine ⟨n', w', ?_, ?_, ?_, by simp only [List.length_append, cellsC_len]; omega⟩
          · rw [hmin, show ((n : Int) + ((w : Int) + x.2.1 - x.1)) = ((n + w + m : Nat) : Int) by omega]
            exact e1
          · rw [if_pos ⟨by omega, by omega⟩]
            rw [← e2]
            congr 1 <;> omega
          · rw [← e3]
            simp only [List.append_assoc, List.nil_append]
    · rw [if_neg hz] at h
      have hcc : cellsC x.1 (x.2.1 - x.1).toNat = [] := by rw [h.1.1, h.1.2.1]; rfl
      rw [if_neg hz, hcc, List.append_nil]
      obtain ⟨n', w', e1, e2, e3, e4⟩ := mv_cells hp (l := r) (to := to) (pre := some false) (A := A) (B := B ++ cellsT x.2.2) (n := n) (w := w + x.2.2.size) h0 h.2 hA (by simp [hB, cellsT_len]) (by
        intro c hc
        rcases List.mem_append.1 hc with hc | hc
        · exact hB2 c hc
        · exact cellsT_neg c hc)
      refine ⟨n', w', ?_, ?_, ?_, by simp only [List.length_append, cellsT_len]; omega⟩
      · rw [← e1]; congr 1
      · rw [show cellsT x.2.2 = (txt x.2.2).map (fun b => ((-1 : Int), b)) from rfl, mvC_T, ← e2, txt_len]
        congr 1; omega
      · rw [← e3]
        simp only [List.append_assoc]

theorem rmove_loop {K : Nat} {l : List Ce} {a base p : Int} (hp : mx2 0 (mn2 a base) = p) (hs : l.length ≤ 1000000) : ∀ (rest : List Ce) (j k : Nat) (n : Int), l.drop j = rest → rest.length < k → palinoderef11_Move.l0 K l a base k n (j : Int) = some (mvC p j n rest)
  | [], j, k, n, hd, hk => by
    obtain ⟨k, rfl⟩ : ∃ m, k = m + 1 := ⟨k - 1, by simp at hk; omega⟩
    have := drop_nil hd
    rw [palinoderef11_Move.l0, if_neg (by simp; omega)]
    rfl
  | c :: rest, j, k, n, hd, hk => by
    obtain ⟨k, rfl⟩ : ∃ m, k = m + 1 := ⟨k - 1, by simp at hk; omega⟩
    obtain ⟨hj, hgd, hd'⟩ := drop_cons hd ((0 : Int), (0 : Int))
    have hk' : rest.length < k := by simp at hk; omega
    have hw : IntKind.wrap .i64 ((j : Int) + 1) = ((j + 1 : Nat) : Int) := by rw [w64 (by omega) (by omega)]; omega
    have hin : 0 ≤ (j : Int) ∧ (j : Int) < ((l.length : Nat) : Int) := ⟨by omega, by omega⟩
    rw [palinoderef11_Move.l0]
    simp only [Int.toNat_natCast, hgd, hw, hp, if_pos hin]
    rw [if_pos (by simpa using hj), mvC, show (j : Int) + 1 = ((j + 1 : Nat) : Int) by omega]
    by_cases h1 : c.1 ≥ 0
    · rw [if_pos (by simpa using h1), Option.bind_some]
      by_cases h2 : c.1 < p
      · rw [if_pos (by simpa using h2), if_pos ⟨h1, h2⟩]
        exact rmove_loop hp hs rest (j + 1) k _ hd' hk'
      · rw [if_neg (by simpa using h2), if_neg (fun h => h2 h.2)]
        exact rmove_loop hp hs rest (j + 1) k _ hd' hk'
    · rw [if_neg (by simpa using h1), Option.bind_some, if_neg (by simp), if_neg (fun h => h1 h.1)]
      exact rmove_loop hp hs rest (j + 1) k _ hd' hk'

theorem rrun_loop {K : Nat} {l : List Ce} (hs : l.length ≤ 1000000) : ∀ (rest : List Ce) (j k : Nat), l.drop j = rest → rest.length < k → j ≤ l.length → palinoderef11_Move.l1 K l k (j : Int) = some ((j + runT rest : Nat) : Int)
  | [], j, k, hd, hk, hj => by
    obtain ⟨k, rfl⟩ : ∃ m, k = m + 1 := ⟨k - 1, by simp at hk; omega⟩
    have := drop_nil hd
    rw [palinoderef11_Move.l1, if_neg (by simp; omega), Option.bind_some, if_neg (by simp)]
    rfl
  | c :: rest, j, k, hd, hk, hjl => by
    obtain ⟨k, rfl⟩ : ∃ m, k = m + 1 := ⟨k - 1, by simp at hk; omega⟩
    obtain ⟨hj, hgd, hd'⟩ := drop_cons hd ((0 : Int), (0 : Int))
    have hk' : rest.length < k := by simp at hk; omega
    have hw : IntKind.wrap .i64 ((j : Int) + 1) = ((j + 1 : Nat) : Int) := by rw [w64 (by omega) (by omega)]; omega
    rw [palinoderef11_Move.l1]
    simp only [Int.toNat_natCast, hgd, hw]
    rw [if_pos (by simpa using hj), if_pos ⟨by omega, by omega⟩, Option.bind_some, runT]
    by_cases h : c.1 < 0
    · rw [if_pos (by simpa using h), if_pos h, rrun_loop hs rest (j + 1) k hd' hk' (by omega), show j + 1 + runT rest = j + (runT rest + 1) by omega]
    · rw [if_neg (by simpa using h), if_neg h]
      rfl

theorem rmove_is {K : Nat} {d : List El} {base a : Int} {after : Bool} (hK : 100000 ≤ K) : palinoderef11_Move K base d a after = some (mv base d a after) := by
  unfold palinoderef11_Move mv
  rw [ris_is (by omega), Option.bind_some]
  by_cases h : isD base d = true
  · obtain ⟨h1, h2, h3, h4, h5⟩ := isD_ok h
    have hS := isD_isS h
    have hcl := cells_len h4
    have hn := sumK_nonneg h4
    obtain ⟨n', w', e1, e2, e3, e4⟩ := mv_cells (base := base) (p := min (max a 0) base) (by omega) (l := d) (to := 0) (pre := none) (A := []) (B := []) (n := 0) (w := 0) (by omega) hS rfl rfl (by simp)
    simp only [List.nil_append, Nat.zero_add] at e3 e4
    have em : mvE (min (max a 0) base) 0 0 d = ((n' : Int), (w' : Int)) := e1
    have l1 := rmove_loop (K := K) (l := cells d) (a := a) (base := base) (p := min (max a 0) base) (by rw [mx2_eq, mn2_eq]; omega) (by omega) (cells d) 0 K 0 rfl (by omega)
    have e2' : mvC (min (max a 0) base) ((0 : Nat) : Int) 0 (cells d) = n' := e2
    rw [e2', Int.natCast_zero] at l1
    have l2 := rrun_loop (K := K) (l := cells d) (by omega) ((cells d).drop n') n' K rfl (by simp; omega) (by omega)
    rw [e3] at l2
    rw [h, if_neg (by simp), if_pos rfl, cells_is hK h, Option.bind_some, l1, Option.bind_some, em]
    cases after with
    | false => simp
    | true =>
      rw [if_neg (by simp), l2, if_pos rfl]
      congr 1
  · rw [if_pos (by simpa using h), if_neg h]

theorem rinterval_is {K : Nat} {d : List El} {base a b : Int} (hK : 100000 ≤ K) : palinoderef11_Interval K base d a b = some (mv base d a true, max (mv base d a true) (mv base d b false)) := by
  unfold palinoderef11_Interval
  rw [ris_is (by omega), Option.bind_some]
  by_cases h : isD base d = true
  · rw [h, if_neg (by simp), rmove_is hK, Option.bind_some, rmove_is hK, Option.bind_some, mx2_eq]
  · have hm : ∀ a b, mv base d a b = 0 := by intro a b; unfold mv; rw [if_neg h]
    rw [if_pos (by simpa using h), hm, hm]; rfl

theorem mvE_ge {p : Int} (hp : 0 ≤ p) : ∀ {l : List El} {n w to base : Int} {pre : Option Bool}, 0 ≤ to → isS base to pre l → 0 ≤ n → 0 ≤ w → n ≤ (mvE p n w l).1 ∧ n + w ≤ (mvE p n w l).1 + (mvE p n w l).2 ∧ 0 ≤ (mvE p n w l).2
  | [], n, w, to, base, pre, h0, h, hn, hw => by simp only [mvE]; omega
  | x :: r, n, w, to, base, pre, h0, h, hn, hw => by
    rw [isS] at h
    rw [mvE]
    split at h
    · rename_i hz
      have q1 := h.1.1
      have q2 := h.1.2.2.1
      rw [if_pos hz]
      split
      · simp only; omega
      · split
        · simp only; omega
        · have := mvE_ge hp (l := r) (n := n + (w + min x.2.1 p - x.1)) (w := 0) (by omega) h.2 (by omega) (by omega)
          omega
    · rename_i hz
      rw [if_neg hz]
      have := mvE_ge hp (l := r) (n := n) (w := w + x.2.2.size) h0 h.2 hn (by omega)
      omega

theorem mvE_mono {p q : Int} (hp : 0 ≤ p) (hpq : p ≤ q) : ∀ {l : List El} {n w to base : Int} {pre : Option Bool}, 0 ≤ to → isS base to pre l → 0 ≤ n → 0 ≤ w →
    (mvE p n w l).1 ≤ (mvE q n w l).1 ∧ (mvE p n w l).1 + (mvE p n w l).2 ≤ (mvE q n w l).1 + (mvE q n w l).2
  | [], n, w, to, base, pre, h0, h, hn, hw => ⟨Int.le_refl _, Int.le_refl _⟩
  | x :: r, n, w, to, base, pre, h0, h, hn, hw => by
    have hall := mvE_ge (p := q) (by omega) (l := x :: r) (n := n) (w := w) h0 h hn hw
    rw [isS] at h
    by_cases hz : x.2.2.size = 0
    · rw [if_pos hz] at h
      have q1 := h.1.1
      have q2 := h.1.2.2.1
      by_cases c1 : x.1 ≥ p
      · have e : mvE p n w (x :: r) = (n, w) := by rw [mvE, if_pos hz, if_pos c1]
        rw [e]
        exact ⟨hall.1, hall.2.1⟩
      · by_cases c2 : x.2.1 > p
        · have e : mvE p n w (x :: r) = (n + (w + min x.2.1 p - x.1), 0) := by rw [mvE, if_pos hz, if_neg c1, if_pos c2]
          rw [e, mvE, if_pos hz, if_neg (by omega)]
          by_cases c3 : x.2.1 > q
          · rw [if_pos c3]; simp only; omega
          · rw [if_neg c3]
            have := mvE_ge (p := q) (by omega) (l := r) (n := n + (w + min x.2.1 q - x.1)) (w := 0) (by omega) h.2 (by omega) (by omega)
            simp only; omega
        · rw [mvE, if_pos hz, if_neg c1, if_neg c2, mvE, if_pos hz, if_neg (by omega)]
          by_cases c3 : x.2.1 > q
          · omega
          · rw [if_neg c3, show min x.2.1 p = x.2.1 by omega, show min x.2.1 q = x.2.1 by omega]
            exact mvE_mono hp hpq (by omega) h.2 (by omega) (by omega)
    · rw [if_neg hz] at h
      rw [mvE, if_neg hz, mvE, if_neg hz]
      exact mvE_mono hp hpq h0 h.2 hn (by omega)

/-- Where a place goes, by cells. -/
theorem mv_by {base a : Int} {d : List El} {C : List Ce} {after : Bool} (h : isD base d = true) (hC : cells d = C) : ∃ n : Nat, mvC (min (max a 0) base) 0 0 C = n ∧ n ≤ C.length ∧ mv base d a after = if after = true then ((n + runT (C.drop n) : Nat) : Int) else n := by
  obtain ⟨h1, h2, h3, h4, h5⟩ := isD_ok h
  obtain ⟨n', w', e1, e2, e3, e4⟩ := mv_cells (base := base) (p := min (max a 0) base) (by omega) (l := d) (to := 0) (pre := none) (A := []) (B := []) (n := 0) (w := 0) (by omega) (isD_isS h) rfl rfl (by simp)
  simp only [List.nil_append, Nat.zero_add, hC] at e2 e3 e4
  have em : mvE (min (max a 0) base) 0 0 d = ((n' : Int), (w' : Int)) := e1
  refine ⟨n', e2, e4, ?_⟩
  unfold mv
  rw [if_pos h, em, e3]
  cases after
  · rfl
  · rw [if_pos rfl, if_pos rfl]; simp

theorem mv_bounds {base a : Int} {d : List El} (h : isD base d = true) : 0 ≤ mv base d a false ∧ mv base d a false ≤ mv base d a true ∧ mv base d a true ≤ sumK d + sumT d := by
  obtain ⟨h1, h2, h3, h4, h5⟩ := isD_ok h
  have g := mvE_ge (p := min (max a 0) base) (by omega) (l := d) (n := 0) (w := 0) (Int.le_refl 0) (isD_isS h) (by omega) (by omega)
  have g2 := (mvE_ok (base := base) (p := min (max a 0) base) (by omega) (l := d) (n := 0) (w := 0) h4 (by omega) (by omega)).2.2
  unfold mv
  rw [if_pos h, if_pos h, if_neg (by simp), if_pos rfl]
  omega

theorem lng_is2 : ∀ {l : List El} {left : Int}, 0 ≤ left → lngL left l = if (sumT l : Int) > left then 13 else 0
  | [], left, h => by rw [if_neg (by simp only [sumT]; omega)]; rfl
  | c :: r, left, h => by
    rw [lngL]
    by_cases h1 : (c.2.2.size : Int) > left
    · rw [if_pos h1, if_pos (by simp only [sumT]; omega)]
    · rw [if_neg h1, lng_is2 (by omega)]
      by_cases h2 : (sumT r : Int) > left - c.2.2.size
      · rw [if_pos h2, if_pos (by simp only [sumT]; omega)]
      · rw [if_neg h2, if_neg (by simp only [sumT]; omega)]

theorem built_cells {base : Int} {l : List El} (h : (bldD base l).2.2 = 0) : cells (bldD base l).2.1 = chC 0 l ++ cellsC (bld [] 0 l).2 (base - (bld [] 0 l).2).toNat := by
  obtain ⟨c1, c2, c3, c4, c5, c6, c7, c8, c9, c10⟩ := built_ok (s := []) h
  have hm : Made base [] 0 := ⟨trivial, by simp [lastTo], by omega, by omega⟩
  obtain ⟨m1, m2⟩ := bld_cells hm c3 c4 c5 (fun p hp => by cases hp) (fun _ => rfl)
  have f2 := cells_copy m1 m1.2.2.2
  unfold bldD at h ⊢
  split at h
  · rename_i h1; exact absurd h h1
  · rename_i h1
    split at h
    · cases h
    · rename_i h2
      rw [if_neg h1, if_neg h2, f2, m2]; rfl

/-- One change. -/
theorem one_is {n a b : Nat} {t : ByteArray} (h1 : a ≤ b) (h2 : b ≤ n) (hn : n ≤ 10000) (ht : t.size ≤ 1000) : (uvalid t = false → (bldD n [((a : Int), ((b : Int), t))]).2.2 = 12) ∧
    (uvalid t = true → (bldD n [((a : Int), ((b : Int), t))]).2.2 = 0 ∧ (bldD n [((a : Int), ((b : Int), t))]).1 = n ∧ isD n (bldD n [((a : Int), ((b : Int), t))]).2.1 = true ∧ cells (bldD n [((a : Int), ((b : Int), t))]).2.1 = cellsC 0 a ++ (cellsT t ++ cellsC b (n - b))) := by
  have r1 : rngL n [((a : Int), ((b : Int), t))] = true := by simp [rngL]; omega
  have r2 : ordL none [((a : Int), ((b : Int), t))] = true := rfl
  have hv : valL [((a : Int), ((b : Int), t))] = uvalid t := by simp [valL]
  have hc : chk n [((a : Int), ((b : Int), t))] = if uvalid t = false then 12 else 0 := by
    unfold chk
    rw [if_neg (by omega), r1, r2, hv, if_neg (by simp), if_neg (by simp)]
    cases uvalid t with
    | false => rfl
    | true =>
      rw [if_neg (by simp), if_neg (by simp), lng_is2 (by simp only [sumK]; omega), if_neg (by simp only [sumK, sumT]; omega)]
  have hbl : bld [] 0 [((a : Int), ((b : Int), t))] = (mkPut (mkCopy [] 0 a) t, (b : Int)) := rfl
  constructor
  · intro h
    unfold bldD
    rw [hc, if_pos h, if_pos (by omega)]
  · intro h
    have hz : (bldD n [((a : Int), ((b : Int), t))]).2.2 = 0 := by
      have l1 := mkCopy_len (l := []) (f := 0) (t := a)
      have l2 := mkPut_len (l := mkCopy [] 0 a) (s := t)
      have l3 := mkCopy_len (l := mkPut (mkCopy [] 0 a) t) (f := b) (t := n)
      simp only [List.length_nil] at l1
      unfold bldD
      rw [hc, if_neg (show ¬ uvalid t = false by simp [h]), if_neg (show ¬ (0 : Int) ≠ 0 by simp), hbl]
      simp only
      rw [if_neg (by omega)]
    obtain ⟨c1, c2, c3, c4, c5, c6, c7, c8, c9, c10⟩ := built_ok (s := []) hz
    refine ⟨hz, c6, c7, ?_⟩
    rw [built_cells hz, hbl]
    simp only [chC, List.append_nil, List.append_assoc]
    rw [show ((a : Int) - 0).toNat = a by omega, show ((n : Int) - (b : Int)).toNat = n - b by omega]

theorem runT_C {m : Nat} {f : Int} (h : 0 ≤ f) : runT (cellsC f m) = 0 := by
  cases m with
  | zero => rfl
  | succ m => rw [cellsC, runT_pos (by simpa using h)]

theorem dropC : ∀ {k m : Nat} {f : Int}, (cellsC f m).drop k = cellsC (f + k) (m - k)
  | 0, m, f => by simp
  | k + 1, 0, f => by simp [cellsC]
  | k + 1, m + 1, f => by
    rw [cellsC, List.drop_succ_cons, dropC, show f + 1 + (k : Int) = f + ((k + 1 : Nat) : Int) by omega, show m + 1 - (k + 1) = m - k by omega]

/-- Where places go by one text put in. -/
theorem plain_put {n a x : Nat} {t : ByteArray} (h2 : a ≤ n) (hn : n ≤ 10000) (ht : t.size ≤ 1000) (hx : x ≤ n) (hv : uvalid t = true) :
    mv n (bldD n [((a : Int), ((a : Int), t))]).2.1 x false = (if x > a then x + t.size else x : Nat) ∧ mv n (bldD n [((a : Int), ((a : Int), t))]).2.1 x true = (if x ≥ a then x + t.size else x : Nat) := by
  obtain ⟨c1, c2, c3, c4⟩ := (one_is (n := n) (a := a) (b := a) (t := t) (Nat.le_refl _) h2 hn ht).2 hv
  obtain ⟨q, q1, q2, q3⟩ := mv_by (a := (x : Int)) (after := false) c3 c4
  obtain ⟨q', q1', q2', q3'⟩ := mv_by (a := (x : Int)) (after := true) c3 c4
  have hqq : q = q' := by rw [q1] at q1'; omega
  subst hqq
  rw [q3, q3', if_neg (by simp), if_pos rfl]
  rw [show min (max (x : Int) 0) (n : Int) = x by omega, mvC_C (Int.le_refl 0), show cellsT t = (txt t).map (fun b => ((-1 : Int), b)) from rfl, mvC_T] at q1
  have e := mvC_C (p := (x : Int)) (R := []) (m := n - a) (f := (a : Int)) (i := 0 + (a : Int) + (txt t).length) (acc := if (0 : Int) < x ∧ 1 ≤ a then 0 + min (a : Int) (x - 0) else 0) (by omega)
  rw [List.append_nil] at e
  rw [e, mvC, txt_len] at q1
  have hq : q = if x > a then x + t.size else x := by
    by_cases c : x > a
    · rw [if_pos c]; rw [if_pos (by omega)] at q1; omega
    · rw [if_neg c]
      rw [if_neg (by omega)] at q1
      by_cases cx : (0 : Int) < x ∧ 1 ≤ a
      · rw [if_pos cx] at q1; omega
      · rw [if_neg cx] at q1; omega
  refine ⟨by rw [hq], ?_⟩
  have hT := cellsT_len (t := t)
  have hrun : runT ((cellsC 0 a ++ (cellsT t ++ cellsC a (n - a))).drop q) = if x = a then t.size else 0 := by
    rw [hq]
    by_cases c : x > a
    · rw [if_pos c, if_neg (by omega)]
      have e1 : x + t.size = (cellsC 0 a ++ cellsT t).length + (x - a) := by simp [cellsC_len, hT]; omega
      rw [← List.append_assoc, e1, ← List.drop_drop, List.drop_left, dropC]
      exact runT_C (by omega)
    · rw [if_neg c]
      by_cases ce : x = a
      · subst ce
        rw [if_pos rfl]
        have e2 := List.drop_left (l₁ := cellsC 0 x) (l₂ := cellsT t ++ cellsC x (n - x))
        rw [cellsC_len] at e2
        rw [e2, runT_neg cellsT_neg, runT_C (by omega), hT]; rfl
      · rw [if_neg ce, List.drop_append_of_le_length (by rw [cellsC_len]; omega), dropC]
        obtain ⟨m, hm⟩ : ∃ m, a - x = m + 1 := ⟨a - x - 1, by omega⟩
        rw [hm, cellsC, List.cons_append, runT_pos (by simp only; omega)]
  rw [hrun, hq]
  by_cases c : x > a
  · rw [if_pos c, if_neg (by omega), if_pos (by omega), Nat.add_zero]
  · rw [if_neg c]
    by_cases ce : x = a
    · rw [if_pos ce, if_pos (by omega)]
    · rw [if_neg ce, if_neg (by omega), Nat.add_zero]

/-- Ones ahead of a place, then noughts. -/
def f1 (x : Int) : Int → Nat → List Int
  | _, 0 => []
  | a, n + 1 => (if a < x then 1 else 0) :: f1 x (a + 1) n

abbrev Sp := Int × (Int × Int)

abbrev sp0 : Sp := ((0 : Int), ((0 : Int), (0 : Int)))

def ltS (a b : Sp) : Bool := decide (a.1 < b.1)

def leS (a b : Sp) : Prop := ltS b a = false

theorem eta3 (x : Sp) : (x.1, (x.2.1, x.2.2)) = x := rfl

theorem leS_trans {a b c : Sp} (h1 : leS a b) (h2 : leS b c) : leS a c := by
  unfold leS ltS at *
  rw [decide_eq_false_iff_not] at *
  omega

theorem ltS_le {a b : Sp} (h : ltS a b = true) : leS a b := by
  unfold leS ltS at *
  rw [decide_eq_true_eq] at h
  rw [decide_eq_false_iff_not]
  omega

theorem cmpS_is {K : Nat} {a b : Sp} : ∃ c, spans_row_sorted_1 K a.1 a.2.1 a.2.2 b.1 b.2.1 b.2.2 = some c ∧ decide (c < 0) = ltS a b := by
  unfold spans_row_sorted_1 cmp_Compare cmp_isNaN ltS
  rw [Option.bind_some, Option.bind_some, bne_self_eq_false, if_neg (by simp), bne_self_eq_false, if_neg (by simp)]
  by_cases h : a.1 < b.1
  · rw [if_pos (by simpa using h), Option.bind_some]
    exact ⟨_, rfl, by rw [decide_eq_true h]; rfl⟩
  · rw [if_neg (by simpa using h)]
    by_cases h2 : a.1 > b.1
    · rw [if_pos (by simpa using h2), Option.bind_some]
      exact ⟨_, rfl, by rw [decide_eq_false h]; rfl⟩
    · rw [if_neg (by simpa using h2), Option.bind_some]
      exact ⟨_, rfl, by rw [decide_eq_false h]; rfl⟩

abbrev Srt (l : List Sp) : Prop := l.Pairwise leS

theorem get_mid {α : Type} {A R : List α} {x d : α} {n : Nat} (h : n = A.length) : (A ++ x :: R).getD n d = x := by
  subst h
  rw [List.getD_eq_getElem?_getD, List.getElem?_append_right (Nat.le_refl _), Nat.sub_self]; rfl

theorem set_mid {α : Type} {A R : List α} {x v : α} {n : Nat} (h : n = A.length) : (A ++ x :: R).set n v = A ++ v :: R := by
  subst h
  rw [List.set_append_right _ _ (Nat.le_refl _), Nat.sub_self, List.set_cons_zero]

theorem swp_a {α : Type} {P Q : List α} {z x : α} {n m : Nat} (hn : n = P.length) (hm : m = P.length + 1) : ((P ++ z :: x :: Q).set m z).set n x = P ++ x :: z :: Q := by
  have e : P ++ z :: x :: Q = (P ++ [z]) ++ x :: Q := by simp
  rw [e, set_mid (by simp [hm]), show (P ++ [z]) ++ z :: Q = P ++ z :: z :: Q by simp, set_mid hn]

theorem get_two {α : Type} {P Q : List α} {z x d : α} {m : Nat} (hm : m = P.length + 1) : (P ++ z :: x :: Q).getD m d = x := by
  rw [show P ++ z :: x :: Q = (P ++ [z]) ++ x :: Q by simp, get_mid (by simp [hm])]

theorem insS_loop {K : Nat} {A : List Sp} {x : Sp} : ∀ (n : Nat) (S2 T S : List Sp) (k : Nat), S.length = n → n < k → A.length + S.length + S2.length + T.length ≤ 100000 → Srt S → (∀ y ∈ S2, ltS x y = true) →
    ∃ S1 S3, slices_insertionSortCmpFunc_rggcspansrowsorted1.l1 K (A.length : Int) k (A ++ (S ++ x :: (S2 ++ T))) ((A.length + S.length : Nat) : Int) = some (A ++ (S1 ++ x :: (S3 ++ T))) ∧ S1 ++ S3 = S ++ S2 ∧ (∀ y ∈ S1, leS y x) ∧ (∀ y ∈ S3, ltS x y = true)
  | 0, S2, T, S, k, hn, hk, hl, hs, h2 => by
    obtain ⟨k, rfl⟩ : ∃ m, k = m + 1 := ⟨k - 1, by omega⟩
    have : S = [] := List.eq_nil_of_length_eq_zero hn
    subst this
    rw [slices_insertionSortCmpFunc_rggcspansrowsorted1.l1, if_neg (by simp), Option.bind_some, if_neg (by simp)]
    exact ⟨[], S2, by simp, rfl, fun y hy => (List.not_mem_nil hy).elim, h2⟩
  | n + 1, S2, T, S, k, hn, hk, hl, hs, h2 => by
    obtain ⟨k, rfl⟩ : ∃ m, k = m + 1 := ⟨k - 1, by omega⟩
    obtain ⟨S', z, rfl⟩ := split_last (l := S) (by intro e; rw [e] at hn; simp at hn)
    rw [List.length_append, List.length_singleton] at hn hl
    have eD : A ++ ((S' ++ [z]) ++ x :: (S2 ++ T)) = (A ++ S') ++ z :: x :: (S2 ++ T) := by simp
    have hpl : (A ++ S').length = A.length + S'.length := List.length_append
    have g1 : ((A ++ S') ++ z :: x :: (S2 ++ T)).getD (A.length + (S'.length + 1)) sp0 = x := get_two (by omega)
    have g2 : ((A ++ S') ++ z :: x :: (S2 ++ T)).getD (A.length + S'.length) sp0 = z := get_mid (by omega)
    have hw : IntKind.wrap .i64 (((A.length + (S'.length + 1) : Nat) : Int) - 1) = ((A.length + S'.length : Nat) : Int) := by rw [w64 (by omega) (by omega)]; omega
    have hDl : ((A ++ S') ++ z :: x :: (S2 ++ T)).length = A.length + S'.length + 2 + S2.length + T.length := by simp only [List.length_append, List.length_cons]; omega
    obtain ⟨c, hc1, hc2⟩ := cmpS_is (K := K) (a := x) (b := z)
    rw [List.length_append, List.length_singleton, slices_insertionSortCmpFunc_rggcspansrowsorted1.l1, eD]
    simp only [hw, Int.toNat_natCast, g1, g2, eta3]
    rw [if_pos (by simp; omega), hc1, Option.bind_some, if_pos ⟨by omega, by omega, by omega, by omega⟩, hc2, Option.bind_some]
    have hs' := List.pairwise_append.1 hs
    cases hlt : ltS x z with
    | true =>
      rw [if_pos rfl, if_pos ⟨by omega, by omega, by omega, by omega, by rw [List.length_set]; omega⟩, swp_a (by omega) (by omega)]
      obtain ⟨S1, S3, e1, e2, e3, e4⟩ := insS_loop (K := K) (A := A) (x := x) n (z :: S2) T S' k (by omega) (by omega) (by simp only [List.length_cons]; omega) hs'.1 (fun y hy => by
        rcases List.mem_cons.1 hy with rfl | hy
        · exact hlt
        · exact h2 y hy)
      refine ⟨S1, S3, ?_, by rw [e2]; simp, e3, e4⟩
      rw [← e1]
      simp
    | false =>
      rw [if_neg (by simp)]
      refine ⟨S' ++ [z], S2, by rw [← eD], rfl, fun y hy => ?_, h2⟩
      rcases List.mem_append.1 hy with hy | hy
      · exact leS_trans (hs'.2.2 y hy z (by simp)) hlt
      · rw [List.mem_singleton.1 hy]; exact hlt

theorem insS0_loop {K : Nat} {A B : List Sp} (hK : 100000 ≤ K) : ∀ (X S : List Sp) (k : Nat), X.length < k → A.length + S.length + X.length + B.length ≤ 90000 → Srt S →
    ∃ Z, slices_insertionSortCmpFunc_rggcspansrowsorted1.l0 K ((A.length + S.length + X.length : Nat) : Int) (A.length : Int) k (A ++ (S ++ (X ++ B))) ((A.length + S.length : Nat) : Int) = some (A ++ (Z ++ B)) ∧ Z.Perm (S ++ X) ∧ Srt Z
  | [], S, k, hk, hl, hs => by
    obtain ⟨k, rfl⟩ : ∃ m, k = m + 1 := ⟨k - 1, by omega⟩
    rw [slices_insertionSortCmpFunc_rggcspansrowsorted1.l0, if_neg (by simp)]
    exact ⟨S, by simp, by simp, hs⟩
  | x :: X, S, k, hk, hl, hs => by
    obtain ⟨k, rfl⟩ : ∃ m, k = m + 1 := ⟨k - 1, by omega⟩
    rw [List.length_cons] at hk hl
    have hw : IntKind.wrap .i64 (((A.length + S.length : Nat) : Int) + 1) = ((A.length + (S.length + 1) : Nat) : Int) := by rw [w64 (by omega) (by omega)]; omega
    obtain ⟨S1, S3, e1, e2, e3, e4⟩ := insS_loop (K := K) (A := A) (x := x) S.length [] (X ++ B) S K rfl (by omega) (by simp only [List.length_append, List.length_nil]; omega) hs (fun y hy => by cases hy)
    rw [List.append_nil] at e2
    rw [List.nil_append] at e1
    rw [slices_insertionSortCmpFunc_rggcspansrowsorted1.l0, if_pos (by simp; omega), List.cons_append, e1, Option.bind_some, hw]
    have hperm : (S1 ++ x :: S3).Perm (S ++ [x]) := by
      rw [← e2]
      exact (List.perm_middle).trans ((List.perm_append_singleton x (S1 ++ S3)).symm)
    have hs3 := List.pairwise_append.1 (e2 ▸ hs)
    have hsrt : Srt (S1 ++ x :: S3) := by
      refine List.pairwise_append.2 ⟨hs3.1, List.pairwise_cons.2 ⟨fun y hy => ltS_le (e4 y hy), hs3.2.1⟩, fun a ha b hb => ?_⟩
      rcases List.mem_cons.1 hb with rfl | hb
      · exact e3 a ha
      · exact hs3.2.2 a ha b hb
    have hlen : (S1 ++ x :: S3).length = S.length + 1 := by rw [hperm.length_eq]; simp
    obtain ⟨Z, f1, f2, f3⟩ := insS0_loop (A := A) (B := B) hK X (S1 ++ x :: S3) k (by omega) (by omega) hsrt
    refine ⟨Z, ?_, ?_, f3⟩
    · rw [← f1, hlen, List.length_cons, show A.length + S.length + (X.length + 1) = A.length + (S.length + 1) + X.length by omega]
      congr 1
      simp
    · refine f2.trans ?_
      have := hperm.append_right X
      simpa using this

theorem insSort_is {K : Nat} {A X B : List Sp} (hK : 100000 ≤ K) (hl : A.length + X.length + B.length ≤ 80000) :
    ∃ Z, slices_insertionSortCmpFunc_rggcspansrowsorted1 K (A ++ (X ++ B)) (A.length : Int) ((A.length + X.length : Nat) : Int) = some (A ++ (Z ++ B)) ∧ Z.Perm X ∧ Srt Z := by
  unfold slices_insertionSortCmpFunc_rggcspansrowsorted1
  have hw : IntKind.wrap .i64 ((A.length : Int) + 1) = ((A.length + 1 : Nat) : Int) := by rw [w64 (by omega) (by omega)]; omega
  rw [hw]
  cases X with
  | nil =>
    obtain ⟨k, rfl⟩ : ∃ m, K = m + 1 := ⟨K - 1, by omega⟩
    rw [slices_insertionSortCmpFunc_rggcspansrowsorted1.l0, if_neg (by simp; omega)]
    exact ⟨[], by simp, List.Perm.refl _, List.Pairwise.nil⟩
  | cons x X =>
    rw [List.length_cons] at hl
    obtain ⟨Z, e1, e2, e3⟩ := insS0_loop (K := K) (A := A) (B := B) hK X [x] K (by omega) (by simp only [List.length_singleton]; omega) (List.pairwise_singleton _ _)
    refine ⟨Z, ?_, by simpa using e2, e3⟩
    rw [← e1]
    congr 1
    · simp only [List.length_cons, List.length_nil]; omega

theorem wu64 {n : Int} (h1 : 0 ≤ n) (h2 : n < 18446744073709551616) : IntKind.wrap .u64 n = n := by
  simp only [IntKind.wrap, IntKind.bits, IntKind.signed]
  simp
  omega

theorem half_is {i j : Nat} (h : i + j < 1000000) : IntKind.wrap .i64 (Int.fdiv (IntKind.wrap .u64 (IntKind.wrap .i64 ((i : Int) + (j : Int)))) 2) = (((i + j) / 2 : Nat) : Int) := by
  rw [w64 (n := (i : Int) + (j : Int)) (by omega) (by omega), wu64 (n := (i : Int) + (j : Int)) (by omega) (by omega), Int.fdiv_eq_ediv_of_nonneg _ (by decide), show ((i : Int) + (j : Int)) / 2 = (((i + j) / 2 : Nat) : Int) by omega, w64 (by omega) (by omega)]

/-- Two places change what they hold. -/
theorem swp_two {α : Type} {P R Q : List α} {x y d : α} {n m : Nat} (hn : n = P.length) (hm : m = P.length + 1 + R.length) :
    (P ++ x :: (R ++ y :: Q)).getD n d = x ∧ (P ++ x :: (R ++ y :: Q)).getD m d = y ∧ ((P ++ x :: (R ++ y :: Q)).set n y).set m x = P ++ y :: (R ++ x :: Q) ∧ ((P ++ x :: (R ++ y :: Q)).set m x).set n y = P ++ y :: (R ++ x :: Q) := by
  have e : ∀ (u v : α), P ++ u :: (R ++ v :: Q) = (P ++ u :: R) ++ v :: Q := fun u v => by simp
  have hl : m = (P ++ x :: R).length := by simp; omega
  have hl2 : m = (P ++ y :: R).length := by simp; omega
  refine ⟨get_mid hn, ?_, ?_, ?_⟩
  · rw [e, get_mid hl]
  · rw [set_mid hn, e, set_mid hl2, ← e]
  · rw [e, set_mid hl, ← e, set_mid hn]

theorem swap_loop {K n a b : Nat} : ∀ (X Y P M Q : List Sp) (i k : Nat), X.length = Y.length → X.length < k → i + X.length = n → a + i = P.length → b + i = P.length + X.length + M.length → P.length + X.length + M.length + Y.length + Q.length ≤ 100000 →
    slices_swapRangeCmpFunc_rgggcspansrowsorted1.l0 K (n : Int) (b : Int) (a : Int) k (P ++ (X ++ (M ++ (Y ++ Q)))) (i : Int) = some (P ++ (Y ++ (M ++ (X ++ Q))))
  | [], Y, P, M, Q, i, k, hxy, hk, hn, ha, hb, hl => by
    obtain ⟨k, rfl⟩ : ∃ m, k = m + 1 := ⟨k - 1, by omega⟩
    have : Y = [] := List.eq_nil_of_length_eq_zero hxy.symm
    subst this
    rw [slices_swapRangeCmpFunc_rgggcspansrowsorted1.l0, if_neg (by simp at hn ⊢; omega)]
  | x :: X, [], P, M, Q, i, k, hxy, hk, hn, ha, hb, hl => by simp at hxy
  | x :: X, y :: Y, P, M, Q, i, k, hxy, hk, hn, ha, hb, hl => by
    obtain ⟨k, rfl⟩ : ∃ m, k = m + 1 := ⟨k - 1, by omega⟩
    simp only [List.length_cons] at hxy hk hn hb hl
    have hwa : IntKind.wrap .i64 ((a : Int) + (i : Int)) = ((a + i : Nat) : Int) := by rw [w64 (by omega) (by omega)]; omega
    have hwb : IntKind.wrap .i64 ((b : Int) + (i : Int)) = ((b + i : Nat) : Int) := by rw [w64 (by omega) (by omega)]; omega
    have hwi : IntKind.wrap .i64 ((i : Int) + 1) = ((i + 1 : Nat) : Int) := by rw [w64 (by omega) (by omega)]; omega
    have eD : P ++ (x :: X ++ (M ++ (y :: Y ++ Q))) = P ++ x :: ((X ++ M) ++ y :: (Y ++ Q)) := by simp
    obtain ⟨g1, g2, g3, -⟩ := swp_two (P := P) (R := X ++ M) (Q := Y ++ Q) (x := x) (y := y) (d := sp0) (n := a + i) (m := b + i) ha (by simp; omega)
    have hDl : (P ++ x :: ((X ++ M) ++ y :: (Y ++ Q))).length = P.length + X.length + M.length + Y.length + Q.length + 2 := by simp; omega
    rw [eD, slices_swapRangeCmpFunc_rgggcspansrowsorted1.l0, if_pos (by simp; omega)]
    simp only [hwa, hwb, hwi, Int.toNat_natCast, g1, g2, eta3, List.length_set]
    rw [if_pos ⟨by omega, by omega, by omega, by omega, by omega⟩, g3]
    have := swap_loop (K := K) (n := n) (a := a) (b := b) X Y (P ++ [y]) (M ++ [x]) Q (i + 1) k (by omega) (by omega) (by omega) (by simp; omega) (by simp; omega) (by simp; omega)
    simp only [List.append_assoc, List.cons_append, List.nil_append] at this ⊢
    exact this

theorem swap_is {K : Nat} {X Y P M Q : List Sp} {n a b : Nat} (hK : 100000 < K) (hxy : X.length = Y.length) (hn : n = X.length) (ha : a = P.length) (hb : b = P.length + X.length + M.length) (hl : P.length + X.length + M.length + Y.length + Q.length ≤ 100000) :
    slices_swapRangeCmpFunc_rgggcspansrowsorted1 K (P ++ (X ++ (M ++ (Y ++ Q)))) (a : Int) (b : Int) (n : Int) = some (P ++ (Y ++ (M ++ (X ++ Q)))) := by
  unfold slices_swapRangeCmpFunc_rgggcspansrowsorted1
  exact swap_loop X Y P M Q 0 K hxy (by omega) (by omega) (by omega) (by omega) hl

theorem rot_loop {K m : Nat} (hK : 100000 < K) : ∀ (s k : Nat) (X Y P Q : List Sp), X.length + Y.length ≤ s → s < k → 0 < X.length → 0 < Y.length → P.length + X.length = m → P.length + X.length + Y.length + Q.length ≤ 100000 →
    ∃ P' X' Y' Q', slices_rotateCmpFunc_rgggcspansrowsorted1.l0 K (m : Int) k (P ++ (X ++ (Y ++ Q))) (X.length : Int) (Y.length : Int) = some (P' ++ (X' ++ (Y' ++ Q')), (X'.length : Int)) ∧ Y'.length = X'.length ∧ P'.length + X'.length = m ∧
      P'.length + X'.length + Y'.length + Q'.length ≤ 100000 ∧ P' ++ (Y' ++ (X' ++ Q')) = P ++ (Y ++ (X ++ Q))
  | 0, k, X, Y, P, Q, hs, hk, hx, hy, hm, hl => by omega
  | s + 1, k, X, Y, P, Q, hs, hk, hx, hy, hm, hl => by
    obtain ⟨k, rfl⟩ : ∃ m, k = m + 1 := ⟨k - 1, by omega⟩
    have hw1 : IntKind.wrap .i64 ((m : Int) - (X.length : Int)) = (P.length : Int) := by rw [w64 (by omega) (by omega)]; omega
    rw [slices_rotateCmpFunc_rgggcspansrowsorted1.l0]
    by_cases h : X.length = Y.length
    · rw [if_neg (by simp [h])]
      exact ⟨P, X, Y, Q, rfl, h.symm, hm, hl, rfl⟩
    · rw [if_pos (by simp; omega)]
      by_cases h2 : X.length > Y.length
      · have hs1 : (X.take Y.length).length = Y.length := by simp; omega
        have hs2 : (X.drop Y.length).length = X.length - Y.length := by simp
        have hsw := swap_is (K := K) (X := X.take Y.length) (Y := Y) (P := P) (M := X.drop Y.length) (Q := Q) (n := Y.length) (a := P.length) (b := m) hK (by omega) (by omega) rfl (by omega) (by omega)
        rw [← List.append_assoc (X.take Y.length) (X.drop Y.length), List.take_append_drop] at hsw
        have hw2 : IntKind.wrap .i64 ((X.length : Int) - (Y.length : Int)) = ((X.drop Y.length).length : Int) := by rw [w64 (by omega) (by omega)]; omega
        rw [if_pos (by simp; omega), hw1, hsw, Option.bind_some, hw2]
        obtain ⟨P', X', Y', Q', e1, e2, e3, e4, e5⟩ := rot_loop (K := K) (m := m) hK s k (X.drop Y.length) (X.take Y.length) (P ++ Y) Q (by omega) (by omega) (by omega) (by omega) (by simp only [List.length_append]; omega) (by simp only [List.length_append]; omega)
        refine ⟨P', X', Y', Q', ?_, e2, e3, e4, ?_⟩
        · rw [← e1, hs1]; simp
        · rw [e5, ← List.append_assoc (X.take Y.length) (X.drop Y.length) Q, List.take_append_drop, List.append_assoc]
      · have hs1 : (Y.take (Y.length - X.length)).length = Y.length - X.length := by simp
        have hs2 : (Y.drop (Y.length - X.length)).length = X.length := by simp; omega
        have hw2 : IntKind.wrap .i64 ((Y.length : Int) - (X.length : Int)) = ((Y.take (Y.length - X.length)).length : Int) := by rw [w64 (by omega) (by omega)]; omega
        have hw3 : IntKind.wrap .i64 (IntKind.wrap .i64 ((m : Int) + (Y.length : Int)) - (X.length : Int)) = ((m + (Y.length - X.length) : Nat) : Int) := by rw [w64 (n := (m : Int) + (Y.length : Int)) (by omega) (by omega), w64 (by omega) (by omega)]; omega
        have hsw := swap_is (K := K) (X := X) (Y := Y.drop (Y.length - X.length)) (P := P) (M := Y.take (Y.length - X.length)) (Q := Q) (n := X.length) (a := P.length) (b := m + (Y.length - X.length)) hK (by omega) rfl rfl (by omega) (by omega)
        rw [← List.append_assoc (Y.take (Y.length - X.length)) (Y.drop (Y.length - X.length)), List.take_append_drop] at hsw
        rw [if_neg (by simp; omega), hw1, hw3, hsw, Option.bind_some, hw2]
        obtain ⟨P', X', Y', Q', e1, e2, e3, e4, e5⟩ := rot_loop (K := K) (m := m) hK s k (Y.drop (Y.length - X.length)) (Y.take (Y.length - X.length)) P (X ++ Q) (by omega) (by omega) (by omega) (by omega) (by omega) (by simp only [List.length_append]; omega)
        refine ⟨P', X', Y', Q', ?_, e2, e3, e4, ?_⟩
        · rw [← e1, hs2]
        · rw [e5, ← List.append_assoc (Y.take _) (Y.drop _), List.take_append_drop]

theorem rot_is {K : Nat} {X Y P Q : List Sp} {a m b : Nat} (hK : 100000 < K) (hx : 0 < X.length) (hy : 0 < Y.length) (ha : a = P.length) (hm : m = P.length + X.length) (hb : b = P.length + X.length + Y.length) (hl : P.length + X.length + Y.length + Q.length ≤ 90000) :
    slices_rotateCmpFunc_rgggcspansrowsorted1 K (P ++ (X ++ (Y ++ Q))) (a : Int) (m : Int) (b : Int) = some (P ++ (Y ++ (X ++ Q))) := by
  subst ha hb
  unfold slices_rotateCmpFunc_rgggcspansrowsorted1
  have hw1 : IntKind.wrap .i64 ((m : Int) - ((P.length : Nat) : Int)) = (X.length : Int) := by rw [w64 (by omega) (by omega)]; omega
  have hw2 : IntKind.wrap .i64 (((P.length + X.length + Y.length : Nat) : Int) - (m : Int)) = (Y.length : Int) := by rw [w64 (by omega) (by omega)]; omega
  obtain ⟨P', X', Y', Q', e1, e2, e3, e4, e5⟩ := rot_loop (K := K) (m := m) hK (X.length + Y.length) K X Y P Q (by omega) (by omega) hx hy hm.symm (by omega)
  rw [hw1, hw2, e1, Option.bind_some]
  simp only
  have hw3 : IntKind.wrap .i64 ((m : Int) - (X'.length : Int)) = (P'.length : Int) := by rw [w64 (by omega) (by omega)]; omega
  have := swap_is (K := K) (X := X') (Y := Y') (P := P') (M := []) (Q := Q') (n := X'.length) (a := P'.length) (b := m) hK e2.symm rfl rfl (by simp; omega) (by simp; omega)
  rw [List.nil_append, List.nil_append] at this
  rw [hw3, this, Option.bind_some, e5]

/-- Searched by halves. -/
def bs (p : Nat → Bool) : Nat → Nat → Nat → Option Nat
  | 0, _, _ => none
  | k + 1, i, j => if i < j then (if p ((i + j) / 2) = true then bs p k ((i + j) / 2 + 1) j else bs p k i ((i + j) / 2)) else some i

theorem bs_is {p : Nat → Bool} : ∀ (k i j : Nat), j - i < k → i ≤ j → ∃ r, bs p k i j = some r ∧ i ≤ r ∧ r ≤ j ∧ (r = i ∨ p (r - 1) = true) ∧ (r = j ∨ p r = false)
  | 0, i, j, h, _ => by omega
  | k + 1, i, j, h, hij => by
    rw [bs]
    by_cases h1 : i < j
    · rw [if_pos h1]
      by_cases h2 : p ((i + j) / 2) = true
      · rw [if_pos h2]
        obtain ⟨r, e1, e2, e3, e4, e5⟩ := bs_is k ((i + j) / 2 + 1) j (by omega) (by omega)
        refine ⟨r, e1, by omega, e3, ?_, e5⟩
        rcases e4 with e4 | e4
        · right; rw [e4]; exact h2
        · right; exact e4
      · rw [if_neg h2]
        obtain ⟨r, e1, e2, e3, e4, e5⟩ := bs_is k i ((i + j) / 2) (by omega) (by omega)
        refine ⟨r, e1, e2, by omega, e4, ?_⟩
        rcases e5 with e5 | e5
        · right; rw [e5]; simpa using h2
        · right; exact e5
    · rw [if_neg h1]
      exact ⟨i, rfl, Nat.le_refl _, hij, .inl rfl, .inl (by omega)⟩

theorem cmp3 {K : Nat} {a b : Sp} {R : Type} {F : Int → Option R} {G : Bool → Option R} (h : ∀ c, F c = G (decide (c < 0))) : (spans_row_sorted_1 K a.1 a.2.1 a.2.2 b.1 b.2.1 b.2.2).bind F = G (ltS a b) := by
  obtain ⟨c, e1, e2⟩ := cmpS_is (K := K) (a := a) (b := b)
  rw [e1, Option.bind_some, h, e2]

theorem sym0_is {K a : Nat} {D : List Sp} (ha : a < D.length) (hD : D.length ≤ 100000) : ∀ (k i j : Nat), i ≤ j → j ≤ D.length → slices_symMergeCmpFunc_rgggcspansrowsorted1.l0 K D (a : Int) k (i : Int) (j : Int) = (bs (fun h => ltS (D.getD h sp0) (D.getD a sp0)) k i j).map (fun n : Nat => (n : Int))
  | 0, i, j, hij, hj => rfl
  | k + 1, i, j, hij, hj => by
    rw [slices_symMergeCmpFunc_rgggcspansrowsorted1.l0, bs]
    by_cases h : i < j
    · have hw : IntKind.wrap .i64 ((((i + j) / 2 : Nat) : Int) + 1) = (((i + j) / 2 + 1 : Nat) : Int) := by rw [w64 (by omega) (by omega)]; omega
      rw [if_pos (by simp; omega), if_pos h]
      simp only [half_is (i := i) (j := j) (by omega), Int.toNat_natCast, hw]
      rw [cmp3 (G := fun b => if b = true then slices_symMergeCmpFunc_rgggcspansrowsorted1.l0 K D (a : Int) k (((i + j) / 2 + 1 : Nat) : Int) (j : Int) else slices_symMergeCmpFunc_rgggcspansrowsorted1.l0 K D (a : Int) k (i : Int) (((i + j) / 2 : Nat) : Int)) (fun c => by rw [if_pos ⟨by omega, by omega, by omega, by omega⟩])]
      rw [sym0_is ha hD k _ _ (by omega) hj, sym0_is ha hD k _ _ (by omega) (by omega)]
      split <;> rfl
    · rw [if_neg (by simp; omega), if_neg h]; rfl

theorem sym2_is {K m : Nat} {D : List Sp} (hm : m < D.length) (hD : D.length ≤ 100000) : ∀ (k i j : Nat), i ≤ j → j ≤ D.length → slices_symMergeCmpFunc_rgggcspansrowsorted1.l2 K D (m : Int) k (i : Int) (j : Int) = (bs (fun h => !ltS (D.getD m sp0) (D.getD h sp0)) k i j).map (fun n : Nat => (n : Int))
  | 0, i, j, hij, hj => rfl
  | k + 1, i, j, hij, hj => by
    rw [slices_symMergeCmpFunc_rgggcspansrowsorted1.l2, bs]
    by_cases h : i < j
    · have hw : IntKind.wrap .i64 ((((i + j) / 2 : Nat) : Int) + 1) = (((i + j) / 2 + 1 : Nat) : Int) := by rw [w64 (by omega) (by omega)]; omega
      rw [if_pos (by simp; omega), if_pos h]
      simp only [half_is (i := i) (j := j) (by omega), Int.toNat_natCast, hw]
      rw [cmp3 (G := fun b => if (!b) = true then slices_symMergeCmpFunc_rgggcspansrowsorted1.l2 K D (m : Int) k (((i + j) / 2 + 1 : Nat) : Int) (j : Int) else slices_symMergeCmpFunc_rgggcspansrowsorted1.l2 K D (m : Int) k (i : Int) (((i + j) / 2 : Nat) : Int)) (fun c => by rw [if_pos ⟨by omega, by omega, by omega, by omega⟩])]
      rw [sym2_is hm hD k _ _ (by omega) hj, sym2_is hm hD k _ _ (by omega) (by omega)]
      split <;> rfl
    · rw [if_neg (by simp; omega), if_neg h]; rfl

theorem sym4_is {K a b m : Nat} {D : List Sp} (hab : a + b < 1000000) (hm : m ≤ 1000000) (hD : D.length ≤ 100000) : ∀ (k i j : Nat), i ≤ j → j ≤ D.length → (∀ c, i ≤ c → c < j → c + 1 ≤ (a + b) / 2 + m ∧ (a + b) / 2 + m - 1 - c < D.length) →
    slices_symMergeCmpFunc_rgggcspansrowsorted1.l4 K D (a : Int) (b : Int) (m : Int) k (i : Int) (j : Int) = (bs (fun h => !ltS (D.getD ((a + b) / 2 + m - 1 - h) sp0) (D.getD h sp0)) k i j).map (fun n : Nat => (n : Int))
  | 0, i, j, hij, hj, hc => rfl
  | k + 1, i, j, hij, hj, hc => by
    rw [slices_symMergeCmpFunc_rgggcspansrowsorted1.l4, bs]
    by_cases h : i < j
    · have hw : IntKind.wrap .i64 ((((i + j) / 2 : Nat) : Int) + 1) = (((i + j) / 2 + 1 : Nat) : Int) := by rw [w64 (by omega) (by omega)]; omega
      have hc1 := hc ((i + j) / 2) (by omega) (by omega)
      have hw2 : IntKind.wrap .i64 (IntKind.wrap .i64 (IntKind.wrap .i64 ((((a + b) / 2 : Nat) : Int) + (m : Int)) - 1) - (((i + j) / 2 : Nat) : Int)) = (((a + b) / 2 + m - 1 - (i + j) / 2 : Nat) : Int) := by
        rw [w64 (n := (((a + b) / 2 : Nat) : Int) + (m : Int)) (by omega) (by omega), w64 (n := (((a + b) / 2 : Nat) : Int) + (m : Int) - 1) (by omega) (by omega), w64 (by omega) (by omega)]
        omega
      rw [if_pos (by simp; omega), if_pos h]
      simp only [half_is (i := i) (j := j) (by omega), half_is (i := a) (j := b) hab, Int.toNat_natCast, hw, hw2]
      rw [cmp3 (G := fun q => if (!q) = true then slices_symMergeCmpFunc_rgggcspansrowsorted1.l4 K D (a : Int) (b : Int) (m : Int) k (((i + j) / 2 + 1 : Nat) : Int) (j : Int) else slices_symMergeCmpFunc_rgggcspansrowsorted1.l4 K D (a : Int) (b : Int) (m : Int) k (i : Int) (((i + j) / 2 : Nat) : Int)) (fun c => by rw [if_pos ⟨by omega, by omega, by omega, by omega⟩])]
      rw [sym4_is hab hm hD k _ _ (by omega) hj (fun c h1 h2 => hc c (by omega) h2), sym4_is hab hm hD k _ _ (by omega) (by omega) (fun c h1 h2 => hc c h1 (by omega))]
      split <;> rfl
    · rw [if_neg (by simp; omega), if_neg h]; rfl

theorem sym1_is {K i : Nat} {x : Sp} : ∀ (B P R : List Sp) (k : Nat), B.length < k → i = P.length + 1 + B.length → P.length + B.length + R.length ≤ 90000 →
    slices_symMergeCmpFunc_rgggcspansrowsorted1.l1 K (i : Int) k (P ++ x :: (B ++ R)) (P.length : Int) = some (P ++ (B ++ x :: R))
  | [], P, R, k, hk, hi, hl => by
    obtain ⟨k, rfl⟩ : ∃ m, k = m + 1 := ⟨k - 1, by omega⟩
    have hw : IntKind.wrap .i64 ((i : Int) - 1) = (P.length : Int) := by simp at hi; rw [w64 (by omega) (by omega)]; omega
    rw [slices_symMergeCmpFunc_rgggcspansrowsorted1.l1, hw, if_neg (by simp)]
    rfl
  | y :: B, P, R, k, hk, hi, hl => by
    obtain ⟨k, rfl⟩ : ∃ m, k = m + 1 := ⟨k - 1, by omega⟩
    simp only [List.length_cons] at hk hi hl
    have hw : IntKind.wrap .i64 ((i : Int) - 1) = ((P.length + 1 + B.length : Nat) : Int) := by rw [w64 (by omega) (by omega)]; omega
    have hw2 : IntKind.wrap .i64 ((P.length : Int) + 1) = ((P.length + 1 : Nat) : Int) := by rw [w64 (by omega) (by omega)]; omega
    obtain ⟨g1, g2, g3, -⟩ := swp_two (P := P) (R := []) (Q := B ++ R) (x := x) (y := y) (d := sp0) (n := P.length) (m := P.length + 1) rfl (by simp)
    simp only [List.nil_append] at g1 g2 g3
    have hDl : (P ++ x :: y :: (B ++ R)).length = P.length + B.length + R.length + 2 := by simp; omega
    rw [List.cons_append, slices_symMergeCmpFunc_rgggcspansrowsorted1.l1, hw, if_pos (by simp; omega)]
    simp only [hw2, Int.toNat_natCast, g1, g2, eta3, List.length_set]
    rw [if_pos ⟨by omega, by omega, by omega, by omega, by omega⟩, g3]
    have := sym1_is (K := K) (i := i) (x := x) B (P ++ [y]) R k (by omega) (by simp; omega) (by simp; omega)
    simp only [List.append_assoc, List.cons_append, List.nil_append, List.length_append, List.length_singleton] at this ⊢
    exact this

theorem sym3_is {K i : Nat} {x : Sp} {P : List Sp} (hi : i = P.length) : ∀ (n : Nat) (A R : List Sp) (k : Nat), A.length = n → n < k → P.length + A.length + R.length ≤ 90000 →
    slices_symMergeCmpFunc_rgggcspansrowsorted1.l3 K (i : Int) k (P ++ (A ++ x :: R)) ((P.length + A.length : Nat) : Int) = some (P ++ x :: (A ++ R))
  | 0, A, R, k, hn, hk, hl => by
    obtain ⟨k, rfl⟩ : ∃ m, k = m + 1 := ⟨k - 1, by omega⟩
    have : A = [] := List.eq_nil_of_length_eq_zero hn
    subst this
    rw [slices_symMergeCmpFunc_rgggcspansrowsorted1.l3, if_neg (by simp; omega)]
    rfl
  | n + 1, A, R, k, hn, hk, hl => by
    obtain ⟨k, rfl⟩ : ∃ m, k = m + 1 := ⟨k - 1, by omega⟩
    obtain ⟨A', y, rfl⟩ := split_last (l := A) (by intro e; rw [e] at hn; simp at hn)
    rw [List.length_append, List.length_singleton] at hn hl
    have hw2 : IntKind.wrap .i64 (((P.length + (A'.length + 1) : Nat) : Int) - 1) = ((P.length + A'.length : Nat) : Int) := by rw [w64 (by omega) (by omega)]; omega
    have eD : P ++ ((A' ++ [y]) ++ x :: R) = (P ++ A') ++ y :: x :: R := by simp
    obtain ⟨g1, g2, -, g3⟩ := swp_two (P := P ++ A') (R := []) (Q := R) (x := y) (y := x) (d := sp0) (n := P.length + A'.length) (m := P.length + (A'.length + 1)) (by simp) (by simp; omega)
    simp only [List.nil_append] at g1 g2 g3
    have hDl : ((P ++ A') ++ y :: x :: R).length = P.length + A'.length + R.length + 2 := by simp; omega
    rw [List.length_append, List.length_singleton, eD, slices_symMergeCmpFunc_rgggcspansrowsorted1.l3, if_pos (by simp; omega)]
    simp only [hw2, Int.toNat_natCast, g1, g2, eta3, List.length_set]
    rw [if_pos ⟨by omega, by omega, by omega, by omega, by omega⟩, g3]
    have := sym3_is (K := K) (i := i) (x := x) (P := P) hi n A' (y :: R) k (by omega) (by omega) (by simp; omega)
    simp only [List.append_assoc, List.cons_append, List.nil_append] at this ⊢
    exact this

theorem getD_app2 {α : Type} {P A R : List α} {d : α} {n i : Nat} (h1 : n = P.length + i) (h2 : i < A.length) : (P ++ (A ++ R)).getD n d = A.getD i d := by
  subst h1
  rw [List.getD_eq_getElem?_getD, List.getElem?_append_right (by omega), show P.length + i - P.length = i by omega, List.getElem?_append_left h2, ← List.getD_eq_getElem?_getD]

theorem srt_get {l : List Sp} (h : Srt l) {i j : Nat} (hij : i < j) (hj : j < l.length) : leS (l.getD i sp0) (l.getD j sp0) := by
  have := List.pairwise_iff_getElem.1 h i j (by omega) hj hij
  simpa [List.getD, List.getElem?_eq_getElem hj, List.getElem?_eq_getElem (show i < l.length by omega)] using this

theorem leS_refl (a : Sp) : leS a a := by unfold leS ltS; simp

theorem mem_take_get {l : List Sp} {n : Nat} {x : Sp} (h : x ∈ l.take n) : ∃ i, i < n ∧ i < l.length ∧ l.getD i sp0 = x := by
  obtain ⟨i, hi, rfl⟩ := List.mem_iff_getElem.1 h
  rw [List.length_take] at hi
  exact ⟨i, by omega, by omega, by rw [List.getElem_take]; simp [List.getD, List.getElem?_eq_getElem (show i < l.length by omega)]⟩

theorem mem_drop_get {l : List Sp} {n : Nat} {x : Sp} (h : x ∈ l.drop n) : ∃ i, n ≤ i ∧ i < l.length ∧ l.getD i sp0 = x := by
  obtain ⟨i, hi, rfl⟩ := List.mem_iff_getElem.1 h
  rw [List.length_drop] at hi
  exact ⟨n + i, by omega, by omega, by rw [List.getElem_drop]; simp [List.getD, List.getElem?_eq_getElem (show n + i < l.length by omega)]⟩

theorem srt_take {l : List Sp} (h : Srt l) (n : Nat) : Srt (l.take n) := h.sublist (List.take_sublist _ _)

theorem srt_drop {l : List Sp} (h : Srt l) (n : Nat) : Srt (l.drop n) := h.sublist (List.drop_sublist _ _)

theorem ltS_leS {a b c : Sp} (h1 : ltS a b = true) (h2 : leS b c) : ltS a c = true := by
  unfold leS ltS at *
  rw [decide_eq_false_iff_not] at h2
  rw [decide_eq_true_eq] at h1 ⊢
  omega

theorem leS_ltS {a b c : Sp} (h1 : leS a b) (h2 : ltS b c = true) : ltS a c = true := by
  unfold leS ltS at *
  rw [decide_eq_false_iff_not] at h1
  rw [decide_eq_true_eq] at h2 ⊢
  omega

theorem perm_ins {α : Type} {x : α} {A B : List α} : (A ++ x :: B).Perm (x :: (A ++ B)) := List.perm_middle

theorem srt_ins {x : Sp} {A B : List Sp} (h : Srt (A ++ B)) (h1 : ∀ y ∈ A, leS y x) (h2 : ∀ y ∈ B, leS x y) : Srt (A ++ x :: B) := by
  have h' := List.pairwise_append.1 h
  refine List.pairwise_append.2 ⟨h'.1, List.pairwise_cons.2 ⟨h2, h'.2.1⟩, fun a ha b hb => ?_⟩
  rcases List.mem_cons.1 hb with rfl | hb
  · exact h1 a ha
  · exact h'.2.2 a ha b hb

/-- One ahead of a sorted part. -/
theorem one_ahead {K k : Nat} {x : Sp} {B P Q : List Sp} (hK : 100000 < K) (hB : 0 < B.length) (hl : P.length + 1 + B.length + Q.length ≤ 80000) (hs : Srt B) :
    ∃ Z, slices_symMergeCmpFunc_rgggcspansrowsorted1.f K (k + 1) (P ++ (([x] : List Sp) ++ (B ++ Q))) (P.length : Int) ((P.length + 1 : Nat) : Int) ((P.length + 1 + B.length : Nat) : Int) = some (P ++ (Z ++ Q)) ∧ Z.Perm ([x] ++ B) ∧ Srt Z := by
  have hw : IntKind.wrap .i64 (((P.length + 1 : Nat) : Int) - ((P.length : Nat) : Int)) = 1 := by rw [w64 (by omega) (by omega)]; omega
  have hDl : (P ++ (([x] : List Sp) ++ (B ++ Q))).length = P.length + 1 + B.length + Q.length := by simp; omega
  rw [slices_symMergeCmpFunc_rgggcspansrowsorted1.f, hw, if_pos (by simp), sym0_is (by omega) (by omega) K (P.length + 1) (P.length + 1 + B.length) (by omega) (by omega)]
  obtain ⟨r, e1, e2, e3, e4, e5⟩ := bs_is (p := fun h => ltS ((P ++ (([x] : List Sp) ++ (B ++ Q))).getD h sp0) ((P ++ (([x] : List Sp) ++ (B ++ Q))).getD P.length sp0)) K (P.length + 1) (P.length + 1 + B.length) (by omega) (by omega)
  have gx : (P ++ (([x] : List Sp) ++ (B ++ Q))).getD P.length sp0 = x := get_mid rfl
  have gb : ∀ i, i < B.length → (P ++ (([x] : List Sp) ++ (B ++ Q))).getD (P.length + 1 + i) sp0 = B.getD i sp0 := fun i hi => by
    have : P ++ (([x] : List Sp) ++ (B ++ Q)) = (P ++ [x]) ++ (B ++ Q) := by simp
    rw [this]; exact getD_app2 (by simp) hi
  rw [e1, Option.map_some, Option.bind_some]
  have h1 : ∀ y ∈ B.take (r - (P.length + 1)), leS y x := by
    intro y hy
    obtain ⟨i, i1, i2, rfl⟩ := mem_take_get hy
    rcases e4 with e4 | e4
    · omega
    · simp only [gx] at e4
      rw [show r - 1 = P.length + 1 + (r - (P.length + 1) - 1) by omega, gb _ (by omega)] at e4
      refine ltS_le ?_
      rcases Nat.lt_or_ge i (r - (P.length + 1) - 1) with h | h
      · exact leS_ltS (srt_get hs h (by omega)) e4
      · rw [show i = r - (P.length + 1) - 1 by omega]; exact e4
  have h2 : ∀ y ∈ B.drop (r - (P.length + 1)), leS x y := by
    intro y hy
    obtain ⟨i, i1, i2, rfl⟩ := mem_drop_get hy
    rcases e5 with e5 | e5
    · omega
    · simp only [gx] at e5
      rw [show r = P.length + 1 + (r - (P.length + 1)) by omega, gb _ (by omega)] at e5
      rcases Nat.lt_or_ge (r - (P.length + 1)) i with h | h
      · exact leS_trans e5 (srt_get hs h (by omega))
      · rw [show i = r - (P.length + 1) by omega]; exact e5
  refine ⟨B.take (r - (P.length + 1)) ++ x :: B.drop (r - (P.length + 1)), ?_, ?_, srt_ins (by rw [List.take_append_drop]; exact hs) h1 h2⟩
  · have hm := sym1_is (K := K) (i := r) (x := x) (B.take (r - (P.length + 1))) P (B.drop (r - (P.length + 1)) ++ Q) K (by rw [List.length_take]; omega) (by rw [List.length_take]; omega) (by simp only [List.length_append, List.length_take, List.length_drop]; omega)
    rw [← List.append_assoc (B.take _) (B.drop _) Q, List.take_append_drop] at hm
    rw [List.cons_append, List.nil_append, hm]
    simp
  · refine perm_ins.trans ?_
    rw [List.take_append_drop]; exact List.Perm.refl _

/-- One behind a sorted part. -/
theorem one_behind {K k : Nat} {x : Sp} {A P Q : List Sp} (hK : 100000 < K) (hA : 1 < A.length) (hl : P.length + A.length + 1 + Q.length ≤ 80000) (hs : Srt A) :
    ∃ Z, slices_symMergeCmpFunc_rgggcspansrowsorted1.f K (k + 1) (P ++ (A ++ (([x] : List Sp) ++ Q))) (P.length : Int) ((P.length + A.length : Nat) : Int) ((P.length + A.length + 1 : Nat) : Int) = some (P ++ (Z ++ Q)) ∧ Z.Perm (A ++ [x]) ∧ Srt Z := by
  have hw : IntKind.wrap .i64 (((P.length + A.length : Nat) : Int) - ((P.length : Nat) : Int)) = (A.length : Int) := by rw [w64 (by omega) (by omega)]; omega
  have hw2 : IntKind.wrap .i64 (((P.length + A.length + 1 : Nat) : Int) - ((P.length + A.length : Nat) : Int)) = 1 := by rw [w64 (by omega) (by omega)]; omega
  have hDl : (P ++ (A ++ (([x] : List Sp) ++ Q))).length = P.length + A.length + 1 + Q.length := by simp; omega
  rw [slices_symMergeCmpFunc_rgggcspansrowsorted1.f, hw, if_neg (by simp; omega), hw2, if_pos (by simp), sym2_is (by omega) (by omega) K P.length (P.length + A.length) (by omega) (by omega)]
  obtain ⟨r, e1, e2, e3, e4, e5⟩ := bs_is (p := fun h => !ltS ((P ++ (A ++ (([x] : List Sp) ++ Q))).getD (P.length + A.length) sp0) ((P ++ (A ++ (([x] : List Sp) ++ Q))).getD h sp0)) K P.length (P.length + A.length) (by omega) (by omega)
  have gx : (P ++ (A ++ (([x] : List Sp) ++ Q))).getD (P.length + A.length) sp0 = x := by
    rw [← List.append_assoc]; exact get_mid (by simp)
  have ga : ∀ i, i < A.length → (P ++ (A ++ (([x] : List Sp) ++ Q))).getD (P.length + i) sp0 = A.getD i sp0 := fun i hi => getD_app2 rfl hi
  rw [e1, Option.map_some, Option.bind_some]
  have h1 : ∀ y ∈ A.take (r - P.length), leS y x := by
    intro y hy
    obtain ⟨i, i1, i2, rfl⟩ := mem_take_get hy
    rcases e4 with e4 | e4
    · omega
    · simp only [gx] at e4
      rw [show r - 1 = P.length + (r - P.length - 1) by omega, ga _ (by omega), Bool.not_eq_true'] at e4
      rcases Nat.lt_or_ge i (r - P.length - 1) with h | h
      · exact leS_trans (srt_get hs h (by omega)) e4
      · rw [show i = r - P.length - 1 by omega]; exact e4
  have h2 : ∀ y ∈ A.drop (r - P.length), leS x y := by
    intro y hy
    obtain ⟨i, i1, i2, rfl⟩ := mem_drop_get hy
    rcases e5 with e5 | e5
    · omega
    · simp only [gx] at e5
      rw [show r = P.length + (r - P.length) by omega, ga _ (by omega), Bool.not_eq_false'] at e5
      refine ltS_le ?_
      rcases Nat.lt_or_ge (r - P.length) i with h | h
      · exact ltS_leS e5 (srt_get hs h (by omega))
      · rw [show i = r - P.length by omega]; exact e5
  refine ⟨A.take (r - P.length) ++ x :: A.drop (r - P.length), ?_, ?_, srt_ins (by rw [List.take_append_drop]; exact hs) h1 h2⟩
  · have hm := sym3_is (K := K) (i := r) (x := x) (P := P ++ A.take (r - P.length)) (by simp only [List.length_append, List.length_take]; omega) _ (A.drop (r - P.length)) Q K rfl (by rw [List.length_drop]; omega) (by simp only [List.length_append, List.length_take, List.length_drop]; omega)
    rw [show (P ++ A.take (r - P.length)).length + (A.drop (r - P.length)).length = P.length + A.length by simp only [List.length_append, List.length_take, List.length_drop]; omega] at hm
    simp only [List.append_assoc] at hm
    rw [← List.append_assoc (A.take _) (A.drop _) (x :: Q), List.take_append_drop] at hm
    rw [List.cons_append, List.nil_append, hm]
    simp
  · refine perm_ins.trans ?_
    rw [List.take_append_drop]
    exact (List.perm_append_singleton x A).symm

theorem srt_app {A B : List Sp} (h1 : Srt A) (h2 : Srt B) (h : ∀ x ∈ A, ∀ y ∈ B, leS x y) : Srt (A ++ B) := List.pairwise_append.2 ⟨h1, h2, h⟩

/-- Where two sorted parts are parted, so that what is less comes ahead. -/
theorem sym_search {K mid : Nat} (hK : 100000 < K) {A B P Q : List Sp} (hmid : mid = (P.length + (P.length + A.length + B.length)) / 2) (hA : 0 < A.length) (hB : 0 < B.length) (hl : P.length + A.length + B.length + Q.length ≤ 80000) (sA : Srt A) (sB : Srt B) :
    ∃ lo hi r : Nat, (if (decide (((P.length + A.length : Nat) : Int) > (mid : Int))) = true then some (IntKind.wrap .i64 (((mid + (P.length + A.length) : Nat) : Int) - ((P.length + A.length + B.length : Nat) : Int)), (mid : Int)) else some ((P.length : Int), ((P.length + A.length : Nat) : Int))) = some ((lo : Int), (hi : Int)) ∧
      slices_symMergeCmpFunc_rgggcspansrowsorted1.l4 K (P ++ (A ++ (B ++ Q))) (P.length : Int) ((P.length + A.length + B.length : Nat) : Int) ((P.length + A.length : Nat) : Int) K (lo : Int) (hi : Int) = some (r : Int) ∧
      P.length ≤ r ∧ r ≤ P.length + A.length ∧ r ≤ mid ∧ mid + (P.length + A.length) ≤ r + (P.length + A.length + B.length) ∧
      (∀ x ∈ A.take (r - P.length), ∀ y ∈ B.drop (mid - r), leS x y) ∧ (∀ y ∈ B.take (mid - r), ∀ x ∈ A.drop (r - P.length), leS y x) := by
  have hDl : (P ++ (A ++ (B ++ Q))).length = P.length + A.length + B.length + Q.length := by simp; omega
  obtain ⟨lo, hi, hlh, hlo1, hhi1, hlo2, hhi2, hlo3, hhi3⟩ : ∃ lo hi : Nat, (if (decide (((P.length + A.length : Nat) : Int) > (mid : Int))) = true then some (IntKind.wrap .i64 (((mid + (P.length + A.length) : Nat) : Int) - ((P.length + A.length + B.length : Nat) : Int)), (mid : Int)) else some ((P.length : Int), ((P.length + A.length : Nat) : Int))) = some ((lo : Int), (hi : Int)) ∧
      P.length ≤ lo ∧ hi ≤ P.length + A.length ∧ mid + (P.length + A.length) ≤ lo + (P.length + A.length + B.length) ∧ hi ≤ mid ∧ (lo = P.length ∨ mid + (P.length + A.length) = lo + (P.length + A.length + B.length)) ∧ (hi = P.length + A.length ∨ hi = mid) := by
    by_cases h : P.length + A.length > mid
    · rw [if_pos (by simp; omega)]
      refine ⟨mid + (P.length + A.length) - (P.length + A.length + B.length), mid, ?_, by omega, by omega, by omega, by omega, .inr (by omega), .inr rfl⟩
      rw [w64 (by omega) (by omega)]
      congr 2; omega
    · rw [if_neg (by simp; omega)]
      exact ⟨P.length, P.length + A.length, rfl, by omega, by omega, by omega, by omega, .inl rfl, .inl rfl⟩
  have hlehi : lo ≤ hi := by omega
  have e0 := sym4_is (K := K) (a := P.length) (b := P.length + A.length + B.length) (m := P.length + A.length) (D := P ++ (A ++ (B ++ Q))) (by omega) (by omega) (by omega) K lo hi hlehi (by omega) (fun c h1 h2 => by omega)
  obtain ⟨r, e1, e2, e3, e4, e5⟩ := bs_is (p := fun h => !ltS ((P ++ (A ++ (B ++ Q))).getD ((P.length + (P.length + A.length + B.length)) / 2 + (P.length + A.length) - 1 - h) sp0) ((P ++ (A ++ (B ++ Q))).getD h sp0)) K lo hi (by omega) hlehi
  rw [e1, Option.map_some] at e0
  rw [← hmid] at e4 e5
  have ga : ∀ i, i < A.length → (P ++ (A ++ (B ++ Q))).getD (P.length + i) sp0 = A.getD i sp0 := fun i hi => getD_app2 rfl hi
  have gb : ∀ i, i < B.length → (P ++ (A ++ (B ++ Q))).getD (P.length + A.length + i) sp0 = B.getD i sp0 := fun i hi => by
    rw [← List.append_assoc]; exact getD_app2 (by simp) hi
  refine ⟨lo, hi, r, hlh, e0, by omega, by omega, by omega, by omega, ?_, ?_⟩
  · intro x hx y hy
    obtain ⟨i, i1, i2, rfl⟩ := mem_take_get hx
    obtain ⟨j, j1, j2, rfl⟩ := mem_drop_get hy
    rcases e4 with e4 | e4
    · omega
    · rw [show mid + (P.length + A.length) - 1 - (r - 1) = P.length + A.length + (mid - r) by omega, gb (mid - r) (by omega), show r - 1 = P.length + (r - P.length - 1) by omega, ga _ (by omega), Bool.not_eq_true'] at e4
      have h1 : leS (A.getD i sp0) (A.getD (r - P.length - 1) sp0) := by
        rcases Nat.lt_or_ge i (r - P.length - 1) with h | h
        · exact srt_get sA h (by omega)
        · rw [show i = r - P.length - 1 by omega]; exact leS_refl _
      have h2 : leS (B.getD (mid - r) sp0) (B.getD j sp0) := by
        rcases Nat.lt_or_ge (mid - r) j with h | h
        · exact srt_get sB h (by omega)
        · rw [show j = mid - r by omega]; exact leS_refl _
      exact leS_trans h1 (leS_trans e4 h2)
  · intro y hy x hx
    obtain ⟨i, i1, i2, rfl⟩ := mem_drop_get hx
    obtain ⟨j, j1, j2, rfl⟩ := mem_take_get hy
    rcases e5 with e5 | e5
    · omega
    · rw [show mid + (P.length + A.length) - 1 - r = P.length + A.length + (mid - r - 1) by omega, gb (mid - r - 1) (by omega), show r = P.length + (r - P.length) by omega, ga _ (by omega), Bool.not_eq_false'] at e5
      have h1 : leS (A.getD (r - P.length) sp0) (A.getD i sp0) := by
        rcases Nat.lt_or_ge (r - P.length) i with h | h
        · exact srt_get sA h (by omega)
        · rw [show i = r - P.length by omega]; exact leS_refl _
      have h2 : leS (B.getD j sp0) (B.getD (mid - r - 1) sp0) := by
        rcases Nat.lt_or_ge j (mid - r - 1) with h | h
        · exact srt_get sB h (by omega)
        · rw [show j = mid - r - 1 by omega]; exact leS_refl _
      refine leS_trans h2 (leS_trans (ltS_le ?_) h1)
      rw [show P.length + (r - P.length) = r by omega] at e5
      exact e5

theorem if_both {p q : Prop} [Decidable p] [Decidable q] : (if (decide p) = true then some (decide q) else some false) = some (decide (p ∧ q)) := by
  by_cases h : p
  · rw [if_pos (by simpa using h)]; simp [h]
  · rw [if_neg (by simpa using h)]; simp [h]

/-- The part between is turned. -/
theorem sym_turn {K : Nat} (hK : 100000 < K) {P A B Q : List Sp} {a m b : Nat} (ha : a = P.length) (hm : m = P.length + A.length) (hb : b = P.length + A.length + B.length) (hl : P.length + A.length + B.length + Q.length ≤ 90000) {D : List Sp} (hD : D = P ++ (A ++ (B ++ Q))) :
    ((if (decide ((a : Int) < (m : Int))) = true then some (decide ((m : Int) < (b : Int))) else some false).bind fun z => if z = true then (slices_rotateCmpFunc_rgggcspansrowsorted1 K D (a : Int) (m : Int) (b : Int)).bind (fun r_96 => some r_96) else some D) = some (P ++ (B ++ (A ++ Q))) := by
  subst hD
  rw [if_both, Option.bind_some]
  by_cases h : 0 < A.length ∧ 0 < B.length
  · rw [if_pos (by rw [decide_eq_true_eq]; omega), rot_is hK h.1 h.2 ha hm hb hl, Option.bind_some]
  · rw [if_neg (by rw [decide_eq_true_eq]; omega)]
    have : A = [] ∨ B = [] := by
      rcases Nat.eq_zero_or_pos A.length with h' | h'
      · exact .inl (List.eq_nil_of_length_eq_zero h')
      · exact .inr (List.eq_nil_of_length_eq_zero (by omega))
    rcases this with h' | h' <;> subst h' <;> simp

def MergesAt (K k : Nat) : Prop := ∀ (A B P Q : List Sp), 0 < A.length → 0 < B.length → A.length + B.length < k → P.length + A.length + B.length + Q.length ≤ 80000 → Srt A → Srt B →
    ∃ Z, slices_symMergeCmpFunc_rgggcspansrowsorted1.f K k (P ++ (A ++ (B ++ Q))) (P.length : Int) ((P.length + A.length : Nat) : Int) ((P.length + A.length + B.length : Nat) : Int) = some (P ++ (Z ++ Q)) ∧ Z.Perm (A ++ B) ∧ Srt Z

/-- A part is merged, if there is something to be. -/
theorem sym_part {K k : Nat} (ih : MergesAt K k) {P A B Q : List Sp} {a m b : Nat} (ha : a = P.length) (hm : m = P.length + A.length) (hb : b = P.length + A.length + B.length) (hk : A.length + B.length < k) (hl : P.length + A.length + B.length + Q.length ≤ 80000) (sA : Srt A) (sB : Srt B) {D : List Sp} (hD : D = P ++ (A ++ (B ++ Q))) :
    ∃ Z, ((if (decide ((a : Int) < (m : Int))) = true then some (decide ((m : Int) < (b : Int))) else some false).bind fun z => if z = true then (slices_symMergeCmpFunc_rgggcspansrowsorted1.f K k D (a : Int) (m : Int) (b : Int)).bind (fun r => some r) else some D) = some (P ++ (Z ++ Q)) ∧ Z.Perm (A ++ B) ∧ Srt Z := by
  subst hD
  rw [if_both, Option.bind_some]
  by_cases h : 0 < A.length ∧ 0 < B.length
  · obtain ⟨Z, z1, z2, z3⟩ := ih A B P Q h.1 h.2 hk hl sA sB
    rw [if_pos (by rw [decide_eq_true_eq]; omega), ha, hm, hb, z1, Option.bind_some]
    exact ⟨Z, rfl, z2, z3⟩
  · rw [if_neg (by rw [decide_eq_true_eq]; omega)]
    have : A = [] ∨ B = [] := by
      rcases Nat.eq_zero_or_pos A.length with h' | h'
      · exact .inl (List.eq_nil_of_length_eq_zero h')
      · exact .inr (List.eq_nil_of_length_eq_zero (by omega))
    refine ⟨A ++ B, by simp, List.Perm.refl _, ?_⟩
    rcases this with h' | h' <;> subst h'
    · exact sB
    · rw [List.append_nil]; exact sA

theorem bind_asc {α β γ : Type} (c : Option α) (F : α → Option β) (G : β → Option γ) : (c.bind fun z => (F z).bind G) = (c.bind F).bind G := by cases c <;> rfl

/-- Two sorted parts, one behind the other, merged in place. -/
theorem sym_step {K k : Nat} (hK : 100000 < K) (ih : MergesAt K k) : MergesAt K (k + 1) := by
  intro A B P Q hA hB hk hl sA sB
  by_cases ha1 : A.length = 1
  · obtain ⟨x, rfl⟩ := List.length_eq_one_iff.1 ha1
    exact one_ahead hK hB (by simp at hl; omega) sB
  by_cases hb1 : B.length = 1
  · obtain ⟨x, rfl⟩ := List.length_eq_one_iff.1 hb1
    exact one_behind hK (by omega) (by simp at hl; omega) sA
  have hw1 : IntKind.wrap .i64 (((P.length + A.length : Nat) : Int) - ((P.length : Nat) : Int)) = (A.length : Int) := by rw [w64 (by omega) (by omega)]; omega
  have hw2 : IntKind.wrap .i64 (((P.length + A.length + B.length : Nat) : Int) - ((P.length + A.length : Nat) : Int)) = (B.length : Int) := by rw [w64 (by omega) (by omega)]; omega
  obtain ⟨mid, hmid⟩ : ∃ mid, mid = (P.length + (P.length + A.length + B.length)) / 2 := ⟨_, rfl⟩
  have hh := half_is (i := P.length) (j := P.length + A.length + B.length) (by omega)
  rw [← hmid] at hh
  have hn : IntKind.wrap .i64 ((mid : Int) + ((P.length + A.length : Nat) : Int)) = ((mid + (P.length + A.length) : Nat) : Int) := by rw [w64 (by omega) (by omega)]; omega
  obtain ⟨lo, hi, r, e1, e2, r1, r2, r3, r4, f1, f2⟩ := sym_search (Q := Q) hK hmid hA hB hl sA sB
  have hend : IntKind.wrap .i64 (((mid + (P.length + A.length) : Nat) : Int) - (r : Int)) = ((mid + (P.length + A.length) - r : Nat) : Int) := by rw [w64 (by omega) (by omega)]; omega
  rw [slices_symMergeCmpFunc_rgggcspansrowsorted1.f, hw1, if_neg (by simp; omega), hw2, if_neg (by simp; omega)]
  simp only [hh, hn]
  rw [e1, Option.bind_some]
  simp only
  rw [e2, Option.bind_some]
  simp only [hend]
  obtain ⟨s, hs⟩ : ∃ s, s = r - P.length := ⟨_, rfl⟩
  obtain ⟨t, ht⟩ : ∃ t, t = mid - r := ⟨_, rfl⟩
  rw [← hs, ← ht] at f1 f2
  have eA : A.take s ++ A.drop s = A := List.take_append_drop _ _
  have eB : B.take t ++ B.drop t = B := List.take_append_drop _ _
  have lA1 : (A.take s).length = s := by rw [List.length_take]; omega
  have lA2 : (A.drop s).length = A.length - s := List.length_drop
  have lB1 : (B.take t).length = t := by rw [List.length_take]; omega
  have lB2 : (B.drop t).length = B.length - t := List.length_drop
  have hturn := sym_turn (K := K) hK (P := P ++ A.take s) (A := A.drop s) (B := B.take t) (Q := B.drop t ++ Q) (a := r) (m := P.length + A.length) (b := mid + (P.length + A.length) - r) (by rw [List.length_append]; omega) (by rw [List.length_append]; omega) (by rw [List.length_append]; omega) (by simp only [List.length_append]; omega) (D := P ++ (A ++ (B ++ Q))) (by
    rw [← List.append_assoc (B.take t), eB, List.append_assoc, ← List.append_assoc (A.take s), eA])
  rw [List.append_assoc] at hturn
  obtain ⟨Z1, z1, z2, z3⟩ := sym_part ih (P := P) (A := A.take s) (B := B.take t) (Q := A.drop s ++ (B.drop t ++ Q)) (a := P.length) (m := r) (b := mid) rfl (by omega) (by omega) (by omega) (by simp only [List.length_append]; omega) (srt_take sA s) (srt_take sB t) rfl
  have hz1 : Z1.length = s + t := by rw [z2.length_eq, List.length_append]; omega
  obtain ⟨Z2, y1, y2, y3⟩ := sym_part ih (P := P ++ Z1) (A := A.drop s) (B := B.drop t) (Q := Q) (a := mid) (m := mid + (P.length + A.length) - r) (b := P.length + A.length + B.length) (by rw [List.length_append]; omega) (by rw [List.length_append]; omega) (by rw [List.length_append]; omega) (by omega) (by simp only [List.length_append]; omega) (srt_drop sA s) (srt_drop sB t) (D := P ++ (Z1 ++ (A.drop s ++ (B.drop t ++ Q)))) (by simp)
  refine ⟨Z1 ++ Z2, ?_, ?_, srt_app z3 y3 fun x hx y hy => ?_⟩
  · rw [bind_asc, hturn, Option.bind_some, bind_asc, z1, Option.bind_some, y1]
    simp
  · refine (z2.append y2).trans ?_
    rw [List.append_assoc]
    refine ((List.perm_append_comm_assoc (B.take t) (A.drop s) (B.drop t)).append_left (A.take s)).trans ?_
    rw [eB, ← List.append_assoc, eA]
  · have sAB : ∀ x ∈ A.take s, ∀ y ∈ A.drop s, leS x y := (List.pairwise_append.1 (show (A.take s ++ A.drop s).Pairwise leS by rw [eA]; exact sA)).2.2
    have sBB : ∀ x ∈ B.take t, ∀ y ∈ B.drop t, leS x y := (List.pairwise_append.1 (show (B.take t ++ B.drop t).Pairwise leS by rw [eB]; exact sB)).2.2
    rcases List.mem_append.1 (z2.mem_iff.1 hx) with hx | hx <;> rcases List.mem_append.1 (y2.mem_iff.1 hy) with hy | hy
    · exact sAB x hx y hy
    · exact f1 x hx y hy
    · exact f2 x hx y hy
    · exact sBB x hx y hy

theorem sym_is {K : Nat} (hK : 100000 < K) : ∀ k, MergesAt K k
  | 0 => fun _ _ _ _ _ _ h => by omega
  | k + 1 => sym_step hK (sym_is hK k)

theorem symm_is {K : Nat} (hK : 100000 < K) {A B P Q : List Sp} {a m b : Nat} (hA : 0 < A.length) (hB : 0 < B.length) (hl : P.length + A.length + B.length + Q.length ≤ 80000) (sA : Srt A) (sB : Srt B) (ha : a = P.length) (hm : m = P.length + A.length) (hb : b = P.length + A.length + B.length) :
    ∃ Z, slices_symMergeCmpFunc_rgggcspansrowsorted1 K (P ++ (A ++ (B ++ Q))) (a : Int) (m : Int) (b : Int) = some (P ++ (Z ++ Q)) ∧ Z.Perm (A ++ B) ∧ Srt Z := by
  subst ha hm hb
  unfold slices_symMergeCmpFunc_rgggcspansrowsorted1
  exact sym_is hK K A B P Q hA hB (by omega) hl sA sB

/-- Parts that are sorted, each of s. -/
def Chs (s : Nat) (cs : List (List Sp)) : Prop := ∀ c ∈ cs, c.length = s ∧ Srt c

theorem chs_len {s : Nat} : ∀ {cs : List (List Sp)}, Chs s cs → cs.flatten.length = cs.length * s
  | [], _ => by simp
  | c :: cs, h => by
    have h1 := (h c (by simp)).1
    have h2 := chs_len (cs := cs) fun d hd => h d (by simp [hd])
    rw [List.flatten_cons, List.length_append, h1, h2, List.length_cons, Nat.succ_mul]
    omega

theorem stab0_loop {K : Nat} (hK : 100000 < K) : ∀ (n : Nat) (cs : List (List Sp)) (X : List Sp) (k : Nat), X.length ≤ n → n < k → Chs 20 cs → cs.flatten.length + X.length ≤ 60000 →
    ∃ cs' L, slices_stableCmpFunc_rgcspansrowsorted1.l0 K ((cs.flatten.length + X.length : Nat) : Int) k (cs.flatten ++ X) (cs.flatten.length : Int) ((cs.flatten.length + 20 : Nat) : Int) = some (cs'.flatten ++ L, (cs'.flatten.length : Int)) ∧ Chs 20 cs' ∧ L.length < 20 ∧ (cs'.flatten ++ L).Perm (cs.flatten ++ X)
  | n, cs, X, k, hn, hk, hc, hl => by
    obtain ⟨k, rfl⟩ : ∃ m, k = m + 1 := ⟨k - 1, by omega⟩
    rw [slices_stableCmpFunc_rgcspansrowsorted1.l0]
    by_cases h : 20 ≤ X.length
    · obtain ⟨n, rfl⟩ : ∃ m, n = m + 1 := ⟨n - 1, by omega⟩
      have h1 : (X.take 20).length = 20 := by rw [List.length_take]; omega
      have h2 : (X.drop 20).length = X.length - 20 := List.length_drop
      obtain ⟨Z, e1, e2, e3⟩ := insSort_is (K := K) (A := cs.flatten) (X := X.take 20) (B := X.drop 20) (by omega) (by omega)
      rw [List.take_append_drop, h1] at e1
      have hw : IntKind.wrap .i64 (((cs.flatten.length + 20 : Nat) : Int) + 20) = ((cs.flatten.length + 20 + 20 : Nat) : Int) := by rw [w64 (by omega) (by omega)]; omega
      rw [if_pos (by simp [-List.length_flatten]; omega), e1, Option.bind_some, hw]
      have hZ : Z.length = 20 := by rw [e2.length_eq, h1]
      have hf : (cs ++ [Z]).flatten = cs.flatten ++ Z := by simp
      obtain ⟨cs', L, f1, f2, f3, f4⟩ := stab0_loop (K := K) hK n (cs ++ [Z]) (X.drop 20) k (by omega) (by omega) (fun c hc' => by
        rcases List.mem_append.1 hc' with h' | h'
        · exact hc c h'
        · rw [List.mem_singleton.1 h']; exact ⟨hZ, e3⟩) (by rw [hf, List.length_append]; omega)
      rw [hf, List.length_append, hZ, h2, List.append_assoc] at f1
      refine ⟨cs', L, ?_, f2, f3, f4.trans ?_⟩
      · rw [← f1]; congr 1; omega
      · rw [hf, List.append_assoc]
        refine List.Perm.append_left _ ?_
        refine (e2.append_right _).trans ?_
        rw [List.take_append_drop]
    · rw [if_neg (by simp [-List.length_flatten]; omega)]
      exact ⟨cs, X, rfl, hc, by omega, List.Perm.refl _⟩

theorem stab2_loop {K s : Nat} (hK : 100000 < K) (hs : 0 < s) (hs2 : s ≤ 60000) {L : List Sp} (hL : L.length < s) : ∀ (m : Nat) (cs ds : List (List Sp)) (k : Nat), cs.length ≤ m → m < k → Chs s cs → Chs (2 * s) ds → ds.flatten.length + cs.flatten.length + L.length ≤ 60000 →
    ∃ cs' ds', slices_stableCmpFunc_rgcspansrowsorted1.l2 K ((ds.flatten.length + cs.flatten.length + L.length : Nat) : Int) (s : Int) k (ds.flatten ++ (cs.flatten ++ L)) (ds.flatten.length : Int) ((ds.flatten.length + 2 * s : Nat) : Int) = some (ds'.flatten ++ (cs'.flatten ++ L), (ds'.flatten.length : Int)) ∧
      cs'.length ≤ 1 ∧ Chs s cs' ∧ Chs (2 * s) ds' ∧ (ds'.flatten ++ (cs'.flatten ++ L)).Perm (ds.flatten ++ (cs.flatten ++ L))
  | m, [], ds, k, hm, hk, hc, hd, hl => by
    obtain ⟨k, rfl⟩ : ∃ m, k = m + 1 := ⟨k - 1, by omega⟩
    rw [slices_stableCmpFunc_rgcspansrowsorted1.l2, if_neg (by simp [-List.length_flatten]; omega)]
    exact ⟨[], ds, rfl, by simp, hc, hd, List.Perm.refl _⟩
  | m, [c], ds, k, hm, hk, hc, hd, hl => by
    obtain ⟨k, rfl⟩ : ∃ m, k = m + 1 := ⟨k - 1, by omega⟩
    have h1 := (hc c (by simp)).1
    rw [slices_stableCmpFunc_rgcspansrowsorted1.l2, if_neg (by simp [-List.length_flatten]; omega)]
    exact ⟨[c], ds, rfl, by simp, hc, hd, List.Perm.refl _⟩
  | 0, c :: d :: cs, ds, k, hm, hk, hc, hd, hl => by simp at hm
  | m + 1, c :: d :: cs, ds, k, hm, hk, hc, hd, hl => by
    obtain ⟨k, rfl⟩ : ∃ m, k = m + 1 := ⟨k - 1, by omega⟩
    obtain ⟨h1, h2⟩ := hc c (by simp)
    obtain ⟨h3, h4⟩ := hc d (by simp)
    simp only [List.flatten_cons, List.length_append, List.length_cons] at hl hm
    have hw1 : IntKind.wrap .i64 ((ds.flatten.length : Int) + (s : Int)) = ((ds.flatten.length + s : Nat) : Int) := by rw [w64 (by omega) (by omega)]; omega
    have hw2 : IntKind.wrap .i64 (2 * (s : Int)) = ((2 * s : Nat) : Int) := by rw [w64 (by omega) (by omega)]; omega
    have hw3 : IntKind.wrap .i64 (((ds.flatten.length + 2 * s : Nat) : Int) + ((2 * s : Nat) : Int)) = ((ds.flatten.length + 2 * s + 2 * s : Nat) : Int) := by rw [w64 (by omega) (by omega)]; omega
    obtain ⟨Z, e1, e2, e3⟩ := symm_is (K := K) hK (A := c) (B := d) (P := ds.flatten) (Q := cs.flatten ++ L) (a := ds.flatten.length) (m := ds.flatten.length + s) (b := ds.flatten.length + 2 * s) (by omega) (by omega) (by rw [List.length_append]; omega) h2 h4 rfl (by omega) (by omega)
    have eD : ds.flatten ++ ((c :: d :: cs).flatten ++ L) = ds.flatten ++ (c ++ (d ++ (cs.flatten ++ L))) := by simp
    have hZ : Z.length = 2 * s := by rw [e2.length_eq, List.length_append]; omega
    have hf : (ds ++ [Z]).flatten = ds.flatten ++ Z := by simp
    rw [eD, slices_stableCmpFunc_rgcspansrowsorted1.l2, if_pos (by simp only [List.flatten_cons, List.length_append, decide_eq_true_eq]; omega), hw1, e1, Option.bind_some, hw2, hw3]
    obtain ⟨cs', ds', f1, f2, f3, f4, f5⟩ := stab2_loop (K := K) hK hs hs2 hL m cs (ds ++ [Z]) k (by omega) (by omega) (fun x hx => hc x (by simp [hx])) (fun x hx => by
      rcases List.mem_append.1 hx with h' | h'
      · exact hd x h'
      · rw [List.mem_singleton.1 h']; exact ⟨hZ, e3⟩) (by rw [hf, List.length_append]; omega)
    rw [hf, List.length_append, hZ, List.append_assoc] at f1
    refine ⟨cs', ds', ?_, f2, f3, f4, f5.trans ?_⟩
    · rw [← f1]; congr 1
      simp only [List.flatten_cons, List.length_append]; omega
    · rw [hf, List.append_assoc]
      refine List.Perm.append_left _ ((e2.append_right _).trans ?_)
      rw [List.append_assoc]

theorem stab1_loop {K : Nat} (hK : 100000 < K) : ∀ (j s k : Nat) (cs : List (List Sp)) (L : List Sp), cs.flatten.length + L.length ≤ s + j → j < k → 0 < s → s ≤ 120000 → Chs s cs → L.length < s → Srt L → cs.flatten.length + L.length ≤ 30000 →
    ∃ Z, slices_stableCmpFunc_rgcspansrowsorted1.l1 K ((cs.flatten.length + L.length : Nat) : Int) k (cs.flatten ++ L) (s : Int) = some Z ∧ Z.Perm (cs.flatten ++ L) ∧ Srt Z
  | j, s, k, cs, L, hj, hk, hs, hs2, hc, hL, sL, hl => by
    obtain ⟨k, rfl⟩ : ∃ m, k = m + 1 := ⟨k - 1, by omega⟩
    rw [slices_stableCmpFunc_rgcspansrowsorted1.l1]
    have hcl := chs_len hc
    by_cases h : s < cs.flatten.length + L.length
    · obtain ⟨j, rfl⟩ : ∃ m, j = m + 1 := ⟨j - 1, by omega⟩
      have hw2 : IntKind.wrap .i64 (2 * (s : Int)) = ((2 * s : Nat) : Int) := by rw [w64 (by omega) (by omega)]; omega
      have hw4 : IntKind.wrap .i64 ((s : Int) * 2) = ((2 * s : Nat) : Int) := by rw [w64 (by omega) (by omega)]; omega
      have hcs : cs.length < K := by
        have : cs.length * 1 ≤ cs.length * s := Nat.mul_le_mul_left _ hs
        omega
      obtain ⟨cs', ds', f1, f2, f3, f4, f5⟩ := stab2_loop (K := K) hK hs (by omega) hL cs.length cs [] K (Nat.le_refl _) hcs hc (fun c hc' => by cases hc') (by simp [-List.length_flatten]; omega)
      simp only [List.flatten_nil, List.nil_append, List.length_nil, Nat.zero_add, Int.natCast_zero] at f1 f5
      have hlen : ds'.flatten.length + cs'.flatten.length + L.length = cs.flatten.length + L.length := by
        have := f5.length_eq
        simp only [List.length_append] at this; omega
      have hcl' := chs_len f3
      have hw1 : IntKind.wrap .i64 ((ds'.flatten.length : Int) + (s : Int)) = ((ds'.flatten.length + s : Nat) : Int) := by rw [w64 (by omega) (by omega)]; omega
      rw [if_pos (by simp [-List.length_flatten]; omega), hw2, f1, Option.bind_some]
      simp only [hw1, hw4]
      suffices hN : ∃ L', (if decide (((ds'.flatten.length + s : Nat) : Int) < ((cs.flatten.length + L.length : Nat) : Int)) = true then (slices_symMergeCmpFunc_rgggcspansrowsorted1 K (ds'.flatten ++ (cs'.flatten ++ L)) (ds'.flatten.length : Int) ((ds'.flatten.length + s : Nat) : Int) ((cs.flatten.length + L.length : Nat) : Int)).bind (fun r_99 => some r_99) else some (ds'.flatten ++ (cs'.flatten ++ L))) = some (ds'.flatten ++ L') ∧ L'.Perm (cs'.flatten ++ L) ∧ Srt L' ∧ L'.length < 2 * s by
        obtain ⟨L', g1, g2, g3, g4⟩ := hN
        rw [g1, Option.bind_some]
        have hll : ds'.flatten.length + L'.length = cs.flatten.length + L.length := by
          have := g2.length_eq
          rw [List.length_append] at this; omega
        obtain ⟨Z, z1, z2, z3⟩ := stab1_loop (K := K) hK j (2 * s) k ds' L' (by omega) (by omega) (by omega) (by omega) f4 g4 g3 (by omega)
        rw [hll] at z1
        exact ⟨Z, z1, z2.trans ((g2.append_left _).trans f5), z3⟩
      match cs', f2, f3, hcl', hlen with
      | [], _, _, _, hlen =>
        simp only [List.flatten_nil, List.length_nil] at hlen
        rw [if_neg (by simp [-List.length_flatten]; omega)]
        exact ⟨L, by simp, by simp, sL, by omega⟩
      | [c], _, f3, hcl', hlen =>
        obtain ⟨h1, h2⟩ := f3 c (by simp)
        simp only [List.flatten_cons, List.flatten_nil, List.append_nil] at hlen ⊢
        by_cases hL0 : 0 < L.length
        · obtain ⟨Z, e1, e2, e3⟩ := symm_is (K := K) hK (A := c) (B := L) (P := ds'.flatten) (Q := []) (a := ds'.flatten.length) (m := ds'.flatten.length + s) (b := cs.flatten.length + L.length) (by omega) hL0 (by simp [-List.length_flatten]; omega) h2 sL rfl (by omega) (by omega)
          rw [List.append_nil, List.append_nil] at e1
          rw [if_pos (by simp [-List.length_flatten]; omega), e1, Option.bind_some]
          exact ⟨Z, rfl, e2, e3, by rw [e2.length_eq, List.length_append]; omega⟩
        · have : L = [] := List.eq_nil_of_length_eq_zero (by omega)
          subst this
          rw [if_neg (by simp [-List.length_flatten] at hlen ⊢; omega), List.append_nil]
          exact ⟨c, rfl, List.Perm.refl _, h2, by omega⟩
      | _ :: _ :: _, f2, _, _, _ => simp at f2
    · rw [if_neg (by simp [-List.length_flatten]; omega)]
      match cs, hc, hcl, h with
      | [], _, _, _ => exact ⟨L, by simp, by simp, sL⟩
      | [c], hc, hcl, h =>
        obtain ⟨h1, h2⟩ := hc c (by simp)
        simp only [List.flatten_cons, List.flatten_nil, List.append_nil] at h ⊢
        have : L = [] := List.eq_nil_of_length_eq_zero (by omega)
        subst this
        rw [List.append_nil]
        exact ⟨c, rfl, List.Perm.refl _, h2⟩
      | c :: d :: cs, hc, hcl, h =>
        have h1 := (hc c (by simp)).1
        have h3 := (hc d (by simp)).1
        simp only [List.flatten_cons, List.length_append] at h
        omega

/-- Any row comes out in order. -/
theorem stable_is {K : Nat} {X : List Sp} (hK : 100000 < K) (hl : X.length ≤ 30000) : ∃ Z, slices_SortStableFunc_rcspansrowsorted1 K X = some Z ∧ Z.Perm X ∧ Srt Z := by
  unfold slices_SortStableFunc_rcspansrowsorted1 slices_stableCmpFunc_rgcspansrowsorted1
  obtain ⟨cs, L, f1, f2, f3, f4⟩ := stab0_loop (K := K) hK X.length [] X K (Nat.le_refl _) (by omega) (fun c hc => by cases hc) (by simp [-List.length_flatten]; omega)
  simp only [List.flatten_nil, List.nil_append, List.length_nil, Nat.zero_add, Int.natCast_zero] at f1 f4
  rw [show ((20 : Nat) : Int) = 20 from rfl] at f1
  rw [f1, Option.bind_some]
  simp only
  have hlen : cs.flatten.length + L.length = X.length := by rw [← f4.length_eq, List.length_append]
  obtain ⟨Z, e1, e2, e3⟩ := insSort_is (K := K) (A := cs.flatten) (X := L) (B := []) (by omega) (by simp [-List.length_flatten]; omega)
  rw [List.append_nil, List.append_nil, hlen] at e1
  rw [e1, Option.bind_some]
  have hZ : Z.length = L.length := e2.length_eq
  obtain ⟨W, w1, w2, w3⟩ := stab1_loop (K := K) hK X.length 20 K cs Z (by omega) (by omega) (by omega) (by omega) f2 (by omega) e3 (by omega)
  rw [show cs.flatten.length + Z.length = X.length by omega, show ((20 : Nat) : Int) = 20 from rfl] at w1
  rw [w1, Option.bind_some]
  exact ⟨W, rfl, w2.trans ((e2.append_left _).trans f4), w3⟩

/-- In order, in the fewest spans, behind 'to' (which has style st). -/
def okS (n : Int) : Int → Int → List Sp → Bool
  | _, _, [] => true
  | to, st, x :: l => decide (1 ≤ x.2.2 ∧ x.2.2 ≤ 100 ∧ to ≤ x.1 ∧ x.1 < x.2.1 ∧ x.2.1 ≤ n ∧ ¬ (x.1 = to ∧ x.2.2 = st)) && okS n x.2.1 x.2.2 l

def isS15 (n : Int) (l : List Sp) : Bool := decide (l.length ≤ 60) && okS (min n 20000) 0 0 l

def atS : List Sp → Int → Int
  | [], _ => 0
  | x :: l, k => if x.1 ≤ k ∧ k < x.2.1 then x.2.2 else atS l k

def Fn (n : Int) (x : Sp) : Prop := 0 ≤ x.1 ∧ x.1 < x.2.1 ∧ x.2.1 ≤ n ∧ 1 ≤ x.2.2 ∧ x.2.2 ≤ 100

def Dj (x y : Sp) : Prop := x.2.1 ≤ y.1 ∨ y.2.1 ≤ x.1

def Od (x y : Sp) : Prop := x.2.1 ≤ y.1

theorem okS_cons {n to st : Int} {x : Sp} {l : List Sp} : okS n to st (x :: l) = true ↔ (1 ≤ x.2.2 ∧ x.2.2 ≤ 100 ∧ to ≤ x.1 ∧ x.1 < x.2.1 ∧ x.2.1 ≤ n ∧ ¬ (x.1 = to ∧ x.2.2 = st)) ∧ okS n x.2.1 x.2.2 l = true := by
  rw [okS, Bool.and_eq_true, decide_eq_true_eq]

theorem okS_mem {n : Int} : ∀ {l : List Sp} {to st : Int}, okS n to st l = true → 0 ≤ to → ∀ x ∈ l, Fn n x ∧ to ≤ x.1
  | [], _, _, _, _, x, hx => by cases hx
  | y :: l, to, st, h, h0, x, hx => by
    rw [okS_cons] at h
    obtain ⟨⟨h1, h2, h3, h4, h5, h6⟩, h7⟩ := h
    rcases List.mem_cons.1 hx with rfl | hx
    · exact ⟨⟨by omega, h4, h5, h1, h2⟩, h3⟩
    · have := okS_mem h7 (by omega) x hx
      exact ⟨this.1, by omega⟩

theorem okS_ord {n : Int} : ∀ {l : List Sp} {to st : Int}, okS n to st l = true → 0 ≤ to → l.Pairwise Od
  | [], _, _, _, _ => List.Pairwise.nil
  | x :: l, to, st, h, h0 => by
    rw [okS_cons] at h
    obtain ⟨⟨h1, h2, h3, h4, h5, h6⟩, h7⟩ := h
    exact List.pairwise_cons.2 ⟨fun y hy => (okS_mem h7 (by omega) y hy).2, okS_ord h7 (by omega)⟩

theorem od_dj {l : List Sp} (h : l.Pairwise Od) : l.Pairwise Dj := h.imp fun h => .inl h

theorem okS_mono {n m : Int} (hnm : n ≤ m) : ∀ {l : List Sp} {to st : Int}, okS n to st l = true → okS m to st l = true
  | [], _, _, _ => rfl
  | x :: l, to, st, h => by
    rw [okS_cons] at h ⊢
    exact ⟨⟨h.1.1, h.1.2.1, h.1.2.2.1, h.1.2.2.2.1, by have := h.1.2.2.2.2.1; omega, h.1.2.2.2.2.2⟩, okS_mono hnm h.2⟩

theorem atS_none : ∀ {l : List Sp} {k : Int}, (∀ x ∈ l, ¬ (x.1 ≤ k ∧ k < x.2.1)) → atS l k = 0
  | [], _, _ => rfl
  | x :: l, k, h => by rw [atS, if_neg (h x (by simp)), atS_none fun y hy => h y (by simp [hy])]

theorem atS_iff {n : Int} : ∀ {l : List Sp} {k v : Int}, l.Pairwise Dj → (∀ x ∈ l, Fn n x) → v ≠ 0 → (atS l k = v ↔ ∃ x ∈ l, x.1 ≤ k ∧ k < x.2.1 ∧ x.2.2 = v)
  | [], k, v, _, _, hv => by simp [atS]; omega
  | x :: l, k, v, hd, hf, hv => by
    rw [List.pairwise_cons] at hd
    rw [atS]
    have ih := atS_iff (l := l) (k := k) hd.2 (fun y hy => hf y (by simp [hy])) hv
    by_cases h : x.1 ≤ k ∧ k < x.2.1
    · rw [if_pos h]
      constructor
      · intro e; exact ⟨x, by simp, h.1, h.2, e⟩
      · rintro ⟨y, hy, h1, h2, h3⟩
        rcases List.mem_cons.1 hy with rfl | hy
        · exact h3
        · rcases hd.1 y hy with h' | h' <;> omega
    · rw [if_neg h, ih]
      constructor
      · rintro ⟨y, hy, h'⟩; exact ⟨y, by simp [hy], h'⟩
      · rintro ⟨y, hy, h1, h2, h3⟩
        rcases List.mem_cons.1 hy with rfl | hy
        · exact (h ⟨h1, h2⟩).elim
        · exact ⟨y, hy, h1, h2, h3⟩

theorem eq_of_vals {f g : Int} (h : ∀ v, v ≠ 0 → (f = v ↔ g = v)) : f = g := by
  by_cases hf : f = 0
  · by_cases hg : g = 0
    · rw [hf, hg]
    · exact (h g hg).2 rfl
  · exact ((h f hf).1 rfl).symm

theorem atS_app : ∀ {l r : List Sp} {k : Int}, (∀ x ∈ l, 1 ≤ x.2.2) → atS (l ++ r) k = if atS l k = 0 then atS r k else atS l k
  | [], r, k, _ => by simp [atS]
  | x :: l, r, k, h => by
    have hx := h x (by simp)
    rw [List.cons_append, atS, atS, atS_app fun y hy => h y (by simp [hy])]
    by_cases h1 : x.1 ≤ k ∧ k < x.2.1
    · rw [if_pos h1, if_pos h1, if_neg (by omega)]
    · rw [if_neg h1, if_neg h1]

theorem atS_lt {n : Int} {l : List Sp} {to st k : Int} (h : okS n to st l = true) (h0 : 0 ≤ to) (hk : k < to) : atS l k = 0 :=
  atS_none fun x hx => by have := (okS_mem h h0 x hx).2; omega

theorem okS_head {n m : Int} {x y : Sp} {l r : List Sp} {t1 s1 t2 s2 : Int} (h1 : okS n t1 s1 (x :: l) = true) (h2 : okS m t2 s2 (y :: r) = true) (p1 : 0 ≤ t1) (p2 : 0 ≤ t2) (h : ∀ k, atS (x :: l) k = atS (y :: r) k) : x.1 = y.1 ∧ x.2.2 = y.2.2 ∨ y.1 < x.1 := by
  rw [okS_cons] at h1 h2
  rcases Int.lt_or_le y.1 x.1 with h' | h'
  · exact .inr h'
  · left
    have e := h x.1
    rw [atS, if_pos (by omega), atS] at e
    by_cases hy : y.1 ≤ x.1 ∧ x.1 < y.2.1
    · rw [if_pos hy] at e; exact ⟨by omega, e⟩
    · rw [if_neg hy, atS_lt h2.2 (by omega) (by omega)] at e
      omega

/-- A row in the fewest spans is told by its styles alone. -/
theorem okS_unique {n m : Int} : ∀ {l r : List Sp} {t1 s1 t2 s2 : Int}, okS n t1 s1 l = true → okS m t2 s2 r = true → 0 ≤ t1 → 0 ≤ t2 → (∀ k, atS l k = atS r k) → l = r
  | [], [], _, _, _, _, _, _, _, _, _ => rfl
  | [], y :: r, _, _, _, _, _, h2, _, p2, h => by
    rw [okS_cons] at h2
    have := h y.1
    rw [atS, atS, if_pos (by omega)] at this
    omega
  | x :: l, [], _, _, _, _, h1, _, p1, _, h => by
    rw [okS_cons] at h1
    have := h x.1
    rw [show atS [] x.1 = 0 from rfl, atS, if_pos (by omega)] at this
    omega
  | x :: l, y :: r, t1, s1, t2, s2, h1, h2, p1, p2, h => by
    have e1 : x.1 = y.1 ∧ x.2.2 = y.2.2 := by
      have a := okS_head h1 h2 p1 p2 h
      have b := okS_head h2 h1 p2 p1 fun k => (h k).symm
      omega
    rw [okS_cons] at h1 h2
    have ends : ∀ {a b : Sp} {q w : List Sp} {n m : Int}, (1 ≤ a.2.2 ∧ a.1 < a.2.1) → okS n a.2.1 a.2.2 q = true → (0 ≤ a.1) → a.1 = b.1 → a.2.2 = b.2.2 → (∀ k, atS (a :: q) k = atS (b :: w) k) → ¬ a.2.1 < b.2.1 := by
      intro a b q w n m ha hq h0 e1 e2 h hlt
      have e := h a.2.1
      rw [atS, if_neg (by omega), atS, if_pos (by omega)] at e
      cases q with
      | nil => rw [atS] at e; omega
      | cons z q =>
        rw [okS_cons] at hq
        rw [atS] at e
        by_cases hz : z.1 ≤ a.2.1 ∧ a.2.1 < z.2.1
        · rw [if_pos hz] at e
          omega
        · rw [if_neg hz, atS_lt hq.2 (by omega) (by omega)] at e
          omega
    have e2 : x.2.1 = y.2.1 := by
      have a := ends (n := n) (m := m) (by omega) h1.2 (by omega) e1.1 e1.2 h
      have b := ends (n := m) (m := n) (by omega) h2.2 (by omega) e1.1.symm e1.2.symm fun k => (h k).symm
      omega
    have e3 : x = y := Prod.ext e1.1 (Prod.ext e2 e1.2)
    subst e3
    rw [okS_unique h1.2 h2.2 (by omega) (by omega) fun k => ?_]
    have e := h k
    rw [atS, atS] at e
    by_cases hk : x.1 ≤ k ∧ k < x.2.1
    · rw [atS_lt h1.2 (by omega) hk.2, atS_lt h2.2 (by omega) hk.2]
    · rw [if_neg hk, if_neg hk] at e; exact e

/-- One span more behind a row. -/
def stepS (out : List Sp) (x : Sp) : List Sp :=
  if out ≠ [] ∧ (out.getD (out.length - 1) sp0).2.2 = x.2.2 ∧ (out.getD (out.length - 1) sp0).2.1 = x.1 then out.set (out.length - 1) ((out.getD (out.length - 1) sp0).1, (x.2.1, (out.getD (out.length - 1) sp0).2.2)) else out ++ [x]

theorem stepS_nil (x : Sp) : stepS [] x = [x] := rfl

theorem stepS_app (l : List Sp) (p x : Sp) : stepS (l ++ [p]) x = if p.2.2 = x.2.2 ∧ p.2.1 = x.1 then l ++ [(p.1, (x.2.1, p.2.2))] else l ++ [p] ++ [x] := by
  unfold stepS
  have e1 : (l ++ [p]).length - 1 = l.length := by simp
  have e2 : (l ++ [p]).getD l.length sp0 = p := by simp [List.getD]
  rw [e1, e2]
  by_cases h : p.2.2 = x.2.2 ∧ p.2.1 = x.1
  · rw [if_pos ⟨by simp, h.1, h.2⟩, if_pos h, List.set_append_right _ _ (Nat.le_refl _)]
    simp
  · rw [if_neg (fun h' => h h'.2), if_neg h]

theorem stepS_len {l : List Sp} {x : Sp} : (stepS l x).length ≤ l.length + 1 := by unfold stepS; split <;> simp

theorem okS_app {n : Int} : ∀ {l : List Sp} {p : Sp} {to st : Int}, okS n to st (l ++ [p]) = true ↔ ∃ t s, okS n to st l = true ∧ (l = [] → t = to ∧ s = st) ∧ (∀ m q, l = m ++ [q] → t = q.2.1 ∧ s = q.2.2) ∧ okS n t s [p] = true
  | [], p, to, st => by
    constructor
    · intro h; exact ⟨to, st, rfl, fun _ => ⟨rfl, rfl⟩, fun m q e => by simp at e, h⟩
    · rintro ⟨t, s, -, h, -, h'⟩
      obtain ⟨rfl, rfl⟩ := h rfl
      exact h'
  | x :: l, p, to, st => by
    rw [List.cons_append, okS_cons, okS_app]
    constructor
    · rintro ⟨h1, t, s, h2, h3, h4, h5⟩
      refine ⟨t, s, okS_cons.2 ⟨h1, h2⟩, fun e => (by cases e), fun m q e => ?_, h5⟩
      cases m with
      | nil =>
        simp only [List.nil_append, List.cons.injEq] at e
        obtain ⟨rfl, rfl⟩ := e
        exact h3 rfl
      | cons z m =>
        simp only [List.cons_append, List.cons.injEq] at e
        exact h4 m q e.2
    · rintro ⟨t, s, h1, h2, h3, h4⟩
      rw [okS_cons] at h1
      refine ⟨h1.1, t, s, h1.2, fun e => ?_, fun m q e => h3 (x :: m) q (by rw [e]; rfl), h4⟩
      subst e
      exact h3 [] x rfl

theorem step_ok {n : Int} {acc : List Sp} {x : Sp} (h : okS n 0 0 acc = true) (hx : Fn n x) (ho : ∀ y ∈ acc, Od y x) : okS n 0 0 (stepS acc x) = true ∧ (∀ y, Od x y → ∀ z ∈ stepS acc x, (∀ w ∈ acc, Od w y) → Od z y) := by
  by_cases he : acc = []
  · subst he
    rw [stepS_nil]
    unfold Fn at hx
    refine ⟨by rw [okS_cons]; exact ⟨by omega, rfl⟩, fun y hy z hz _ => ?_⟩
    rw [List.mem_singleton.1 hz]; exact hy
  · obtain ⟨l, p, rfl⟩ := split_last he
    have hp := ho p (by simp)
    have hpm := (okS_mem h (Int.le_refl _) p (by simp)).1
    unfold Od at hp
    unfold Fn at hx hpm
    rw [stepS_app]
    obtain ⟨t, s, h1, h2, h3, h4⟩ := okS_app.1 h
    rw [okS_cons] at h4
    split
    · rename_i hc
      refine ⟨okS_app.2 ⟨t, s, h1, h2, h3, okS_cons.2 ⟨by simp only; omega, rfl⟩⟩, fun y hy z hz hw => ?_⟩
      rcases List.mem_append.1 hz with hz | hz
      · exact hw z (by simp [hz])
      · rw [List.mem_singleton.1 hz]; exact hy
    · rename_i hc
      refine ⟨okS_app.2 ⟨p.2.1, p.2.2, h, fun e => by simp at e, fun m q e => ?_, okS_cons.2 ⟨by omega, rfl⟩⟩, fun y hy z hz hw => ?_⟩
      · obtain ⟨-, e⟩ := List.append_inj' e rfl
        cases e; exact ⟨rfl, rfl⟩
      · rcases List.mem_append.1 hz with hz | hz
        · exact hw z hz
        · rw [List.mem_singleton.1 hz]; exact hy

theorem step_at {n : Int} {acc rest : List Sp} {x : Sp} {k : Int} (h : okS n 0 0 acc = true) (hx : Fn n x) : atS (stepS acc x ++ rest) k = atS (acc ++ x :: rest) k := by
  by_cases he : acc = []
  · subst he; rfl
  · obtain ⟨l, p, rfl⟩ := split_last he
    have hm := okS_mem h (Int.le_refl _)
    have hpm := (hm p (by simp)).1
    have hl : ∀ y ∈ l, 1 ≤ y.2.2 := fun y hy => by have := (hm y (by simp [hy])).1; unfold Fn at this; omega
    unfold Fn at hx hpm
    rw [stepS_app]
    split
    · rename_i hc
      rw [List.append_assoc, List.append_assoc, atS_app hl, atS_app hl]
      simp only [List.cons_append, List.nil_append, atS]
      split
      · by_cases h1 : p.1 ≤ k ∧ k < p.2.1
        · rw [if_pos h1, if_pos (by omega)]
        · rw [if_neg h1]
          by_cases h2 : x.1 ≤ k ∧ k < x.2.1
          · rw [if_pos h2, if_pos (by omega)]; exact hc.1
          · rw [if_neg h2, if_neg (by omega)]
      · rfl
    · simp

theorem fold_ok {n : Int} : ∀ {r acc : List Sp}, okS n 0 0 acc = true → (∀ x ∈ r, Fn n x) → r.Pairwise Od → (∀ x ∈ acc, ∀ y ∈ r, Od x y) → okS n 0 0 (r.foldl stepS acc) = true ∧ ∀ k, atS (r.foldl stepS acc) k = atS (acc ++ r) k
  | [], acc, h, _, _, _ => ⟨h, fun k => by simp⟩
  | x :: r, acc, h, hf, ho, ha => by
    rw [List.pairwise_cons] at ho
    have hx := hf x (by simp)
    have hs := step_ok h hx fun y hy => ha y hy x (by simp)
    have ih := fold_ok (r := r) (acc := stepS acc x) hs.1 (fun y hy => hf y (by simp [hy])) ho.2 (fun z hz y hy => hs.2 y (ho.1 y hy) z hz fun w hw => ha w hw y (by simp [hy]))
    rw [List.foldl_cons]
    exact ⟨ih.1, fun k => by rw [ih.2, step_at h hx]⟩

theorem fold_len : ∀ {r acc : List Sp}, (r.foldl stepS acc).length ≤ acc.length + r.length
  | [], acc => by simp
  | x :: r, acc => by
    have := fold_len (r := r) (acc := stepS acc x)
    have := stepS_len (l := acc) (x := x)
    rw [List.foldl_cons, List.length_cons]; omega

/-- Sorted, they lie in order. -/
theorem srt_od {n : Int} {l : List Sp} (hs : Srt l) (hd : l.Pairwise Dj) (hf : ∀ x ∈ l, Fn n x) : l.Pairwise Od := by
  refine List.Pairwise.imp_of_mem ?_ (hs.and hd)
  rintro a b ha hb ⟨h1, h2⟩
  have fa := hf a ha
  have fb := hf b hb
  unfold leS ltS at h1
  rw [decide_eq_false_iff_not] at h1
  unfold Dj at h2
  unfold Fn at fa fb
  unfold Od
  omega

theorem dj_symm {x y : Sp} (h : Dj x y) : Dj y x := h.symm

theorem canon_is {n : Int} {r Z : List Sp} (hp : Z.Perm r) (hs : Srt Z) (hd : r.Pairwise Dj) (hf : ∀ x ∈ r, Fn n x) : okS n 0 0 (Z.foldl stepS []) = true ∧ ∀ k, atS (Z.foldl stepS []) k = atS r k := by
  have hdZ : Z.Pairwise Dj := hp.symm.pairwise hd fun h => dj_symm h
  have hfZ : ∀ x ∈ Z, Fn n x := fun x hx => hf x (hp.mem_iff.1 hx)
  have h := fold_ok (n := n) (r := Z) (acc := []) rfl hfZ (srt_od hs hdZ hfZ) (fun x hx => by cases hx)
  refine ⟨h.1, fun k => ?_⟩
  rw [h.2, List.nil_append]
  refine eq_of_vals fun v hv => ?_
  rw [atS_iff hdZ hfZ hv, atS_iff hd hf hv]
  constructor
  · rintro ⟨x, hx, h⟩; exact ⟨x, hp.mem_iff.1 hx, h⟩
  · rintro ⟨x, hx, h⟩; exact ⟨x, hp.mem_iff.2 hx, h⟩

theorem mn2_is {a b : Int} : mn2 a b = min a b := by unfold mn2; split <;> omega

theorem mx2_is {a b : Int} : mx2 a b = max a b := by unfold mx2; split <;> omega

theorem within_is {K : Nat} {n a b : Int} : spans_within K n a b = some (decide (a ≤ n ∧ n ≤ b)) := by
  unfold spans_within
  by_cases h : a ≤ n
  · rw [if_pos (by simpa using h)]; simp [h]
  · rw [if_neg (by simpa using h)]; simp [h]

/-- What is ahead of place j of a row: where it ends, its style. -/
def prevS (l : List Sp) (j : Nat) : Int × Int := if j = 0 then (0, 0) else (l.getD (j - 1) sp0).2

theorem prevS_succ {l : List Sp} {j : Nat} {x : Sp} (h : l.getD j sp0 = x) : prevS l (j + 1) = x.2 := by
  unfold prevS; rw [if_neg (by omega), show j + 1 - 1 = j by omega, h]

theorem isS_loop {K : Nat} {l : List Sp} {n : Int} (hl : l.length ≤ 60) : ∀ (rest : List Sp) (j k : Nat), l.drop j = rest → rest.length < k → 0 ≤ (prevS l j).1 →
    spans_Is_ng.l0 K l n k (j : Int) = some (okS (min n 20000) (prevS l j).1 (prevS l j).2 rest)
  | [], j, k, hd, hk, h0 => by
    obtain ⟨k, rfl⟩ : ∃ m, k = m + 1 := ⟨k - 1, by omega⟩
    have := drop_nil hd
    rw [spans_Is_ng.l0, if_neg (by simp; omega)]; rfl
  | x :: rest, j, k, hd, hk, h0 => by
    obtain ⟨k, rfl⟩ : ∃ m, k = m + 1 := ⟨k - 1, by omega⟩
    obtain ⟨hj, hx, hd'⟩ := drop_cons hd sp0
    rw [List.length_cons] at hk
    have hw : IntKind.wrap .i64 ((j : Int) + 1) = ((j + 1 : Nat) : Int) := by rw [w64 (by omega) (by omega)]; omega
    rw [spans_Is_ng.l0, if_pos (by simp; omega), if_pos (by omega)]
    simp only [Int.toNat_natCast, hx, within_is, Option.bind_some, hw, mn2_is]
    have hc : ∀ (c d : Bool) (F : Bool → Option Bool), (if c = true then some true else some d : Option Bool).bind F = F (c || d) := fun c d F => by cases c <;> rfl
    have e1 : (if (!decide (1 ≤ x.2.2 ∧ x.2.2 ≤ 100)) = true then some true else if decide (x.1 < 0) = true then some true else if decide (x.1 ≥ x.2.1) = true then some true else some (decide (x.2.1 > min n 20000))) = some (decide (¬ (1 ≤ x.2.2 ∧ x.2.2 ≤ 100 ∧ 0 ≤ x.1 ∧ x.1 < x.2.1 ∧ x.2.1 ≤ min n 20000))) := by
      by_cases h1 : 1 ≤ x.2.2 ∧ x.2.2 ≤ 100
      · rw [if_neg (by simp [h1])]
        by_cases h2 : x.1 < 0
        · rw [if_pos (by simpa using h2)]; congr 1; symm; rw [decide_eq_true_eq]; omega
        · rw [if_neg (by simpa using h2)]
          by_cases h3 : x.1 ≥ x.2.1
          · rw [if_pos (by simpa using h3)]; congr 1; symm; rw [decide_eq_true_eq]; omega
          · rw [if_neg (by simpa using h3)]; congr 1; rw [decide_eq_decide]; omega
      · rw [if_pos (by simp only [Bool.not_eq_true', decide_eq_false_iff_not]; exact h1)]; congr 1; symm; rw [decide_eq_true_eq]; omega
    rw [e1, Option.bind_some]
    by_cases hA : 1 ≤ x.2.2 ∧ x.2.2 ≤ 100 ∧ 0 ≤ x.1 ∧ x.1 < x.2.1 ∧ x.2.1 ≤ min n 20000
    · rw [if_neg (by simp only [decide_eq_true_eq]; exact fun h => h hA)]
      have ih := isS_loop (K := K) (n := n) hl rest (j + 1) k hd' (by omega) (by rw [prevS_succ hx]; omega)
      rw [prevS_succ hx] at ih
      by_cases hj0 : j = 0
      · subst hj0
        rw [if_neg (by simp), Option.bind_some, if_neg (by simp), ih, okS]
        rw [show prevS l 0 = (0, 0) from rfl]
        simp only
        rw [decide_eq_true (by omega), Bool.true_and]
      · have hw2 : IntKind.wrap .i64 ((j : Int) - 1) = ((j - 1 : Nat) : Int) := by rw [w64 (by omega) (by omega)]; omega
        have hp : prevS l j = (l.getD (j - 1) sp0).2 := by unfold prevS; rw [if_neg hj0]
        rw [if_pos (by simp; omega)]
        simp only [hw2, Int.toNat_natCast, ← hp]
        have e2 : (if decide (x.1 < (prevS l j).1) = true then if (0 : Int) ≤ ((j - 1 : Nat) : Int) ∧ ((j - 1 : Nat) : Int) < (l.length : Int) then some true else none else if (x.1 == (prevS l j).1) = true then if (0 : Int) ≤ ((j - 1 : Nat) : Int) ∧ ((j - 1 : Nat) : Int) < (l.length : Int) then some (x.2.2 == (prevS l j).2) else none else if (0 : Int) ≤ ((j - 1 : Nat) : Int) ∧ ((j - 1 : Nat) : Int) < (l.length : Int) then some false else none) = some (decide (¬ ((prevS l j).1 ≤ x.1 ∧ ¬ (x.1 = (prevS l j).1 ∧ x.2.2 = (prevS l j).2)))) := by
          have hb : (0 : Int) ≤ ((j - 1 : Nat) : Int) ∧ ((j - 1 : Nat) : Int) < (l.length : Int) := by omega
          rw [if_pos hb, if_pos hb, if_pos hb]
          by_cases h1 : x.1 < (prevS l j).1
          · rw [if_pos (by simpa using h1)]; congr 1; symm; rw [decide_eq_true_eq]; omega
          · rw [if_neg (by simpa using h1)]
            by_cases h2 : x.1 = (prevS l j).1
            · rw [if_pos (by simpa using h2)]; congr 1
              rw [Bool.eq_iff_iff, beq_iff_eq, decide_eq_true_eq]; omega
            · rw [if_neg (by simpa using h2)]; congr 1; symm; rw [decide_eq_false_iff_not]; omega
        rw [e2, Option.bind_some, okS]
        by_cases hB : (prevS l j).1 ≤ x.1 ∧ ¬ (x.1 = (prevS l j).1 ∧ x.2.2 = (prevS l j).2)
        · rw [if_neg (by simp only [decide_eq_true_eq]; exact fun h => h hB), ih, decide_eq_true (by omega), Bool.true_and]
        · rw [if_pos (by simp only [decide_eq_true_eq]; exact hB), decide_eq_false (by omega), Bool.false_and]
    · rw [if_pos (by simp only [decide_eq_true_eq]; exact hA), okS, decide_eq_false (by omega), Bool.false_and]

theorem isS_is {K : Nat} {l : List Sp} {n : Int} (hK : 1000 ≤ K) : spans_Is_ng K l n = some (isS15 n l) := by
  unfold spans_Is_ng isS15
  by_cases h : l.length ≤ 60
  · rw [if_neg (by simp; omega), decide_eq_true h, Bool.true_and]
    exact isS_loop h l 0 K rfl (by omega) (by simp [prevS])
  · rw [if_pos (by simp; omega), decide_eq_false h, Bool.false_and]

theorem add_is {K : Nat} {r : List Sp} {a b s : Int} (hr : r.length ≤ 1000000) : spans_row_add_bggg_b0cf7 K r a b s = some (r ++ if a < b then [(a, (b, s))] else []) := by
  unfold spans_row_add_bggg_b0cf7
  by_cases h : a < b
  · rw [if_pos (by simpa using h), if_pos (by simp; omega), if_pos h]
  · rw [if_neg (by simpa using h), if_neg h, List.append_nil]

theorem sorted_loop {K : Nat} {Z W : List Sp} {r : List Sp × List Sp} : ∀ (rest : List Sp) (j k : Nat) (out : List Sp), Z.drop j = rest → rest.length < k → Z.length ≤ 100000 → out.length ≤ j →
    spans_row_sorted_r.l0 K Z k out (j : Int) = some (rest.foldl stepS out, Z)
  | [], j, k, out, hd, hk, hl, ho => by
    obtain ⟨k, rfl⟩ : ∃ m, k = m + 1 := ⟨k - 1, by omega⟩
    have := drop_nil hd
    rw [spans_row_sorted_r.l0, if_neg (by simp; omega)]; rfl
  | x :: rest, j, k, out, hd, hk, hl, ho => by
    obtain ⟨k, rfl⟩ : ∃ m, k = m + 1 := ⟨k - 1, by omega⟩
    obtain ⟨hj, hx, hd'⟩ := drop_cons hd sp0
    rw [List.length_cons] at hk
    have hw : IntKind.wrap .i64 ((j : Int) + 1) = ((j + 1 : Nat) : Int) := by rw [w64 (by omega) (by omega)]; omega
    rw [spans_row_sorted_r.l0, if_pos (by simp; omega), if_pos (by omega)]
    simp only [Int.toNat_natCast, hx, hw, eta3]
    have hsl := stepS_len (l := out) (x := x)
    rw [List.foldl_cons, ← sorted_loop (K := K) (W := W) (r := r) rest (j + 1) k (stepS out x) hd' (by omega) hl (by omega)]
    cases ho' : out with
    | nil =>
      rw [if_neg (by rw [List.length_nil]; decide), Option.bind_some, if_neg (by simp), if_pos (by simp)]
      rfl
    | cons y out' =>
      have hne : out ≠ [] := by rw [ho']; simp
      rw [← ho']
      have hlen : 1 ≤ out.length := by rw [ho']; simp
      have hw2 : IntKind.wrap .i64 ((out.length : Int) - 1) = ((out.length - 1 : Nat) : Int) := by rw [w64 (by omega) (by omega)]; omega
      rw [hw2]
      have hb : (0 : Int) ≤ ((out.length - 1 : Nat) : Int) ∧ ((out.length - 1 : Nat) : Int) < (out.length : Int) := by omega
      rw [if_pos hb, if_pos hb, if_pos hb, if_pos (by simp)]
      simp only [Int.toNat_natCast]
      unfold stepS
      by_cases h1 : (out.getD (out.length - 1) sp0).2.2 = x.2.2
      · rw [if_pos (by simpa using h1), Option.bind_some]
        by_cases h2 : (out.getD (out.length - 1) sp0).2.1 = x.1
        · rw [if_pos (by simpa using h2), if_pos ⟨hne, h1, h2⟩]
        · rw [if_neg (by simpa using h2), if_pos (by simp; omega), if_neg (fun h => h2 h.2.2)]
      · rw [if_neg (by simpa using h1), Option.bind_some, if_neg (by simp), if_pos (by simp; omega), if_neg (fun h => h1 h.2.1)]

theorem told15_loop {K : Nat} {r : List Sp × List Sp} (hl : r.1.length ≤ 1000000) : ∀ (rest : List Sp) (j k : Nat) (out : List Sp), r.1.drop j = rest → rest.length < k → out.length ≤ j →
    spans_told_r.l0 K r k out (j : Int) = some (out ++ rest, (0, r.2))
  | [], j, k, out, hd, hk, ho => by
    obtain ⟨k, rfl⟩ : ∃ m, k = m + 1 := ⟨k - 1, by omega⟩
    have := drop_nil hd
    rw [spans_told_r.l0, if_neg (by simp; omega), List.append_nil]
  | x :: rest, j, k, out, hd, hk, ho => by
    obtain ⟨k, rfl⟩ : ∃ m, k = m + 1 := ⟨k - 1, by omega⟩
    obtain ⟨hj, hx, hd'⟩ := drop_cons hd sp0
    rw [List.length_cons] at hk
    have hw : IntKind.wrap .i64 ((j : Int) + 1) = ((j + 1 : Nat) : Int) := by rw [w64 (by omega) (by omega)]; omega
    rw [spans_told_r.l0, if_pos (by simp; omega), if_pos (by simp; omega)]
    simp only [Int.toNat_natCast, hx, hw, eta3]
    rw [told15_loop hl rest (j + 1) k (out ++ [x]) hd' (by omega) (by simp; omega)]
    simp

/-- What is told of a row of runs that lie apart. -/
theorem told15_is {K : Nat} {n : Int} {r : List Sp} (hK : 100000 < K) (hl : r.length ≤ 30000) (hd : r.Pairwise Dj) (hf : ∀ x ∈ r, Fn n x) :
    ∃ C Z, okS n 0 0 C = true ∧ (∀ k, atS C k = atS r k) ∧ C.length ≤ r.length ∧ spans_told_r K r = some (if C.length > 60 then ([], (70, Z)) else (C, (0, Z))) := by
  obtain ⟨Z, e1, e2, e3⟩ := stable_is (K := K) (X := r) hK hl
  obtain ⟨c1, c2⟩ := canon_is e2 e3 hd hf
  have hZ : Z.length = r.length := e2.length_eq
  have hfl := fold_len (r := Z) (acc := [])
  rw [List.length_nil] at hfl
  refine ⟨Z.foldl stepS [], Z, c1, c2, by omega, ?_⟩
  unfold spans_told_r spans_row_sorted_r
  have hs := sorted_loop (K := K) (W := []) (r := ([], [])) Z 0 K [] rfl (by omega) (by omega) (by simp)
  rw [show ((0 : Nat) : Int) = 0 from rfl] at hs
  rw [e1, Option.bind_some, hs, Option.bind_some]
  by_cases h : (Z.foldl stepS []).length > 60
  · rw [if_pos (by simp only [decide_eq_true_eq]; omega), if_pos h]
  · rw [if_neg (by simp only [decide_eq_true_eq]; omega), if_neg h]
    have := told15_loop (K := K) (r := (Z.foldl stepS [], Z)) (by simp only; omega) (Z.foldl stepS []) 0 K [] rfl (by omega) (by simp)
    rw [List.nil_append] at this
    exact this

/-- The parts of a row outside an interval. -/
def cutS (a b : Int) : List Sp → List Sp
  | [] => []
  | x :: l => (if a = b then [x] else (if x.1 < min x.2.1 a then [(x.1, (min x.2.1 a, x.2.2))] else []) ++ (if max x.1 b < x.2.1 then [(max x.1 b, (x.2.1, x.2.2))] else [])) ++ cutS a b l

theorem cutS_len_ge {a b : Int} (hab : a ≤ b) : ∀ {l : List Sp}, (∀ x ∈ l, b ≤ x.1) → (cutS a b l).length ≤ l.length
  | [], _ => by simp [cutS]
  | x :: l, h => by
    have := cutS_len_ge hab (l := l) fun y hy => h y (by simp [hy])
    have hx := h x (by simp)
    rw [cutS, List.length_append, List.length_cons]
    split
    · simp; omega
    · rw [if_neg (by omega)]
      split <;> simp <;> omega

theorem cutS_len2 {n a b : Int} (hab : a ≤ b) : ∀ {l : List Sp} {to st : Int}, okS n to st l = true → 0 ≤ to → (cutS a b l).length ≤ l.length + 1
  | [], _, _, _, _ => by simp [cutS]
  | x :: l, to, st, h, h0 => by
    rw [okS_cons] at h
    rw [cutS, List.length_append, List.length_cons]
    by_cases hc : x.1 < min x.2.1 a ∧ max x.1 b < x.2.1
    · have := cutS_len_ge hab (l := l) fun y hy => by have := (okS_mem h.2 (by omega) y hy).2; omega
      split
      · simp; omega
      · rw [if_pos hc.1, if_pos hc.2]; simp; omega
    · have := cutS_len2 hab h.2 (by omega)
      split
      · simp; omega
      · split <;> split <;> simp <;> omega

theorem put_loop {K : Nat} {l : List Sp} {a b : Int} (hl : l.length ≤ 60) : ∀ (rest : List Sp) (j k : Nat) (out : List Sp), l.drop j = rest → rest.length < k → out.length ≤ 2 * j → (∀ x ∈ rest, x.1 < x.2.1) →
    spans_Put_nsggg.l0 K l a b k out (j : Int) = some (out ++ cutS a b rest)
  | [], j, k, out, hd, hk, ho, hn => by
    obtain ⟨k, rfl⟩ : ∃ m, k = m + 1 := ⟨k - 1, by omega⟩
    have := drop_nil hd
    rw [spans_Put_nsggg.l0, if_neg (by simp; omega), cutS, List.append_nil]
  | x :: rest, j, k, out, hd, hk, ho, hn => by
    obtain ⟨k, rfl⟩ : ∃ m, k = m + 1 := ⟨k - 1, by omega⟩
    obtain ⟨hj, hx, hd'⟩ := drop_cons hd sp0
    rw [List.length_cons] at hk
    have hw : IntKind.wrap .i64 ((j : Int) + 1) = ((j + 1 : Nat) : Int) := by rw [w64 (by omega) (by omega)]; omega
    have hx0 := hn x (by simp)
    rw [spans_Put_nsggg.l0, if_pos (by simp; omega), if_pos (by omega)]
    simp only [Int.toNat_natCast, hx, hw, mn2_is, mx2_is]
    by_cases h : a = b
    · rw [if_pos (by simpa using h), add_is (by omega), Option.bind_some, if_pos hx0, put_loop hl rest (j + 1) k _ hd' (by omega) (by simp; omega) (fun y hy => hn y (by simp [hy])), cutS, if_pos h]
      simp
    · rw [if_neg (by simpa using h), add_is (by omega), Option.bind_some, add_is (by rw [List.length_append]; split <;> simp <;> omega), Option.bind_some,
        put_loop hl rest (j + 1) k _ hd' (by omega) (by simp only [List.length_append]; split <;> split <;> simp <;> omega) (fun y hy => hn y (by simp [hy])), cutS, if_neg h]
      simp

theorem cutS_mem {a b : Int} {y : Sp} : ∀ {l : List Sp}, y ∈ cutS a b l → ∃ x ∈ l, x.1 ≤ y.1 ∧ y.2.1 ≤ x.2.1 ∧ y.2.2 = x.2.2 ∧ (a ≠ b → y.1 < y.2.1 ∧ (y.2.1 ≤ a ∨ b ≤ y.1)) ∧ (a = b → y = x)
  | [], h => by cases h
  | x :: l, h => by
    rw [cutS] at h
    rcases List.mem_append.1 h with h | h
    · refine ⟨x, by simp, ?_⟩
      split at h
      · rename_i hab
        rw [List.mem_singleton.1 h]
        exact ⟨Int.le_refl _, Int.le_refl _, rfl, fun h => (h hab).elim, fun _ => rfl⟩
      · rename_i hab
        rcases List.mem_append.1 h with h | h
        · split at h
          · rw [List.mem_singleton.1 h]
            exact ⟨Int.le_refl _, by simp only; omega, rfl, fun _ => ⟨by simp only; omega, .inl (by simp only; omega)⟩, fun h => (hab h).elim⟩
          · cases h
        · split at h
          · rw [List.mem_singleton.1 h]
            exact ⟨by simp only; omega, Int.le_refl _, rfl, fun _ => ⟨by simp only; omega, .inr (by simp only; omega)⟩, fun h => (hab h).elim⟩
          · cases h
    · obtain ⟨z, hz, h'⟩ := cutS_mem h
      exact ⟨z, by simp [hz], h'⟩

theorem cutS_dj {n a b : Int} (hab : a ≤ b) : ∀ {l : List Sp} {to st : Int}, okS n to st l = true → 0 ≤ to → (cutS a b l).Pairwise Dj
  | [], _, _, _, _ => List.Pairwise.nil
  | x :: l, to, st, h, h0 => by
    have hm := okS_mem h h0
    rw [okS_cons] at h
    rw [cutS]
    refine List.pairwise_append.2 ⟨?_, cutS_dj hab h.2 (by omega), fun y hy z hz => ?_⟩
    · split
      · exact List.pairwise_singleton _ _
      · split <;> split <;> simp [Dj] <;> omega
    · obtain ⟨w, hw, w1, w2, w3, w4, w5⟩ := cutS_mem hz
      have := (okS_mem h.2 (by omega) w hw).2
      have hy2 : y.2.1 ≤ x.2.1 := by
        split at hy
        · rw [List.mem_singleton.1 hy]; omega
        · rcases List.mem_append.1 hy with hy | hy <;> split at hy
          · rw [List.mem_singleton.1 hy]; simp only; omega
          · cases hy
          · rw [List.mem_singleton.1 hy]; simp only; omega
          · cases hy
      exact .inl (by omega)

theorem cutS_cover {a b k : Int} {x : Sp} (hk : x.1 ≤ k ∧ k < x.2.1) (ho : ¬ (a ≤ k ∧ k < b)) (hab : a ≤ b) : ∀ {l : List Sp}, x ∈ l → ∃ y ∈ cutS a b l, y.1 ≤ k ∧ k < y.2.1 ∧ y.2.2 = x.2.2
  | [], h => by cases h
  | z :: l, h => by
    rw [cutS]
    rcases List.mem_cons.1 h with rfl | h
    · by_cases e : a = b
      · exact ⟨x, by rw [if_pos e]; simp, hk.1, hk.2, rfl⟩
      · rw [if_neg e]
        by_cases h1 : k < a
        · exact ⟨(x.1, (min x.2.1 a, x.2.2)), by rw [if_pos (by omega)]; simp, hk.1, by simp only; omega, rfl⟩
        · refine ⟨(max x.1 b, (x.2.1, x.2.2)), ?_, by simp only; omega, hk.2, rfl⟩
          rw [if_pos (show max x.1 b < x.2.1 by omega)]
          simp
    · obtain ⟨y, hy, h'⟩ := cutS_cover hk ho hab h
      exact ⟨y, List.mem_append.2 (.inr hy), h'⟩

def updS (f : Int → Int) (a b s k : Int) : Int := if a ≤ k ∧ k < b then s else f k

/-- The parts outside, and what is put in between. -/
theorem put_parts {n a b s : Int} {l : List Sp} (hl : okS n 0 0 l = true) (h0 : 0 ≤ a) (hab : a ≤ b) (hb : b ≤ n) (hs : 0 ≤ s ∧ s ≤ 100) :
    (cutS a b l ++ if s > 0 then (if a < b then [(a, (b, s))] else []) else []).Pairwise Dj ∧ (∀ x ∈ cutS a b l ++ (if s > 0 then (if a < b then [(a, (b, s))] else []) else []), Fn n x) ∧
      ∀ k, atS (cutS a b l ++ if s > 0 then (if a < b then [(a, (b, s))] else []) else []) k = updS (atS l) a b s k := by
  have hm := okS_mem hl (Int.le_refl 0)
  have hmem : ∀ x ∈ (if s > 0 then (if a < b then [(a, (b, s))] else []) else [] : List Sp), x = (a, (b, s)) ∧ s > 0 ∧ a < b := by
    intro x hx
    split at hx
    · split at hx
      · rename_i h1 h2; exact ⟨List.mem_singleton.1 hx, h1, h2⟩
      · cases hx
    · cases hx
  have hpw : (cutS a b l ++ if s > 0 then (if a < b then [(a, (b, s))] else []) else []).Pairwise Dj := by
    refine List.pairwise_append.2 ⟨cutS_dj hab hl (Int.le_refl 0), ?_, fun y hy z hz => ?_⟩
    · split
      · split <;> simp
      · simp
    · obtain ⟨rfl, h1, h2⟩ := hmem z hz
      obtain ⟨x, hx, w1, w2, w3, w4, w5⟩ := cutS_mem hy
      rcases (w4 (by omega)).2 with h | h
      · exact .inl h
      · exact .inr h
  have hfn : ∀ x ∈ cutS a b l ++ (if s > 0 then (if a < b then [(a, (b, s))] else []) else []), Fn n x := by
    intro y hy
    rcases List.mem_append.1 hy with hy | hy
    · obtain ⟨x, hx, w1, w2, w3, w4, w5⟩ := cutS_mem hy
      have hx' := (hm x hx).1
      unfold Fn at hx' ⊢
      by_cases e : a = b
      · rw [w5 e]; exact hx'
      · have := w4 e; omega
    · obtain ⟨rfl, h1, h2⟩ := hmem y hy
      exact ⟨h0, h2, hb, by simp only; omega, hs.2⟩
  refine ⟨hpw, hfn, fun k => eq_of_vals fun v hv => ?_⟩
  rw [atS_iff hpw hfn hv]
  unfold updS
  constructor
  · rintro ⟨y, hy, y1, y2, y3⟩
    rcases List.mem_append.1 hy with hy | hy
    · obtain ⟨x, hx, w1, w2, w3, w4, w5⟩ := cutS_mem hy
      rw [if_neg (by
        intro hk
        by_cases e : a = b
        · omega
        · have := (w4 e).2; omega), atS_iff (od_dj (okS_ord hl (Int.le_refl 0))) (fun x hx => (hm x hx).1) hv]
      exact ⟨x, hx, by omega, by omega, by omega⟩
    · obtain ⟨rfl, h1, h2⟩ := hmem y hy
      rw [if_pos ⟨y1, y2⟩]; exact y3
  · intro h
    split at h
    · rename_i hk
      subst h
      exact ⟨(a, (b, s)), List.mem_append.2 (.inr (by rw [if_pos (by omega), if_pos (by omega)]; simp)), hk.1, hk.2, rfl⟩
    · rename_i hk
      obtain ⟨x, hx, x1, x2, x3⟩ := (atS_iff (od_dj (okS_ord hl (Int.le_refl 0))) (fun x hx => (hm x hx).1) hv).1 h
      obtain ⟨y, hy, y1, y2, y3⟩ := cutS_cover ⟨x1, x2⟩ hk hab hx
      exact ⟨y, List.mem_append.2 (.inl hy), y1, y2, by rw [y3, x3]⟩

/-- Put. -/
theorem put15_bad {K : Nat} {l : List Sp} {a b s : Int} (hK : 100000 < K) (h : ¬ (isS15 20000 l = true ∧ 0 ≤ s ∧ s ≤ 100 ∧ 0 ≤ a ∧ a ≤ b ∧ b ≤ 20000)) : spans_Put_nsggg K l a b s = some ([], 12) := by
  unfold spans_Put_nsggg
  rw [isS_is (by omega), Option.bind_some, within_is, Option.bind_some]
  have : (if (!isS15 20000 l) = true then some true else if (!decide ((0 : Int) ≤ s ∧ s ≤ 100)) = true then some true else if decide (a < 0) = true then some true else if decide (a > b) = true then some true else some (decide (b > 20000))) = some true := by
    cases hi : isS15 20000 l with
    | false => rfl
    | true =>
      rw [if_neg (by simp)]
      by_cases h1 : (0 : Int) ≤ s ∧ s ≤ 100
      · rw [if_neg (by simp [h1])]
        by_cases h2 : a < 0
        · rw [if_pos (by simpa using h2)]
        · rw [if_neg (by simpa using h2)]
          by_cases h3 : a > b
          · rw [if_pos (by simpa using h3)]
          · rw [if_neg (by simpa using h3)]
            congr 1; rw [decide_eq_true_eq]
            rcases Int.lt_or_le 20000 b with h4 | h4
            · exact h4
            · exact (h ⟨hi, h1.1, h1.2, by omega, by omega, h4⟩).elim
      · rw [if_pos (by simp only [Bool.not_eq_true', decide_eq_false_iff_not]; exact h1)]
  rw [this, Option.bind_some, if_pos rfl]

theorem isS15_ok {n : Int} {l : List Sp} (h : isS15 n l = true) : l.length ≤ 60 ∧ okS (min n 20000) 0 0 l = true := by
  unfold isS15 at h
  rw [Bool.and_eq_true, decide_eq_true_eq] at h
  exact h

theorem put15_is {K : Nat} {l : List Sp} {a b s n : Int} (hK : 100000 < K) (hll : l.length ≤ 60) (hl : okS n 0 0 l = true) (hn : n ≤ 20000) (hs : 0 ≤ s ∧ s ≤ 100) (ha : 0 ≤ a) (hab : a ≤ b) (hb : b ≤ n) :
    ∃ C, okS n 0 0 C = true ∧ (∀ k, atS C k = updS (atS l) a b s k) ∧ C.length ≤ l.length + 2 ∧ spans_Put_nsggg K l a b s = some (if C.length > 60 then ([], 70) else (C, 0)) := by
  obtain ⟨p1, p2, p3⟩ := put_parts hl ha hab hb hs
  have hcl := cutS_len2 (a := a) (b := b) hab hl (Int.le_refl 0)
  have hm := okS_mem hl (Int.le_refl 0)
  have hadd : (cutS a b l ++ if s > 0 then (if a < b then [(a, (b, s))] else []) else []).length ≤ l.length + 2 := by
    rw [List.length_append]; split
    · split <;> simp <;> omega
    · simp; omega
  obtain ⟨C, Z, c1, c2, c3, c4⟩ := told15_is (K := K) hK (by omega) p1 p2
  refine ⟨C, c1, fun k => by rw [c2, p3], by omega, ?_⟩
  unfold spans_Put_nsggg
  have hi : isS15 20000 l = true := by unfold isS15; rw [decide_eq_true hll, Bool.true_and]; exact okS_mono (by omega) hl
  rw [isS_is (by omega), Option.bind_some, hi, within_is, Option.bind_some]
  have e1 : (if (!true) = true then some true else if (!decide ((0 : Int) ≤ s ∧ s ≤ 100)) = true then some true else if decide (a < 0) = true then some true else if decide (a > b) = true then some true else some (decide (b > 20000))) = some false := by
    rw [if_neg (by simp), if_neg (by simp [hs]), if_neg (by simp; omega), if_neg (by simp; omega)]
    congr 1; rw [decide_eq_false_iff_not]; omega
  have hpl := put_loop (K := K) (a := a) (b := b) hll l 0 K [] rfl (by omega) (by simp) (fun x hx => (hm x hx).1.2.1)
  rw [show ((0 : Nat) : Int) = 0 from rfl] at hpl
  rw [e1, Option.bind_some, if_neg (by simp), hpl, Option.bind_some, List.nil_append]
  have e2 : (if decide (s > 0) = true then (spans_row_add_bggg_b0cf7 K (cutS a b l) a b s).bind (fun r_66 => some r_66) else some (cutS a b l)) = some (cutS a b l ++ if s > 0 then (if a < b then [(a, (b, s))] else []) else []) := by
    by_cases h : s > 0
    · rw [if_pos (by simpa using h), add_is (by omega), Option.bind_some, if_pos h]
    · rw [if_neg (by simpa using h), if_neg h, List.append_nil]
  rw [e2, Option.bind_some, c4, Option.bind_some]
  split <;> rfl

theorem at_loop {K : Nat} {l : List Sp} {a : Int} (hl : l.length ≤ 1000000) : ∀ (rest : List Sp) (j k : Nat), l.drop j = rest → rest.length < k →
    spans_At_rg.l0 K l a k (j : Int) = some (atS rest a)
  | [], j, k, hd, hk => by
    obtain ⟨k, rfl⟩ : ∃ m, k = m + 1 := ⟨k - 1, by omega⟩
    have := drop_nil hd
    rw [spans_At_rg.l0, if_neg (by simp; omega)]; rfl
  | x :: rest, j, k, hd, hk => by
    obtain ⟨k, rfl⟩ : ∃ m, k = m + 1 := ⟨k - 1, by omega⟩
    obtain ⟨hj, hx, hd'⟩ := drop_cons hd sp0
    rw [List.length_cons] at hk
    have hw : IntKind.wrap .i64 ((j : Int) + 1) = ((j + 1 : Nat) : Int) := by rw [w64 (by omega) (by omega)]; omega
    rw [spans_At_rg.l0, if_pos (by simp; omega), if_pos (by omega)]
    simp only [Int.toNat_natCast, hx, hw, at_loop hl rest (j + 1) k hd' (by omega)]
    rw [atS]
    by_cases h1 : a ≥ x.1
    · rw [if_pos (by simpa using h1), Option.bind_some]
      by_cases h2 : a < x.2.1
      · rw [if_pos (by simpa using h2), if_pos ⟨h1, h2⟩]
      · rw [if_neg (by simpa using h2), if_neg (fun h => h2 h.2)]
    · rw [if_neg (by simpa using h1), Option.bind_some, if_neg (by simp), if_neg (fun h => h1 h.1)]

theorem at_is {K : Nat} {l : List Sp} {a : Int} (hl : l.length ≤ 1000000) (hK : l.length < K) : spans_At_rg K l a = some (atS l a) := at_loop hl l 0 K rfl hK

theorem rIs_loop {K : Nat} {l : List Sp} {n : Int} (hl : l.length ≤ 60) : ∀ (rest : List Sp) (j k : Nat), l.drop j = rest → rest.length < k → 0 ≤ (prevS l j).1 →
    palinoderef15_Is.l0 K l n k (prevS l j).1 (prevS l j).2 (j : Int) = some (okS (min n 20000) (prevS l j).1 (prevS l j).2 rest)
  | [], j, k, hd, hk, h0 => by
    obtain ⟨k, rfl⟩ : ∃ m, k = m + 1 := ⟨k - 1, by omega⟩
    have := drop_nil hd
    rw [palinoderef15_Is.l0, if_neg (by simp; omega)]; rfl
  | x :: rest, j, k, hd, hk, h0 => by
    obtain ⟨k, rfl⟩ : ∃ m, k = m + 1 := ⟨k - 1, by omega⟩
    obtain ⟨hj, hx, hd'⟩ := drop_cons hd sp0
    rw [List.length_cons] at hk
    have hw : IntKind.wrap .i64 ((j : Int) + 1) = ((j + 1 : Nat) : Int) := by rw [w64 (by omega) (by omega)]; omega
    rw [palinoderef15_Is.l0, if_pos (by simp; omega), if_pos (by omega)]
    simp only [Int.toNat_natCast, hx, hw, mn2_is]
    have e1 : (if decide (x.2.2 < 1) = true then some true else if decide (x.2.2 > 100) = true then some true else if decide (x.1 < (prevS l j).1) = true then some true else if decide (x.2.1 ≤ x.1) = true then some true else if decide (x.2.1 > min n 20000) = true then some true else if decide ((j : Int) > 0) = true then if (x.1 == (prevS l j).1) = true then some (x.2.2 == (prevS l j).2) else some false else some false) = some (decide (¬ (1 ≤ x.2.2 ∧ x.2.2 ≤ 100 ∧ (prevS l j).1 ≤ x.1 ∧ x.1 < x.2.1 ∧ x.2.1 ≤ min n 20000 ∧ ¬ (x.1 = (prevS l j).1 ∧ x.2.2 = (prevS l j).2)))) := by
      by_cases h1 : x.2.2 < 1
      · rw [if_pos (by simpa using h1)]; congr 1; symm; rw [decide_eq_true_eq]; omega
      rw [if_neg (by simpa using h1)]
      by_cases h2 : x.2.2 > 100
      · rw [if_pos (by simpa using h2)]; congr 1; symm; rw [decide_eq_true_eq]; omega
      rw [if_neg (by simpa using h2)]
      by_cases h3 : x.1 < (prevS l j).1
      · rw [if_pos (by simpa using h3)]; congr 1; symm; rw [decide_eq_true_eq]; omega
      rw [if_neg (by simpa using h3)]
      by_cases h4 : x.2.1 ≤ x.1
      · rw [if_pos (by simpa using h4)]; congr 1; symm; rw [decide_eq_true_eq]; omega
      rw [if_neg (by simpa using h4)]
      by_cases h5 : x.2.1 > min n 20000
      · rw [if_pos (by simpa using h5)]; congr 1; symm; rw [decide_eq_true_eq]; omega
      rw [if_neg (by simpa using h5)]
      by_cases h6 : j = 0
      · subst h6
        rw [if_neg (by simp)]
        congr 1; symm
        rw [decide_eq_false_iff_not, show prevS l 0 = (0, 0) from rfl]
        rw [show prevS l 0 = (0, 0) from rfl] at h3
        simp only at h3 ⊢
        omega
      rw [if_pos (by simp; omega)]
      by_cases h7 : x.1 = (prevS l j).1
      · rw [if_pos (by simpa using h7)]; congr 1; rw [Bool.eq_iff_iff, beq_iff_eq, decide_eq_true_eq]; omega
      · rw [if_neg (by simpa using h7)]; congr 1; symm; rw [decide_eq_false_iff_not]; omega
    rw [e1, Option.bind_some, okS]
    by_cases h : 1 ≤ x.2.2 ∧ x.2.2 ≤ 100 ∧ (prevS l j).1 ≤ x.1 ∧ x.1 < x.2.1 ∧ x.2.1 ≤ min n 20000 ∧ ¬ (x.1 = (prevS l j).1 ∧ x.2.2 = (prevS l j).2)
    · have ih := rIs_loop (K := K) (n := n) hl rest (j + 1) k hd' (by omega) (by rw [prevS_succ hx]; omega)
      rw [prevS_succ hx] at ih
      rw [if_neg (by simp only [decide_eq_true_eq]; exact fun h' => h' h), ih, decide_eq_true h, Bool.true_and]
    · rw [if_pos (by simp only [decide_eq_true_eq]; exact h), decide_eq_false h, Bool.false_and]

theorem rIs_is {K : Nat} {l : List Sp} {n : Int} (hK : 1000 ≤ K) : palinoderef15_Is K l n = some (isS15 n l) := by
  unfold palinoderef15_Is isS15
  by_cases h : l.length ≤ 60
  · rw [if_neg (by simp; omega), decide_eq_true h, Bool.true_and]
    exact rIs_loop h l 0 K rfl (by omega) (by simp [prevS])
  · rw [if_pos (by simp; omega), decide_eq_false h, Bool.false_and]

def neS (x : Sp) : Bool := decide (x.1 < x.2.1 ∧ x.2.2 ≠ 0)

theorem few_loop15 {K : Nat} {l : List Sp} (hl : l.length ≤ 100000) : ∀ (rest : List Sp) (j k : Nat) (out : List Sp), l.drop j = rest → rest.length < k → out.length ≤ j →
    palinoderef15_fewest_r.l0 K l k out (j : Int) = some ((rest.filter neS).foldl stepS out)
  | [], j, k, out, hd, hk, ho => by
    obtain ⟨k, rfl⟩ : ∃ m, k = m + 1 := ⟨k - 1, by omega⟩
    have := drop_nil hd
    rw [palinoderef15_fewest_r.l0, if_neg (by simp; omega)]; rfl
  | x :: rest, j, k, out, hd, hk, ho => by
    obtain ⟨k, rfl⟩ : ∃ m, k = m + 1 := ⟨k - 1, by omega⟩
    obtain ⟨hj, hx, hd'⟩ := drop_cons hd sp0
    rw [List.length_cons] at hk
    have hw : IntKind.wrap .i64 ((j : Int) + 1) = ((j + 1 : Nat) : Int) := by rw [w64 (by omega) (by omega)]; omega
    have hb : (0 : Int) ≤ (j : Int) ∧ (j : Int) < (l.length : Int) := by omega
    rw [palinoderef15_fewest_r.l0, if_pos (by simp; omega)]
    simp only [Int.toNat_natCast, hx, hw, eta3]
    rw [if_pos hb, if_pos hb]
    have e1 : (if decide (x.2.1 ≤ x.1) = true then some true else some (x.2.2 == 0)) = some (!neS x) := by
      unfold neS
      by_cases h : x.2.1 ≤ x.1
      · rw [if_pos (by simpa using h), decide_eq_false (by omega)]; rfl
      · rw [if_neg (by simpa using h)]
        congr 1
        rw [Bool.eq_iff_iff, beq_iff_eq, Bool.not_eq_true', decide_eq_false_iff_not]; omega
    rw [e1, Option.bind_some]
    cases hn : neS x with
    | false =>
      rw [if_pos (show (!false) = true from rfl), few_loop15 hl rest (j + 1) k out hd' (by omega) (by omega), List.filter_cons_of_neg (by simp [hn])]
    | true =>
      rw [if_neg (by simp), List.filter_cons_of_pos hn, List.foldl_cons, ← few_loop15 (K := K) hl rest (j + 1) k (stepS out x) hd' (by omega) (by have := stepS_len (l := out) (x := x); omega)]
      cases ho' : out with
      | nil =>
        rw [if_neg (by simp), Option.bind_some, if_neg (by simp), if_pos (by simp; omega)]; rfl
      | cons y out' =>
        have hne : out ≠ [] := by rw [ho']; simp
        rw [← ho']
        have hlen : 1 ≤ out.length := by rw [ho']; simp
        have hw2 : IntKind.wrap .i64 ((out.length : Int) - 1) = ((out.length - 1 : Nat) : Int) := by rw [w64 (by omega) (by omega)]; omega
        rw [hw2]
        simp only [Int.toNat_natCast]
        rw [if_pos (by simp; omega)]
        have hb2 : (0 : Int) ≤ ((out.length - 1 : Nat) : Int) ∧ ((out.length - 1 : Nat) : Int) < (out.length : Int) ∧ (0 : Int) ≤ (j : Int) ∧ (j : Int) < (l.length : Int) := by omega
        rw [if_pos hb2, if_pos hb2, if_pos (show (0 : Int) ≤ (j : Int) ∧ (j : Int) < (l.length : Int) ∧ (0 : Int) ≤ ((out.length - 1 : Nat) : Int) ∧ ((out.length - 1 : Nat) : Int) < (out.length : Int) by omega)]
        unfold stepS
        by_cases h1 : (out.getD (out.length - 1) sp0).2.1 = x.1
        · rw [if_pos (by simpa using h1), Option.bind_some]
          by_cases h2 : (out.getD (out.length - 1) sp0).2.2 = x.2.2
          · rw [if_pos (by simpa using h2), if_pos ⟨hne, h2, h1⟩]
          · rw [if_neg (by simpa using h2), if_pos (by simp; omega), if_neg (fun h => h2 h.2.1)]
        · rw [if_neg (by simpa using h1), Option.bind_some, if_neg (by simp), if_pos (by simp; omega), if_neg (fun h => h1 h.2.2)]

theorem few15_is {K : Nat} {l : List Sp} (hl : l.length ≤ 100000) (hK : l.length < K) : palinoderef15_fewest_r K l = some ((l.filter neS).foldl stepS []) := few_loop15 hl l 0 K [] rfl hK (by simp)

/-- The parts within an interval. -/
def inSp (a b : Int) (l : List Sp) : List Sp := l.filterMap fun x => if max x.1 a < min x.2.1 b then some (max x.1 a, (min x.2.1 b, x.2.2)) else none

theorem in_loop {K : Nat} {l : List Sp} {a b : Int} (hl : l.length ≤ 1000000) : ∀ (rest : List Sp) (j k : Nat) (out : List Sp), l.drop j = rest → rest.length < k → out.length ≤ j →
    spans_In_rsgg.l0 K l a b k out (j : Int) = some (out ++ inSp a b rest)
  | [], j, k, out, hd, hk, ho => by
    obtain ⟨k, rfl⟩ : ∃ m, k = m + 1 := ⟨k - 1, by omega⟩
    have := drop_nil hd
    rw [spans_In_rsgg.l0, if_neg (by simp; omega)]; simp [inSp]
  | x :: rest, j, k, out, hd, hk, ho => by
    obtain ⟨k, rfl⟩ : ∃ m, k = m + 1 := ⟨k - 1, by omega⟩
    obtain ⟨hj, hx, hd'⟩ := drop_cons hd sp0
    rw [List.length_cons] at hk
    have hw : IntKind.wrap .i64 ((j : Int) + 1) = ((j + 1 : Nat) : Int) := by rw [w64 (by omega) (by omega)]; omega
    rw [spans_In_rsgg.l0, if_pos (by simp; omega), if_pos (by omega)]
    simp only [Int.toNat_natCast, hx, hw, mn2_is, mx2_is]
    by_cases h : max x.1 a < min x.2.1 b
    · rw [if_pos (by simpa using h), if_pos (by simp; omega), in_loop hl rest (j + 1) k _ hd' (by omega) (by simp; omega), inSp, inSp, List.filterMap_cons_some (by rw [if_pos h])]
      simp
    · rw [if_neg (by simpa using h), in_loop hl rest (j + 1) k _ hd' (by omega) (by omega), inSp, inSp, List.filterMap_cons_none (by rw [if_neg h])]

theorem in_is {K : Nat} {l : List Sp} {a b : Int} (hl : l.length ≤ 1000000) (hK : l.length < K) : spans_In_rsgg K l a b = some (inSp a b l) := in_loop hl l 0 K [] rfl hK (by simp)

theorem mv_mono {base a b : Int} {d : List El} {after : Bool} (h : isD base d = true) (hab : a ≤ b) : mv base d a after ≤ mv base d b after := by
  obtain ⟨h1, h2, h3, h4, h5⟩ := isD_ok h
  have := mvE_mono (p := min (max a 0) base) (q := min (max b 0) base) (by omega) (by omega) (l := d) (n := 0) (w := 0) (Int.le_refl 0) (isD_isS h) (by omega) (by omega)
  unfold mv
  rw [if_pos h, if_pos h]
  cases after
  · rw [if_neg (by simp), if_neg (by simp)]; exact this.1
  · rw [if_pos rfl, if_pos rfl]; exact this.2

/-- Where a span goes. -/
def goS (base : Int) (d : List El) (x : Sp) : Sp := (mv base d x.1 true, (max (mv base d x.1 true) (mv base d x.2.1 false), x.2.2))

def neI (x : Sp) : Bool := decide (x.1 < x.2.1)

theorem edit_loop {K : Nat} {l : List Sp} {base : Int} {d : List El} (hK : 30000 ≤ K) (hl : l.length ≤ 100000) : ∀ (rest : List Sp) (j k : Nat) (out : List Sp), l.drop j = rest → rest.length < k → out.length ≤ j →
    spans_Edit.l0 K l base d k out (j : Int) = some (out ++ (rest.map (goS base d)).filter neI)
  | [], j, k, out, hd, hk, ho => by
    obtain ⟨k, rfl⟩ : ∃ m, k = m + 1 := ⟨k - 1, by omega⟩
    have := drop_nil hd
    rw [spans_Edit.l0, if_neg (by simp; omega)]; simp
  | x :: rest, j, k, out, hd, hk, ho => by
    obtain ⟨k, rfl⟩ : ∃ m, k = m + 1 := ⟨k - 1, by omega⟩
    obtain ⟨hj, hx, hd'⟩ := drop_cons hd sp0
    rw [List.length_cons] at hk
    have hw : IntKind.wrap .i64 ((j : Int) + 1) = ((j + 1 : Nat) : Int) := by rw [w64 (by omega) (by omega)]; omega
    rw [spans_Edit.l0, if_pos (by simp; omega), if_pos (by omega)]
    simp only [Int.toNat_natCast, hx, hw, interval_is hK, Option.bind_some]
    rw [add_is (by omega), Option.bind_some, edit_loop hK hl rest (j + 1) k _ hd' (by omega) (by rw [List.length_append]; split <;> simp <;> omega), List.map_cons, List.filter_cons]
    unfold neI goS
    simp only [decide_eq_true_eq]
    split <;> simp

theorem redit_loop {K : Nat} {l : List Sp} {base : Int} {d : List El} (hK : 100000 ≤ K) (hl : l.length ≤ 100000) : ∀ (rest : List Sp) (j k : Nat) (out : List Sp), l.drop j = rest → rest.length < k → out.length ≤ j →
    palinoderef15_Edit.l0 K l base d k out (j : Int) = some (out ++ rest.map (goS base d))
  | [], j, k, out, hd, hk, ho => by
    obtain ⟨k, rfl⟩ : ∃ m, k = m + 1 := ⟨k - 1, by omega⟩
    have := drop_nil hd
    rw [palinoderef15_Edit.l0, if_neg (by simp; omega)]; simp
  | x :: rest, j, k, out, hd, hk, ho => by
    obtain ⟨k, rfl⟩ : ∃ m, k = m + 1 := ⟨k - 1, by omega⟩
    obtain ⟨hj, hx, hd'⟩ := drop_cons hd sp0
    rw [List.length_cons] at hk
    have hw : IntKind.wrap .i64 ((j : Int) + 1) = ((j + 1 : Nat) : Int) := by rw [w64 (by omega) (by omega)]; omega
    rw [palinoderef15_Edit.l0, if_pos (by simp; omega)]
    simp only [Int.toNat_natCast, hx, hw, rinterval_is hK, Option.bind_some]
    rw [if_pos (by omega), if_pos (by simp; omega), redit_loop hK hl rest (j + 1) k _ hd' (by omega) (by simp; omega), List.map_cons]
    simp [goS]

theorem go_parts {base n : Int} {d : List El} {l : List Sp} (hd : isD base d = true) (hl : okS n 0 0 l = true) : (l.map (goS base d)).filter neS = (l.map (goS base d)).filter neI ∧ ((l.map (goS base d)).filter neI).Pairwise Od ∧ ∀ x ∈ (l.map (goS base d)).filter neI, Fn (sumK d + sumT d) x := by
  have hm := okS_mem hl (Int.le_refl 0)
  have hod := okS_ord hl (Int.le_refl 0)
  refine ⟨List.filter_congr fun x hx => ?_, ?_, fun x hx => ?_⟩
  · obtain ⟨y, hy, rfl⟩ := List.mem_map.1 hx
    have := (hm y hy).1
    unfold neS neI goS Fn at *
    simp only
    rw [decide_eq_decide]; omega
  · rw [List.pairwise_filter, List.pairwise_map]
    refine hod.imp fun {x y} h h1 h2 => ?_
    unfold Od goS neI at *
    simp only [decide_eq_true_eq] at *
    have a1 := mv_mono (after := false) hd h
    have a2 := (mv_bounds (a := y.1) hd).2.1
    omega
  · rw [List.mem_filter] at hx
    obtain ⟨y, hy, rfl⟩ := List.mem_map.1 hx.1
    have hy' := (hm y hy).1
    have b1 := mv_bounds (a := y.1) hd
    have b2 := mv_bounds (a := y.2.1) hd
    have h2 := hx.2
    unfold Fn goS neI at *
    simp only [decide_eq_true_eq] at *
    omega

theorem edit15_is {K : Nat} {l : List Sp} {base : Int} {d : List El} (hK : 100000 < K) (hd : isD base d = true) (hi : isS15 base l = true) :
    ∃ C, okS (sumK d + sumT d) 0 0 C = true ∧ (∀ k, atS C k = atS ((l.map (goS base d)).filter neI) k) ∧ C.length ≤ l.length ∧ spans_Edit K l base d = some (C, 0) ∧ palinoderef15_Edit K l base d = some (C, 0) := by
  obtain ⟨hl60, hok⟩ := isS15_ok hi
  obtain ⟨p1, p2, p3⟩ := go_parts hd hok
  have hfl : ((l.map (goS base d)).filter neI).length ≤ l.length := by
    have := List.length_filter_le neI (l.map (goS base d))
    rw [List.length_map] at this; exact this
  obtain ⟨C, Z, c1, c2, c3, c4⟩ := told15_is (K := K) hK (by omega) (od_dj p2) p3
  refine ⟨C, c1, c2, by omega, ?_, ?_⟩
  · unfold spans_Edit
    have el := edit_loop (K := K) (base := base) (d := d) (by omega) (by omega) l 0 K [] rfl (by omega) (by simp)
    rw [show ((0 : Nat) : Int) = 0 from rfl] at el
    rw [is_is (by omega), Option.bind_some, hd, isS_is (by omega), Option.bind_some, hi, if_neg (by simp), Option.bind_some, if_neg (by simp), el, Option.bind_some, List.nil_append, c4, Option.bind_some, if_neg (by omega)]
  · unfold palinoderef15_Edit
    have el := redit_loop (K := K) (base := base) (d := d) (by omega) (by omega) l 0 K [] rfl (by omega) (by simp)
    rw [show ((0 : Nat) : Int) = 0 from rfl] at el
    rw [ris_is (by omega), Option.bind_some, hd, rIs_is (by omega), Option.bind_some, hi, if_neg (by simp), Option.bind_some, if_neg (by simp), el, Option.bind_some, List.nil_append, few15_is (by rw [List.length_map]; omega) (by rw [List.length_map]; omega), Option.bind_some, p1]
    have hf := fold_ok (n := sumK d + sumT d) (r := (l.map (goS base d)).filter neI) (acc := []) rfl p3 p2 (fun x hx => by cases hx)
    rw [okS_unique hf.1 c1 (Int.le_refl _) (Int.le_refl _) fun k => by rw [hf.2, c2, List.nil_append]]

theorem known15 {K : Nat} (hK : 100000 < K) : palinodelaw15_known K = some true := by
  unfold palinodelaw15_known
  obtain ⟨C1, a1, a2, a3, a4⟩ := put15_is (K := K) (l := []) (a := 0) (b := 9) (s := 1) (n := 20000) hK (by simp) rfl (by omega) (by omega) (by omega) (by omega) (by omega)
  have e1 : C1 = [((0 : Int), ((9 : Int), (1 : Int)))] := okS_unique (n := 20000) (m := 20000) (t1 := 0) (s1 := 0) (t2 := 0) (s2 := 0) a1 (by decide) (by omega) (by omega) fun k => by rw [a2]; unfold updS; simp [atS]
  subst e1
  rw [if_neg (by simp)] at a4
  obtain ⟨C2, b1, b2, b3, b4⟩ := put15_is (K := K) (l := [((0 : Int), ((9 : Int), (1 : Int)))]) (a := 3) (b := 5) (s := 2) (n := 20000) hK (by simp) a1 (by omega) (by omega) (by omega) (by omega) (by omega)
  have e2 : C2 = [((0 : Int), ((3 : Int), (1 : Int))), (3, (5, 2)), (5, (9, 1))] := okS_unique (n := 20000) (m := 20000) (t1 := 0) (s1 := 0) (t2 := 0) (s2 := 0) b1 (by decide) (by omega) (by omega) fun k => by
    rw [b2]; unfold updS; simp only [atS]
    by_cases h1 : (3 : Int) ≤ k ∧ k < 5
    · rw [if_pos h1, if_neg (by omega), if_pos h1]
    · rw [if_neg h1, if_neg h1]
      by_cases h2 : (0 : Int) ≤ k ∧ k < 3
      · rw [if_pos h2, if_pos (by omega)]
      · rw [if_neg h2]
        by_cases h3 : (5 : Int) ≤ k ∧ k < 9
        · rw [if_pos h3, if_pos (by omega)]
        · rw [if_neg h3, if_neg (by omega)]
  subst e2
  rw [if_neg (by simp)] at b4
  rw [a4, Option.bind_some]
  simp only
  rw [b4, Option.bind_some]
  simp only
  rw [put15_bad hK (by omega), Option.bind_some, in_is (by simp) (by simp; omega), Option.bind_some, at_is (by simp) (by simp; omega), at_is (by simp) (by simp; omega), isS_is (by omega), isS_is (by omega)]
  decide

def shS (p t : Int) (x : Sp) : Sp := ((if x.1 ≥ p then x.1 + t else x.1), ((if x.2.1 > p then x.2.1 + t else x.2.1), x.2.2))

def insideS (p : Int) (l : List Sp) : Bool := l.any fun x => decide (x.1 < p ∧ p < x.2.1)

theorem sh_at {n p t k : Int} (ht : 0 ≤ t) : ∀ {l : List Sp} {to st : Int}, okS n to st l = true → 0 ≤ to → atS (l.map (shS p t)) k = if k < p then atS l k else if k < p + t then (if insideS p l = true then atS l p else 0) else atS l (k - t)
  | [], to, st, h, h0 => by simp [atS, insideS]
  | x :: l, to, st, h, h0 => by
    have h' := okS_cons.1 h
    have ih := sh_at (p := p) (t := t) (k := k) ht h'.2 (by omega)
    rw [List.map_cons, atS, ih]
    by_cases c1 : k < p
    · rw [if_pos c1, if_pos c1, atS]
      by_cases c : x.1 ≤ k ∧ k < x.2.1
      · rw [if_pos c, if_pos (by unfold shS; simp only; split <;> split <;> omega)]; rfl
      · rw [if_neg c, if_neg (by unfold shS; simp only; split <;> split <;> omega)]
    · rw [if_neg c1, if_neg c1]
      by_cases c2 : k < p + t
      · rw [if_pos c2, if_pos c2]
        have ei : insideS p (x :: l) = (decide (x.1 < p ∧ p < x.2.1) || insideS p l) := rfl
        by_cases c : x.1 < p ∧ p < x.2.1
        · rw [if_pos (by unfold shS; simp only; split <;> split <;> omega), ei, decide_eq_true c, Bool.true_or, if_pos rfl, atS, if_pos (by omega)]; rfl
        · rw [if_neg (by unfold shS; simp only; split <;> split <;> omega), ei, decide_eq_false c, Bool.false_or]
          by_cases ci : insideS p l = true
          · rw [if_pos ci, if_pos ci, atS]
            by_cases cx : x.1 ≤ p ∧ p < x.2.1
            · exfalso
              unfold insideS at ci
              rw [List.any_eq_true] at ci
              obtain ⟨y, hy, hy2⟩ := ci
              rw [decide_eq_true_eq] at hy2
              have := (okS_mem h'.2 (by omega) y hy).2
              omega
            · rw [if_neg cx]
          · rw [if_neg ci, if_neg ci]
      · rw [if_neg c2, if_neg c2, atS]
        by_cases c : x.1 ≤ k - t ∧ k - t < x.2.1
        · rw [if_pos c, if_pos (by unfold shS; simp only; split <;> split <;> omega)]; rfl
        · rw [if_neg c, if_neg (by unfold shS; simp only; split <;> split <;> omega)]

theorem go0_loop {K : Nat} {l : List Sp} {n N : Int} (hK : 100000 < K) (hl : l.length ≤ 15) (hn : IntKind.wrap .i64 (IntKind.wrap .i64 (Int.tmod n 100) + 2) = N) (hN : N ≤ 20000) : ∀ (rest : List Sp) (j k : Nat) (m : List Sp), l.drop j = rest → rest.length < k → j ≤ l.length → okS N 0 0 m = true → m.length ≤ 2 * j →
    palinodelaw15_SpansGo.l0 K l n k m (j : Int) = some (.inl true) ∨ ∃ m', palinodelaw15_SpansGo.l0 K l n k m (j : Int) = some (.inr m') ∧ okS N 0 0 m' = true ∧ m'.length ≤ 60
  | [], j, k, m, hd, hk, hj', h1, h2 => by
    obtain ⟨k, rfl⟩ : ∃ m, k = m + 1 := ⟨k - 1, by omega⟩
    have := drop_nil hd
    rw [palinodelaw15_SpansGo.l0, if_neg (by simp; omega)]
    exact .inr ⟨m, rfl, h1, by omega⟩
  | x :: rest, j, k, m, hd, hk, hj', h1, h2 => by
    obtain ⟨k, rfl⟩ : ∃ m, k = m + 1 := ⟨k - 1, by omega⟩
    obtain ⟨hj, hx, hd'⟩ := drop_cons hd sp0
    rw [List.length_cons] at hk
    have hw : IntKind.wrap .i64 ((j : Int) + 1) = ((j + 1 : Nat) : Int) := by rw [w64 (by omega) (by omega)]; omega
    rw [palinodelaw15_SpansGo.l0, if_pos (by simp; omega), if_pos (by omega)]
    simp only [Int.toNat_natCast, hx, hw, hn]
    have e1 : (if decide (x.1 < 0) = true then some true else if decide (x.2.1 < x.1) = true then some true else if decide (x.2.1 > N) = true then some true else if decide (x.2.2 < 0) = true then some true else some (decide (x.2.2 > 100))) = some (decide (¬ (0 ≤ x.1 ∧ x.1 ≤ x.2.1 ∧ x.2.1 ≤ N ∧ 0 ≤ x.2.2 ∧ x.2.2 ≤ 100))) := by
      by_cases c1 : x.1 < 0
      · rw [if_pos (by simpa using c1)]; congr 1; symm; rw [decide_eq_true_eq]; omega
      rw [if_neg (by simpa using c1)]
      by_cases c2 : x.2.1 < x.1
      · rw [if_pos (by simpa using c2)]; congr 1; symm; rw [decide_eq_true_eq]; omega
      rw [if_neg (by simpa using c2)]
      by_cases c3 : x.2.1 > N
      · rw [if_pos (by simpa using c3)]; congr 1; symm; rw [decide_eq_true_eq]; omega
      rw [if_neg (by simpa using c3)]
      by_cases c4 : x.2.2 < 0
      · rw [if_pos (by simpa using c4)]; congr 1; symm; rw [decide_eq_true_eq]; omega
      rw [if_neg (by simpa using c4)]
      congr 1; rw [decide_eq_decide]; omega
    rw [e1, Option.bind_some]
    by_cases hA : 0 ≤ x.1 ∧ x.1 ≤ x.2.1 ∧ x.2.1 ≤ N ∧ 0 ≤ x.2.2 ∧ x.2.2 ≤ 100
    · rw [if_neg (by simp only [decide_eq_true_eq]; exact fun h => h hA)]
      obtain ⟨C, c1, c2, c3, c4⟩ := put15_is (K := K) (l := m) (a := x.1) (b := x.2.1) (s := x.2.2) (n := N) hK (by omega) h1 hN (by omega) hA.1 hA.2.1 hA.2.2.1
      rw [if_neg (by omega)] at c4
      rw [c4, Option.bind_some, if_neg (by simp)]
      exact go0_loop hK hl hn hN rest (j + 1) k C hd' (by omega) (by omega) c1 (by omega)
    · rw [if_pos (by simp only [decide_eq_true_eq]; exact hA)]
      exact .inl rfl

theorem go1_loop {K : Nat} {n at_ N p : Int} {t : ByteArray} {r : List Sp × Int} {m : List Sp} (hK : 1000 ≤ K) (hm : m.length ≤ 60) (hr : r.1.length ≤ 60) (hn : IntKind.wrap .i64 (IntKind.wrap .i64 (Int.tmod n 100) + 2) = N) (hp : Int.tmod (IntKind.wrap .i64 at_) N = p) (h0 : 0 ≤ p) (hN : N ≤ 1000) (ht : t.size ≤ 1000)
    (h : ∀ k, atS r.1 k = if k < p then atS m k else if k < p + t.size then (if insideS p m = true then atS m p else 0) else atS m (k - t.size)) : ∀ (d j k : Nat), (j : Int) + d = N → d < k →
    palinodelaw15_SpansGo.l1 K n at_ t r m k (j : Int) = some (.inr ())
  | 0, j, k, hj, hk => by
    obtain ⟨k, rfl⟩ : ∃ m, k = m + 1 := ⟨k - 1, by omega⟩
    rw [palinodelaw15_SpansGo.l1]
    simp only [hn]
    rw [if_neg (by simp; omega)]
  | d + 1, j, k, hj, hk => by
    obtain ⟨k, rfl⟩ : ∃ m, k = m + 1 := ⟨k - 1, by omega⟩
    have hw : IntKind.wrap .i64 ((j : Int) + 1) = ((j + 1 : Nat) : Int) := by rw [w64 (by omega) (by omega)]; omega
    have ih := go1_loop hK hm hr hn hp h0 hN ht h d (j + 1) k (by omega) (by omega)
    rw [palinodelaw15_SpansGo.l1]
    simp only [hn, hp, hw, ih]
    rw [if_pos (by simp; omega), w64 (n := (j : Int) + ((t.size : Nat) : Int)) (by omega) (by omega)]
    by_cases c : (j : Int) ≥ p
    · have e : atS r.1 ((j : Int) + (t.size : Int)) = atS m j := by rw [h, if_neg (by omega), if_neg (by omega), show (j : Int) + (t.size : Int) - (t.size : Int) = j by omega]
      rw [if_pos (by simpa using c), Option.bind_some, at_is (by omega) (by omega), Option.bind_some, at_is (by omega) (by omega), Option.bind_some, e, if_neg (by simp)]
    · have e : atS r.1 (j : Int) = atS m j := by rw [h, if_pos (by omega)]
      rw [if_neg (by simpa using c), Option.bind_some, at_is (by omega) (by omega), Option.bind_some, at_is (by omega) (by omega), Option.bind_some, e, if_neg (by simp)]

theorem go2_loop {K : Nat} {n at_ N p : Int} {m : List Sp} (hm : m.length ≤ 60) (hn : IntKind.wrap .i64 (IntKind.wrap .i64 (Int.tmod n 100) + 2) = N) (hp : Int.tmod (IntKind.wrap .i64 at_) N = p) : ∀ (rest : List Sp) (j k : Nat) (b : Bool), m.drop j = rest → rest.length < k →
    palinodelaw15_SpansGo.l2 K m at_ n k b (j : Int) = some (b || insideS p rest)
  | [], j, k, b, hd, hk => by
    obtain ⟨k, rfl⟩ : ∃ m, k = m + 1 := ⟨k - 1, by omega⟩
    have := drop_nil hd
    rw [palinodelaw15_SpansGo.l2, if_neg (by simp; omega)]
    simp [insideS]
  | x :: rest, j, k, b, hd, hk => by
    obtain ⟨k, rfl⟩ : ∃ m, k = m + 1 := ⟨k - 1, by omega⟩
    obtain ⟨hj, hx, hd'⟩ := drop_cons hd sp0
    rw [List.length_cons] at hk
    have hw : IntKind.wrap .i64 ((j : Int) + 1) = ((j + 1 : Nat) : Int) := by rw [w64 (by omega) (by omega)]; omega
    have ei : insideS p (x :: rest) = (decide (x.1 < p ∧ p < x.2.1) || insideS p rest) := rfl
    have ih := fun b => go2_loop (K := K) hm hn hp rest (j + 1) k b hd' (by omega)
    rw [palinodelaw15_SpansGo.l2, if_pos (by simp; omega)]
    simp only [Int.toNat_natCast, hx, hw, hn, hp, ih]
    rw [if_pos (show (0 : Int) ≤ (j : Int) ∧ (j : Int) < (m.length : Int) by omega), if_pos (show (0 : Int) ≤ (j : Int) ∧ (j : Int) < (m.length : Int) by omega), ei]
    cases b with
    | true => rw [if_pos rfl]; simp
    | false =>
      rw [if_neg (by simp)]
      by_cases c : x.1 < p
      · rw [if_pos (by simpa using c)]; simp [c]
      · rw [if_neg (by simpa using c)]; simp [c]

theorem go3_loop {K : Nat} {n at_ N p : Int} {t : ByteArray} {r : List Sp × Int} {m : List Sp} (hK : 1000 ≤ K) (hm : m.length ≤ 60) (hr : r.1.length ≤ 60) (hn : IntKind.wrap .i64 (IntKind.wrap .i64 (Int.tmod n 100) + 2) = N) (hp : Int.tmod (IntKind.wrap .i64 at_) N = p) (h0 : 0 ≤ p) (hp1 : p ≤ 1000) (ht : t.size ≤ 1000)
    (h : ∀ k, atS r.1 k = if k < p then atS m k else if k < p + t.size then (if insideS p m = true then atS m p else 0) else atS m (k - t.size)) : ∀ (d j k : Nat), j + d = t.size → d < k →
    palinodelaw15_SpansGo.l3 K t (insideS p m) m at_ n r k (j : Int) = some true
  | 0, j, k, hj, hk => by
    obtain ⟨k, rfl⟩ : ∃ m, k = m + 1 := ⟨k - 1, by omega⟩
    rw [palinodelaw15_SpansGo.l3, if_neg (by simp; omega)]
  | d + 1, j, k, hj, hk => by
    obtain ⟨k, rfl⟩ : ∃ m, k = m + 1 := ⟨k - 1, by omega⟩
    have hw : IntKind.wrap .i64 ((j : Int) + 1) = ((j + 1 : Nat) : Int) := by rw [w64 (by omega) (by omega)]; omega
    have ih := go3_loop hK hm hr hn hp h0 hp1 ht h d (j + 1) k (by omega) (by omega)
    rw [palinodelaw15_SpansGo.l3, if_pos (by simp; omega)]
    simp only [hn, hp, hw, ih]
    rw [w64 (n := p + (j : Int)) (by omega) (by omega), at_is (l := m) (by omega) (by omega), at_is (by omega) (by omega), Option.bind_some]
    have e : (if insideS p m = true then some (atS m p) else some 0) = some (if insideS p m = true then atS m p else 0) := by split <;> rfl
    have e2 : atS r.1 (p + (j : Int)) = if insideS p m = true then atS m p else 0 := by rw [h, if_neg (by omega), if_pos (by omega)]
    rw [e, Option.bind_some, Option.bind_some, e2, if_neg (by simp)]

theorem SpansGo_pure (n : Int) (l : List Sp) (a : Int) (t : ByteArray) (on : Kd.ok (.int .u8) n) (ol : Kd.ok (.slice (.pair (.int .i64) (.pair (.int .i64) (.int .i64)))) l) (oa : Kd.ok (.int .u8) a) (ot : Kd.ok .str t) : ∃ K, palinodelaw15_SpansGo K n l a t = some true := by
  refine ⟨200000, ?_⟩
  have bn := bounds_u8 on
  have ba := bounds_u8 oa
  clear on ol oa ot
  unfold palinodelaw15_SpansGo
  rw [known15 (by omega), Option.bind_some, if_neg (by simp)]
  by_cases hl : l.length > 15
  · rw [if_pos (by simp; omega), Option.bind_some, if_pos rfl]
  rw [if_neg (by simp; omega), Option.bind_some]
  by_cases ht : t.size > 40
  · rw [if_pos (by simp; omega)]
  rw [if_neg (by simp; omega)]
  have hn := tmod_u8 (m := 100) bn.1 (by omega)
  obtain ⟨N, hN⟩ : ∃ N : Nat, IntKind.wrap .i64 (IntKind.wrap .i64 (Int.tmod n 100) + 2) = (N : Int) ∧ 2 ≤ N ∧ N ≤ 101 := by
    refine ⟨(Int.tmod n 100 + 2).toNat, ?_, by omega, by omega⟩
    rw [w64 (n := Int.tmod n 100) (by omega) (by omega), w64 (by omega) (by omega)]; omega
  obtain ⟨hN, hN2, hN3⟩ := hN
  have hp' := tmod_u8 (m := (N : Int)) ba.1 (by omega)
  obtain ⟨p, hp⟩ : ∃ p : Nat, Int.tmod (IntKind.wrap .i64 a) (N : Int) = (p : Int) ∧ p < N := by
    rw [w64 (n := a) (by omega) (by omega)]
    exact ⟨(Int.tmod a N).toNat, by omega, by omega⟩
  obtain ⟨hp, hp2⟩ := hp
  rcases go0_loop (K := 200000) (l := l) (n := n) (N := N) (by omega) (by omega) hN (by omega) l 0 200000 [] rfl (by omega) (by omega) rfl (by simp) with h | ⟨m, h, hm, hml⟩
  · rw [show ((0 : Nat) : Int) = 0 from rfl] at h
    rw [h]; rfl
  rw [show ((0 : Nat) : Int) = 0 from rfl] at h
  rw [h, Option.bind_some, Sum.elim_inr]
  simp only [hN, hp]
  rw [if_pos (by omega), build_is (by simp) (by simp) (fun x hx => by rw [List.mem_singleton.1 hx]; simp only; omega), Option.bind_some]
  have hone := one_is (n := N) (a := p) (b := p) (t := t) (Nat.le_refl _) (by omega) (by omega) (by omega)
  cases hv : uvalid t with
  | false =>
    rw [hone.1 hv, if_pos (by simp)]
  | true =>
    obtain ⟨o1, o2, o3, o4⟩ := hone.2 hv
    rw [o1, if_neg (by simp), o2]
    have hD := isD_ok o3
    have hsum : sumK (bldD N [((p : Int), ((p : Int), t))]).2.1 + sumT (bldD N [((p : Int), ((p : Int), t))]).2.1 = N + t.size := by
      rw [← cells_len hD.2.2.2.1, o4]
      simp only [List.length_append, cellsC_len, cellsT_len]; omega
    have hi : isS15 N m = true := by
      unfold isS15
      rw [decide_eq_true (by omega), Bool.true_and, show min (N : Int) 20000 = N by omega]; exact hm
    obtain ⟨C, c1, c2, c3, c4, -⟩ := edit15_is (K := 200000) (by omega) o3 hi
    rw [hsum] at c1
    have hfil : (m.map (goS N (bldD N [((p : Int), ((p : Int), t))]).2.1)).filter neI = m.map (shS p t.size) := by
      have hmem := okS_mem hm (Int.le_refl 0)
      have e : m.map (goS N (bldD N [((p : Int), ((p : Int), t))]).2.1) = m.map (shS p t.size) := by
        refine List.map_congr_left fun x hx => ?_
        have hx' := (hmem x hx).1
        unfold Fn at hx'
        obtain ⟨x1, x2, x3⟩ := x
        simp only at hx'
        obtain ⟨u, rfl⟩ : ∃ u : Nat, x1 = u := ⟨x1.toNat, by omega⟩
        obtain ⟨v, rfl⟩ : ∃ v : Nat, x2 = v := ⟨x2.toNat, by omega⟩
        have pu := (plain_put (n := N) (a := p) (x := u) (t := t) (by omega) (by omega) (by omega) (by omega) hv).2
        have pv := (plain_put (n := N) (a := p) (x := v) (t := t) (by omega) (by omega) (by omega) (by omega) hv).1
        unfold goS shS
        simp only [pu, pv]
        by_cases c1 : u ≥ p
        · rw [if_pos c1, if_pos (show (u : Int) ≥ p by omega), if_pos (show v > p by omega), if_pos (show (v : Int) > p by omega)]
          refine Prod.ext (by simp) (Prod.ext (by simp only; omega) rfl)
        · rw [if_neg c1, if_neg (show ¬ (u : Int) ≥ p by omega)]
          by_cases c2 : v > p
          · rw [if_pos c2, if_pos (show (v : Int) > p by omega)]
            refine Prod.ext rfl (Prod.ext (by simp only; omega) rfl)
          · rw [if_neg c2, if_neg (show ¬ (v : Int) > p by omega)]
            refine Prod.ext rfl (Prod.ext (by simp only; omega) rfl)
      rw [e]
      refine List.filter_eq_self.2 fun y hy => ?_
      obtain ⟨x, hx, rfl⟩ := List.mem_map.1 hy
      have hx' := (hmem x hx).1
      unfold Fn at hx'
      unfold neI shS
      simp only [decide_eq_true_eq]
      split <;> split <;> omega
    have hC : ∀ k, atS C k = if k < p then atS m k else if k < p + t.size then (if insideS p m = true then atS m p else 0) else atS m (k - t.size) := fun k => by
      rw [c2, hfil, sh_at (by omega) hm (Int.le_refl 0)]
    rw [c4, Option.bind_some]
    simp only
    have hi2 : isS15 (N + t.size) C = true := by
      unfold isS15
      rw [decide_eq_true (by omega), Bool.true_and, show min ((N : Int) + t.size) 20000 = N + t.size by omega]; exact c1
    rw [w64 (n := (N : Int) + ((t.size : Nat) : Int)) (by omega) (by omega), if_neg (by simp), isS_is (by omega), Option.bind_some, hi2, Option.bind_some, if_neg (by simp)]
    have g1 := go1_loop (K := 200000) (r := (C, (0 : Int))) (m := m) (t := t) (by omega) hml (by simp only; omega) hN hp (by omega) (by omega) (by omega) hC N 0 200000 (by omega) (by omega)
    have g2 := go2_loop (K := 200000) (m := m) hml hN hp m 0 200000 false rfl (by omega)
    have g3 := go3_loop (K := 200000) (r := (C, (0 : Int))) (m := m) (t := t) (by omega) hml (by simp only; omega) hN hp (by omega) (by omega) (by omega) hC t.size 0 200000 (by omega) (by omega)
    rw [show ((0 : Nat) : Int) = 0 from rfl] at g1 g2 g3
    rw [g1, Option.bind_some, Sum.elim_inr, g2, Option.bind_some, Bool.false_or, g3]

end Go.Pal
