/- Whatever text, regions and changes at edges: moved by the delta a selection is one of what that makes; by one that keeps all it is as it was. -/
import Derived.Test.YtpepjcjcohagaaaFunRegionMoves
namespace Go.Pal
open Go
set_option linter.unusedVariables false
set_option linter.unusedSimpArgs false
set_option linter.unnecessarySimpa false
theorem w64 {n : Int} (h1 : -9223372036854775808 ≤ n) (h2 : n < 9223372036854775808) : IntKind.wrap .i64 n = n := by
  simp only [IntKind.wrap, IntKind.bits, IntKind.signed]
  simp
  omega

theorem drop_cons {α : Type} {l : List α} {j : Nat} {g : α} {r : List α} (h : l.drop j = g :: r) (d : α) : j < l.length ∧ l.getD j d = g ∧ l.drop (j + 1) = r := by
  have hj : j < l.length := by
    rcases Nat.lt_or_ge j l.length with h' | h'
    · exact h'
    · rw [List.drop_eq_nil_of_le h'] at h; cases h
  rw [List.drop_eq_getElem_cons hj] at h
  obtain ⟨h1, h2⟩ := List.cons.inj h
  exact ⟨hj, by simp [List.getD, hj, h1], h2⟩

theorem drop_nil {α : Type} {l : List α} {j : Nat} (h : l.drop j = []) : l.length ≤ j := List.drop_eq_nil_iff.1 h

theorem split_last {α : Type} : ∀ {l : List α}, l ≠ [] → ∃ m x, l = m ++ [x] := by
  intro l h
  exact ⟨l.dropLast, l.getLast h, (List.dropLast_concat_getLast h).symm⟩

theorem mx2_eq (a b : Int) : mx2 a b = max a b := by unfold mx2; split <;> omega

theorem mn2_eq (a b : Int) : mn2 a b = min a b := by unfold mn2; split <;> omega

/-- The counts of e, those from f to t told anew. -/
def put (e : List Int) (f t c : Int) : List Int := e.take f.toNat ++ List.replicate (t - f).toNat c ++ e.drop t.toNat

/-- The place of the how-manieth that has no count. -/
def up : List Int → Int → Int → Int
  | [], _, i => i
  | c :: r, k, i => if c ≠ 0 then up r k (i + 1) else if k = 0 then i else up r (k - 1) (i + 1)

/-- Place by place through two rows of counts. -/
def thru (G : Int → Int → List Int) : List Int → List Int → List Int
  | c :: a, d :: b => G c d ++ thru G a b
  | _, _ => []

/-- A count for each two. -/
def two (F : Int → Int → Int) (a b : List Int) : List Int := thru (fun c d => [F c d]) a b

/-- A text's bytes. -/
def txt (s : ByteArray) : List Int := s.data.toList.map fun b => (b.toNat : Int)

theorem txt_len {s : ByteArray} : (txt s).length = s.size := by simp [txt]

theorem ofBytes_txt {s : ByteArray} : ofBytes (txt s) = s := by
  cases s with
  | mk d =>
    unfold ofBytes txt
    rw [List.map_map]
    have : ((fun n : Int => UInt8.ofNat n.toNat) ∘ fun b : UInt8 => (b.toNat : Int)) = id := by
      funext b; simp
    rw [this]; simp

theorem txt_extract {s : ByteArray} {i j : Nat} : txt (s.extract i j) = ((txt s).drop i).take (j - i) := by
  unfold txt
  rw [ByteArray.data_extract, Array.toList_extract, List.map_take.symm.symm]
  simp [List.extract_eq_take_drop, List.map_drop]

theorem putAt_len {α : Type} {out l : List α} {n : Nat} (h : n + l.length ≤ out.length) : (putAt out l n).length = out.length := by
  unfold putAt
  simp
  omega

theorem putAt_take {α : Type} {out l : List α} {n : Nat} (h : n + l.length ≤ out.length) : (putAt out l n).take (n + l.length) = out.take n ++ l := by
  unfold putAt
  rw [← List.append_assoc]
  have : (out.take n ++ l).length = n + l.length := by simp; omega
  rw [← this, List.take_left]

theorem txt_get {s : ByteArray} {j : Nat} (h : j < (txt s).length) (hs : j < s.size) : (txt s)[j] = (s[j].toNat : Int) := by
  have : ∀ (l : List Int) (h : j < l.length), l = s.data.toList.map (fun b => (b.toNat : Int)) → l[j] = (s[j].toNat : Int) := by
    intro l h e
    subst e
    rw [List.getElem_map, Array.getElem_toList]
    rfl
  exact this _ h rfl

theorem bt_is {s : ByteArray} {j : Nat} (h : j < (txt s).length) : bt s (j : Int) = (txt s)[j] := by
  have hs : j < s.size := by rw [← txt_len]; exact h
  rw [txt_get h hs]
  unfold bt
  simp [hs]

theorem byte_all {P : Int → Prop} (h : ∀ m : Fin 256, P ((m.val : Nat) : Int)) {c : Int} (h0 : 0 ≤ c) (h1 : c ≤ 255) : P c := by
  have := h ⟨c.toNat, by omega⟩
  simpa [Int.toNat_of_nonneg h0] using this

theorem bt_ok {s : ByteArray} {i : Int} : 0 ≤ bt s i ∧ bt s i ≤ 255 := by
  unfold bt
  have := (s[i.toNat]?.getD 0).toNat_lt
  omega

/-- A byte that goes on. -/
def cont (b : Int) : Prop := 128 ≤ b ∧ b < 192

instance (b : Int) : Decidable (cont b) := inferInstanceAs (Decidable (_ ∧ _))

theorem and_192 {b : Int} (h0 : 0 ≤ b) (h1 : b ≤ 255) : (IntKind.wrap .u8 (BitVec.toNat (BitVec.ofInt (IntKind.bits .u8) b &&& BitVec.ofInt (IntKind.bits .u8) (192 : Int))) != (128 : Int)) = !decide (cont b) :=
  byte_all (P := fun b => (IntKind.wrap .u8 (BitVec.toNat (BitVec.ofInt (IntKind.bits .u8) b &&& BitVec.ofInt (IntKind.bits .u8) (192 : Int))) != (128 : Int)) = !decide (cont b)) (by decide +kernel) h0 h1

theorem not_192 {b : Int} (h0 : 0 ≤ b) (h1 : b ≤ 255) : IntKind.wrap .u8 (BitVec.toNat (BitVec.ofInt (IntKind.bits .u8) b &&& ~~~BitVec.ofInt (IntKind.bits .u8) (192 : Int))) = b % 64 :=
  byte_all (P := fun b => IntKind.wrap .u8 (BitVec.toNat (BitVec.ofInt (IntKind.bits .u8) b &&& ~~~BitVec.ofInt (IntKind.bits .u8) (192 : Int))) = b % 64) (by decide +kernel) h0 h1

theorem not_128 {b : Int} (h0 : 0 ≤ b) (h1 : b ≤ 255) : IntKind.wrap .u8 (BitVec.toNat (BitVec.ofInt (IntKind.bits .u8) b &&& ~~~BitVec.ofInt (IntKind.bits .u8) (128 : Int))) = b % 128 :=
  byte_all (P := fun b => IntKind.wrap .u8 (BitVec.toNat (BitVec.ofInt (IntKind.bits .u8) b &&& ~~~BitVec.ofInt (IntKind.bits .u8) (128 : Int))) = b % 128) (by decide +kernel) h0 h1

theorem not_224 {b : Int} (h0 : 0 ≤ b) (h1 : b ≤ 255) : IntKind.wrap .u8 (BitVec.toNat (BitVec.ofInt (IntKind.bits .u8) b &&& ~~~BitVec.ofInt (IntKind.bits .u8) (224 : Int))) = b % 32 :=
  byte_all (P := fun b => IntKind.wrap .u8 (BitVec.toNat (BitVec.ofInt (IntKind.bits .u8) b &&& ~~~BitVec.ofInt (IntKind.bits .u8) (224 : Int))) = b % 32) (by decide +kernel) h0 h1

theorem not_240 {b : Int} (h0 : 0 ≤ b) (h1 : b ≤ 255) : IntKind.wrap .u8 (BitVec.toNat (BitVec.ofInt (IntKind.bits .u8) b &&& ~~~BitVec.ofInt (IntKind.bits .u8) (240 : Int))) = b % 16 :=
  byte_all (P := fun b => IntKind.wrap .u8 (BitVec.toNat (BitVec.ofInt (IntKind.bits .u8) b &&& ~~~BitVec.ofInt (IntKind.bits .u8) (240 : Int))) = b % 16) (by decide +kernel) h0 h1

theorem not_248 {b : Int} (h0 : 0 ≤ b) (h1 : b ≤ 255) : IntKind.wrap .u8 (BitVec.toNat (BitVec.ofInt (IntKind.bits .u8) b &&& ~~~BitVec.ofInt (IntKind.bits .u8) (248 : Int))) = b % 8 :=
  byte_all (P := fun b => IntKind.wrap .u8 (BitVec.toNat (BitVec.ofInt (IntKind.bits .u8) b &&& ~~~BitVec.ofInt (IntKind.bits .u8) (248 : Int))) = b % 8) (by decide +kernel) h0 h1

theorem is_128 {b : Int} (h0 : 0 ≤ b) (h1 : b ≤ 255) : (IntKind.wrap .u8 (BitVec.toNat (BitVec.ofInt (IntKind.bits .u8) b &&& BitVec.ofInt (IntKind.bits .u8) (128 : Int))) == (0 : Int)) = decide (b < 128) :=
  byte_all (P := fun b => (IntKind.wrap .u8 (BitVec.toNat (BitVec.ofInt (IntKind.bits .u8) b &&& BitVec.ofInt (IntKind.bits .u8) (128 : Int))) == (0 : Int)) = decide (b < 128)) (by decide +kernel) h0 h1

theorem is_224 {b : Int} (h0 : 0 ≤ b) (h1 : b ≤ 255) : (IntKind.wrap .u8 (BitVec.toNat (BitVec.ofInt (IntKind.bits .u8) b &&& BitVec.ofInt (IntKind.bits .u8) (224 : Int))) == (192 : Int)) = decide (192 ≤ b ∧ b < 224) :=
  byte_all (P := fun b => (IntKind.wrap .u8 (BitVec.toNat (BitVec.ofInt (IntKind.bits .u8) b &&& BitVec.ofInt (IntKind.bits .u8) (224 : Int))) == (192 : Int)) = decide (192 ≤ b ∧ b < 224)) (by decide +kernel) h0 h1

theorem is_240 {b : Int} (h0 : 0 ≤ b) (h1 : b ≤ 255) : (IntKind.wrap .u8 (BitVec.toNat (BitVec.ofInt (IntKind.bits .u8) b &&& BitVec.ofInt (IntKind.bits .u8) (240 : Int))) == (224 : Int)) = decide (224 ≤ b ∧ b < 240) :=
  byte_all (P := fun b => (IntKind.wrap .u8 (BitVec.toNat (BitVec.ofInt (IntKind.bits .u8) b &&& BitVec.ofInt (IntKind.bits .u8) (240 : Int))) == (224 : Int)) = decide (224 ≤ b ∧ b < 240)) (by decide +kernel) h0 h1

theorem is_248 {b : Int} (h0 : 0 ≤ b) (h1 : b ≤ 255) : (IntKind.wrap .u8 (BitVec.toNat (BitVec.ofInt (IntKind.bits .u8) b &&& BitVec.ofInt (IntKind.bits .u8) (248 : Int))) == (240 : Int)) = decide (240 ≤ b ∧ b < 248) :=
  byte_all (P := fun b => (IntKind.wrap .u8 (BitVec.toNat (BitVec.ofInt (IntKind.bits .u8) b &&& BitVec.ofInt (IntKind.bits .u8) (248 : Int))) == (240 : Int)) = decide (240 ≤ b ∧ b < 248)) (by decide +kernel) h0 h1

theorem and_63 {b : Int} (h0 : 0 ≤ b) (h1 : b ≤ 255) : IntKind.wrap .i64 (BitVec.toNat (BitVec.ofInt (IntKind.bits .i64) b &&& BitVec.ofInt (IntKind.bits .i64) (63 : Int))) = b % 64 :=
  byte_all (P := fun b => IntKind.wrap .i64 (BitVec.toNat (BitVec.ofInt (IntKind.bits .i64) b &&& BitVec.ofInt (IntKind.bits .i64) (63 : Int))) = b % 64) (by decide +kernel) h0 h1

theorem and_31 {b : Int} (h0 : 0 ≤ b) (h1 : b ≤ 255) : IntKind.wrap .i64 (BitVec.toNat (BitVec.ofInt (IntKind.bits .i64) b &&& BitVec.ofInt (IntKind.bits .i64) (31 : Int))) = b % 32 :=
  byte_all (P := fun b => IntKind.wrap .i64 (BitVec.toNat (BitVec.ofInt (IntKind.bits .i64) b &&& BitVec.ofInt (IntKind.bits .i64) (31 : Int))) = b % 32) (by decide +kernel) h0 h1

theorem and_15 {b : Int} (h0 : 0 ≤ b) (h1 : b ≤ 255) : IntKind.wrap .i64 (BitVec.toNat (BitVec.ofInt (IntKind.bits .i64) b &&& BitVec.ofInt (IntKind.bits .i64) (15 : Int))) = b % 16 :=
  byte_all (P := fun b => IntKind.wrap .i64 (BitVec.toNat (BitVec.ofInt (IntKind.bits .i64) b &&& BitVec.ofInt (IntKind.bits .i64) (15 : Int))) = b % 16) (by decide +kernel) h0 h1

theorem and_7 {b : Int} (h0 : 0 ≤ b) (h1 : b ≤ 255) : IntKind.wrap .i64 (BitVec.toNat (BitVec.ofInt (IntKind.bits .i64) b &&& BitVec.ofInt (IntKind.bits .i64) (7 : Int))) = b % 8 :=
  byte_all (P := fun b => IntKind.wrap .i64 (BitVec.toNat (BitVec.ofInt (IntKind.bits .i64) b &&& BitVec.ofInt (IntKind.bits .i64) (7 : Int))) = b % 8) (by decide +kernel) h0 h1

theorem div_64 {b : Int} (h0 : 0 ≤ b) (h1 : b ≤ 255) : (Int.fdiv b 64 != 2) = !decide (cont b) :=
  byte_all (P := fun b => (Int.fdiv b 64 != 2) = !decide (cont b)) (by decide +kernel) h0 h1

theorem or_lo {r x : Nat} (hx : x < 64) : (r * 64) ||| x = r * 64 + x := by
  have := Nat.two_pow_add_eq_or_of_lt (i := 6) hx r
  rw [Nat.mul_comm] at this
  exact this.symm

theorem w32 {n : Int} (h1 : -2147483648 ≤ n) (h2 : n < 2147483648) : IntKind.wrap .i32 n = n := by
  simp only [IntKind.wrap, IntKind.bits, IntKind.signed]
  simp
  omega

theorem or_32 {r x : Int} (h0 : 0 ≤ r) (h1 : r < 1048576) (h2 : 0 ≤ x) (h3 : x < 64) : IntKind.wrap .i32 (BitVec.toNat (BitVec.ofInt (IntKind.bits .i32) (IntKind.wrap .i32 (r * (64 : Int))) ||| BitVec.ofInt (IntKind.bits .i32) (IntKind.wrap .i32 x))) = r * 64 + x := by
  rw [w32 (n := r * 64) (by omega) (by omega), w32 (n := x) (by omega) (by omega)]
  obtain ⟨a, rfl⟩ : ∃ a : Nat, r = a := ⟨r.toNat, by omega⟩
  obtain ⟨b, rfl⟩ : ∃ b : Nat, x = b := ⟨x.toNat, by omega⟩
  have e1 : (BitVec.ofInt (IntKind.bits .i32) ((a : Int) * 64) ||| BitVec.ofInt (IntKind.bits .i32) (b : Int)).toNat = a * 64 + b := by
    rw [BitVec.toNat_or, BitVec.toNat_ofInt, BitVec.toNat_ofInt]
    have h4 : ((a : Int) * 64 % ((2 ^ IntKind.bits .i32 : Nat) : Int)).toNat = a * 64 := by
      have : IntKind.bits .i32 = 32 := rfl
      rw [this]; omega
    have h5 : ((b : Int) % ((2 ^ IntKind.bits .i32 : Nat) : Int)).toNat = b := by
      have : IntKind.bits .i32 = 32 := rfl
      rw [this]; omega
    rw [h4, h5, or_lo (by omega)]
  rw [e1, w32 (by omega) (by omega)]
  omega

theorem or_64 {r x : Int} (h0 : 0 ≤ r) (h1 : r < 1048576) (h2 : 0 ≤ x) (h3 : x < 64) : IntKind.wrap .i64 (BitVec.toNat (BitVec.ofInt (IntKind.bits .i64) (IntKind.wrap .i64 (r * (64 : Int))) ||| BitVec.ofInt (IntKind.bits .i64) x)) = r * 64 + x := by
  rw [w64 (n := r * 64) (by omega) (by omega)]
  obtain ⟨a, rfl⟩ : ∃ a : Nat, r = a := ⟨r.toNat, by omega⟩
  obtain ⟨b, rfl⟩ : ∃ b : Nat, x = b := ⟨x.toNat, by omega⟩
  have e1 : (BitVec.ofInt (IntKind.bits .i64) ((a : Int) * 64) ||| BitVec.ofInt (IntKind.bits .i64) (b : Int)).toNat = a * 64 + b := by
    rw [BitVec.toNat_or, BitVec.toNat_ofInt, BitVec.toNat_ofInt]
    have h4 : ((a : Int) * 64 % ((2 ^ IntKind.bits .i64 : Nat) : Int)).toNat = a * 64 := by
      have : IntKind.bits .i64 = 64 := rfl
      rw [this]; omega
    have h5 : ((b : Int) % ((2 ^ IntKind.bits .i64 : Nat) : Int)).toNat = b := by
      have : IntKind.bits .i64 = 64 := rfl
      rw [this]; omega
    rw [h4, h5, or_lo (by omega)]
  rw [e1, w64 (by omega) (by omega)]
  omega

/-- How many bytes a code point has that begins with these, of so many; 0: there is none. -/
def uszB (n c d e f : Int) : Int :=
  if c < 128 then 1
  else if 192 ≤ c ∧ c < 224 then (if 2 ≤ n ∧ cont d ∧ 128 ≤ c % 32 * 64 + d % 64 then 2 else 0)
  else if 224 ≤ c ∧ c < 240 then (if 3 ≤ n ∧ cont d ∧ cont e ∧ 2048 ≤ (c % 16 * 64 + d % 64) * 64 + e % 64 ∧ ¬ (55296 ≤ (c % 16 * 64 + d % 64) * 64 + e % 64 ∧ (c % 16 * 64 + d % 64) * 64 + e % 64 < 57344) then 3 else 0)
  else if 240 ≤ c ∧ c < 248 then (if 4 ≤ n ∧ cont d ∧ cont e ∧ cont f ∧ 65536 ≤ ((c % 8 * 64 + d % 64) * 64 + e % 64) * 64 + f % 64 ∧ ((c % 8 * 64 + d % 64) * 64 + e % 64) * 64 + f % 64 ≤ 1114111 then 4 else 0)
  else 0

theorem long_end {K : Nat} {s : ByteArray} {a : Int} {n r i : Int} {k : Nat} (h : ¬ i < n) : utf_long.l0 K n a s (k + 1) r i = some (.inr r) := by
  rw [utf_long.l0, if_neg (by simpa using h)]

theorem long_bad {K : Nat} {s : ByteArray} {a : Int} (h0 : 0 ≤ a) (hs : (s.size : Int) ≤ 1000000000000) {n r i : Int} {k : Nat} (h : i < n) (hi : 0 ≤ i) (hr : a + i < s.size) (hc : ¬ cont (bt s (a + i))) : utf_long.l0 K n a s (k + 1) r i = some (.inl (0, 0)) := by
  rw [utf_long.l0, w64 (n := a + i) (by omega) (by omega), if_pos (by simpa using h), if_pos ⟨by omega, by omega⟩, and_192 bt_ok.1 bt_ok.2, if_pos (by simpa using hc)]

theorem long_go {K : Nat} {s : ByteArray} {a : Int} (h0 : 0 ≤ a) (hs : (s.size : Int) ≤ 1000000000000) {n r i : Int} {k : Nat} (h : i < n) (hi : 0 ≤ i) (hr : a + i < s.size) (hc : cont (bt s (a + i))) (r0 : 0 ≤ r) (r1 : r < 1048576) : utf_long.l0 K n a s (k + 1) r i = utf_long.l0 K n a s k (r * 64 + bt s (a + i) % 64) (i + 1) := by
  have hb := bt_ok (s := s) (i := a + i)
  rw [utf_long.l0, w64 (n := a + i) (by omega) (by omega), if_pos (by simpa using h), if_pos ⟨by omega, by omega⟩, and_192 hb.1 hb.2, if_neg (by simpa using hc), not_192 hb.1 hb.2, or_32 r0 r1 (by omega) (by omega), w64 (n := i + 1) (by omega) (by omega)]

theorem size1_bad {K : Nat} {s : ByteArray} {a : Int} (h0 : 0 ≤ a) (hs : (s.size : Int) ≤ 1000000000000) {n r i : Int} {k : Nat} (h : i < n) (hi : 0 ≤ i) (hr : a + i < s.size) (hc : ¬ cont (bt s (a + i))) : palinoderef1_Size.l0 K n a s (k + 1) r i = some (.inl 0) := by
  have hb := bt_ok (s := s) (i := a + i)
  rw [palinoderef1_Size.l0, w64 (n := a + i) (by omega) (by omega), if_pos (by simpa using h), if_pos ⟨by omega, by omega⟩, w64 (n := bt s (a + i)) (by omega) (by omega), div_64 hb.1 hb.2, if_pos (by simpa using hc)]

theorem size1_end {K : Nat} {s : ByteArray} {a : Int} {n r i : Int} {k : Nat} (h : ¬ i < n) : palinoderef1_Size.l0 K n a s (k + 1) r i = some (.inr r) := by
  rw [palinoderef1_Size.l0, if_neg (by simpa using h)]

theorem size1_go {K : Nat} {s : ByteArray} {a : Int} (h0 : 0 ≤ a) (hs : (s.size : Int) ≤ 1000000000000) {n r i : Int} {k : Nat} (h : i < n) (hi : 0 ≤ i) (hr : a + i < s.size) (hc : cont (bt s (a + i))) (r0 : 0 ≤ r) (r1 : r < 1048576) : palinoderef1_Size.l0 K n a s (k + 1) r i = palinoderef1_Size.l0 K n a s k (r * 64 + bt s (a + i) % 64) (i + 1) := by
  have hb := bt_ok (s := s) (i := a + i)
  rw [palinoderef1_Size.l0, w64 (n := a + i) (by omega) (by omega), if_pos (by simpa using h), if_pos ⟨by omega, by omega⟩, w64 (n := bt s (a + i)) (by omega) (by omega), div_64 hb.1 hb.2, if_neg (by simpa using hc), and_63 hb.1 hb.2, or_64 r0 r1 (by omega) (by omega), w64 (n := i + 1) (by omega) (by omega)]

/-- How many bytes the code point has that begins at a place. -/
def usz (s : ByteArray) (a : Int) : Int := if a < 0 ∨ a ≥ s.size then 0 else uszB (s.size - a) (bt s a) (bt s (a + 1)) (bt s (a + 2)) (bt s (a + 3))

theorem uszB_ok {n c d e f : Int} (hn : 1 ≤ n) : 0 ≤ uszB n c d e f ∧ uszB n c d e f ≤ 4 ∧ uszB n c d e f ≤ n := by
  unfold uszB
  split
  · omega
  · split
    · split <;> omega
    · split
      · split <;> omega
      · split
        · split <;> omega
        · omega

theorem usz_ok {s : ByteArray} {a : Int} : 0 ≤ usz s a ∧ usz s a ≤ 4 ∧ (0 ≤ a → a < s.size → a + usz s a ≤ s.size) := by
  unfold usz
  split
  · rename_i h; exact ⟨by omega, by omega, fun h1 h2 => by omega⟩
  · have := uszB_ok (n := s.size - a) (c := bt s a) (d := bt s (a + 1)) (e := bt s (a + 2)) (f := bt s (a + 3)) (by omega)
    exact ⟨by omega, by omega, fun h1 h2 => by omega⟩

theorem point_is {K : Nat} {r : Int} (h0 : 0 ≤ r) : utf_isPoint K r = some (decide (r ≤ 1114111 ∧ ¬ (55296 ≤ r ∧ r < 57344))) := by
  unfold utf_isPoint
  rw [if_pos (by simpa using h0)]
  by_cases h1 : r ≤ 1114111
  · rw [if_pos (by simpa using h1)]
    by_cases h2 : r < 55296
    · rw [if_pos (by simpa using h2)]
      congr 1; symm; simp; omega
    · rw [if_neg (by simpa using h2)]
      congr 1
      by_cases h3 : r > 57343
      · simp [h3]; omega
      · simp [h3]; omega
  · rw [if_neg (by simpa using h1)]
    congr 1; symm; simp; omega

/-- What is read: the code point, and its bytes. -/
def tell (n v least : Int) : Int × Int := if least ≤ v ∧ v ≤ 1114111 ∧ ¬ (55296 ≤ v ∧ v < 57344) then (v, n) else (0, 0)

theorem long_tell {K : Nat} {n v least : Int} (h0 : 0 ≤ v) : ((if decide (v < least) = true then some true else (utf_isPoint K v).bind fun r_28 => some (!r_28)).bind fun z_39 => if z_39 = true then some ((0 : Int), (0 : Int)) else some (v, n)) = some (tell n v least) := by
  unfold tell
  rw [point_is h0]
  by_cases h1 : v < least
  · rw [if_pos (by simpa using h1), Option.bind_some, if_pos rfl, if_neg (by omega)]
  · rw [if_neg (by simpa using h1), Option.bind_some, Option.bind_some]
    by_cases h2 : v ≤ 1114111 ∧ ¬ (55296 ≤ v ∧ v < 57344)
    · rw [if_neg (by simp; omega), if_pos (by omega)]
    · rw [if_pos (by simp; omega), if_neg (by omega)]

theorem long1_is {K : Nat} {s : ByteArray} {a : Int} (hK : 10 ≤ K) (h0 : 0 ≤ a) (hs : (s.size : Int) ≤ 1000000000000) (ha : a < s.size) (hc : bt s a < 128) : utf_long K s a 1 128 0 0 = some (bt s a, 1) := by
  obtain ⟨k, rfl⟩ : ∃ k, K = k + 5 := ⟨K - 5, by omega⟩
  have hb := bt_ok (s := s) (i := a)
  unfold utf_long
  rw [w64 (by omega) (by omega), if_neg (by simp; omega), if_pos ⟨h0, ha⟩, not_128 hb.1 hb.2, w32 (by omega) (by omega), long_end (by omega), Option.bind_some]
  simp only [Sum.elim_inr]
  rw [long_tell (by omega)]
  unfold tell
  rw [if_pos (by omega)]
  congr 2
  omega

theorem long2_is {K : Nat} {s : ByteArray} {a : Int} (hK : 10 ≤ K) (h0 : 0 ≤ a) (hs : (s.size : Int) ≤ 1000000000000) (ha : a < s.size) : utf_long K s a 2 224 192 128 =
    some (if 2 ≤ (s.size : Int) - a ∧ cont (bt s (a + 1)) then tell 2 (bt s a % 32 * 64 + bt s (a + 1) % 64) 128 else (0, 0)) := by
  obtain ⟨k, rfl⟩ : ∃ k, K = k + 5 := ⟨K - 5, by omega⟩
  have hb := bt_ok (s := s) (i := a)
  have hb1 := bt_ok (s := s) (i := a + 1)
  unfold utf_long
  rw [w64 (by omega) (by omega)]
  by_cases hn : (s.size : Int) - a < 2
  · rw [if_pos (by simpa using hn), if_neg (by omega)]
  · rw [if_neg (by simpa using hn), if_pos ⟨h0, ha⟩, not_224 hb.1 hb.2, w32 (by omega) (by omega)]
    by_cases c1 : cont (bt s (a + 1))
    · rw [long_go h0 hs (by omega) (by omega) (by omega) c1 (by omega) (by omega), long_end (by omega), Option.bind_some]
      simp only [Sum.elim_inr]
      rw [long_tell (by omega), if_pos ⟨by omega, c1⟩]
    · rw [long_bad h0 hs (by omega) (by omega) (by omega) c1, Option.bind_some, if_neg (fun h => c1 h.2)]
      rfl

theorem long3_is {K : Nat} {s : ByteArray} {a : Int} (hK : 10 ≤ K) (h0 : 0 ≤ a) (hs : (s.size : Int) ≤ 1000000000000) (ha : a < s.size) : utf_long K s a 3 240 224 2048 =
    some (if 3 ≤ (s.size : Int) - a ∧ cont (bt s (a + 1)) ∧ cont (bt s (a + 2)) then tell 3 ((bt s a % 16 * 64 + bt s (a + 1) % 64) * 64 + bt s (a + 2) % 64) 2048 else (0, 0)) := by
  obtain ⟨k, rfl⟩ : ∃ k, K = k + 5 := ⟨K - 5, by omega⟩
  have hb := bt_ok (s := s) (i := a)
  have hb1 := bt_ok (s := s) (i := a + 1)
  have hb2 := bt_ok (s := s) (i := a + 2)
  unfold utf_long
  rw [w64 (by omega) (by omega)]
  by_cases hn : (s.size : Int) - a < 3
  · rw [if_pos (by simpa using hn), if_neg (by omega)]
  · rw [if_neg (by simpa using hn), if_pos ⟨h0, ha⟩, not_240 hb.1 hb.2, w32 (by omega) (by omega)]
    by_cases c1 : cont (bt s (a + 1))
    · rw [long_go h0 hs (by omega) (by omega) (by omega) c1 (by omega) (by omega)]
      by_cases c2 : cont (bt s (a + 2))
      · rw [show (1 : Int) + 1 = 2 from rfl, long_go h0 hs (by omega) (by omega) (by omega) c2 (by omega) (by omega), long_end (by omega), Option.bind_some]
        simp only [Sum.elim_inr]
        rw [long_tell (by omega), if_pos ⟨by omega, c1, c2⟩]
      · rw [show (1 : Int) + 1 = 2 from rfl, long_bad h0 hs (by omega) (by omega) (by omega) c2, Option.bind_some, if_neg (fun h => c2 h.2.2)]
        rfl
    · rw [long_bad h0 hs (by omega) (by omega) (by omega) c1, Option.bind_some, if_neg (fun h => c1 h.2.1)]
      rfl

theorem long4_go {K k : Nat} {s : ByteArray} {a : Int} (h0 : 0 ≤ a) (hs : (s.size : Int) ≤ 1000000000000) (hn : ¬ (s.size : Int) - a < 4) : utf_long.l0 K 4 a s (k + 4) (bt s a % 8) 1 =
    some (if cont (bt s (a + 1)) ∧ cont (bt s (a + 2)) ∧ cont (bt s (a + 3)) then .inr (((bt s a % 8 * 64 + bt s (a + 1) % 64) * 64 + bt s (a + 2) % 64) * 64 + bt s (a + 3) % 64) else .inl (0, 0)) := by
  have hb := bt_ok (s := s) (i := a)
  have hb1 := bt_ok (s := s) (i := a + 1)
  have hb2 := bt_ok (s := s) (i := a + 2)
  have hb3 := bt_ok (s := s) (i := a + 3)
  have r1 : 0 ≤ bt s a % 8 ∧ bt s a % 8 < 8 := by omega
  have r2 : 0 ≤ bt s (a + 1) % 64 ∧ bt s (a + 1) % 64 < 64 := by omega
  have r3 : 0 ≤ bt s (a + 2) % 64 ∧ bt s (a + 2) % 64 < 64 := by omega
  by_cases c1 : cont (bt s (a + 1))
  · have g1 := long_go (K := K) h0 hs (n := 4) (r := bt s a % 8) (i := 1) (k := k + 3) (by omega) (by omega) (by omega) c1 (by omega) (by omega)
    rw [g1, show (1 : Int) + 1 = 2 from rfl]
    by_cases c2 : cont (bt s (a + 2))
    · have g2 := long_go (K := K) h0 hs (n := 4) (r := bt s a % 8 * 64 + bt s (a + 1) % 64) (i := 2) (k := k + 2) (by omega) (by omega) (by omega) c2 (by omega) (by omega)
      rw [g2, show (2 : Int) + 1 = 3 from rfl]
      by_cases c3 : cont (bt s (a + 3))
      · have g3 := long_go (K := K) h0 hs (n := 4) (r := (bt s a % 8 * 64 + bt s (a + 1) % 64) * 64 + bt s (a + 2) % 64) (i := 3) (k := k + 1) (by omega) (by omega) (by omega) c3 (by omega) (by omega)
        rw [g3, long_end (by omega), if_pos ⟨c1, c2, c3⟩]
      · have g3 := long_bad (K := K) h0 hs (n := 4) (r := (bt s a % 8 * 64 + bt s (a + 1) % 64) * 64 + bt s (a + 2) % 64) (i := 3) (k := k + 1) (by omega) (by omega) (by omega) c3
        rw [g3, if_neg (fun h => c3 h.2.2)]
    · have g2 := long_bad (K := K) h0 hs (n := 4) (r := bt s a % 8 * 64 + bt s (a + 1) % 64) (i := 2) (k := k + 2) (by omega) (by omega) (by omega) c2
      rw [g2, if_neg (fun h => c2 h.2.1)]
  · have g1 := long_bad (K := K) h0 hs (n := 4) (r := bt s a % 8) (i := 1) (k := k + 3) (by omega) (by omega) (by omega) c1
    rw [g1, if_neg (fun h => c1 h.1)]

theorem long4_is {K : Nat} {s : ByteArray} {a least : Int} (hK : 10 ≤ K) (h0 : 0 ≤ a) (hs : (s.size : Int) ≤ 1000000000000) (ha : a < s.size) : utf_long K s a 4 248 240 least =
    some (if 4 ≤ (s.size : Int) - a ∧ cont (bt s (a + 1)) ∧ cont (bt s (a + 2)) ∧ cont (bt s (a + 3)) then tell 4 (((bt s a % 8 * 64 + bt s (a + 1) % 64) * 64 + bt s (a + 2) % 64) * 64 + bt s (a + 3) % 64) least else (0, 0)) := by
  obtain ⟨k, rfl⟩ : ∃ k, K = k + 4 := ⟨K - 4, by omega⟩
  have hb := bt_ok (s := s) (i := a)
  have r0 : 0 ≤ bt s a % 8 ∧ bt s a % 8 < 8 := by omega
  have r1 : 0 ≤ bt s (a + 1) % 64 := by omega
  have r2 : 0 ≤ bt s (a + 2) % 64 := by omega
  have r3 : 0 ≤ bt s (a + 3) % 64 := by omega
  unfold utf_long
  rw [w64 (n := (s.size : Int) - a) (by omega) (by omega)]
  by_cases hn : (s.size : Int) - a < 4
  · rw [if_pos (by simpa using hn), if_neg (by omega)]
  · rw [if_neg (by simpa using hn), if_pos ⟨h0, ha⟩, not_248 hb.1 hb.2, w32 (n := bt s a % 8) (by omega) (by omega), long4_go h0 hs hn]
    by_cases c : cont (bt s (a + 1)) ∧ cont (bt s (a + 2)) ∧ cont (bt s (a + 3))
    · rw [if_pos c, Option.bind_some, if_pos ⟨by omega, c⟩]
      simp only [Sum.elim_inr]
      generalize bt s a % 8 = x0 at *
      generalize bt s (a + 1) % 64 = x1 at *
      generalize bt s (a + 2) % 64 = x2 at *
      generalize bt s (a + 3) % 64 = x3 at *
      rw [long_tell (by omega)]
    · rw [if_neg c, Option.bind_some, if_neg (fun h => c h.2)]
      simp only [Sum.elim_inl]

/-- The code point at a place, and its bytes. -/
def upt (s : ByteArray) (a : Int) : Int × Int :=
  if a < 0 ∨ a ≥ s.size then (0, 0)
  else if bt s a < 128 then (bt s a, 1)
  else if 192 ≤ bt s a ∧ bt s a < 224 then (if 2 ≤ (s.size : Int) - a ∧ cont (bt s (a + 1)) then tell 2 (bt s a % 32 * 64 + bt s (a + 1) % 64) 128 else (0, 0))
  else if 224 ≤ bt s a ∧ bt s a < 240 then (if 3 ≤ (s.size : Int) - a ∧ cont (bt s (a + 1)) ∧ cont (bt s (a + 2)) then tell 3 ((bt s a % 16 * 64 + bt s (a + 1) % 64) * 64 + bt s (a + 2) % 64) 2048 else (0, 0))
  else if 240 ≤ bt s a ∧ bt s a < 248 then (if 4 ≤ (s.size : Int) - a ∧ cont (bt s (a + 1)) ∧ cont (bt s (a + 2)) ∧ cont (bt s (a + 3)) then tell 4 (((bt s a % 8 * 64 + bt s (a + 1) % 64) * 64 + bt s (a + 2) % 64) * 64 + bt s (a + 3) % 64) 65536 else (0, 0))
  else (0, 0)

theorem tell_snd {n v least : Int} : (tell n v least).2 = if least ≤ v ∧ v ≤ 1114111 ∧ ¬ (55296 ≤ v ∧ v < 57344) then n else 0 := by
  unfold tell; split <;> rfl

theorem upt_snd {s : ByteArray} {a : Int} : (upt s a).2 = usz s a := by
  unfold upt usz uszB
  have hb := bt_ok (s := s) (i := a)
  have hb1 := bt_ok (s := s) (i := a + 1)
  have hb2 := bt_ok (s := s) (i := a + 2)
  have hb3 := bt_ok (s := s) (i := a + 3)
  by_cases h : a < 0 ∨ a ≥ s.size
  · rw [if_pos h, if_pos h]
  · rw [if_neg h, if_neg h]
    by_cases h1 : bt s a < 128
    · rw [if_pos h1, if_pos h1]
    · rw [if_neg h1, if_neg h1]
      by_cases h2 : 192 ≤ bt s a ∧ bt s a < 224
      · rw [if_pos h2, if_pos h2]
        by_cases c : 2 ≤ (s.size : Int) - a ∧ cont (bt s (a + 1))
        · rw [if_pos c, tell_snd]
          congr 1
          apply propext
          constructor
          · intro h; exact ⟨c.1, c.2, h.1⟩
          · intro h; exact ⟨h.2.2, by omega, by omega⟩
        · rw [if_neg c, if_neg (fun h => c ⟨h.1, h.2.1⟩)]
      · rw [if_neg h2, if_neg h2]
        by_cases h3 : 224 ≤ bt s a ∧ bt s a < 240
        · rw [if_pos h3, if_pos h3]
          by_cases c : 3 ≤ (s.size : Int) - a ∧ cont (bt s (a + 1)) ∧ cont (bt s (a + 2))
          · rw [if_pos c, tell_snd]
            congr 1
            apply propext
            constructor
            · intro h; exact ⟨c.1, c.2.1, c.2.2, h.1, h.2.2⟩
            · intro h; exact ⟨h.2.2.2.1, by omega, h.2.2.2.2⟩
          · rw [if_neg c, if_neg (fun h => c ⟨h.1, h.2.1, h.2.2.1⟩)]
        · rw [if_neg h3, if_neg h3]
          by_cases h4 : 240 ≤ bt s a ∧ bt s a < 248
          · rw [if_pos h4, if_pos h4]
            by_cases c : 4 ≤ (s.size : Int) - a ∧ cont (bt s (a + 1)) ∧ cont (bt s (a + 2)) ∧ cont (bt s (a + 3))
            · rw [if_pos c, tell_snd]
              congr 1
              apply propext
              constructor
              · intro h; exact ⟨c.1, c.2.1, c.2.2.1, c.2.2.2, h.1, h.2.1⟩
              · intro h; exact ⟨h.2.2.2.2.1, h.2.2.2.2.2, by omega⟩
            · rw [if_neg c, if_neg (fun h => c ⟨h.1, h.2.1, h.2.2.1, h.2.2.2.1⟩)]
          · rw [if_neg h4, if_neg h4]

theorem upt_is {K : Nat} {s : ByteArray} {a : Int} (hK : 10 ≤ K) (hs : (s.size : Int) ≤ 1000000000000) : utf_point K s a = some (upt s a) := by
  obtain ⟨k, hk⟩ : ∃ k, K = k + 5 := ⟨K - 5, by omega⟩
  have hb := bt_ok (s := s) (i := a)
  unfold utf_point upt
  by_cases h : a < 0 ∨ a ≥ s.size
  · have : (if decide (a < 0) = true then some true else some (decide (a ≥ ((s.size : Nat) : Int)))) = some true := by
      by_cases h1 : a < 0
      · rw [if_pos (by simpa using h1)]
      · rw [if_neg (by simpa using h1)]; simp; omega
    rw [this, Option.bind_some, if_pos rfl, if_pos h]
  · have : (if decide (a < 0) = true then some true else some (decide (a ≥ ((s.size : Nat) : Int)))) = some false := by
      rw [if_neg (by simp; omega)]; simp; omega
    rw [this, Option.bind_some, if_neg (by simp), if_neg h]
    unfold utf_forms
    rw [Option.bind_some]
    have hin : 0 ≤ a ∧ a < ((s.size : Nat) : Int) := ⟨by omega, by omega⟩
    have hw0 : IntKind.wrap .i64 ((0 : Int) + 1) = 1 := by decide
    have hw1 : IntKind.wrap .i64 ((1 : Int) + 1) = 2 := by decide
    have hw2 : IntKind.wrap .i64 ((2 : Int) + 1) = 3 := by decide
    have hw3 : IntKind.wrap .i64 ((3 : Int) + 1) = 4 := by decide
    rw [hk]
    simp only [utf_point.l0, if_pos hin, hw0, hw1, hw2, hw3]
    simp only [show ((0 : Int)).toNat = 0 from rfl, show ((1 : Int)).toNat = 1 from rfl, show ((2 : Int)).toNat = 2 from rfl, show ((3 : Int)).toNat = 3 from rfl, List.getD_cons_zero, List.getD_cons_succ, is_128 hb.1 hb.2, is_224 hb.1 hb.2, is_240 hb.1 hb.2, is_248 hb.1 hb.2]
    rw [← hk]
    simp only [decide_eq_true_eq]
    by_cases h1 : bt s a < 128
    · rw [if_pos (by omega), if_pos (by omega), if_pos h1, if_pos h1, long1_is hK (by omega) hs (by omega) h1]; rfl
    · rw [if_pos (by omega), if_pos (by omega), if_neg h1, if_neg h1, if_pos (by omega), if_pos (by omega)]
      by_cases h2 : 192 ≤ bt s a ∧ bt s a < 224
      · rw [if_pos h2, if_pos h2, long2_is hK (by omega) hs (by omega)]; rfl
      · rw [if_neg h2, if_neg h2, if_pos (by omega), if_pos (by omega)]
        by_cases h3 : 224 ≤ bt s a ∧ bt s a < 240
        · rw [if_pos h3, if_pos h3, long3_is hK (by omega) hs (by omega)]; rfl
        · rw [if_neg h3, if_neg h3, if_pos (by omega), if_pos (by omega)]
          by_cases h4 : 240 ≤ bt s a ∧ bt s a < 248
          · rw [if_pos h4, if_pos h4, long4_is hK (by omega) hs (by omega)]; rfl
          · rw [if_neg h4, if_neg h4, if_neg (by omega)]

theorem usize_is {K : Nat} {s : ByteArray} {a : Int} (hK : 10 ≤ K) (hs : (s.size : Int) ≤ 1000000000000) : utf_Size K s a = some (usz s a) := by
  unfold utf_Size
  rw [upt_is hK hs, Option.bind_some, upt_snd]

theorem size1_tell {n v least : Int} : ((if decide (v < least) = true then some true else if decide (v > 1114111) = true then some true else if decide (v ≥ 55296) = true then some (decide (v < 57344)) else some false).bind fun z_76 => if z_76 = true then some (0 : Int) else some n) = some (tell n v least).2 := by
  rw [tell_snd]
  by_cases h1 : v < least
  · rw [if_pos (by simpa using h1), Option.bind_some, if_pos rfl, if_neg (by omega)]
  · rw [if_neg (by simpa using h1)]
    by_cases h2 : v > 1114111
    · rw [if_pos (by simpa using h2), Option.bind_some, if_pos rfl, if_neg (by omega)]
    · rw [if_neg (by simpa using h2)]
      by_cases h3 : v ≥ 55296
      · rw [if_pos (by simpa using h3), Option.bind_some]
        by_cases h4 : v < 57344
        · rw [if_pos (by simpa using h4), if_neg (by omega)]
        · rw [if_neg (by simpa using h4), if_pos (by omega)]
      · rw [if_neg (by simpa using h3), Option.bind_some, if_neg (by simp), if_pos (by omega)]

theorem s2_go {K k : Nat} {s : ByteArray} {a r : Int} (h0 : 0 ≤ a) (hs : (s.size : Int) ≤ 1000000000000) (hn : ¬ (s.size : Int) - a < 2) (hr : 0 ≤ r ∧ r < 64) : palinoderef1_Size.l0 K 2 a s (k + 4) r 1 =
    some (if cont (bt s (a + 1)) then .inr (r * 64 + bt s (a + 1) % 64) else .inl 0) := by
  by_cases c1 : cont (bt s (a + 1))
  · have g1 := size1_go (K := K) h0 hs (n := 2) (r := r) (i := 1) (k := k + 3) (by omega) (by omega) (by omega) c1 (by omega) (by omega)
    rw [g1, size1_end (by omega), if_pos c1]
  · have g1 := size1_bad (K := K) h0 hs (n := 2) (r := r) (i := 1) (k := k + 3) (by omega) (by omega) (by omega) c1
    rw [g1, if_neg c1]

theorem s3_go {K k : Nat} {s : ByteArray} {a r : Int} (h0 : 0 ≤ a) (hs : (s.size : Int) ≤ 1000000000000) (hn : ¬ (s.size : Int) - a < 3) (hr : 0 ≤ r ∧ r < 64) : palinoderef1_Size.l0 K 3 a s (k + 4) r 1 =
    some (if cont (bt s (a + 1)) ∧ cont (bt s (a + 2)) then .inr ((r * 64 + bt s (a + 1) % 64) * 64 + bt s (a + 2) % 64) else .inl 0) := by
  have r2 : 0 ≤ bt s (a + 1) % 64 ∧ bt s (a + 1) % 64 < 64 := by omega
  by_cases c1 : cont (bt s (a + 1))
  · have g1 := size1_go (K := K) h0 hs (n := 3) (r := r) (i := 1) (k := k + 3) (by omega) (by omega) (by omega) c1 (by omega) (by omega)
    rw [g1, show (1 : Int) + 1 = 2 from rfl]
    by_cases c2 : cont (bt s (a + 2))
    · have g2 := size1_go (K := K) h0 hs (n := 3) (r := r * 64 + bt s (a + 1) % 64) (i := 2) (k := k + 2) (by omega) (by omega) (by omega) c2 (by omega) (by omega)
      rw [g2, size1_end (by omega), if_pos ⟨c1, c2⟩]
    · have g2 := size1_bad (K := K) h0 hs (n := 3) (r := r * 64 + bt s (a + 1) % 64) (i := 2) (k := k + 2) (by omega) (by omega) (by omega) c2
      rw [g2, if_neg (fun h => c2 h.2)]
  · have g1 := size1_bad (K := K) h0 hs (n := 3) (r := r) (i := 1) (k := k + 3) (by omega) (by omega) (by omega) c1
    rw [g1, if_neg (fun h => c1 h.1)]

theorem s4_go {K k : Nat} {s : ByteArray} {a r : Int} (h0 : 0 ≤ a) (hs : (s.size : Int) ≤ 1000000000000) (hn : ¬ (s.size : Int) - a < 4) (hr : 0 ≤ r ∧ r < 64) : palinoderef1_Size.l0 K 4 a s (k + 4) r 1 =
    some (if cont (bt s (a + 1)) ∧ cont (bt s (a + 2)) ∧ cont (bt s (a + 3)) then .inr (((r * 64 + bt s (a + 1) % 64) * 64 + bt s (a + 2) % 64) * 64 + bt s (a + 3) % 64) else .inl 0) := by
  have r2 : 0 ≤ bt s (a + 1) % 64 ∧ bt s (a + 1) % 64 < 64 := by omega
  have r3 : 0 ≤ bt s (a + 2) % 64 ∧ bt s (a + 2) % 64 < 64 := by omega
  by_cases c1 : cont (bt s (a + 1))
  · have g1 := size1_go (K := K) h0 hs (n := 4) (r := r) (i := 1) (k := k + 3) (by omega) (by omega) (by omega) c1 (by omega) (by omega)
    rw [g1, show (1 : Int) + 1 = 2 from rfl]
    by_cases c2 : cont (bt s (a + 2))
    · have g2 := size1_go (K := K) h0 hs (n := 4) (r := r * 64 + bt s (a + 1) % 64) (i := 2) (k := k + 2) (by omega) (by omega) (by omega) c2 (by omega) (by omega)
      rw [g2, show (2 : Int) + 1 = 3 from rfl]
      by_cases c3 : cont (bt s (a + 3))
      · have g3 := size1_go (K := K) h0 hs (n := 4) (r := (r * 64 + bt s (a + 1) % 64) * 64 + bt s (a + 2) % 64) (i := 3) (k := k + 1) (by omega) (by omega) (by omega) c3 (by omega) (by omega)
        rw [g3, size1_end (by omega), if_pos ⟨c1, c2, c3⟩]
      · have g3 := size1_bad (K := K) h0 hs (n := 4) (r := (r * 64 + bt s (a + 1) % 64) * 64 + bt s (a + 2) % 64) (i := 3) (k := k + 1) (by omega) (by omega) (by omega) c3
        rw [g3, if_neg (fun h => c3 h.2.2)]
    · have g2 := size1_bad (K := K) h0 hs (n := 4) (r := r * 64 + bt s (a + 1) % 64) (i := 2) (k := k + 2) (by omega) (by omega) (by omega) c2
      rw [g2, if_neg (fun h => c2 h.2.1)]
  · have g1 := size1_bad (K := K) h0 hs (n := 4) (r := r) (i := 1) (k := k + 3) (by omega) (by omega) (by omega) c1
    rw [g1, if_neg (fun h => c1 h.1)]

/-- A code point of more than one byte, read. -/
theorem size1_many {n r least : Int} {K : Nat} {s : ByteArray} {a : Int} {C : Prop} [Decidable C] {v : Int} (hw : IntKind.wrap .i64 ((s.size : Int) - a) = (s.size : Int) - a) (hg : ¬ (s.size : Int) - a < n → palinoderef1_Size.l0 K n a s K r 1 = some (if C then .inr v else .inl 0)) :
    (if decide (IntKind.wrap .i64 ((((ByteArray.size s) : Nat) : Int) - a) < n) = true then some (0 : Int) else (palinoderef1_Size.l0 K n a s K r 1).bind (Sum.elim (fun z_74 => some z_74) (fun z_75 => (if (decide (z_75 < least)) = true then some true else if (decide (z_75 > (1114111 : Int))) = true then some true else if (decide (z_75 ≥ (55296 : Int))) = true then some (decide (z_75 < (57344 : Int))) else some false).bind (fun z_76 => if z_76 = true then some (0 : Int) else some n)))) =
      some (if n ≤ (s.size : Int) - a ∧ C then tell n v least else (0, 0)).2 := by
  rw [hw]
  by_cases h : (s.size : Int) - a < n
  · rw [if_pos (by simpa using h), if_neg (fun h' => by omega)]
  · rw [if_neg (by simpa using h), hg h]
    by_cases c : C
    · rw [if_pos c, Option.bind_some, if_pos ⟨by omega, c⟩]
      simp only [Sum.elim_inr]
      rw [size1_tell]
    · rw [if_neg c, Option.bind_some, if_neg (fun h' => c h'.2)]
      simp only [Sum.elim_inl]

theorem rsize_is {K : Nat} {s : ByteArray} {a : Int} (hK : 10 ≤ K) (hs : (s.size : Int) ≤ 1000000000000) : palinoderef1_Size K s a = some (usz s a) := by
  obtain ⟨k, hk⟩ : ∃ k, K = k + 4 := ⟨K - 4, by omega⟩
  have hb := bt_ok (s := s) (i := a)
  rw [← upt_snd]
  unfold palinoderef1_Size upt
  by_cases h : a < 0 ∨ a ≥ s.size
  · have : (if decide (a < 0) = true then some true else some (decide (a ≥ ((s.size : Nat) : Int)))) = some true := by
      by_cases h1 : a < 0
      · rw [if_pos (by simpa using h1)]
      · rw [if_neg (by simpa using h1)]; simp; omega
    rw [this, Option.bind_some, if_pos rfl, if_pos h]
  · have : (if decide (a < 0) = true then some true else some (decide (a ≥ ((s.size : Nat) : Int)))) = some false := by
      rw [if_neg (by simp; omega)]; simp; omega
    have hw : IntKind.wrap .i64 ((s.size : Int) - a) = (s.size : Int) - a := w64 (by omega) (by omega)
    have e2 := size1_many (least := 128) (K := K) (s := s) (a := a) (n := 2) (r := bt s a % 32) hw (fun hn => by rw [hk]; exact s2_go (by omega) hs hn (by omega))
    have e3 := size1_many (least := 2048) (K := K) (s := s) (a := a) (n := 3) (r := bt s a % 16) hw (fun hn => by rw [hk]; exact s3_go (by omega) hs hn (by omega))
    have e4 := size1_many (least := 65536) (K := K) (s := s) (a := a) (n := 4) (r := bt s a % 8) hw (fun hn => by rw [hk]; exact s4_go (by omega) hs hn (by omega))
    rw [this, Option.bind_some, if_neg (by simp), if_neg h, if_pos ⟨by omega, by omega⟩, w64 (n := bt s a) (by omega) (by omega), and_31 hb.1 hb.2, and_15 hb.1 hb.2, and_7 hb.1 hb.2]
    by_cases h1 : bt s a < 128
    · rw [if_pos (by simpa using h1), if_pos h1]
    · rw [if_neg (by simpa using h1), if_neg h1]
      by_cases h2 : 192 ≤ bt s a ∧ bt s a < 224
      · rw [if_pos (by simp; omega), Option.bind_some, if_pos (by simp; omega), Option.bind_some, if_pos h2]
        simp only [Sum.elim_inr]
        exact e2
      · have c2 : (if decide (bt s a ≥ 192) = true then some (decide (bt s a < 224)) else some false) = some false := by
          by_cases g : bt s a ≥ 192
          · rw [if_pos (by simpa using g)]; simp; omega
          · rw [if_neg (by simpa using g)]
        rw [c2, Option.bind_some, if_neg (by simp), if_neg h2]
        by_cases h3 : 224 ≤ bt s a ∧ bt s a < 240
        · rw [if_pos (by simp; omega), Option.bind_some, if_pos (by simp; omega), Option.bind_some, if_pos h3]
          simp only [Sum.elim_inr]
          exact e3
        · have c3 : (if decide (bt s a ≥ 224) = true then some (decide (bt s a < 240)) else some false) = some false := by
            by_cases g : bt s a ≥ 224
            · rw [if_pos (by simpa using g)]; simp; omega
            · rw [if_neg (by simpa using g)]
          rw [c3, Option.bind_some, if_neg (by simp), if_neg h3]
          by_cases h4 : 240 ≤ bt s a ∧ bt s a < 248
          · rw [if_pos (by simp; omega), Option.bind_some, if_pos (by simp; omega), Option.bind_some, if_pos h4]
            simp only [Sum.elim_inr]
            exact e4
          · have c4 : (if decide (bt s a ≥ 240) = true then some (decide (bt s a < 248)) else some false) = some false := by
              by_cases g : bt s a ≥ 240
              · rw [if_pos (by simpa using g)]; simp; omega
              · rw [if_neg (by simpa using g)]
            rw [c4, Option.bind_some, if_neg (by simp), if_neg h4, Option.bind_some]
            simp only [Sum.elim_inl]

/-- Whether from a place on there are code points, one behind the other. -/
def uval (s : ByteArray) : Nat → Int → Bool
  | 0, _ => true
  | m + 1, a => if a < s.size then (if usz s a = 0 then false else uval s m (a + usz s a)) else true

def uvalid (s : ByteArray) : Bool := uval s s.size 0

theorem uvalid_loop {K : Nat} {s : ByteArray} (hK : 10 ≤ K) (hs : (s.size : Int) ≤ 1000000000000) : ∀ (d k m : Nat) (a : Int), 0 ≤ a → (s.size : Int) - a ≤ d → a ≤ s.size → d < k → d ≤ m → utf_Valid.l0 K s k a = some (uval s m a) := by
  intro d
  induction d with
  | zero =>
    intro k m a h0 h1 h2 hk hm
    obtain ⟨k, rfl⟩ : ∃ l, k = l + 1 := ⟨k - 1, by omega⟩
    rw [utf_Valid.l0, if_neg (by simp; omega)]
    cases m with
    | zero => rfl
    | succ m => rw [uval, if_neg (by omega)]
  | succ d ih =>
    intro k m a h0 h1 h2 hk hm
    obtain ⟨k, rfl⟩ : ∃ l, k = l + 1 := ⟨k - 1, by omega⟩
    obtain ⟨m, rfl⟩ : ∃ l, m = l + 1 := ⟨m - 1, by omega⟩
    have hu := usz_ok (s := s) (a := a)
    rw [utf_Valid.l0, uval]
    by_cases h : a < s.size
    · have hu3 := hu.2.2 h0 h
      rw [if_pos (by simpa using h), if_pos h, usize_is hK hs, Option.bind_some]
      by_cases hz : usz s a = 0
      · rw [if_pos (by simpa using hz), if_pos hz]
      · rw [if_neg (by simpa using hz), if_neg hz, w64 (by omega) (by omega)]
        exact ih k m _ (by omega) (by omega) (by omega) (by omega) (by omega)
    · rw [if_neg (by simpa using h), if_neg h]

theorem uvalid_is {K : Nat} {s : ByteArray} (hK : s.size + 10 ≤ K) (hs : (s.size : Int) ≤ 1000000000000) : utf_Valid K s = some (uvalid s) := by
  unfold utf_Valid uvalid
  exact uvalid_loop (by omega) hs s.size K s.size 0 (by omega) (by omega) (by omega) (by omega) (by omega)

theorem rvalid_loop {K : Nat} {s : ByteArray} (hK : 10 ≤ K) (hs : (s.size : Int) ≤ 1000000000000) : ∀ (d k m : Nat) (a : Int), 0 ≤ a → (s.size : Int) - a ≤ d → a ≤ s.size → d < k → d ≤ m → palinoderef1_Valid.l0 K s k a = some (uval s m a) := by
  intro d
  induction d with
  | zero =>
    intro k m a h0 h1 h2 hk hm
    obtain ⟨k, rfl⟩ : ∃ l, k = l + 1 := ⟨k - 1, by omega⟩
    rw [palinoderef1_Valid.l0, if_neg (by simp; omega)]
    cases m with
    | zero => rfl
    | succ m => rw [uval, if_neg (by omega)]
  | succ d ih =>
    intro k m a h0 h1 h2 hk hm
    obtain ⟨k, rfl⟩ : ∃ l, k = l + 1 := ⟨k - 1, by omega⟩
    obtain ⟨m, rfl⟩ : ∃ l, m = l + 1 := ⟨m - 1, by omega⟩
    have hu := usz_ok (s := s) (a := a)
    rw [palinoderef1_Valid.l0, uval]
    by_cases h : a < s.size
    · have hu3 := hu.2.2 h0 h
      rw [if_pos (by simpa using h), if_pos h, rsize_is hK hs, Option.bind_some]
      by_cases hz : usz s a = 0
      · rw [if_pos (by simpa using hz), if_pos hz]
      · rw [if_neg (by simpa using hz), if_neg hz, w64 (by omega) (by omega)]
        exact ih k m _ (by omega) (by omega) (by omega) (by omega) (by omega)
    · rw [if_neg (by simpa using h), if_neg h]

theorem rvalid_is {K : Nat} {s : ByteArray} (hK : s.size + 10 ≤ K) (hs : (s.size : Int) ≤ 1000000000000) : palinoderef1_Valid K s = some (uvalid s) := by
  unfold palinoderef1_Valid uvalid
  exact rvalid_loop (by omega) hs s.size K s.size 0 (by omega) (by omega) (by omega) (by omega) (by omega)

theorem toList_loop (s : ByteArray) : ∀ (d i : Nat) (r : List UInt8), s.size - i = d → ByteArray.toList.loop s i r = r.reverse ++ s.data.toList.drop i := by
  intro d
  induction d with
  | zero =>
    intro i r h
    unfold ByteArray.toList.loop
    rw [if_neg (by omega), List.drop_eq_nil_of_le (by have : s.data.toList.length = s.size := by simp
                                                      omega)]
    simp
  | succ d ih =>
    intro i r h
    unfold ByteArray.toList.loop
    have hl : s.data.toList.length = s.size := by simp
    have hi : i < s.data.toList.length := by omega
    rw [if_pos (by omega), ih (i + 1) _ (by omega), List.drop_eq_getElem_cons hi]
    have : s.get! i = s.data.toList[i] := by
      have h2 : i < s.data.size := by simpa using hi
      show s.data[i]! = _
      rw [getElem!_pos s.data i h2]
      simp
    rw [this]
    simp

theorem toList_eq (s : ByteArray) : ByteArray.toList s = s.data.toList := by
  unfold ByteArray.toList
  rw [toList_loop s s.size 0 [] rfl]
  simp

theorem str_beq {a b : ByteArray} : (ByteArray.toList a == ByteArray.toList b) = decide (a = b) := by
  rw [toList_eq, toList_eq]
  by_cases h : a = b
  · subst h; simp
  · have : a.data.toList ≠ b.data.toList := fun h' => h (by have := Array.toList_inj.1 h'; cases a; cases b; simp only at this; rw [this])
    rw [beq_eq_false_iff_ne.2 this]; simp [h]

theorem size_zero {a : ByteArray} : a = ⟨#[]⟩ ↔ a.size = 0 := by
  constructor
  · rintro rfl; rfl
  · intro h
    rw [← ofBytes_txt (s := a)]
    have : txt a = [] := List.eq_nil_of_length_eq_zero (by rw [txt_len]; exact h)
    rw [this]; rfl

theorem str_nil {a : ByteArray} : (ByteArray.toList a == ByteArray.toList (ByteArray.mk #[])) = decide (a.size = 0) := by
  rw [str_beq]
  exact decide_eq_decide.2 size_zero

abbrev El := Int × (Int × ByteArray)

theorem isCopy_is {K : Nat} {x1 x2 : Int} {x3 : ByteArray} : delta_IsCopy K x1 x2 x3 = some (decide (x3.size = 0)) := by
  unfold delta_IsCopy
  rw [str_nil]

theorem elem_is {K : Nat} {x1 x2 base to : Int} {x3 : ByteArray} {ahead copied : Bool} (hK : 30000 ≤ K) : delta_elem K x1 x2 x3 base to ahead copied =
    some (if x3.size = 0 then decide (to ≤ x1 ∧ (to < x1 ∨ copied = false) ∧ x1 < x2 ∧ x2 ≤ base) else decide (x1 = 0 ∧ x2 = 0 ∧ (ahead = false ∨ copied = true) ∧ x3.size ≤ 20000) && uvalid x3) := by
  unfold delta_elem
  rw [isCopy_is, Option.bind_some]
  by_cases h : x3.size = 0
  · rw [if_pos (by simpa using h), if_pos h]
    by_cases h1 : x1 ≥ to
    · rw [if_pos (by simpa using h1)]
      by_cases h2 : x1 > to
      · rw [if_pos (by simpa using h2)]
        by_cases h3 : x1 < x2
        · rw [if_pos (by simpa using h3)]
          congr 1; rw [decide_eq_decide]; omega
        · rw [if_neg (by simpa using h3)]
          congr 1; symm; rw [decide_eq_false_iff_not]; omega
      · rw [if_neg (by simpa using h2)]
        cases copied with
        | true => rw [if_neg (by simp)]; congr 1; symm; rw [decide_eq_false_iff_not]; simp; omega
        | false =>
          rw [if_pos (by simp)]
          by_cases h3 : x1 < x2
          · rw [if_pos (by simpa using h3)]
            congr 1; rw [decide_eq_decide]; simp; omega
          · rw [if_neg (by simpa using h3)]
            congr 1; symm; rw [decide_eq_false_iff_not]; omega
    · rw [if_neg (by simpa using h1)]
      congr 1; symm; rw [decide_eq_false_iff_not]; omega
  · rw [if_neg (by simpa using h), if_neg h]
    by_cases h1 : x1 = 0 ∧ x2 = 0
    · rw [if_pos (by simp [h1])]
      by_cases h2 : x3.size ≤ 20000
      · have hv : utf_Valid K x3 = some (uvalid x3) := uvalid_is (by omega) (by omega)
        cases ahead with
        | false => rw [if_pos (by simp), if_pos (by simp; omega), hv, Option.bind_some]; simp [h1, h2]
        | true =>
          rw [if_neg (by simp)]
          cases copied with
          | true => rw [if_pos rfl, if_pos (by simp; omega), hv, Option.bind_some]; simp [h1, h2]
          | false => rw [if_neg (by simp)]; simp
      · cases ahead with
        | false => rw [if_pos (by simp), if_neg (by simp; omega)]; simp [h2]
        | true =>
          rw [if_neg (by simp)]
          cases copied with
          | true => rw [if_pos rfl, if_neg (by simp; omega)]; simp [h2]
          | false => rw [if_neg (by simp)]; simp
    · rw [if_neg (by simp; omega)]
      congr 1; symm
      rw [Bool.and_eq_false_iff, decide_eq_false_iff_not]
      left
      exact fun h' => h1 ⟨h'.1, h'.2.1⟩

/-- Elements that may come behind others. -/
def isL (base : Int) : Int → Int → Option Bool → List El → Bool
  | _, _, _, [] => true
  | size, to, pre, x :: r =>
    if x.2.2.size = 0 then
      decide (to ≤ x.1 ∧ (to < x.1 ∨ pre ≠ some true) ∧ x.1 < x.2.1 ∧ x.2.1 ≤ base ∧ size + (x.2.1 - x.1) ≤ 20000) && isL base (size + (x.2.1 - x.1)) x.2.1 (some true) r
    else
      (decide (x.1 = 0 ∧ x.2.1 = 0 ∧ pre ≠ some false ∧ size + x.2.2.size ≤ 20000) && uvalid x.2.2) && isL base (size + x.2.2.size) to (some false) r

/-- Whether elements are a delta. -/
def isD (base : Int) (l : List El) : Bool := decide (0 ≤ base ∧ base ≤ 20000 ∧ l.length ≤ 60) && isL base 0 0 none l

def preOf (d : List El) (j : Nat) : Option Bool := if j = 0 then none else some (decide ((d.getD (j - 1) ((0 : Int), ((0 : Int), ByteArray.empty))).2.2.size = 0))

theorem preOf_succ {d : List El} {j : Nat} {x : El} (h : d.getD j ((0 : Int), ((0 : Int), ByteArray.empty)) = x) : preOf d (j + 1) = some (decide (x.2.2.size = 0)) := by
  unfold preOf
  rw [if_neg (by omega), Nat.add_sub_cancel, h]

theorem is_loop {K : Nat} {d : List El} {base : Int} (hK : 30000 ≤ K) (hb : base ≤ 20000) (hl : d.length ≤ 60) : ∀ (rest : List El) (j k : Nat) (size to : Int), d.drop j = rest → rest.length < k → 0 ≤ size → size ≤ 20000 → 0 ≤ to → to ≤ 20000 →
    delta_Is.l0 K d base k size to (j : Int) = some (isL base size to (preOf d j) rest)
  | [], j, k, size, to, hd, hk, h0, h1, h2, h3 => by
    obtain ⟨k, rfl⟩ : ∃ m, k = m + 1 := ⟨k - 1, by simp at hk; omega⟩
    have := drop_nil hd
    rw [delta_Is.l0, if_neg (by simp; omega)]
    rfl
  | x :: rest, j, k, size, to, hd, hk, h0, h1, h2, h3 => by
    obtain ⟨k, rfl⟩ : ∃ m, k = m + 1 := ⟨k - 1, by simp at hk; omega⟩
    obtain ⟨hj, hgd, hd'⟩ := drop_cons hd ((0 : Int), ((0 : Int), ByteArray.empty))
    have hk' : rest.length < k := by simp at hk; omega
    have hw : IntKind.wrap .i64 ((j : Int) + 1) = ((j + 1 : Nat) : Int) := by rw [w64 (by omega) (by omega)]; omega
    have hw1 : IntKind.wrap .i64 ((j : Int) - 1) = (j : Int) - 1 := w64 (by omega) (by omega)
    have hps := preOf_succ hgd
    have hnext := fun (size' to' : Int) (a0 : 0 ≤ size') (a1 : size' ≤ 20000) (a2 : 0 ≤ to') (a3 : to' ≤ 20000) => is_loop (K := K) hK hb hl rest (j + 1) k size' to' hd' hk' a0 a1 a2 a3
    rw [hps] at hnext
    have hcp : (if decide ((j : Int) > 0) = true then (delta_IsCopy K (d.getD ((j : Int) - 1).toNat ((0 : Int), ((0 : Int), ByteArray.empty))).1 (d.getD ((j : Int) - 1).toNat ((0 : Int), ((0 : Int), ByteArray.empty))).2.1 (d.getD ((j : Int) - 1).toNat ((0 : Int), ((0 : Int), ByteArray.empty))).2.2).bind fun r_22 => if 0 ≤ (j : Int) - 1 ∧ (j : Int) - 1 < ((d.length : Nat) : Int) then some r_22 else none else some false) = some (preOf d j == some true) := by
      unfold preOf
      by_cases hj0 : j = 0
      · subst hj0; simp
      · rw [if_pos (by simp; omega), isCopy_is, Option.bind_some, if_pos ⟨by omega, by omega⟩, if_neg hj0, show ((j : Int) - 1).toNat = j - 1 by omega]
        simp
    have hah : ∀ b : Bool, (decide ((j : Int) > 0) = false ∨ b = true) ↔ (preOf d j = none ∨ b = true) := by
      intro b
      unfold preOf
      by_cases hj0 : j = 0
      · subst hj0; simp
      · simp [hj0]
    rw [delta_Is.l0]
    simp only [Int.toNat_natCast, hgd, hw, hw1]
    rw [if_pos (by simpa using hj), if_pos ⟨by omega, by omega⟩, hcp, Option.bind_some, elem_is hK, Option.bind_some, isCopy_is, isL]
    by_cases hz : x.2.2.size = 0
    · rw [if_pos hz, if_pos hz, hz]
      by_cases hc : to ≤ x.1 ∧ (to < x.1 ∨ (preOf d j == some true) = false) ∧ x.1 < x.2.1 ∧ x.2.1 ≤ base
      · rw [show decide (to ≤ x.1 ∧ (to < x.1 ∨ (preOf d j == some true) = false) ∧ x.1 < x.2.1 ∧ x.2.1 ≤ base) = true from decide_eq_true hc, if_neg (by simp), Option.bind_some, if_pos (by simp), Option.bind_some]
        simp only [Int.natCast_zero, Int.add_zero]
        rw [w64 (n := x.2.1 - x.1) (by omega) (by omega), w64 (n := x.2.1 - x.1) (by omega) (by omega), w64 (n := size + (x.2.1 - x.1)) (by omega) (by omega)]
        have hp : (preOf d j == some true) = false ↔ preOf d j ≠ some true := by simp
        by_cases hs : size + (x.2.1 - x.1) ≤ 20000
        · rw [if_neg (by simpa using hs), hnext _ _ (by omega) hs (by omega) (by omega), hz]
          have : decide (to ≤ x.1 ∧ (to < x.1 ∨ preOf d j ≠ some true) ∧ x.1 < x.2.1 ∧ x.2.1 ≤ base ∧ size + (x.2.1 - x.1) ≤ 20000) = true := by
            rw [decide_eq_true_eq]
            rw [hp] at hc
            exact ⟨hc.1, hc.2.1, hc.2.2.1, hc.2.2.2, hs⟩
          rw [this]; simp
        · rw [if_pos (by simp; omega)]
          have : decide (to ≤ x.1 ∧ (to < x.1 ∨ preOf d j ≠ some true) ∧ x.1 < x.2.1 ∧ x.2.1 ≤ base ∧ size + (x.2.1 - x.1) ≤ 20000) = false := by
            rw [decide_eq_false_iff_not]
            exact fun h => hs h.2.2.2.2
          rw [this]; rfl
      · rw [show decide (to ≤ x.1 ∧ (to < x.1 ∨ (preOf d j == some true) = false) ∧ x.1 < x.2.1 ∧ x.2.1 ≤ base) = false from decide_eq_false hc, if_pos (by simp)]
        have hp : (preOf d j == some true) = false ↔ preOf d j ≠ some true := by simp
        have : decide (to ≤ x.1 ∧ (to < x.1 ∨ preOf d j ≠ some true) ∧ x.1 < x.2.1 ∧ x.2.1 ≤ base ∧ size + (x.2.1 - x.1) ≤ 20000) = false := by
          rw [decide_eq_false_iff_not]
          rw [hp] at hc
          exact fun h => hc ⟨h.1, h.2.1, h.2.2.1, h.2.2.2.1⟩
        rw [this]; rfl
    · rw [if_neg hz, if_neg hz]
      have hpre : (decide ((j : Int) > 0) = false ∨ (preOf d j == some true) = true) ↔ preOf d j ≠ some false := by
        rw [hah]
        cases preOf d j with
        | none => simp
        | some b => cases b <;> simp
      by_cases hc : x.1 = 0 ∧ x.2.1 = 0 ∧ (decide ((j : Int) > 0) = false ∨ (preOf d j == some true) = true) ∧ x.2.2.size ≤ 20000
      · rw [show decide (x.1 = 0 ∧ x.2.1 = 0 ∧ (decide ((j : Int) > 0) = false ∨ (preOf d j == some true) = true) ∧ x.2.2.size ≤ 20000) = true from by rw [decide_eq_true_eq]; exact hc]
        cases hv : uvalid x.2.2 with
        | false => rw [if_pos (by simp)]; simp
        | true =>
          rw [if_neg (by simp), Option.bind_some, if_neg (by simpa using hz), Option.bind_some]
          rw [hc.1, hc.2.1, Int.sub_zero, w64 (n := 0) (by omega) (by omega), Int.zero_add, w64 (n := (x.2.2.size : Int)) (by omega) (by omega), w64 (n := size + (x.2.2.size : Int)) (by omega) (by omega)]
          by_cases hs : size + (x.2.2.size : Int) ≤ 20000
          · rw [if_neg (by simpa using hs), hnext _ _ (by omega) hs (by omega) (by omega)]
            have : decide ((0 : Int) = 0 ∧ (0 : Int) = 0 ∧ preOf d j ≠ some false ∧ size + (x.2.2.size : Int) ≤ 20000) = true := by
              rw [decide_eq_true_eq]
              exact ⟨rfl, rfl, hpre.1 hc.2.2.1, hs⟩
            rw [this]
            simp [hz]
          · rw [if_pos (by simp; omega)]
            have : decide ((0 : Int) = 0 ∧ (0 : Int) = 0 ∧ preOf d j ≠ some false ∧ size + (x.2.2.size : Int) ≤ 20000) = false := by
              rw [decide_eq_false_iff_not]
              exact fun h => hs h.2.2.2
            rw [this]; rfl
      · rw [show decide (x.1 = 0 ∧ x.2.1 = 0 ∧ (decide ((j : Int) > 0) = false ∨ (preOf d j == some true) = true) ∧ x.2.2.size ≤ 20000) = false from by rw [decide_eq_false_iff_not]; exact hc]
        rw [if_pos (by simp)]
        have : decide (x.1 = 0 ∧ x.2.1 = 0 ∧ preOf d j ≠ some false ∧ size + (x.2.2.size : Int) ≤ 20000) = false := by
          rw [decide_eq_false_iff_not]
          exact fun h => hc ⟨h.1, h.2.1, hpre.2 h.2.2.1, by omega⟩
        rw [this]; rfl

theorem is_is {K : Nat} {d : List El} {base : Int} (hK : 30000 ≤ K) : delta_Is K base d = some (isD base d) := by
  unfold delta_Is isD
  by_cases h1 : base < 0
  · rw [if_pos (by simpa using h1), Option.bind_some, if_pos rfl]
    congr 1; symm; rw [Bool.and_eq_false_iff, decide_eq_false_iff_not]; left; omega
  · rw [if_neg (by simpa using h1)]
    by_cases h2 : base > 20000
    · rw [if_pos (by simpa using h2), Option.bind_some, if_pos rfl]
      congr 1; symm; rw [Bool.and_eq_false_iff, decide_eq_false_iff_not]; left; omega
    · rw [if_neg (by simpa using h2), Option.bind_some]
      by_cases h3 : d.length > 60
      · rw [if_pos (by simp; omega)]
        congr 1; symm; rw [Bool.and_eq_false_iff, decide_eq_false_iff_not]; left; omega
      · have h := is_loop (K := K) (d := d) (base := base) hK (by omega) (by omega) d 0 K 0 0 rfl (by omega) (by omega) (by omega) (by omega) (by omega)
        rw [Int.natCast_zero] at h
        rw [if_neg (by simp; omega), h]
        have : decide (0 ≤ base ∧ base ≤ 20000 ∧ d.length ≤ 60) = true := by rw [decide_eq_true_eq]; omega
        rw [this]
        rfl

abbrev el0 : El := ((0 : Int), ((0 : Int), ByteArray.empty))

def lastIs (b : Bool) (l : List El) : Prop := l ≠ [] ∧ decide ((l.getD (l.length - 1) el0).2.2.size = 0) = b

instance (b : Bool) (l : List El) : Decidable (lastIs b l) := inferInstanceAs (Decidable (_ ∧ _))

/-- Bytes kept, behind elements. -/
def mkCopy (l : List El) (f t : Int) : List El :=
  if f = t then l else if lastIs true l ∧ (l.getD (l.length - 1) el0).2.1 = f then l.set (l.length - 1) ((l.getD (l.length - 1) el0).1, (t, (l.getD (l.length - 1) el0).2.2)) else l ++ [(f, (t, ByteArray.empty))]

/-- A text put in, behind elements. -/
def mkPut (l : List El) (s : ByteArray) : List El :=
  if s.size = 0 then l else if lastIs false l then l.set (l.length - 1) ((l.getD (l.length - 1) el0).1, ((l.getD (l.length - 1) el0).2.1, (l.getD (l.length - 1) el0).2.2 ++ s)) else l ++ [(0, (0, s))]

def sumT : List El → Nat
  | [] => 0
  | x :: r => x.2.2.size + sumT r

def sumK : List El → Int
  | [] => 0
  | x :: r => (x.2.1 - x.1) + sumK r

theorem sumT_app : ∀ {l r : List El}, sumT (l ++ r) = sumT l + sumT r
  | [], r => by simp [sumT]
  | x :: l, r => by simp only [List.cons_append, sumT, sumT_app]; omega

theorem sumK_app : ∀ {l r : List El}, sumK (l ++ r) = sumK l + sumK r
  | [], r => by simp [sumK]
  | x :: l, r => by simp only [List.cons_append, sumK, sumK_app]; omega

theorem le_sumT : ∀ {l : List El} {x : El}, x ∈ l → x.2.2.size ≤ sumT l
  | y :: l, x, h => by
    rw [sumT]
    rcases List.mem_cons.1 h with rfl | h
    · omega
    · have := le_sumT h; omega

theorem empty_size : ByteArray.empty.size = 0 := rfl

theorem getD_last {l : List El} {p : El} : (l ++ [p]).getD ((l ++ [p]).length - 1) el0 = p := by
  simp [List.getD]

theorem set_last {α : Type} {l : List α} {p q : α} : (l ++ [p]).set ((l ++ [p]).length - 1) q = l ++ [q] := by
  have : (l ++ [p]).length - 1 = l.length := by simp
  rw [this, List.set_append_right _ _ (Nat.le_refl _), Nat.sub_self, List.set_cons_zero]

theorem mkCopy_nil {f t : Int} : mkCopy [] f t = if f = t then [] else [(f, (t, ByteArray.empty))] := by
  unfold mkCopy
  split
  · rfl
  · rw [if_neg (fun h => h.1.1 rfl)]; rfl

theorem lastIs_app {b : Bool} {l : List El} {p : El} : lastIs b (l ++ [p]) ↔ decide (p.2.2.size = 0) = b := by
  unfold lastIs
  rw [getD_last]
  exact ⟨fun h => h.2, fun h => ⟨by simp, h⟩⟩

theorem mkCopy_app {l : List El} {p : El} {f t : Int} : mkCopy (l ++ [p]) f t = if f = t then l ++ [p] else if p.2.2.size = 0 ∧ p.2.1 = f then l ++ [(p.1, (t, p.2.2))] else l ++ [p] ++ [(f, (t, ByteArray.empty))] := by
  unfold mkCopy
  rw [getD_last, set_last]
  by_cases h : f = t
  · rw [if_pos h, if_pos h]
  · rw [if_neg h, if_neg h]
    by_cases h2 : p.2.2.size = 0 ∧ p.2.1 = f
    · rw [if_pos ⟨lastIs_app.2 (decide_eq_true h2.1), h2.2⟩, if_pos h2]
    · rw [if_neg (fun h' => h2 ⟨of_decide_eq_true (lastIs_app.1 h'.1), h'.2⟩), if_neg h2]

theorem mkPut_nil {s : ByteArray} : mkPut [] s = if s.size = 0 then [] else [(0, (0, s))] := by
  unfold mkPut
  split
  · rfl
  · rw [if_neg (fun h => h.1 rfl)]; rfl

theorem mkPut_app {l : List El} {p : El} {s : ByteArray} : mkPut (l ++ [p]) s = if s.size = 0 then l ++ [p] else if p.2.2.size = 0 then l ++ [p] ++ [(0, (0, s))] else l ++ [(p.1, (p.2.1, p.2.2 ++ s))] := by
  unfold mkPut
  rw [getD_last, set_last]
  by_cases h : s.size = 0
  · rw [if_pos h, if_pos h]
  · rw [if_neg h, if_neg h]
    by_cases h2 : p.2.2.size = 0
    · rw [if_neg (fun h' => by have := lastIs_app.1 h'; simp [h2] at this), if_pos h2]
    · rw [if_pos (lastIs_app.2 (decide_eq_false h2)), if_neg h2]

theorem bsize_app {a b : ByteArray} : (a ++ b).size = a.size + b.size := ByteArray.size_append

theorem mkCopy_len {l : List El} {f t : Int} : (mkCopy l f t).length ≤ l.length + 1 := by
  unfold mkCopy
  split
  · omega
  · split <;> simp

theorem mkPut_len {l : List El} {s : ByteArray} : (mkPut l s).length ≤ l.length + 1 := by
  unfold mkPut
  split
  · omega
  · split <;> simp

theorem mkCopy_sumT {l : List El} {f t : Int} : sumT (mkCopy l f t) = sumT l := by
  by_cases h : l = []
  · subst h; rw [mkCopy_nil]; split <;> simp [sumT, empty_size]
  · obtain ⟨m, p, rfl⟩ := split_last h
    rw [mkCopy_app]
    split
    · rfl
    · split
      · simp [sumT_app, sumT]
      · simp [sumT_app, sumT, empty_size]

theorem mkPut_sumT {l : List El} {s : ByteArray} : sumT (mkPut l s) = sumT l + s.size := by
  by_cases h : l = []
  · subst h; rw [mkPut_nil]; split
    · simp [sumT]; omega
    · simp [sumT]
  · obtain ⟨m, p, rfl⟩ := split_last h
    rw [mkPut_app]
    split
    · omega
    · split
      · simp [sumT_app, sumT] <;> omega
      · simp [sumT_app, sumT, bsize_app] <;> omega

theorem copy_is {K : Nat} {m f t : Int} {l : List El} (hl : l.length ≤ 1000000000) : delta_Maker_Copy_bgg_11dec K m l f t = some (mkCopy l f t) := by
  unfold delta_Maker_Copy_bgg_11dec mkCopy
  have hw : IntKind.wrap .i64 ((l.length : Int) - 1) = (l.length : Int) - 1 := w64 (by omega) (by omega)
  rw [hw]
  by_cases h : f = t
  · rw [if_pos (by simpa using h), if_pos h]
  · rw [if_neg (by simpa using h), if_neg h]
    by_cases he : l = []
    · subst he
      rw [if_neg (by simp), Option.bind_some, if_neg (by simp), if_pos (by simp), if_neg (fun h => h.1.1 rfl)]
    · have hp : 0 < l.length := List.length_pos_iff.2 he
      have hn : ((l.length : Int) - 1).toNat = l.length - 1 := by omega
      rw [if_pos (by simp; omega), hn, isCopy_is, Option.bind_some]
      by_cases hz : (l.getD (l.length - 1) el0).2.2.size = 0
      · rw [if_pos (decide_eq_true hz), if_pos ⟨by omega, by omega⟩, Option.bind_some]
        by_cases hq : (l.getD (l.length - 1) el0).2.1 = f
        · rw [if_pos (by simpa using hq), if_pos ⟨by omega, by omega⟩, if_pos ⟨⟨he, decide_eq_true hz⟩, hq⟩]
        · rw [if_neg (by simpa using hq), if_pos (by simp; omega), if_neg (fun h => hq h.2)]
      · rw [if_neg (by simpa using hz), if_pos ⟨by omega, by omega⟩, Option.bind_some, if_neg (by simp), if_pos (by simp; omega), if_neg (fun h => hz (of_decide_eq_true h.1.2))]

theorem copy0_is {K : Nat} {m f t : Int} : delta_Maker_Copy_bgg_48161 K m f t = some (mkCopy [] f t) := by
  unfold delta_Maker_Copy_bgg_48161
  rw [mkCopy_nil]
  by_cases h : f = t
  · rw [if_pos (by simpa using h), if_pos h]
  · rw [if_neg (by simpa using h), if_neg h, Option.bind_some, if_pos (by simp)]

theorem putm_is {K : Nat} {m : Int} {l : List El} {s : ByteArray} (hl : l.length ≤ 1000000000) (ht : sumT l + s.size ≤ 9223372036854775807) : delta_Maker_Put_bg_92925 K m l s = some (mkPut l s) := by
  unfold delta_Maker_Put_bg_92925 mkPut
  have hw : IntKind.wrap .i64 ((l.length : Int) - 1) = (l.length : Int) - 1 := w64 (by omega) (by omega)
  rw [hw, str_nil]
  by_cases h : s.size = 0
  · rw [if_pos (by simpa using h), if_pos h]
  · rw [if_neg (by simpa using h), if_neg h]
    by_cases he : l = []
    · subst he
      rw [if_neg (by simp), Option.bind_some, if_neg (by simp), if_pos (by simp), if_neg (fun h => h.1 rfl)]
    · have hp : 0 < l.length := List.length_pos_iff.2 he
      have hn : ((l.length : Int) - 1).toNat = l.length - 1 := by omega
      have hm : l.getD (l.length - 1) el0 ∈ l := by
        rw [List.getD, List.getElem?_eq_getElem (by omega)]
        simp
      have hs := le_sumT hm
      rw [if_pos (by simp; omega), hn, isCopy_is, Option.bind_some, if_pos ⟨by omega, by omega⟩, Option.bind_some]
      by_cases hz : (l.getD (l.length - 1) el0).2.2.size = 0
      · rw [show decide ((l.getD (l.length - 1) ((0 : Int), ((0 : Int), ByteArray.empty))).2.2.size = 0) = true from decide_eq_true hz, if_neg (by simp), if_pos (by simp; omega), if_neg (fun h => by have := h.2; rw [decide_eq_true hz] at this; cases this)]
      · have h3 : (l.getD (l.length - 1) ((0 : Int), ((0 : Int), ByteArray.empty))).2.2.size ≤ sumT l := hs
        rw [show decide ((l.getD (l.length - 1) ((0 : Int), ((0 : Int), ByteArray.empty))).2.2.size = 0) = false from decide_eq_false hz, if_pos (by simp), if_pos ⟨by omega, by omega, by omega⟩, if_pos ⟨he, decide_eq_false hz⟩]

/-- Changes, one behind the other. -/
def bld : List El → Int → List El → List El × Int
  | acc, a, [] => (acc, a)
  | acc, a, c :: r => bld (mkPut (mkCopy acc a c.1) c.2.2) c.2.1 r

theorem bld_len : ∀ {l acc : List El} {a : Int}, (bld acc a l).1.length ≤ acc.length + 2 * l.length
  | [], acc, a => by simp [bld]
  | c :: r, acc, a => by
    rw [bld]
    have h1 := bld_len (l := r) (acc := mkPut (mkCopy acc a c.1) c.2.2) (a := c.2.1)
    have h2 := mkPut_len (l := mkCopy acc a c.1) (s := c.2.2)
    have h3 := mkCopy_len (l := acc) (f := a) (t := c.1)
    simp only [List.length_cons]; omega

theorem build_loop {K : Nat} {l : List El} {base : Int} : ∀ (rest : List El) (j k : Nat) (acc : List El) (a : Int), l.drop j = rest → rest.length < k → l.length ≤ 1000000 → acc.length ≤ 2 * j → sumT acc + sumT rest ≤ 9000000000000000000 →
    delta_Build_gr.l0 K l base k acc a (j : Int) = some (bld acc a rest)
  | [], j, k, acc, a, hd, hk, hl, ha, ht => by
    obtain ⟨k, rfl⟩ : ∃ m, k = m + 1 := ⟨k - 1, by simp at hk; omega⟩
    have := drop_nil hd
    rw [delta_Build_gr.l0, if_neg (by simp; omega)]
    rfl
  | c :: rest, j, k, acc, a, hd, hk, hl, ha, ht => by
    obtain ⟨k, rfl⟩ : ∃ m, k = m + 1 := ⟨k - 1, by simp at hk; omega⟩
    obtain ⟨hj, hgd, hd'⟩ := drop_cons hd el0
    have hk' : rest.length < k := by simp at hk; omega
    have hw : IntKind.wrap .i64 ((j : Int) + 1) = ((j + 1 : Nat) : Int) := by rw [w64 (by omega) (by omega)]; omega
    have h2 := mkPut_len (l := mkCopy acc a c.1) (s := c.2.2)
    have h3 := mkCopy_len (l := acc) (f := a) (t := c.1)
    have s1 := mkCopy_sumT (l := acc) (f := a) (t := c.1)
    have s2 := mkPut_sumT (l := mkCopy acc a c.1) (s := c.2.2)
    simp only [sumT] at ht
    rw [delta_Build_gr.l0]
    simp only [Int.toNat_natCast, hgd, hw]
    rw [if_pos (by simpa using hj), if_pos ⟨by omega, by omega⟩, copy_is (by omega), Option.bind_some, putm_is (by omega) (by omega), Option.bind_some, build_loop rest (j + 1) k _ _ hd' hk' hl (by omega) (by omega)]
    rfl

def rngL (base : Int) (l : List El) : Bool := l.all fun c => decide (0 ≤ c.1 ∧ c.1 ≤ c.2.1 ∧ c.2.1 ≤ base)

def ordL : Option El → List El → Bool
  | _, [] => true
  | none, b :: r => ordL (some b) r
  | some a, b :: r => !decide (b.1 < a.2.1 ∨ a.1 = b.1 ∧ a.2.1 = b.1) && ordL (some b) r

def valL (l : List El) : Bool := l.all fun c => uvalid c.2.2

def lngL : Int → List El → Int
  | _, [] => 0
  | left, c :: r => if c.2.2.size > left then 13 else lngL (left - c.2.2.size) r

theorem rng_loop {K : Nat} {l : List El} {base : Int} (hl : l.length ≤ 1000000000) : ∀ (rest : List El) (j k : Nat), l.drop j = rest → rest.length < k →
    delta_check_gr.l0 K l base k (j : Int) = some (if rngL base rest = true then .inr () else .inl 10)
  | [], j, k, hd, hk => by
    obtain ⟨k, rfl⟩ : ∃ m, k = m + 1 := ⟨k - 1, by simp at hk; omega⟩
    have := drop_nil hd
    rw [delta_check_gr.l0, if_neg (by simp; omega)]
    rfl
  | c :: rest, j, k, hd, hk => by
    obtain ⟨k, rfl⟩ : ∃ m, k = m + 1 := ⟨k - 1, by simp at hk; omega⟩
    obtain ⟨hj, hgd, hd'⟩ := drop_cons hd el0
    have hk' : rest.length < k := by simp at hk; omega
    have hw : IntKind.wrap .i64 ((j : Int) + 1) = ((j + 1 : Nat) : Int) := by rw [w64 (by omega) (by omega)]; omega
    rw [delta_check_gr.l0]
    simp only [Int.toNat_natCast, hgd, hw]
    rw [if_pos (by simpa using hj), if_pos ⟨by omega, by omega⟩, rng_loop hl rest (j + 1) k hd' hk', show rngL base (c :: rest) = (decide (0 ≤ c.1 ∧ c.1 ≤ c.2.1 ∧ c.2.1 ≤ base) && rngL base rest) from rfl]
    by_cases h1 : c.1 < 0
    · rw [if_pos (by simpa using h1), Option.bind_some, if_pos rfl, decide_eq_false (by omega)]; rfl
    · rw [if_neg (by simpa using h1)]
      by_cases h2 : c.1 > c.2.1
      · rw [if_pos (by simpa using h2), Option.bind_some, if_pos rfl, decide_eq_false (by omega)]; rfl
      · rw [if_neg (by simpa using h2), Option.bind_some]
        by_cases h3 : c.2.1 > base
        · rw [if_pos (by simpa using h3), decide_eq_false (by omega)]; rfl
        · rw [if_neg (by simpa using h3), decide_eq_true (by omega)]; rfl

theorem ord_loop {K : Nat} {l : List El} (hl : l.length ≤ 1000000000) : ∀ (rest : List El) (j k : Nat), l.drop j = rest → rest.length < k → 1 ≤ j →
    delta_Ordered_r.l0 K l k (j : Int) = some (ordL (some (l.getD (j - 1) el0)) rest)
  | [], j, k, hd, hk, h1 => by
    obtain ⟨k, rfl⟩ : ∃ m, k = m + 1 := ⟨k - 1, by simp at hk; omega⟩
    have := drop_nil hd
    rw [delta_Ordered_r.l0, if_neg (by simp; omega)]
    rfl
  | c :: rest, j, k, hd, hk, h1 => by
    obtain ⟨k, rfl⟩ : ∃ m, k = m + 1 := ⟨k - 1, by simp at hk; omega⟩
    obtain ⟨hj, hgd, hd'⟩ := drop_cons hd el0
    have hk' : rest.length < k := by simp at hk; omega
    have hw : IntKind.wrap .i64 ((j : Int) + 1) = ((j + 1 : Nat) : Int) := by rw [w64 (by omega) (by omega)]; omega
    have hw1 : IntKind.wrap .i64 ((j : Int) - 1) = (j : Int) - 1 := w64 (by omega) (by omega)
    have hn : ((j : Int) - 1).toNat = j - 1 := by omega
    have hr := ord_loop (K := K) hl rest (j + 1) k hd' hk' (by omega)
    rw [Nat.add_sub_cancel, hgd] at hr
    rw [delta_Ordered_r.l0]
    simp only [Int.toNat_natCast, hgd, hw, hw1, hn]
    rw [if_pos (by simpa using hj), if_pos ⟨by omega, by omega, by omega, by omega⟩, hr, ordL]
    by_cases a1 : c.1 < (l.getD (j - 1) el0).2.1
    · rw [if_pos (by simpa using a1), Option.bind_some, if_pos rfl, decide_eq_true (.inl a1)]; rfl
    · rw [if_neg (by simpa using a1)]
      by_cases a2 : (l.getD (j - 1) el0).1 = c.1
      · rw [if_pos (by simpa using a2), Option.bind_some]
        by_cases a3 : (l.getD (j - 1) el0).2.1 = c.1
        · rw [if_pos (by simpa using a3), decide_eq_true (.inr ⟨a2, a3⟩)]; rfl
        · rw [if_neg (by simpa using a3), decide_eq_false (by omega)]; rfl
      · rw [if_neg (by simpa using a2), Option.bind_some, if_neg (by simp), decide_eq_false (by omega)]; rfl

theorem ord_is {K : Nat} {l : List El} (hl : l.length ≤ 1000000000) (hK : l.length < K) : delta_Ordered_r K l = some (ordL none l) := by
  unfold delta_Ordered_r
  cases l with
  | nil =>
    obtain ⟨k, rfl⟩ : ∃ m, K = m + 1 := ⟨K - 1, by simp at hK; omega⟩
    rw [delta_Ordered_r.l0, if_neg (by simp)]; rfl
  | cons c r =>
    have h := ord_loop (K := K) hl r 1 K rfl (by simp at hK; omega) (by omega)
    rw [show ((1 : Nat) : Int) = 1 from rfl] at h
    rw [h]; rfl

theorem val_loop {K : Nat} {l : List El} (hl : l.length ≤ 1000000000) (ht : ∀ x ∈ l, x.2.2.size + 10 ≤ K ∧ x.2.2.size ≤ 1000000000000) : ∀ (rest : List El) (j k : Nat), l.drop j = rest → rest.length < k →
    delta_check_gr.l1 K l k (j : Int) = some (if valL rest = true then .inr () else .inl 12)
  | [], j, k, hd, hk => by
    obtain ⟨k, rfl⟩ : ∃ m, k = m + 1 := ⟨k - 1, by simp at hk; omega⟩
    have := drop_nil hd
    rw [delta_check_gr.l1, if_neg (by simp; omega)]
    rfl
  | c :: rest, j, k, hd, hk => by
    obtain ⟨k, rfl⟩ : ∃ m, k = m + 1 := ⟨k - 1, by simp at hk; omega⟩
    obtain ⟨hj, hgd, hd'⟩ := drop_cons hd el0
    have hk' : rest.length < k := by simp at hk; omega
    have hw : IntKind.wrap .i64 ((j : Int) + 1) = ((j + 1 : Nat) : Int) := by rw [w64 (by omega) (by omega)]; omega
    have hc : c ∈ l := by rw [← hgd]; simp [List.getD, hj]
    have hcs := ht c hc
    rw [delta_check_gr.l1]
    simp only [Int.toNat_natCast, hgd, hw]
    rw [if_pos (by simpa using hj), if_pos ⟨by omega, by omega⟩, uvalid_is (by omega) (by omega), Option.bind_some, val_loop hl ht rest (j + 1) k hd' hk', show valL (c :: rest) = (uvalid c.2.2 && valL rest) from rfl]
    cases uvalid c.2.2 <;> simp

theorem lng_loop {K : Nat} {l : List El} (hl : l.length ≤ 1000000000) : ∀ (rest : List El) (j k : Nat) (left : Int), l.drop j = rest → rest.length < k → 0 ≤ left → left ≤ 1000000000000 →
    delta_long_gr.l1 K l k left (j : Int) = some (lngL left rest)
  | [], j, k, left, hd, hk, h0, h1 => by
    obtain ⟨k, rfl⟩ : ∃ m, k = m + 1 := ⟨k - 1, by simp at hk; omega⟩
    have := drop_nil hd
    rw [delta_long_gr.l1, if_neg (by simp; omega)]
    rfl
  | c :: rest, j, k, left, hd, hk, h0, h1 => by
    obtain ⟨k, rfl⟩ : ∃ m, k = m + 1 := ⟨k - 1, by simp at hk; omega⟩
    obtain ⟨hj, hgd, hd'⟩ := drop_cons hd el0
    have hk' : rest.length < k := by simp at hk; omega
    have hw : IntKind.wrap .i64 ((j : Int) + 1) = ((j + 1 : Nat) : Int) := by rw [w64 (by omega) (by omega)]; omega
    rw [delta_long_gr.l1]
    simp only [Int.toNat_natCast, hgd, hw]
    rw [if_pos (by simpa using hj), if_pos ⟨by omega, by omega⟩, lngL]
    by_cases h : c.2.2.size > left
    · rw [if_pos (by simpa using h), if_pos h]
    · rw [if_neg (by simpa using h), if_neg h, w64 (by omega) (by omega), lng_loop hl rest (j + 1) k _ hd' hk' (by omega) (by omega)]

theorem gap_loop {K : Nat} {l : List El} (hl : l.length ≤ 1000000) (hr : rngL 20000 l = true) : ∀ (rest : List El) (j k : Nat) (left : Int), l.drop j = rest → rest.length < k → j ≤ l.length → 0 ≤ left → left ≤ 20000 + 20000 * j →
    delta_long_gr.l0 K l k left (j : Int) = some (left + sumK rest) ∧ 0 ≤ left + sumK rest ∧ left + sumK rest ≤ 20000 + 20000 * l.length
  | [], j, k, left, hd, hk, hj, h0, h1 => by
    obtain ⟨k, rfl⟩ : ∃ m, k = m + 1 := ⟨k - 1, by simp at hk; omega⟩
    have := drop_nil hd
    rw [delta_long_gr.l0, if_neg (by simp; omega)]
    simp only [sumK, Int.add_zero]
    exact ⟨trivial, h0, by omega⟩
  | c :: rest, j, k, left, hd, hk, hjl, h0, h1 => by
    obtain ⟨k, rfl⟩ : ∃ m, k = m + 1 := ⟨k - 1, by simp at hk; omega⟩
    obtain ⟨hj, hgd, hd'⟩ := drop_cons hd el0
    have hk' : rest.length < k := by simp at hk; omega
    have hw : IntKind.wrap .i64 ((j : Int) + 1) = ((j + 1 : Nat) : Int) := by rw [w64 (by omega) (by omega)]; omega
    have hc : c ∈ l := by rw [← hgd]; simp [List.getD, hj]
    have hcr := of_decide_eq_true (List.all_eq_true.1 hr c hc)
    rw [delta_long_gr.l0]
    simp only [Int.toNat_natCast, hgd, hw]
    rw [if_pos (by simpa using hj), if_pos ⟨by omega, by omega⟩, w64 (n := c.2.1 - c.1) (by omega) (by omega), w64 (n := left + (c.2.1 - c.1)) (by omega) (by omega)]
    obtain ⟨e1, e2, e3⟩ := gap_loop (K := K) hl hr rest (j + 1) k (left + (c.2.1 - c.1)) hd' hk' (by omega) (by omega) (by omega)
    simp only [sumK]
    rw [e1]
    exact ⟨by congr 1; omega, by omega, by omega⟩

theorem rngL_mono {b c : Int} (h : b ≤ c) {l : List El} (hr : rngL b l = true) : rngL c l = true := by
  unfold rngL at *
  rw [List.all_eq_true] at *
  intro x hx
  have := of_decide_eq_true (hr x hx)
  exact decide_eq_true (by omega)

/-- The first error of changes, by kind. -/
def chk (base : Int) (l : List El) : Int :=
  if base < 0 ∨ base > 20000 then 10 else if rngL base l = false then 10 else if ordL none l = false then 180 else if valL l = false then 12 else lngL (20000 - base + sumK l) l

theorem check_is {K : Nat} {l : List El} {base : Int} (hl : l.length ≤ 1000000) (hK : l.length < K) (ht : ∀ x ∈ l, x.2.2.size + 10 ≤ K ∧ x.2.2.size ≤ 1000000000000) : delta_check_gr K base l = some (chk base l) := by
  unfold delta_check_gr chk
  by_cases h1 : base < 0
  · rw [if_pos (by simpa using h1), Option.bind_some, if_pos rfl, if_pos (.inl h1)]
  · rw [if_neg (by simpa using h1), Option.bind_some]
    by_cases h2 : base > 20000
    · rw [if_pos (by simpa using h2), if_pos (.inr h2)]
    · rw [if_neg (by simpa using h2), if_neg (by omega)]
      have e0 := rng_loop (K := K) (base := base) (l := l) (by omega) l 0 K rfl (by omega)
      rw [Int.natCast_zero] at e0
      rw [e0, Option.bind_some]
      cases hr : rngL base l with
      | false => simp
      | true =>
        simp only [if_true, Sum.elim_inr, Bool.true_eq_false, if_false]
        rw [ord_is (by omega) hK, Option.bind_some]
        cases ho : ordL none l with
        | false => simp
        | true =>
          have e1 := val_loop (K := K) (l := l) (by omega) ht l 0 K rfl (by omega)
          rw [Int.natCast_zero] at e1
          rw [if_neg (by simp), e1, Option.bind_some]
          cases hv : valL l with
          | false => simp
          | true =>
            simp only [if_true, Sum.elim_inr, Bool.true_eq_false, if_false]
            unfold delta_long_gr
            obtain ⟨e2, e3, e4⟩ := gap_loop (K := K) (l := l) hl (rngL_mono (by omega) hr) l 0 K (20000 - base) rfl (by omega) (by omega) (by omega) (by omega)
            have e5 := lng_loop (K := K) (l := l) (by omega) l 0 K (20000 - base + sumK l) rfl (by omega) (by omega) (by omega)
            rw [Int.natCast_zero] at e2 e5
            rw [w64 (n := 20000 - base) (by omega) (by omega), e2, Option.bind_some, e5]
            rfl

/-- What is built. -/
def bldD (base : Int) (l : List El) : Int × (List El × Int) :=
  if chk base l ≠ 0 then (0, ([], chk base l)) else if (mkCopy (bld [] 0 l).1 (bld [] 0 l).2 base).length > 60 then (0, ([], 70)) else (base, (mkCopy (bld [] 0 l).1 (bld [] 0 l).2 base, 0))

theorem build_is {K : Nat} {l : List El} {base : Int} (hl : l.length ≤ 1000000) (hK : l.length < K) (ht : ∀ x ∈ l, x.2.2.size + 10 ≤ K ∧ x.2.2.size ≤ 1000000000000) : delta_Build_gr K base l = some (bldD base l) := by
  unfold delta_Build_gr bldD
  rw [check_is hl hK ht, Option.bind_some]
  by_cases h : chk base l = 0
  · have hs : sumT l ≤ 1000000000000 * l.length := by
      have : ∀ (r : List El), (∀ x ∈ r, x.2.2.size ≤ 1000000000000) → sumT r ≤ 1000000000000 * r.length := by
        intro r
        induction r with
        | nil => intro _; simp [sumT]
        | cons x r ih =>
          intro hx
          have h1 := hx x (by simp)
          have h2 := ih fun y hy => hx y (by simp [hy])
          simp only [sumT, List.length_cons]; omega
      exact this l fun x hx => (ht x hx).2
    have e := build_loop (K := K) (l := l) (base := base) l 0 K [] 0 rfl hK hl (by simp) (by simp only [sumT]; omega)
    rw [Int.natCast_zero] at e
    have hbl := bld_len (l := l) (acc := []) (a := 0)
    simp only [List.length_nil] at hbl
    rw [if_neg (by simpa using h), if_neg (by simpa using h)]
    unfold delta_NewMaker
    rw [Option.bind_some, e, Option.bind_some, copy_is (by omega), Option.bind_some]
    unfold delta_Maker_Delta_b_ee1c6
    by_cases h6 : (mkCopy (bld [] 0 l).1 (bld [] 0 l).2 base).length > 60
    · rw [if_pos (by simp; omega), if_pos h6]; rfl
    · rw [if_neg (by simp; omega), if_neg h6]; rfl
  · rw [if_pos (by simpa using h), if_pos h]

theorem keep_is {K : Nat} {base : Int} : delta_Keep K base = some (max 0 (min base 20000), mkCopy [] 0 (max 0 (min base 20000))) := by
  unfold delta_Keep delta_NewMaker
  rw [mn2_eq, mx2_eq, Option.bind_some, copy0_is, Option.bind_some, show min (max base 0) 20000 = max 0 (min base 20000) by omega]

/-- An element of a delta. -/
def okE (base : Int) (x : El) : Prop := 0 ≤ x.1 ∧ x.1 ≤ x.2.1 ∧ x.2.1 ≤ base ∧ (x.2.2.size = 0 ∨ x.1 = 0 ∧ x.2.1 = 0)

theorem isL_ok {base : Int} (hb : 0 ≤ base) : ∀ {l : List El} {size to : Int} {pre : Option Bool}, isL base size to pre l = true → 0 ≤ to → size ≤ 20000 → (∀ x ∈ l, okE base x) ∧ size + sumK l + sumT l ≤ 20000
  | [], size, to, pre, h, h0, h1 => ⟨by simp, by simp [sumK, sumT]; omega⟩
  | x :: r, size, to, pre, h, h0, h1 => by
    rw [isL] at h
    split at h
    · rename_i hz
      rw [Bool.and_eq_true, decide_eq_true_eq] at h
      obtain ⟨⟨c1, c2, c3, c4, c5⟩, hr⟩ := h
      obtain ⟨e1, e2⟩ := isL_ok hb hr (by omega) c5
      refine ⟨fun y hy => ?_, by simp only [sumK, sumT, hz]; omega⟩
      rcases List.mem_cons.1 hy with rfl | hy
      · exact ⟨by omega, by omega, c4, .inl hz⟩
      · exact e1 y hy
    · rw [Bool.and_eq_true, Bool.and_eq_true, decide_eq_true_eq] at h
      obtain ⟨⟨⟨c1, c2, c3, c4⟩, hv⟩, hr⟩ := h
      obtain ⟨e1, e2⟩ := isL_ok hb hr h0 c4
      refine ⟨fun y hy => ?_, by simp only [sumK, sumT]; omega⟩
      rcases List.mem_cons.1 hy with rfl | hy
      · exact ⟨by omega, by omega, by omega, .inr ⟨c1, c2⟩⟩
      · exact e1 y hy

theorem isD_ok {base : Int} {l : List El} (h : isD base l = true) : 0 ≤ base ∧ base ≤ 20000 ∧ l.length ≤ 60 ∧ (∀ x ∈ l, okE base x) ∧ sumK l + sumT l ≤ 20000 := by
  unfold isD at h
  rw [Bool.and_eq_true, decide_eq_true_eq] at h
  obtain ⟨⟨h1, h2, h3⟩, h4⟩ := h
  obtain ⟨e1, e2⟩ := isL_ok h1 h4 (by omega) (by omega)
  exact ⟨h1, h2, h3, e1, by omega⟩

theorem sumK_nonneg {base : Int} : ∀ {l : List El}, (∀ x ∈ l, okE base x) → 0 ≤ sumK l
  | [], _ => by simp [sumK]
  | x :: r, h => by
    have h1 := h x (by simp)
    have h2 := sumK_nonneg (l := r) fun y hy => h y (by simp [hy])
    have := h1.2.1
    simp only [sumK]; omega

theorem sums_loop11 {K : Nat} {d : List El} {base : Int} (hb : base ≤ 20000) (hl : d.length ≤ 1000) : ∀ (rest : List El) (j k : Nat) (kept put : Int), d.drop j = rest → rest.length < k → (∀ x ∈ rest, okE base x) → 0 ≤ kept → 0 ≤ put → kept + sumK rest ≤ 1000000 → put + sumT rest ≤ 1000000 →
    delta_sums.l0 K d k kept put (j : Int) = some (kept + sumK rest, put + sumT rest)
  | [], j, k, kept, put, hd, hk, hx, h0, h1, h2, h3 => by
    obtain ⟨k, rfl⟩ : ∃ m, k = m + 1 := ⟨k - 1, by simp at hk; omega⟩
    have := drop_nil hd
    rw [delta_sums.l0, if_neg (by simp; omega)]
    simp [sumK, sumT]
  | x :: rest, j, k, kept, put, hd, hk, hx, h0, h1, h2, h3 => by
    obtain ⟨k, rfl⟩ : ∃ m, k = m + 1 := ⟨k - 1, by simp at hk; omega⟩
    obtain ⟨hj, hgd, hd'⟩ := drop_cons hd el0
    have hk' : rest.length < k := by simp at hk; omega
    have hw : IntKind.wrap .i64 ((j : Int) + 1) = ((j + 1 : Nat) : Int) := by rw [w64 (by omega) (by omega)]; omega
    obtain ⟨o1, o2, o3, o4⟩ := hx x (by simp)
    have hr : ∀ y ∈ rest, okE base y := fun y hy => hx y (by simp [hy])
    have hn := sumK_nonneg hr
    simp only [sumK, sumT] at h2 h3
    rw [delta_sums.l0]
    simp only [Int.toNat_natCast, hgd, hw]
    rw [if_pos (by simpa using hj), if_pos ⟨by omega, by omega⟩, w64 (n := x.2.1 - x.1) (by omega) (by omega), w64 (n := kept + (x.2.1 - x.1)) (by omega) (by omega), w64 (n := put + (x.2.2.size : Int)) (by omega) (by omega),
      sums_loop11 hb hl rest (j + 1) k _ _ hd' hk' hr (by omega) (by omega) (by omega) (by omega)]
    simp only [sumK, sumT]
    congr 2 <;> omega

theorem sums_is {K : Nat} {d : List El} {base : Int} (hK : 30000 ≤ K) : delta_sums K base d = some (if isD base d = true then (sumK d, (sumT d : Int)) else (0, 0)) := by
  unfold delta_sums
  rw [is_is hK, Option.bind_some]
  cases h : isD base d with
  | false => simp
  | true =>
    obtain ⟨h1, h2, h3, h4, h5⟩ := isD_ok h
    have hn := sumK_nonneg h4
    have e := sums_loop11 (K := K) h2 (by omega) d 0 K 0 0 rfl (by omega) h4 (by omega) (by omega) (by omega) (by omega)
    rw [Int.natCast_zero] at e
    rw [if_neg (by simp), e]
    simp

theorem dsize_is {K : Nat} {d : List El} {base : Int} (hK : 30000 ≤ K) : delta_Size K base d = some (if isD base d = true then sumK d + sumT d else 0) := by
  unfold delta_Size
  rw [sums_is hK, Option.bind_some]
  by_cases h : isD base d = true
  · obtain ⟨h1, h2, h3, h4, h5⟩ := isD_ok h
    have hn := sumK_nonneg h4
    rw [if_pos h, if_pos h, w64 (by simp only; omega) (by simp only; omega)]
  · rw [if_neg h, if_neg h]; rfl

/-- What elements make of a text's bytes. -/
def apS (s : List Int) : List El → List Int
  | [] => []
  | x :: r => ((s.drop x.1.toNat).take (x.2.1 - x.1).toNat ++ txt x.2.2) ++ apS s r

theorem apply_loop {K : Nat} {d : List El} {s : ByteArray} (hs : s.size ≤ 20000) (hl : d.length ≤ 1000) : ∀ (rest : List El) (j k : Nat) (out W : List Int) (n : Nat), d.drop j = rest → rest.length < k → (∀ x ∈ rest, okE s.size x) → out.take n = W → (n : Int) + sumK rest + sumT rest = out.length → out.length ≤ 1000000 →
    delta_Apply.l0 K d s k out (n : Int) (j : Int) = some (ofBytes (W ++ apS (txt s) rest), 0)
  | [], j, k, out, W, n, hd, hk, hx, hW, hn, ho => by
    obtain ⟨k, rfl⟩ : ∃ m, k = m + 1 := ⟨k - 1, by simp at hk; omega⟩
    have := drop_nil hd
    simp only [sumK, sumT] at hn
    rw [delta_Apply.l0, if_neg (by simp; omega), ← hW, List.take_of_length_le (by omega)]
    simp [apS]
  | x :: rest, j, k, out, W, n, hd, hk, hx, hW, hn, ho => by
    obtain ⟨k, rfl⟩ : ∃ m, k = m + 1 := ⟨k - 1, by simp at hk; omega⟩
    obtain ⟨hj, hgd, hd'⟩ := drop_cons hd el0
    have hk' : rest.length < k := by simp at hk; omega
    have hw : IntKind.wrap .i64 ((j : Int) + 1) = ((j + 1 : Nat) : Int) := by rw [w64 (by omega) (by omega)]; omega
    obtain ⟨o1, o2, o3, o4⟩ := hx x (by simp)
    have hr : ∀ y ∈ rest, okE s.size y := fun y hy => hx y (by simp [hy])
    have hnn := sumK_nonneg hr
    simp only [sumK, sumT] at hn
    have htl := txt_len (s := s)
    have ht2 := txt_len (s := x.2.2)
    obtain ⟨f, hf⟩ : ∃ f : Nat, x.1 = f := ⟨x.1.toNat, by omega⟩
    obtain ⟨m, hm⟩ : ∃ m : Nat, x.2.1 - x.1 = m := ⟨(x.2.1 - x.1).toNat, by omega⟩
    have hft : x.2.1 = ((f + m : Nat) : Int) := by omega
    have hq : List.map (fun b => (UInt8.toNat b : Int)) (Array.toList (ByteArray.data (ByteArray.extract s f (f + m)))) = ((txt s).drop f).take m := by
      have := txt_extract (s := s) (i := f) (j := f + m)
      rw [show f + m - f = m by omega] at this
      exact this
    have hql : (((txt s).drop f).take m).length = m := by simp; omega
    have htk : List.take (out.length - n) (((txt s).drop f).take m) = ((txt s).drop f).take m := List.take_of_length_le (by omega)
    have hp1 := putAt_len (out := out) (l := ((txt s).drop f).take m) (n := n) (by omega)
    have hwn : IntKind.wrap .i64 ((n : Int) + (m : Int)) = ((n + m : Nat) : Int) := by rw [w64 (by omega) (by omega)]; omega
    have htt : List.map (fun b => (UInt8.toNat b : Int)) (Array.toList (ByteArray.data x.2.2)) = txt x.2.2 := rfl
    have htk2 : List.take (out.length - (n + m)) (txt x.2.2) = txt x.2.2 := List.take_of_length_le (by omega)
    have hwn2 : IntKind.wrap .i64 (((n + m : Nat) : Int) + (x.2.2.size : Int)) = ((n + m + x.2.2.size : Nat) : Int) := by rw [w64 (by omega) (by omega)]; omega
    have t1 := putAt_take (out := out) (l := ((txt s).drop f).take m) (n := n) (by omega)
    rw [hql] at t1
    have t2 := putAt_take (out := putAt out (((txt s).drop f).take m) n) (l := txt x.2.2) (n := n + m) (by omega)
    rw [t1, ht2, hW] at t2
    have hp2 := putAt_len (out := putAt out (((txt s).drop f).take m) n) (l := txt x.2.2) (n := n + m) (by omega)
    rw [delta_Apply.l0]
    simp only [Int.toNat_natCast, hgd, hw, hf, hft, hq, htk, hql, hwn, hp1, htt, htk2, ht2, hwn2]
    rw [if_pos (by simpa using hj), if_pos ⟨by omega, by omega⟩, if_pos ⟨by omega, by omega, by omega, by omega, by omega⟩, if_pos ⟨by omega, by omega⟩,
      apply_loop hs hl rest (j + 1) k _ _ (n + m + x.2.2.size) hd' hk' hr t2 (by rw [hp2, hp1]; omega) (by omega), apS, hf, hft, show (((f + m : Nat) : Int) - (f : Int)).toNat = m by omega, Int.toNat_natCast]
    simp only [List.append_assoc]

theorem dapply_is {K : Nat} {d : List El} {base : Int} {s : ByteArray} (hK : 30000 ≤ K) (hsz : s.size ≤ 1000000000000) : delta_Apply K base d s = some (if isD base d = true then (if (s.size : Int) = base then (ofBytes (apS (txt s) d), 0) else (⟨#[]⟩, 80)) else (⟨#[]⟩, 12)) := by
  unfold delta_Apply
  rw [is_is hK, Option.bind_some]
  by_cases h : isD base d = true
  · obtain ⟨h1, h2, h3, h4, h5⟩ := isD_ok h
    have hn := sumK_nonneg h4
    rw [h, if_neg (by simp), if_pos rfl]
    by_cases hs : (s.size : Int) = base
    · subst hs
      rw [if_neg (by simp), if_pos rfl, dsize_is hK, if_pos h, Option.bind_some, if_pos ⟨by omega, by omega, by omega, by omega⟩]
      have e := apply_loop (K := K) (d := d) (s := s) (by omega) (by omega) d 0 K (List.replicate (sumK d + sumT d).toNat 0) [] 0 rfl (by omega) h4 rfl (by simp; omega) (by simp; omega)
      rw [Int.natCast_zero] at e
      rw [e]; rfl
    · rw [if_pos (by simpa using hs), if_neg hs]
  · rw [if_pos (by simpa using h), if_neg h]

abbrev Ce := Int × Int

def cellsT (t : ByteArray) : List Ce := (txt t).map fun b => (-1, b)

def cellsC : Int → Nat → List Ce
  | _, 0 => []
  | f, m + 1 => (f, 0) :: cellsC (f + 1) m

/-- The cells of elements. -/
def cells : List El → List Ce
  | [] => []
  | x :: r => (cellsT x.2.2 ++ cellsC x.1 (x.2.1 - x.1).toNat) ++ cells r

theorem cellsT_len {t : ByteArray} : (cellsT t).length = t.size := by simp [cellsT, txt_len]

theorem cellsC_len : ∀ {m : Nat} {f : Int}, (cellsC f m).length = m
  | 0, _ => rfl
  | m + 1, f => by rw [cellsC, List.length_cons, cellsC_len]

theorem cells_len {base : Int} : ∀ {l : List El}, (∀ x ∈ l, okE base x) → ((cells l).length : Int) = sumK l + sumT l
  | [], _ => rfl
  | x :: r, h => by
    obtain ⟨o1, o2, o3, o4⟩ := h x (by simp)
    have := cells_len (l := r) fun y hy => h y (by simp [hy])
    simp only [cells, sumK, sumT, List.length_append, cellsT_len, cellsC_len]
    omega

def apC (s : List Int) (c : Ce) : Int := if c.1 < 0 then c.2 else s.getD c.1.toNat 0

theorem apC_T {s : List Int} {t : ByteArray} : (cellsT t).map (apC s) = txt t := by
  unfold cellsT
  rw [List.map_map]
  have : (apC s) ∘ (fun b : Int => ((-1 : Int), b)) = id := by funext b; simp [apC]
  rw [this]; simp

theorem apC_C {s : List Int} : ∀ {m : Nat} {f : Nat}, f + m ≤ s.length → (cellsC f m).map (apC s) = (s.drop f).take m
  | 0, _, _ => by simp [cellsC]
  | m + 1, f, h => by
    have hf : f < s.length := by omega
    have e : ((f : Int) + 1) = ((f + 1 : Nat) : Int) := by omega
    rw [cellsC, List.map_cons, e, apC_C (by omega), List.drop_eq_getElem_cons hf, List.take_succ_cons]
    congr 1
    unfold apC
    rw [if_neg (by omega), Int.toNat_natCast]
    simp [List.getD, hf]

theorem apC_cells {s : ByteArray} : ∀ {l : List El}, (∀ x ∈ l, okE s.size x) → (cells l).map (apC (txt s)) = apS (txt s) l
  | [], _ => rfl
  | x :: r, h => by
    obtain ⟨o1, o2, o3, o4⟩ := h x (by simp)
    have hr := apC_cells (l := r) fun y hy => h y (by simp [hy])
    have ht := txt_len (s := s)
    obtain ⟨f, hf⟩ : ∃ f : Nat, x.1 = f := ⟨x.1.toNat, by omega⟩
    rw [cells, List.map_append, List.map_append, hr, apC_T, apS]
    congr 1
    rcases o4 with hz | ⟨hz1, hz2⟩
    · have : txt x.2.2 = [] := List.eq_nil_of_length_eq_zero (by rw [txt_len]; exact hz)
      rw [this, hf, apC_C (by omega), Int.toNat_natCast]
      simp
    · rw [hz1, hz2]; simp [cellsC]

theorem txt_app {a b : ByteArray} : txt (a ++ b) = txt a ++ txt b := by
  unfold txt
  rw [ByteArray.data_append]
  simp

theorem bt_left {a b : ByteArray} {i : Nat} (h : i < a.size) : bt (a ++ b) (i : Int) = bt a (i : Int) := by
  have h1 : i < (txt a).length := by rw [txt_len]; exact h
  have h2 : i < (txt (a ++ b)).length := by rw [txt_len, bsize_app]; omega
  rw [bt_is h1, bt_is h2]
  have : ∀ (l : List Int) (hl : i < l.length), l = txt a ++ txt b → l[i] = (txt a)[i] := by
    intro l hl e; subst e; rw [List.getElem_append_left]
  exact this _ h2 txt_app

theorem bt_right {a b : ByteArray} {i : Nat} : bt (a ++ b) ((a.size + i : Nat) : Int) = bt b (i : Int) := by
  by_cases h : i < b.size
  · have h1 : i < (txt b).length := by rw [txt_len]; exact h
    have h2 : a.size + i < (txt (a ++ b)).length := by rw [txt_len, bsize_app]; omega
    rw [bt_is h1, bt_is h2]
    have : ∀ (l : List Int) (hl : a.size + i < l.length), l = txt a ++ txt b → l[a.size + i] = (txt b)[i] := by
      intro l hl e
      subst e
      rw [List.getElem_append_right (by rw [txt_len]; omega)]
      congr 1
      rw [txt_len]; omega
    exact this _ h2 txt_app
  · have h1 : ¬ i < b.size := h
    have h2 : ¬ a.size + i < (a ++ b).size := by rw [bsize_app]; omega
    unfold bt
    rw [Int.toNat_natCast, Int.toNat_natCast]
    simp [h1, h2]

theorem uszB_mono {n n' c d e f d' e' f' : Int} (hn : n ≤ n') (hd : 2 ≤ n → d' = d) (he : 3 ≤ n → e' = e) (hf : 4 ≤ n → f' = f) (h : uszB n c d e f ≠ 0) : uszB n' c d' e' f' = uszB n c d e f := by
  unfold uszB at *
  split
  · rfl
  · rename_i h1
    rw [if_neg h1] at h
    split
    · rename_i h2
      rw [if_pos h2] at h
      by_cases c2 : 2 ≤ n ∧ cont d ∧ 128 ≤ c % 32 * 64 + d % 64
      · rw [hd c2.1, if_pos c2, if_pos ⟨by omega, c2.2⟩]
      · rw [if_neg c2] at h; exact absurd rfl h
    · rename_i h2
      rw [if_neg h2] at h
      split
      · rename_i h3
        rw [if_pos h3] at h
        by_cases c3 : 3 ≤ n ∧ cont d ∧ cont e ∧ 2048 ≤ (c % 16 * 64 + d % 64) * 64 + e % 64 ∧ ¬ (55296 ≤ (c % 16 * 64 + d % 64) * 64 + e % 64 ∧ (c % 16 * 64 + d % 64) * 64 + e % 64 < 57344)
        · rw [hd (by omega), he c3.1, if_pos c3, if_pos ⟨by omega, c3.2⟩]
        · rw [if_neg c3] at h; exact absurd rfl h
      · rename_i h3
        rw [if_neg h3] at h
        split
        · rename_i h4
          rw [if_pos h4] at h
          by_cases c4 : 4 ≤ n ∧ cont d ∧ cont e ∧ cont f ∧ 65536 ≤ ((c % 8 * 64 + d % 64) * 64 + e % 64) * 64 + f % 64 ∧ ((c % 8 * 64 + d % 64) * 64 + e % 64) * 64 + f % 64 ≤ 1114111
          · rw [hd (by omega), he (by omega), hf c4.1, if_pos c4, if_pos ⟨by omega, c4.2⟩]
          · rw [if_neg c4] at h; exact absurd rfl h
        · first
          | rfl
          | (rename_i h4
             rw [if_neg h4] at h
             exact absurd rfl h)

theorem usz_left {a b : ByteArray} {i : Nat} (h : usz a (i : Int) ≠ 0) : usz (a ++ b) (i : Int) = usz a (i : Int) := by
  unfold usz at *
  by_cases h1 : (i : Int) < 0 ∨ (i : Int) ≥ a.size
  · rw [if_pos h1] at h; exact absurd rfl h
  · have hb := bsize_app (a := a) (b := b)
    rw [if_neg h1] at h ⊢
    rw [if_neg (by omega), bt_left (by omega)]
    refine uszB_mono (by omega) (fun hh => ?_) (fun hh => ?_) (fun hh => ?_) h
    · have e : (i : Int) + 1 = ((i + 1 : Nat) : Int) := by omega
      rw [e, bt_left (by omega)]
    · have e : (i : Int) + 2 = ((i + 2 : Nat) : Int) := by omega
      rw [e, bt_left (by omega)]
    · have e : (i : Int) + 3 = ((i + 3 : Nat) : Int) := by omega
      rw [e, bt_left (by omega)]

theorem usz_right {a b : ByteArray} {i : Nat} : usz (a ++ b) ((a.size + i : Nat) : Int) = usz b (i : Int) := by
  unfold usz
  have hb := bsize_app (a := a) (b := b)
  by_cases h1 : (i : Int) < 0 ∨ (i : Int) ≥ b.size
  · rw [if_pos h1, if_pos (by omega)]
  · rw [if_neg h1, if_neg (by omega), bt_right]
    have e1 : ((a.size + i : Nat) : Int) + 1 = ((a.size + (i + 1) : Nat) : Int) := by omega
    have e2 : ((a.size + i : Nat) : Int) + 2 = ((a.size + (i + 2) : Nat) : Int) := by omega
    have e3 : ((a.size + i : Nat) : Int) + 3 = ((a.size + (i + 3) : Nat) : Int) := by omega
    rw [e1, e2, e3, bt_right, bt_right, bt_right, show ((a ++ b).size : Int) - ((a.size + i : Nat) : Int) = (b.size : Int) - i by omega]
    rfl

theorem uval_fuel {s : ByteArray} : ∀ (d m m' : Nat) (a : Nat), s.size - a ≤ d → d ≤ m → d ≤ m' → uval s m (a : Int) = uval s m' (a : Int) := by
  intro d
  induction d with
  | zero =>
    intro m m' a h hm hm'
    cases m with
    | zero => cases m' with
      | zero => rfl
      | succ m' => rw [uval, uval, if_neg (by omega)]
    | succ m => cases m' with
      | zero => rw [uval, uval, if_neg (by omega)]
      | succ m' => rw [uval, uval, if_neg (by omega), if_neg (by omega)]
  | succ d ih =>
    intro m m' a h hm hm'
    obtain ⟨m, rfl⟩ : ∃ l, m = l + 1 := ⟨m - 1, by omega⟩
    obtain ⟨m', rfl⟩ : ∃ l, m' = l + 1 := ⟨m' - 1, by omega⟩
    have hu := usz_ok (s := s) (a := a)
    rw [uval, uval]
    split
    · split
      · rfl
      · obtain ⟨n, hn⟩ : ∃ n : Nat, (a : Int) + usz s a = n := ⟨((a : Int) + usz s a).toNat, by omega⟩
        rw [hn]
        exact ih m m' n (by omega) (by omega) (by omega)
    · rfl

theorem uval_app {a b : ByteArray} (hb : uvalid b = true) : ∀ (d i m : Nat), a.size - i = d → i ≤ a.size → d + b.size ≤ m → uval a d (i : Int) = true → uval (a ++ b) m (i : Int) = true := by
  have hsz := bsize_app (a := a) (b := b)
  have right : ∀ (e j m : Nat), b.size - j ≤ e → j ≤ b.size → e ≤ m → uval b e (j : Int) = true → uval (a ++ b) m ((a.size + j : Nat) : Int) = true := by
    intro e
    induction e with
    | zero =>
      intro j m h1 h2 h3 h4
      cases m with
      | zero => rfl
      | succ m => rw [uval, if_neg (by omega)]
    | succ e ih =>
      intro j m h1 h2 h3 h4
      obtain ⟨m, rfl⟩ : ∃ l, m = l + 1 := ⟨m - 1, by omega⟩
      have hu := usz_ok (s := b) (a := j)
      rw [uval] at h4 ⊢
      by_cases hj : (j : Int) < b.size
      · have hu3 := hu.2.2 (by omega) hj
        rw [if_pos hj] at h4
        rw [if_pos (by omega), usz_right]
        by_cases hz : usz b j = 0
        · rw [if_pos hz] at h4; cases h4
        · rw [if_neg hz] at h4 ⊢
          obtain ⟨n, hn⟩ : ∃ n : Nat, usz b j = n := ⟨(usz b j).toNat, by omega⟩
          rw [hn] at h4 hu3 hz ⊢
          have e1 : ((a.size + j : Nat) : Int) + (n : Int) = ((a.size + (j + n) : Nat) : Int) := by omega
          have e2 : (j : Int) + (n : Int) = ((j + n : Nat) : Int) := by omega
          rw [e1]
          rw [e2] at h4
          exact ih (j + n) m (by omega) (by omega) (by omega) h4
      · rw [if_neg (by omega)]
  intro d
  induction d using Nat.strongRecOn with
  | _ d ih =>
    intro i m h1 h2 h3 h4
    by_cases hi : i = a.size
    · subst hi
      have := right b.size 0 m (by omega) (by omega) (by omega) hb
      simpa using this
    · obtain ⟨d, rfl⟩ : ∃ l, d = l + 1 := ⟨d - 1, by omega⟩
      obtain ⟨m, rfl⟩ : ∃ l, m = l + 1 := ⟨m - 1, by omega⟩
      have hu := usz_ok (s := a) (a := i)
      have hu3 := hu.2.2 (by omega) (by omega)
      rw [uval, if_pos (by omega)] at h4
      rw [uval, if_pos (by omega)]
      by_cases hz : usz a i = 0
      · rw [if_pos hz] at h4; cases h4
      · rw [if_neg hz] at h4
        rw [usz_left hz, if_neg hz]
        obtain ⟨n, hn⟩ : ∃ n : Nat, usz a i = n := ⟨(usz a i).toNat, by omega⟩
        rw [hn] at h4 hu3 hz ⊢
        have e2 : (i : Int) + (n : Int) = ((i + n : Nat) : Int) := by omega
        rw [e2] at h4 ⊢
        refine ih (a.size - (i + n)) (by omega) (i + n) m rfl (by omega) (by omega) ?_
        rw [uval_fuel (a.size - (i + n)) (a.size - (i + n)) d (i + n) (by omega) (by omega) (by omega)]
        exact h4

theorem uvalid_app {a b : ByteArray} (ha : uvalid a = true) (hb : uvalid b = true) : uvalid (a ++ b) = true := by
  unfold uvalid
  have h := uval_app hb a.size 0 (a ++ b).size (by omega) (by omega) (by rw [bsize_app]; omega) ha
  exact h

/-- Elements that may come behind others, however long. -/
def isS (base : Int) : Int → Option Bool → List El → Prop
  | _, _, [] => True
  | to, pre, x :: r =>
    if x.2.2.size = 0 then (to ≤ x.1 ∧ (to < x.1 ∨ pre ≠ some true) ∧ x.1 < x.2.1 ∧ x.2.1 ≤ base) ∧ isS base x.2.1 (some true) r
    else (x.1 = 0 ∧ x.2.1 = 0 ∧ pre ≠ some false ∧ uvalid x.2.2 = true) ∧ isS base to (some false) r

def lastTo : Int → List El → Int
  | to, [] => to
  | to, x :: r => lastTo (if x.2.2.size = 0 then x.2.1 else to) r

def lastPre : Option Bool → List El → Option Bool
  | p, [] => p
  | _, x :: r => lastPre (some (decide (x.2.2.size = 0))) r

theorem isS_app {base : Int} : ∀ {l r : List El} {to : Int} {pre : Option Bool}, isS base to pre (l ++ r) ↔ isS base to pre l ∧ isS base (lastTo to l) (lastPre pre l) r
  | [], r, to, pre => by simp [isS, lastTo, lastPre]
  | x :: l, r, to, pre => by
    rw [List.cons_append, isS, isS, lastTo, lastPre]
    by_cases h : x.2.2.size = 0
    · rw [if_pos h, if_pos h, if_pos h, decide_eq_true h, isS_app]
      exact ⟨fun h => ⟨⟨h.1, h.2.1⟩, h.2.2⟩, fun h => ⟨h.1.1, h.1.2, h.2⟩⟩
    · rw [if_neg h, if_neg h, if_neg h, decide_eq_false h, isS_app]
      exact ⟨fun h => ⟨⟨h.1, h.2.1⟩, h.2.2⟩, fun h => ⟨h.1.1, h.1.2, h.2⟩⟩

theorem lastTo_app : ∀ {l : List El} {x : El} {to : Int}, lastTo to (l ++ [x]) = if x.2.2.size = 0 then x.2.1 else lastTo to l
  | [], _, _ => rfl
  | y :: l, x, to => by rw [List.cons_append, lastTo, lastTo_app, lastTo]

theorem lastPre_app : ∀ {l : List El} {x : El} {p : Option Bool}, lastPre p (l ++ [x]) = some (decide (x.2.2.size = 0))
  | [], _, _ => rfl
  | y :: l, x, p => by rw [List.cons_append, lastPre, lastPre_app]

theorem isS_isL {base : Int} : ∀ {l : List El} {size to : Int} {pre : Option Bool}, isS base to pre l → size + sumK l + sumT l ≤ 20000 → isL base size to pre l = true
  | [], _, _, _, _, _ => rfl
  | x :: r, size, to, pre, h, hs => by
    have nn : ∀ {r : List El} {to : Int} {pre : Option Bool}, isS base to pre r → 0 ≤ sumK r := by
      intro r
      induction r with
      | nil => intro _ _ _; simp [sumK]
      | cons y r ih =>
        intro to pre h
        rw [isS] at h
        split at h
        · have := ih h.2; have := h.1.2.2.1; simp only [sumK]; omega
        · have := ih h.2; have := h.1.1; have := h.1.2.1; simp only [sumK]; omega
    rw [isS] at h
    simp only [sumK, sumT] at hs
    rw [isL]
    by_cases hz : x.2.2.size = 0
    · rw [if_pos hz] at h ⊢
      have hn := nn h.2
      rw [isS_isL h.2 (by omega), decide_eq_true ⟨h.1.1, h.1.2.1, h.1.2.2.1, h.1.2.2.2, by omega⟩]
      rfl
    · rw [if_neg hz] at h ⊢
      have hn := nn h.2
      have h1 := h.1.1
      have h2 := h.1.2.1
      rw [isS_isL h.2 (by omega), decide_eq_true ⟨h.1.1, h.1.2.1, h.1.2.2.1, by omega⟩, h.1.2.2.2]
      rfl

/-- What a maker has made, up to a place. -/
def Made (base : Int) (acc : List El) (a : Int) : Prop := isS base 0 none acc ∧ lastTo 0 acc ≤ a ∧ 0 ≤ a ∧ a ≤ base

theorem made_copy {base a f : Int} {acc : List El} (h : Made base acc a) (h1 : a ≤ f) (h2 : f ≤ base) : Made base (mkCopy acc a f) f := by
  obtain ⟨m1, m2, m3, m4⟩ := h
  by_cases he : acc = []
  · subst he
    rw [mkCopy_nil]
    by_cases hf : a = f
    · rw [if_pos hf]; exact ⟨m1, by rw [lastTo]; omega, by omega, h2⟩
    · rw [if_neg hf]
      refine ⟨?_, ?_, by omega, h2⟩
      · rw [isS, if_pos empty_size]
        exact ⟨⟨m3, .inr (by simp), by simp only; omega, h2⟩, trivial⟩
      · rw [lastTo, if_pos empty_size, lastTo]; simp
  · obtain ⟨l, p, rfl⟩ := split_last he
    rw [mkCopy_app]
    by_cases hf : a = f
    · rw [if_pos hf]; exact ⟨m1, by omega, by omega, h2⟩
    · rw [if_neg hf]
      have m1' := m1
      rw [isS_app] at m1'
      obtain ⟨i1, i2⟩ := m1'
      rw [lastTo_app] at m2
      by_cases hp : p.2.2.size = 0 ∧ p.2.1 = a
      · rw [if_pos hp]
        rw [isS, if_pos hp.1] at i2
        refine ⟨?_, ?_, by omega, h2⟩
        · rw [isS_app]
          refine ⟨i1, ?_⟩
          rw [isS, if_pos (show (p.1, (f, p.2.2)).2.2.size = 0 from hp.1)]
          have := i2.1.2.2.1
          exact ⟨⟨i2.1.1, i2.1.2.1, by simp only; omega, h2⟩, trivial⟩
        · rw [lastTo_app, if_pos (show (p.1, (f, p.2.2)).2.2.size = 0 from hp.1)]
          simp
      · rw [if_neg hp]
        refine ⟨?_, ?_, by omega, h2⟩
        · rw [isS_app]
          refine ⟨m1, ?_⟩
          rw [isS, if_pos empty_size, lastTo_app, lastPre_app]
          refine ⟨⟨by simpa using m2, ?_, by simp only; omega, h2⟩, trivial⟩
          by_cases hz : p.2.2.size = 0
          · rw [if_pos hz] at m2 ⊢
            left
            simp only
            have : p.2.1 ≠ a := fun e => hp ⟨hz, e⟩
            omega
          · right
            rw [decide_eq_false hz]
            simp
        · rw [lastTo_app, if_pos empty_size]; simp

theorem made_put {base a : Int} {acc : List El} {s : ByteArray} (h : Made base acc a) (hv : uvalid s = true) : Made base (mkPut acc s) a := by
  obtain ⟨m1, m2, m3, m4⟩ := h
  by_cases he : acc = []
  · subst he
    rw [mkPut_nil]
    by_cases hz : s.size = 0
    · rw [if_pos hz]; exact ⟨m1, m2, m3, m4⟩
    · rw [if_neg hz]
      refine ⟨?_, ?_, m3, m4⟩
      · rw [isS, if_neg hz]
        exact ⟨⟨rfl, rfl, by simp, hv⟩, trivial⟩
      · rw [lastTo, if_neg hz, lastTo]; exact m3
  · obtain ⟨l, p, rfl⟩ := split_last he
    rw [mkPut_app]
    by_cases hz : s.size = 0
    · rw [if_pos hz]; exact ⟨m1, m2, m3, m4⟩
    · rw [if_neg hz]
      have m1' := m1
      rw [isS_app] at m1'
      obtain ⟨i1, i2⟩ := m1'
      by_cases hp : p.2.2.size = 0
      · rw [if_pos hp]
        refine ⟨?_, ?_, m3, m4⟩
        · rw [isS_app]
          refine ⟨m1, ?_⟩
          rw [isS, if_neg hz, lastPre_app, decide_eq_true hp]
          exact ⟨⟨rfl, rfl, by simp, hv⟩, trivial⟩
        · rw [lastTo_app, if_neg hz]; exact m2
      · rw [if_neg hp]
        rw [isS, if_neg hp] at i2
        have hz2 : ¬ (p.2.2 ++ s).size = 0 := by rw [bsize_app]; omega
        refine ⟨?_, ?_, m3, m4⟩
        · rw [isS_app]
          refine ⟨i1, ?_⟩
          rw [isS, if_neg hz2]
          exact ⟨⟨i2.1.1, i2.1.2.1, i2.1.2.2.1, uvalid_app i2.1.2.2.2 hv⟩, trivial⟩
        · rw [lastTo_app, if_neg hz2]
          rw [lastTo_app, if_neg hp] at m2
          exact m2

theorem mkPut_sumK {l : List El} {s : ByteArray} : sumK (mkPut l s) = sumK l := by
  by_cases h : l = []
  · subst h; rw [mkPut_nil]; split <;> simp [sumK]
  · obtain ⟨m, p, rfl⟩ := split_last h
    rw [mkPut_app]
    split
    · rfl
    · split <;> simp [sumK_app, sumK]

theorem mkCopy_sumK {l : List El} {a f : Int} : sumK (mkCopy l a f) = sumK l + (f - a) := by
  by_cases h : l = []
  · subst h; rw [mkCopy_nil]; split
    · simp only [sumK]; omega
    · simp only [sumK]; omega
  · obtain ⟨m, p, rfl⟩ := split_last h
    rw [mkCopy_app]
    split
    · omega
    · split
      · rename_i h2
        have := h2.2
        simp only [sumK_app, sumK]; omega
      · simp only [sumK_app, sumK]; omega

theorem apS_app {s : List Int} : ∀ {l r : List El}, apS s (l ++ r) = apS s l ++ apS s r
  | [], r => rfl
  | x :: l, r => by simp only [List.cons_append, apS, apS_app, List.append_assoc]

theorem txt_empty : txt ByteArray.empty = [] := rfl

theorem apS_put {s : List Int} {l : List El} {t : ByteArray} : apS s (mkPut l t) = apS s l ++ txt t := by
  have hz : t.size = 0 → txt t = [] := fun h => List.eq_nil_of_length_eq_zero (by rw [txt_len]; exact h)
  by_cases h : l = []
  · subst h; rw [mkPut_nil]; split
    · rename_i h; rw [hz h]; rfl
    · simp [apS]
  · obtain ⟨m, p, rfl⟩ := split_last h
    rw [mkPut_app]
    split
    · rename_i h; rw [hz h]; simp
    · split
      · rw [apS_app]; simp [apS]
      · rw [apS_app, apS_app]; simp [apS, txt_app]

theorem apS_copy {base a f : Int} {s : List Int} {l : List El} (h : Made base l a) (h1 : a ≤ f) (h2 : f ≤ base) : apS s (mkCopy l a f) = apS s l ++ (s.drop a.toNat).take (f - a).toNat := by
  obtain ⟨m1, m2, m3, m4⟩ := h
  by_cases he : l = []
  · subst he; rw [mkCopy_nil]; split
    · rename_i h; rw [h]; simp [apS]
    · simp [apS, txt_empty]
  · obtain ⟨m, p, rfl⟩ := split_last he
    rw [mkCopy_app]
    split
    · rename_i h; rw [h]; simp
    · split
      · rename_i hp
        rw [isS_app] at m1
        have i2 := m1.2
        rw [isS, if_pos hp.1] at i2
        have hl : 0 ≤ lastTo 0 m := by
          have key : ∀ (r : List El) (to : Int) (pre : Option Bool), 0 ≤ to → isS base to pre r → 0 ≤ lastTo to r := by
            intro r
            induction r with
            | nil => intro to pre h0 _; exact h0
            | cons y r ih =>
              intro to pre h0 hr
              rw [isS] at hr
              rw [lastTo]
              split at hr
              · rename_i hy; rw [if_pos hy]; have := hr.1.1; have := hr.1.2.2.1; exact ih _ _ (by omega) hr.2
              · rename_i hy; rw [if_neg hy]; exact ih _ _ h0 hr.2
          exact key m 0 none (by omega) m1.1
        have q1 := i2.1.1
        have q2 := i2.1.2.2.1
        have htz : txt p.2.2 = [] := List.eq_nil_of_length_eq_zero (by rw [txt_len]; exact hp.1)
        rw [apS_app, apS_app]
        simp only [apS, htz, List.append_nil, List.append_assoc]
        congr 1
        rw [hp.2]
        have e1 : (f - p.1).toNat = (a - p.1).toNat + (f - a).toNat := by omega
        have e2 : a.toNat = p.1.toNat + (a - p.1).toNat := by omega
        rw [e1, e2, List.take_add, List.drop_drop]
      · rw [apS_app]; simp [apS, txt_empty]

/-- What changes make of a text's bytes. -/
def chS (s : List Int) : Int → List El → List Int
  | _, [] => []
  | a, c :: r => ((s.drop a.toNat).take (c.1 - a).toNat ++ txt c.2.2) ++ chS s c.2.1 r

theorem bld_ok {base : Int} {s : List Int} : ∀ {l acc : List El} {a : Int} {prev : Option El}, Made base acc a → rngL base l = true → ordL prev l = true → valL l = true → (∀ p, prev = some p → p.2.1 = a) → (prev = none → a = 0) →
    Made base (bld acc a l).1 (bld acc a l).2 ∧ sumT (bld acc a l).1 = sumT acc + sumT l ∧ sumK (bld acc a l).1 = sumK acc + ((bld acc a l).2 - a) - sumK l ∧ apS s (bld acc a l).1 = apS s acc ++ chS s a l
  | [], acc, a, prev, hm, _, _, _, _, _ => ⟨hm, by simp [bld, sumT], by simp only [bld, sumK]; omega, by simp [bld, chS]⟩
  | c :: r, acc, a, prev, hm, hr, ho, hv, hp, hn => by
    rw [show rngL base (c :: r) = (decide (0 ≤ c.1 ∧ c.1 ≤ c.2.1 ∧ c.2.1 ≤ base) && rngL base r) from rfl, Bool.and_eq_true, decide_eq_true_eq] at hr
    rw [show valL (c :: r) = (uvalid c.2.2 && valL r) from rfl, Bool.and_eq_true] at hv
    obtain ⟨⟨r1, r2, r3⟩, hr'⟩ := hr
    have hac : a ≤ c.1 ∧ ordL (some c) r = true := by
      cases prev with
      | none => rw [hn rfl]; exact ⟨r1, ho⟩
      | some p =>
        rw [ordL, Bool.and_eq_true] at ho
        have h1 := ho.1
        have h2 := hp p rfl
        simp only [Bool.not_eq_true', decide_eq_false_iff_not] at h1
        exact ⟨by omega, ho.2⟩
    have k1 := made_copy hm hac.1 (by omega)
    have k2 := made_put k1 hv.1
    have k3 : Made base (mkPut (mkCopy acc a c.1) c.2.2) c.2.1 := ⟨k2.1, by have := k2.2.1; omega, by omega, r3⟩
    obtain ⟨e1, e2, e3, e4⟩ := bld_ok (s := s) k3 hr' hac.2 hv.2 (fun p hp => by cases hp; rfl) (fun h => by cases h)
    rw [bld]
    refine ⟨e1, by rw [e2, mkPut_sumT, mkCopy_sumT]; simp only [sumT]; omega, by rw [e3, mkPut_sumK, mkCopy_sumK]; simp only [sumK]; omega, ?_⟩
    rw [e4, apS_put, apS_copy hm hac.1 (by omega)]
    simp only [chS, List.append_assoc]

theorem lng_zero : ∀ {l : List El} {left : Int}, lngL left l = 0 → (sumT l : Int) ≤ left ∨ l = []
  | [], _, _ => .inr rfl
  | c :: r, left, h => by
    rw [lngL] at h
    split at h
    · cases h
    · left
      simp only [sumT]
      rcases lng_zero h with h' | h'
      · omega
      · subst h'; simp only [sumT]; omega

/-- What is built is a delta; what it makes. -/
theorem built_ok {base : Int} {l : List El} {s : List Int} (h : (bldD base l).2.2 = 0) : 0 ≤ base ∧ base ≤ 20000 ∧ rngL base l = true ∧ ordL none l = true ∧ valL l = true ∧ (bldD base l).1 = base ∧ isD base (bldD base l).2.1 = true ∧
    sumT (bldD base l).2.1 = sumT l ∧ sumK (bldD base l).2.1 = base - sumK l ∧ apS s (bldD base l).2.1 = chS s 0 l ++ (s.drop (bld [] 0 l).2.toNat).take (base - (bld [] 0 l).2).toNat := by
  unfold bldD at *
  split at h
  · rename_i h1
    exact absurd h h1
  · rename_i h1
    split at h
    · cases h
    · rename_i h2
      rw [if_neg h1, if_neg h2]
      have h1' : chk base l = 0 := by simpa using h1
      unfold chk at h1'
      split at h1'
      · cases h1'
      · split at h1'
        · cases h1'
        · split at h1'
          · cases h1'
          · split at h1'
            · cases h1'
            · rename_i a1 a2 a3 a4
              have b2 : rngL base l = true := by simpa using a2
              have b3 : ordL none l = true := by simpa using a3
              have b4 : valL l = true := by simpa using a4
              have hm : Made base [] 0 := ⟨trivial, by simp [lastTo], by omega, by omega⟩
              obtain ⟨e1, e2, e3, e4⟩ := bld_ok (s := s) hm b2 b3 b4 (fun p hp => by cases hp) (fun _ => rfl)
              have hle := e1.2.2.2
              have f1 := made_copy e1 hle (by omega)
              have f2 := mkCopy_sumK (l := (bld [] 0 l).1) (a := (bld [] 0 l).2) (f := base)
              have f3 := mkCopy_sumT (l := (bld [] 0 l).1) (f := (bld [] 0 l).2) (t := base)
              have f4 := apS_copy (s := s) e1 hle (by omega)
              simp only [sumT, sumK, apS] at e2 e3 e4
              have hlong : base - sumK l + sumT l ≤ 20000 := by
                rcases lng_zero h1' with h' | h'
                · omega
                · subst h'; simp only [sumK, sumT]; omega
              refine ⟨by omega, by omega, b2, b3, b4, rfl, ?_, by rw [f3, e2]; omega, by rw [f2, e3]; omega, by rw [f4, e4]; rfl⟩
              have h60 : (mkCopy (bld [] 0 l).1 (bld [] 0 l).2 base).length ≤ 60 := by omega
              unfold isD
              rw [decide_eq_true ⟨by omega, by omega, h60⟩, isS_isL f1.1 (by rw [f2, f3, e2, e3]; omega)]
              rfl

theorem cellsC_add : ∀ {m n : Nat} {f : Int}, cellsC f (m + n) = cellsC f m ++ cellsC (f + m) n
  | 0, n, f => by simp [cellsC]
  | m + 1, n, f => by
    rw [show m + 1 + n = (m + n) + 1 by omega, cellsC, cellsC_add, cellsC, show f + 1 + (m : Int) = f + ((m + 1 : Nat) : Int) by omega]
    rfl

theorem cellsT_nil {t : ByteArray} (h : t.size = 0) : cellsT t = [] := List.eq_nil_of_length_eq_zero (by rw [cellsT_len]; exact h)

theorem cells_app : ∀ {l r : List El}, cells (l ++ r) = cells l ++ cells r
  | [], r => rfl
  | x :: l, r => by simp only [List.cons_append, cells, cells_app, List.append_assoc]

/-- How many at the head are put in. -/
def runT : List Ce → Nat
  | [] => 0
  | c :: r => if c.1 < 0 then runT r + 1 else 0

/-- How many at the head go on from a place. -/
def runC : Int → List Ce → Nat
  | _, [] => 0
  | a, c :: r => if c.1 = a + 1 then runC c.1 r + 1 else 0

/-- Cells, told. -/
def told : Nat → List Ce → List El
  | 0, _ => []
  | _, [] => []
  | m + 1, c :: r =>
    if c.1 < 0 then (0, (0, ofBytes (c.2 :: (r.take (runT r)).map (·.2)))) :: told m (r.drop (runT r))
    else (c.1, (c.1 + runC c.1 r + 1, ByteArray.empty)) :: told m (r.drop (runC c.1 r))

def mvE (p : Int) : Int → Int → List El → Int × Int
  | n, w, [] => (n, w)
  | n, w, x :: r => if x.2.2.size = 0 then (if x.1 ≥ p then (n, w) else if x.2.1 > p then (n + (w + min x.2.1 p - x.1), 0) else mvE p (n + (w + min x.2.1 p - x.1)) 0 r) else mvE p n (w + x.2.2.size) r

theorem move_loop {K : Nat} {d : List El} {a base p : Int} (hp : mn2 (mx2 a 0) base = p) (hb : base ≤ 20000) (hl : d.length ≤ 1000) : ∀ (rest : List El) (j k : Nat) (n w : Int), d.drop j = rest → rest.length < k → (∀ x ∈ rest, okE base x) → 0 ≤ n → 0 ≤ w → n + w + sumK rest + sumT rest ≤ 1000000 →
    offset_Move.l0 K d a base k n w (j : Int) = some (mvE p n w rest)
  | [], j, k, n, w, hd, hk, hx, h0, h1, h2 => by
    obtain ⟨k, rfl⟩ : ∃ m, k = m + 1 := ⟨k - 1, by simp at hk; omega⟩
    have := drop_nil hd
    rw [offset_Move.l0, if_neg (by simp; omega)]
    rfl
  | x :: rest, j, k, n, w, hd, hk, hx, h0, h1, h2 => by
    obtain ⟨k, rfl⟩ : ∃ m, k = m + 1 := ⟨k - 1, by simp at hk; omega⟩
    obtain ⟨hj, hgd, hd'⟩ := drop_cons hd el0
    have hk' : rest.length < k := by simp at hk; omega
    have hw : IntKind.wrap .i64 ((j : Int) + 1) = ((j + 1 : Nat) : Int) := by rw [w64 (by omega) (by omega)]; omega
    obtain ⟨o1, o2, o3, o4⟩ := hx x (by simp)
    have hr : ∀ y ∈ rest, okE base y := fun y hy => hx y (by simp [hy])
    have hnn := sumK_nonneg hr
    simp only [sumK, sumT] at h2
    rw [offset_Move.l0]
    simp only [Int.toNat_natCast, hgd, hw, hp, mn2_eq]
    rw [if_pos (by simpa using hj), if_pos ⟨by omega, by omega⟩, isCopy_is, Option.bind_some, mvE]
    by_cases hz : x.2.2.size = 0
    · rw [decide_eq_true hz, if_neg (by simp), if_pos hz]
      by_cases c1 : x.1 ≥ p
      · rw [if_pos (by simpa using c1), if_pos c1]
      · rw [if_neg (by simpa using c1), if_neg c1, w64 (n := w + min x.2.1 p) (by omega) (by omega), w64 (n := w + min x.2.1 p - x.1) (by omega) (by omega), w64 (n := n + (w + min x.2.1 p - x.1)) (by omega) (by omega)]
        by_cases c2 : x.2.1 > p
        · rw [if_pos (by simpa using c2), if_pos c2]
        · rw [if_neg (by simpa using c2), if_neg c2, move_loop hp hb hl rest (j + 1) k _ _ hd' hk' hr (by omega) (by omega) (by omega)]
    · rw [decide_eq_false hz, if_pos (by simp), if_neg hz, w64 (n := w + (x.2.2.size : Int)) (by omega) (by omega), move_loop hp hb hl rest (j + 1) k _ _ hd' hk' hr (by omega) (by omega) (by omega)]

theorem mvE_ok {base p : Int} (hp : 0 ≤ p) : ∀ {l : List El} {n w : Int}, (∀ x ∈ l, okE base x) → 0 ≤ n → 0 ≤ w → n ≤ (mvE p n w l).1 ∧ 0 ≤ (mvE p n w l).2 ∧ (mvE p n w l).1 + (mvE p n w l).2 ≤ n + w + sumK l + sumT l
  | [], n, w, _, h0, h1 => by simp only [mvE, sumK, sumT]; omega
  | x :: r, n, w, hx, h0, h1 => by
    obtain ⟨o1, o2, o3, o4⟩ := hx x (by simp)
    have hr : ∀ y ∈ r, okE base y := fun y hy => hx y (by simp [hy])
    have hnn := sumK_nonneg hr
    rw [mvE]
    simp only [sumK, sumT]
    split
    · split
      · simp only; omega
      · split
        · simp only; omega
        · have := mvE_ok hp (l := r) (n := n + (w + min x.2.1 p - x.1)) (w := 0) hr (by omega) (by omega)
          omega
    · have := mvE_ok hp (l := r) (n := n) (w := w + x.2.2.size) hr h0 (by omega)
      omega

/-- Where a place goes. -/
def mv (base : Int) (d : List El) (a : Int) (after : Bool) : Int := if isD base d = true then (if after = true then (mvE (min (max a 0) base) 0 0 d).1 + (mvE (min (max a 0) base) 0 0 d).2 else (mvE (min (max a 0) base) 0 0 d).1) else 0

theorem move_is {K : Nat} {d : List El} {base a : Int} {after : Bool} (hK : 30000 ≤ K) : offset_Move K base d a after = some (mv base d a after) := by
  unfold offset_Move mv
  rw [is_is hK, Option.bind_some]
  by_cases h : isD base d = true
  · obtain ⟨h1, h2, h3, h4, h5⟩ := isD_ok h
    have hn := sumK_nonneg h4
    have e := move_loop (K := K) (d := d) (a := a) (base := base) rfl h2 (by omega) d 0 K 0 0 rfl (by omega) h4 (by omega) (by omega) (by omega)
    rw [Int.natCast_zero, mn2_eq, mx2_eq] at e
    obtain ⟨m1, m2, m3⟩ := mvE_ok (base := base) (p := min (max a 0) base) (by omega) (l := d) (n := 0) (w := 0) h4 (by omega) (by omega)
    rw [h, if_neg (by simp), if_pos rfl, e, Option.bind_some]
    cases after with
    | false => rfl
    | true => rw [if_pos rfl, if_pos rfl, w64 (by omega) (by omega)]
  · rw [if_pos (by simpa using h), if_neg h]

theorem isL_isS {base : Int} : ∀ {l : List El} {size to : Int} {pre : Option Bool}, isL base size to pre l = true → isS base to pre l
  | [], _, _, _, _ => trivial
  | x :: r, size, to, pre, h => by
    rw [isL] at h
    rw [isS]
    split at h
    · rename_i hz
      rw [Bool.and_eq_true, decide_eq_true_eq] at h
      rw [if_pos hz]
      exact ⟨⟨h.1.1, h.1.2.1, h.1.2.2.1, h.1.2.2.2.1⟩, isL_isS h.2⟩
    · rename_i hz
      rw [Bool.and_eq_true, Bool.and_eq_true, decide_eq_true_eq] at h
      rw [if_neg hz]
      exact ⟨⟨h.1.1.1, h.1.1.2.1, h.1.1.2.2.1, h.1.2⟩, isL_isS h.2⟩

theorem isD_isS {base : Int} {l : List El} (h : isD base l = true) : isS base 0 none l := by
  unfold isD at h
  rw [Bool.and_eq_true] at h
  exact isL_isS h.2

theorem mvE_ge {p : Int} (hp : 0 ≤ p) : ∀ {l : List El} {n w to base : Int} {pre : Option Bool}, 0 ≤ to → isS base to pre l → 0 ≤ n → 0 ≤ w → n ≤ (mvE p n w l).1 ∧ n + w ≤ (mvE p n w l).1 + (mvE p n w l).2 ∧ 0 ≤ (mvE p n w l).2
  | [], n, w, to, base, pre, h0, h, hn, hw => by simp only [mvE]; omega
  | x :: r, n, w, to, base, pre, h0, h, hn, hw => by
    rw [isS] at h
    rw [mvE]
    split at h
    · rename_i hz
      have q1 := h.1.1
      have q2 := h.1.2.2.1
      rw [if_pos hz]
      split
      · simp only; omega
      · split
        · simp only; omega
        · have := mvE_ge hp (l := r) (n := n + (w + min x.2.1 p - x.1)) (w := 0) (by omega) h.2 (by omega) (by omega)
          omega
    · rename_i hz
      rw [if_neg hz]
      have := mvE_ge hp (l := r) (n := n) (w := w + x.2.2.size) h0 h.2 hn (by omega)
      omega

theorem mv_bounds {base a : Int} {d : List El} (h : isD base d = true) : 0 ≤ mv base d a false ∧ mv base d a false ≤ mv base d a true ∧ mv base d a true ≤ sumK d + sumT d := by
  obtain ⟨h1, h2, h3, h4, h5⟩ := isD_ok h
  have g := mvE_ge (p := min (max a 0) base) (by omega) (l := d) (n := 0) (w := 0) (Int.le_refl 0) (isD_isS h) (by omega) (by omega)
  have g2 := (mvE_ok (base := base) (p := min (max a 0) base) (by omega) (l := d) (n := 0) (w := 0) h4 (by omega) (by omega)).2.2
  unfold mv
  rw [if_pos h, if_pos h, if_neg (by simp), if_pos rfl]
  omega

theorem ofBytes_size (xs : List Int) : (ofBytes xs).size = xs.length := by
  unfold ofBytes
  rw [ByteArray.size]
  rw [List.size_toArray, List.length_map]

theorem apS_bytes (s : ByteArray) : ∀ (r : List El), ∀ x ∈ apS (txt s) r, 0 ≤ x ∧ x < 256 := by
  have tb : ∀ (z : ByteArray), ∀ x ∈ txt z, 0 ≤ x ∧ x < 256 := by
    intro z x hx
    obtain ⟨c, _, rfl⟩ := List.mem_map.1 hx
    have := c.toNat_lt
    omega
  intro r
  induction r with
  | nil => intro x hx; cases hx
  | cons y r ih =>
    intro x hx
    rw [apS] at hx
    rcases List.mem_append.1 hx with hx | hx
    · rcases List.mem_append.1 hx with hx | hx
      · exact tb s x (List.mem_of_mem_drop (List.mem_of_mem_take hx))
      · exact tb _ x hx
    · exact ih x hx

theorem txt_ofBytes {xs : List Int} (h : ∀ x ∈ xs, 0 ≤ x ∧ x < 256) : txt (ofBytes xs) = xs := by
  unfold ofBytes txt
  simp only [List.map_map]
  refine (List.map_congr_left (g := id) fun x hx => ?_).trans (List.map_id _)
  have := h x hx
  simp only [Function.comp, id]
  rw [UInt8.toNat_ofNat']
  omega

/-- No two elements could be one. -/
def nrm : Option El → List El → Prop
  | _, [] => True
  | pre, x :: r => ((x.2.2.size = 0 ∧ 0 ≤ x.1 ∧ x.1 < x.2.1 ∧ ∀ p, pre = some p → p.2.2.size = 0 → p.2.1 ≠ x.1) ∨ (x.2.2.size ≠ 0 ∧ x.1 = 0 ∧ x.2.1 = 0 ∧ ∀ p, pre = some p → p.2.2.size = 0)) ∧ nrm (some x) r

def lastN : Option El → List El → Option El
  | p, [] => p
  | _, x :: r => lastN (some x) r

theorem nrm_app : ∀ {l r : List El} {pre : Option El}, nrm pre (l ++ r) ↔ nrm pre l ∧ nrm (lastN pre l) r
  | [], r, pre => by simp [nrm, lastN]
  | x :: l, r, pre => by simp only [List.cons_append, nrm, lastN, nrm_app, and_assoc]

theorem lastN_app : ∀ {l : List El} {x : El} {pre : Option El}, lastN pre (l ++ [x]) = some x
  | [], _, _ => rfl
  | _ :: l, x, _ => by rw [List.cons_append, lastN, lastN_app]

theorem cellsT_empty : cellsT ByteArray.empty = [] := cellsT_nil rfl

theorem nrm_copy {l : List El} {f t : Int} (h : nrm none l) (h0 : 0 ≤ f) (h1 : f ≤ t) : nrm none (mkCopy l f t) ∧ cells (mkCopy l f t) = cells l ++ cellsC f (t - f).toNat := by
  by_cases he : l = []
  · subst he; rw [mkCopy_nil]; split
    · rename_i h; rw [h]; simp [cells, cellsC, nrm]
    · simp only [nrm, cells, cellsT_empty]
      exact ⟨⟨.inl ⟨empty_size, h0, by omega, fun p hp => by cases hp⟩, trivial⟩, by simp⟩
  · obtain ⟨m, p, rfl⟩ := split_last he
    rw [mkCopy_app]
    have h2 := nrm_app.1 h
    split
    · rename_i h'; subst h'; exact ⟨h, by simp [cellsC]⟩
    · split
      · rename_i hp
        have i2 := h2.2.1
        rcases i2 with i2 | i2
        · refine ⟨nrm_app.2 ⟨h2.1, .inl ⟨hp.1, i2.2.1, by simp only; omega, i2.2.2.2⟩, trivial⟩, ?_⟩
          have htz := cellsT_nil hp.1
          rw [cells_app, cells_app]
          simp only [cells, htz, List.append_nil, List.nil_append, List.append_assoc]
          congr 1
          rw [hp.2, show (t - p.1).toNat = (f - p.1).toNat + (t - f).toNat by omega, cellsC_add, show p.1 + ((f - p.1).toNat : Int) = f by omega]
        · exact absurd hp.1 i2.1
      · rename_i hp
        refine ⟨nrm_app.2 ⟨h, .inl ⟨empty_size, h0, by simp only; omega, fun q hq hz => ?_⟩, trivial⟩, ?_⟩
        · rw [lastN_app] at hq
          cases hq
          simp only
          exact fun e => hp ⟨hz, e⟩
        · rw [cells_app]; simp [cells, cellsT_empty]

/-- Cells of a text's parts and of places in order. -/
def incC (base : Int) : Int → List Ce → Prop
  | _, [] => True
  | to, c :: r => if c.1 < 0 then c.1 = -1 ∧ incC base to r else to ≤ c.1 ∧ c.1 < base ∧ incC base (c.1 + 1) r

def endC : Int → List Ce → Int
  | to, [] => to
  | to, c :: r => endC (if c.1 < 0 then to else c.1 + 1) r

theorem incC_app {base : Int} : ∀ {l r : List Ce} {to : Int}, incC base to (l ++ r) ↔ incC base to l ∧ incC base (endC to l) r
  | [], r, to => by simp [incC, endC]
  | c :: l, r, to => by
    simp only [List.cons_append, incC, endC]
    split
    · rw [incC_app, and_assoc]
    · rw [incC_app]; constructor
      · rintro ⟨a, b, c, d⟩; exact ⟨⟨a, b, c⟩, d⟩
      · rintro ⟨⟨a, b, c⟩, d⟩; exact ⟨a, b, c, d⟩

theorem incC_T {base to : Int} {l : List Int} : incC base to (l.map fun b => ((-1 : Int), b)) ∧ endC to (l.map fun b => ((-1 : Int), b)) = to := by
  induction l with
  | nil => exact ⟨trivial, rfl⟩
  | cons b l ih => simp only [List.map_cons, incC, endC]; rw [if_pos (by omega), if_pos (by omega)]; exact ⟨⟨trivial, ih.1⟩, ih.2⟩

theorem incC_C {base : Int} : ∀ {m : Nat} {to f : Int}, 0 ≤ f → (0 < m → to ≤ f) → (0 < m → f + m ≤ base) → incC base to (cellsC f m) ∧ endC to (cellsC f m) = if m = 0 then to else f + m
  | 0, to, f, _, _, _ => ⟨trivial, rfl⟩
  | m + 1, to, f, h0, h1, h2 => by
    have := h1 (by omega)
    have := h2 (by omega)
    obtain ⟨a, b⟩ := incC_C (base := base) (m := m) (to := f + 1) (f := f + 1) (by omega) (fun _ => by omega) (fun _ => by omega)
    simp only [cellsC, incC, endC]
    rw [if_neg (by omega), if_neg (by omega), if_neg (by omega)]
    refine ⟨⟨by omega, by omega, a⟩, ?_⟩
    rw [b]
    split
    · omega
    · omega

theorem incC_Cinv {base : Int} : ∀ {m : Nat} {to f : Int}, 0 ≤ f → 0 < m → incC base to (cellsC f m) → to ≤ f ∧ f + m ≤ base
  | m + 1, to, f, h0, _, h => by
    rw [cellsC, incC, if_neg (by simp only; omega)] at h
    by_cases hm : m = 0
    · subst hm; have := h.2.1; simp only at this; exact ⟨h.1, by omega⟩
    · have := incC_Cinv (by omega) (by omega) h.2.2
      exact ⟨h.1, by omega⟩

theorem nrm_isS {base : Int} : ∀ {l : List El} {to : Int} {q : Option El}, 0 ≤ to → nrm q l → incC base to (cells l) → valL l = true → (∀ p, q = some p → p.2.2.size = 0 → p.2.1 = to) → isS base to (q.map (fun p => decide (p.2.2.size = 0))) l
  | [], _, _, _, _, _, _, _ => trivial
  | x :: r, to, q, h0, h, hi, hv, hq => by
    rw [show valL (x :: r) = (uvalid x.2.2 && valL r) from rfl, Bool.and_eq_true] at hv
    rw [isS]
    rw [cells] at hi
    rcases h.1 with h1 | h1
    · rw [if_pos h1.1]
      rw [cellsT_nil h1.1, List.nil_append, incC_app] at hi
      have hin := incC_Cinv h1.2.1 (by have := h1.2.2.1; omega) hi.1
      have hb := incC_C (base := base) (m := (x.2.1 - x.1).toNat) (to := to) (f := x.1) (by omega) (by omega) (by omega)
      have hlt := h1.2.2.1
      rw [hb.2, if_neg (by omega), show x.1 + ((x.2.1 - x.1).toNat : Int) = x.2.1 by omega] at hi
      refine ⟨⟨hin.1, ?_, h1.2.2.1, by omega⟩, ?_⟩
      · cases q with
        | none => right; simp
        | some p =>
          by_cases hz : p.2.2.size = 0
          · left
            have := h1.2.2.2 p rfl hz
            have := hq p rfl hz
            omega
          · right; rw [Option.map_some, decide_eq_false hz]; simp
      · have := nrm_isS (q := some x) (to := x.2.1) (by omega) h.2 hi.2 hv.2 (fun p hp _ => by cases hp; rfl)
        rwa [Option.map_some, decide_eq_true h1.1] at this
    · rw [if_neg h1.1]
      rw [h1.2.1, h1.2.2.1, show ((0 : Int) - 0).toNat = 0 from rfl, cellsC, List.append_nil] at hi
      unfold cellsT at hi
      rw [incC_app, (incC_T (base := base)).2] at hi
      refine ⟨⟨h1.2.1, h1.2.2.1, ?_, hv.1⟩, ?_⟩
      · cases q with
        | none => simp
        | some p => rw [Option.map_some, decide_eq_true (h1.2.2.2 p rfl)]; simp
      · have := nrm_isS (q := some x) (to := to) h0 h.2 hi.2 hv.2 (fun p hp hz => by cases hp; exact absurd hz h1.1)
        rwa [Option.map_some, decide_eq_false h1.1] at this

theorem nrm_len : ∀ {r : List El} {pre : Option El}, nrm pre r → r.length ≤ (cells r).length ∧ (∀ e ∈ r, e.2.2.size ≤ (cells r).length) ∧ sumT r ≤ (cells r).length ∧ sumK r + sumT r = (cells r).length ∧ 0 ≤ sumK r
  | [], _, _ => ⟨Nat.le_refl _, by simp, by simp [sumT], by simp [sumK, sumT, cells], by simp [sumK]⟩
  | x :: r, pre, h => by
    obtain ⟨h1, h2, h3, h4, h5⟩ := nrm_len h.2
    have e1 := cellsT_len (t := x.2.2)
    have e2 := cellsC_len (m := (x.2.1 - x.1).toNat) (f := x.1)
    have hl : (cells (x :: r)).length = x.2.2.size + (x.2.1 - x.1).toNat + (cells r).length := by rw [cells, List.length_append, List.length_append, e1, e2]
    have h0 : x.1 ≤ x.2.1 ∧ (x.2.2.size = 0 → x.1 < x.2.1) := by
      rcases h.1 with h1 | h1
      · exact ⟨by omega, fun _ => h1.2.2.1⟩
      · exact ⟨by omega, fun hz => absurd hz h1.1⟩
    refine ⟨?_, fun e he => ?_, ?_, ?_, ?_⟩
    · rw [List.length_cons, hl]
      by_cases hz : x.2.2.size = 0
      · have := h0.2 hz; omega
      · omega
    · rw [hl]
      rcases List.mem_cons.1 he with rfl | he
      · omega
      · have := h2 e he; omega
    · rw [sumT, hl]; omega
    · rw [sumK, sumT, hl]; omega
    · rw [sumK]; omega

/-- What is a delta, by its cells. -/
theorem isD_of {base : Int} {l : List El} (h : nrm none l) (hi : incC base 0 (cells l)) (hv : valL l = true) (h0 : 0 ≤ base) (h1 : base ≤ 20000) (hl : l.length ≤ 60) (hc : (cells l).length ≤ 20000) : isD base l = true := by
  have := nrm_isS (Int.le_refl 0) h hi hv (fun p hp => by cases hp)
  have hk := nrm_len h
  unfold isD
  rw [Bool.and_eq_true, decide_eq_true_eq]
  exact ⟨⟨h0, h1, hl⟩, isS_isL this (by omega)⟩

theorem keep_cells {n : Int} (h0 : 0 ≤ n) : nrm none (mkCopy [] 0 n) ∧ cells (mkCopy [] 0 n) = cellsC 0 n.toNat := by
  have := nrm_copy (l := []) (f := 0) (t := n) trivial (Int.le_refl 0) h0
  exact ⟨this.1, by rw [this.2, Int.sub_zero]; rfl⟩

theorem keep_D {n : Int} (h0 : 0 ≤ n) (h1 : n ≤ 20000) : isD n (mkCopy [] 0 n) = true := by
  obtain ⟨e1, e2⟩ := keep_cells h0
  refine isD_of e1 ?_ ?_ h0 h1 ?_ (by rw [e2, cellsC_len]; omega)
  · rw [e2]; exact (incC_C (Int.le_refl 0) (fun _ => Int.le_refl 0) (fun _ => by omega)).1
  · rw [mkCopy_nil]; split
    · rfl
    · rw [show valL [((0 : Int), (n, ByteArray.empty))] = (uvalid ByteArray.empty && true) from rfl]; decide +kernel
  · rw [mkCopy_nil]; split <;> simp

theorem keepN_is {K : Nat} {n : Int} (h0 : 0 ≤ n) (h1 : n ≤ 20000) : delta_Keep K n = some (n, mkCopy [] 0 n) := by
  rw [keep_is, show max 0 (min n 20000) = n by omega]

theorem uszB_anti {n n' c d e f d' e' f' v : Int} (h : uszB n' c d' e' f' = v) (hv : v ≠ 0) (hvn : v ≤ n) (hd : 2 ≤ v → d = d') (he : 3 ≤ v → e = e') (hf : 4 ≤ v → f = f') : uszB n c d e f = v := by
  unfold uszB at h ⊢
  split
  · rename_i h1; rw [if_pos h1] at h; exact h
  · rename_i h1
    rw [if_neg h1] at h
    split
    · rename_i h2
      rw [if_pos h2] at h
      by_cases c2 : 2 ≤ n' ∧ cont d' ∧ 128 ≤ c % 32 * 64 + d' % 64
      · rw [if_pos c2] at h
        rw [hd (by omega), if_pos ⟨by omega, c2.2⟩, h]
      · rw [if_neg c2] at h; exact absurd h.symm hv
    · rename_i h2
      rw [if_neg h2] at h
      split
      · rename_i h3
        rw [if_pos h3] at h
        by_cases c3 : 3 ≤ n' ∧ cont d' ∧ cont e' ∧ 2048 ≤ (c % 16 * 64 + d' % 64) * 64 + e' % 64 ∧ ¬ (55296 ≤ (c % 16 * 64 + d' % 64) * 64 + e' % 64 ∧ (c % 16 * 64 + d' % 64) * 64 + e' % 64 < 57344)
        · rw [if_pos c3] at h
          rw [hd (by omega), he (by omega), if_pos ⟨by omega, c3.2⟩, h]
        · rw [if_neg c3] at h; exact absurd h.symm hv
      · rename_i h3
        rw [if_neg h3] at h
        split
        · rename_i h4
          rw [if_pos h4] at h
          by_cases c4 : 4 ≤ n' ∧ cont d' ∧ cont e' ∧ cont f' ∧ 65536 ≤ ((c % 8 * 64 + d' % 64) * 64 + e' % 64) * 64 + f' % 64 ∧ ((c % 8 * 64 + d' % 64) * 64 + e' % 64) * 64 + f' % 64 ≤ 1114111
          · rw [if_pos c4] at h
            rw [hd (by omega), he (by omega), hf (by omega), if_pos ⟨by omega, c4.2⟩, h]
          · rw [if_neg c4] at h; exact absurd h.symm hv
        · rename_i h4
          rw [if_neg h4] at h; exact h

/-- The bytes of a code point but its first one go on with it. -/
theorem uszB_cont {n c d e f : Int} : (2 ≤ uszB n c d e f → cont d) ∧ (3 ≤ uszB n c d e f → cont e) ∧ (4 ≤ uszB n c d e f → cont f) := by
  unfold uszB
  split
  · omega
  · split
    · split
      · rename_i h; exact ⟨fun _ => h.2.1, by omega, by omega⟩
      · omega
    · split
      · split
        · rename_i h; exact ⟨fun _ => h.2.1, fun _ => h.2.2.1, by omega⟩
        · omega
      · split
        · split
          · rename_i h; exact ⟨fun _ => h.2.1, fun _ => h.2.2.1, fun _ => h.2.2.2.1⟩
          · omega
        · omega

theorem usz_cont {s : ByteArray} {i j : Nat} (h1 : i < j) (h2 : (j : Int) < i + usz s i) : cont (bt s (j : Int)) := by
  by_cases hi : (i : Int) < s.size
  · have hu := usz_ok (s := s) (a := i)
    unfold usz at h2 hu
    rw [if_neg (by omega)] at h2 hu
    have hc := uszB_cont (n := (s.size : Int) - i) (c := bt s i) (d := bt s ((i : Int) + 1)) (e := bt s ((i : Int) + 2)) (f := bt s ((i : Int) + 3))
    have h3 : j = i + 1 ∨ j = i + 2 ∨ j = i + 3 := by omega
    rcases h3 with rfl | rfl | rfl
    · have := hc.1 (by omega); rwa [show ((i + 1 : Nat) : Int) = (i : Int) + 1 by omega]
    · have := hc.2.1 (by omega); rwa [show ((i + 2 : Nat) : Int) = (i : Int) + 2 by omega]
    · have := hc.2.2 (by omega); rwa [show ((i + 3 : Nat) : Int) = (i : Int) + 3 by omega]
  · have : usz s (i : Int) = 0 := by unfold usz; rw [if_pos (by omega)]
    omega

theorem usz_cut {a b : ByteArray} {i : Nat} (hz : usz (a ++ b) (i : Int) ≠ 0) (h : (i : Int) + usz (a ++ b) i ≤ a.size) : usz a (i : Int) = usz (a ++ b) (i : Int) := by
  have hu := usz_ok (s := a ++ b) (a := i)
  have hb := bsize_app (a := a) (b := b)
  have hia : (i : Int) < a.size := by omega
  generalize hv : usz (a ++ b) (i : Int) = v at *
  unfold usz at hv ⊢
  rw [if_neg (by omega)] at hv ⊢
  rw [bt_left (by omega)] at hv
  refine uszB_anti hv hz (by omega) (fun h2 => ?_) (fun h3 => ?_) (fun h4 => ?_)
  · rw [show (i : Int) + 1 = ((i + 1 : Nat) : Int) by omega, bt_left (by omega)]
  · rw [show (i : Int) + 2 = ((i + 2 : Nat) : Int) by omega, bt_left (by omega)]
  · rw [show (i : Int) + 3 = ((i + 3 : Nat) : Int) by omega, bt_left (by omega)]

/-- Ahead of an edge. -/
theorem uval_pre {a b : ByteArray} (he : b.size = 0 ∨ ¬ cont (bt b 0)) : ∀ (d i m : Nat), a.size - i ≤ d → i ≤ a.size → (a ++ b).size - i ≤ m → uval (a ++ b) m (i : Int) = true → uval a d (i : Int) = true := by
  have hsz := bsize_app (a := a) (b := b)
  intro d
  induction d with
  | zero => intro i m _ _ _ _; rfl
  | succ d ih =>
    intro i m h1 h2 h3 h4
    rw [uval]
    by_cases hi : (i : Int) < a.size
    · obtain ⟨m, rfl⟩ : ∃ l, m = l + 1 := ⟨m - 1, by omega⟩
      have hu := usz_ok (s := a ++ b) (a := i)
      have hu3 := hu.2.2 (by omega) (by omega)
      rw [uval, if_pos (by omega)] at h4
      by_cases hz : usz (a ++ b) i = 0
      · rw [if_pos hz] at h4; cases h4
      · rw [if_neg hz] at h4
        have hle : (i : Int) + usz (a ++ b) i ≤ a.size := by
          rcases Int.lt_or_le (a.size : Int) ((i : Int) + usz (a ++ b) i) with h5 | h5
          · exfalso
            have hc := usz_cont (s := a ++ b) (i := i) (j := a.size) (by omega) h5
            rcases he with he | he
            · omega
            · have := bt_right (a := a) (b := b) (i := 0)
              rw [Nat.add_zero] at this
              rw [this] at hc
              exact he hc
          · exact h5
        rw [if_pos hi, usz_cut hz hle, if_neg hz]
        obtain ⟨n, hn⟩ : ∃ n : Nat, usz (a ++ b) i = n := ⟨(usz (a ++ b) i).toNat, by omega⟩
        rw [hn] at h4 hu3 hz hle ⊢
        have e2 : (i : Int) + (n : Int) = ((i + n : Nat) : Int) := by omega
        rw [e2] at h4 ⊢
        exact ih (i + n) m (by omega) (by omega) (by omega) h4
    · rw [if_neg hi]

/-- Behind what is right. -/
theorem uval_mid {a b : ByteArray} : ∀ (d i m : Nat), a.size - i ≤ d → i ≤ a.size → (a ++ b).size - i ≤ m → uval a d (i : Int) = true → uval (a ++ b) m (i : Int) = true → uval (a ++ b) (a ++ b).size (a.size : Int) = true := by
  have hsz := bsize_app (a := a) (b := b)
  intro d
  induction d with
  | zero =>
    intro i m h1 h2 h3 _ h4
    rw [show i = a.size by omega] at h4 h3
    rw [← uval_fuel ((a ++ b).size - a.size) m (a ++ b).size a.size (Nat.le_refl _) h3 (by omega)]
    exact h4
  | succ d ih =>
    intro i m h1 h2 h3 h4 h5
    by_cases hi : i = a.size
    · subst hi
      rw [← uval_fuel ((a ++ b).size - a.size) m (a ++ b).size a.size (Nat.le_refl _) h3 (by omega)]
      exact h5
    · obtain ⟨m, rfl⟩ : ∃ l, m = l + 1 := ⟨m - 1, by omega⟩
      have hu := usz_ok (s := a) (a := i)
      have hu3 := hu.2.2 (by omega) (by omega)
      rw [uval, if_pos (by omega)] at h4 h5
      by_cases hz : usz a i = 0
      · rw [if_pos hz] at h4; cases h4
      · rw [if_neg hz] at h4
        rw [usz_left hz, if_neg hz] at h5
        obtain ⟨n, hn⟩ : ∃ n : Nat, usz a i = n := ⟨(usz a i).toNat, by omega⟩
        rw [hn] at h4 h5 hu3 hz
        have e2 : (i : Int) + (n : Int) = ((i + n : Nat) : Int) := by omega
        rw [e2] at h4 h5
        exact ih (i + n) m (by omega) (by omega) (by omega) h4 h5

theorem uval_suf {a b : ByteArray} : ∀ (d j m : Nat), b.size - j ≤ d → j ≤ b.size → b.size - j ≤ m → uval (a ++ b) m ((a.size + j : Nat) : Int) = true → uval b d (j : Int) = true := by
  have hsz := bsize_app (a := a) (b := b)
  intro d
  induction d with
  | zero => intro j m _ _ _ _; rfl
  | succ d ih =>
    intro j m h1 h2 h3 h4
    rw [uval]
    by_cases hj : (j : Int) < b.size
    · obtain ⟨m, rfl⟩ : ∃ l, m = l + 1 := ⟨m - 1, by omega⟩
      have hu := usz_ok (s := b) (a := j)
      have hu3 := hu.2.2 (by omega) hj
      rw [uval, if_pos (by omega), usz_right] at h4
      rw [if_pos hj]
      by_cases hz : usz b j = 0
      · rw [if_pos hz] at h4; cases h4
      · rw [if_neg hz] at h4 ⊢
        obtain ⟨n, hn⟩ : ∃ n : Nat, usz b j = n := ⟨(usz b j).toNat, by omega⟩
        rw [hn] at h4 hu3 hz ⊢
        have e1 : ((a.size + j : Nat) : Int) + (n : Int) = ((a.size + (j + n) : Nat) : Int) := by omega
        have e2 : (j : Int) + (n : Int) = ((j + n : Nat) : Int) := by omega
        rw [e1] at h4
        rw [e2]
        exact ih (j + n) m (by omega) (by omega) (by omega) h4
    · rw [if_neg hj]

theorem uvalid_right {a b : ByteArray} (h : uvalid (a ++ b) = true) (ha : uvalid a = true) : uvalid b = true := by
  unfold uvalid at h ha ⊢
  have hsz := bsize_app (a := a) (b := b)
  have h1 := uval_mid (a := a) (b := b) a.size 0 (a ++ b).size (by omega) (by omega) (by omega) ha h
  exact uval_suf (a := a) (b := b) b.size 0 (a ++ b).size (by omega) (by omega) (by omega) (by rw [Nat.add_zero]; exact h1)

theorem uvalid_left {a b : ByteArray} (h : uvalid (a ++ b) = true) (he : b.size = 0 ∨ ¬ cont (bt b 0)) : uvalid a = true := by
  unfold uvalid at h ⊢
  exact uval_pre (a := a) (b := b) he a.size 0 (a ++ b).size (by omega) (by omega) (by omega) h

/-- Bytes that are a valid text. -/
def vB (l : List Int) : Prop := uvalid (ofBytes l) = true

theorem vB_txt {s : ByteArray} : vB (txt s) ↔ uvalid s = true := by unfold vB; rw [ofBytes_txt]

theorem ofBytes_app {a b : List Int} : ofBytes (a ++ b) = ofBytes a ++ ofBytes b := by
  apply ByteArray.ext
  rw [ByteArray.data_append]
  unfold ofBytes
  simp

theorem vB_app {a b : List Int} (ha : vB a) (hb : vB b) : vB (a ++ b) := by
  unfold vB at *
  rw [ofBytes_app]
  exact uvalid_app ha hb

theorem vB_right {a b : List Int} (h : vB (a ++ b)) (ha : vB a) : vB b := by
  unfold vB at *
  rw [ofBytes_app] at h
  exact uvalid_right h ha

theorem vB_nil : vB [] := by unfold vB; decide +kernel

/-- A place between two code points of a valid text. -/
def edg (s : ByteArray) (p : Int) : Prop := 0 ≤ p ∧ p ≤ s.size ∧ vB ((txt s).take p.toNat)

theorem edg_0 {s : ByteArray} : edg s 0 := ⟨Int.le_refl 0, by omega, by rw [show (0 : Int).toNat = 0 from rfl, List.take_zero]; exact vB_nil⟩

theorem edg_end {s : ByteArray} (h : uvalid s = true) : edg s s.size := ⟨by omega, Int.le_refl _, by rw [Int.toNat_natCast, List.take_of_length_le (by rw [txt_len]; omega), vB_txt]; exact h⟩

theorem edg_part {s : ByteArray} {p q : Int} (hp : edg s p) (hq : edg s q) (h : p ≤ q) : vB (((txt s).drop p.toNat).take (q - p).toNat) := by
  obtain ⟨p0, p1, p2⟩ := hp
  obtain ⟨q0, q1, q2⟩ := hq
  have e : (txt s).take q.toNat = (txt s).take p.toNat ++ ((txt s).drop p.toNat).take (q - p).toNat := by
    rw [show q.toNat = p.toNat + (q - p).toNat by omega, List.take_add]
  rw [e] at q2
  exact vB_right q2 p2

/-- Whether a place is an edge, by the document's own look. -/
def isE (s : ByteArray) (p : Int) : Bool := decide (0 ≤ p ∧ p ≤ s.size) && (uvalid s && (decide (p = s.size) || !decide (cont (bt s p))))

theorem isE_edg {s : ByteArray} {p : Int} (h : isE s p = true) : edg s p := by
  unfold isE at h
  rw [Bool.and_eq_true, Bool.and_eq_true, decide_eq_true_eq, Bool.or_eq_true, decide_eq_true_eq] at h
  obtain ⟨⟨h0, h1⟩, h2, h3⟩ := h
  refine ⟨h0, h1, ?_⟩
  obtain ⟨n, rfl⟩ : ∃ n : Nat, p = n := ⟨p.toNat, by omega⟩
  rw [Int.toNat_natCast]
  have e : (txt s).take n ++ (txt s).drop n = txt s := List.take_append_drop n _
  rw [← vB_txt, ← e] at h2
  unfold vB at h2 ⊢
  rw [ofBytes_app] at h2
  refine uvalid_left h2 ?_
  rcases h3 with h3 | h3
  · left; rw [ofBytes_size, List.length_drop, txt_len]; omega
  · by_cases hn : n = s.size
    · left; rw [ofBytes_size, List.length_drop, txt_len]; omega
    · right
      simp only [Bool.not_eq_true', decide_eq_false_iff_not] at h3
      have hl : n < (txt s).length := by rw [txt_len]; omega
      have hall : ∀ x ∈ (txt s).drop n, 0 ≤ x ∧ x < 256 := by
        intro x hx
        obtain ⟨c, _, rfl⟩ := List.mem_map.1 (List.mem_of_mem_drop hx)
        have := c.toNat_lt
        omega
      have h0 : 0 < (txt (ofBytes ((txt s).drop n))).length := by rw [txt_ofBytes hall, List.length_drop]; omega
      have hb := bt_is (s := ofBytes ((txt s).drop n)) h0
      rw [Int.natCast_zero] at hb
      rw [hb]
      have : ∀ (l : List Int) (hl0 : 0 < l.length), l = (txt s).drop n → l[0] = (txt s)[n] := by
        intro l hl0 e; subst e; simp
      rw [this _ h0 (txt_ofBytes hall), ← bt_is hl]
      exact h3

theorem redge_is {K : Nat} {s : ByteArray} {p : Int} (hK : s.size + 10 ≤ K) (hs : s.size ≤ 1000000) : palinoderef1_IsEdge K s p = some (isE s p) := by
  unfold palinoderef1_IsEdge isE
  have hb := bt_ok (s := s) (i := p)
  by_cases h0 : p < 0
  · rw [if_pos (by simpa using h0), Option.bind_some, if_pos rfl, decide_eq_false (by omega), Bool.false_and]
  · rw [if_neg (by simpa using h0)]
    by_cases h1 : p > s.size
    · rw [if_pos (by simpa using h1), Option.bind_some, if_pos rfl, decide_eq_false (by omega), Bool.false_and]
    · rw [if_neg (by simpa using h1), rvalid_is hK (by omega), Option.bind_some, Option.bind_some, decide_eq_true (by omega), Bool.true_and]
      cases hv : uvalid s with
      | false => rfl
      | true =>
        rw [if_neg (by simp), Bool.true_and]
        by_cases h2 : p = s.size
        · rw [if_pos (by simpa using h2), decide_eq_true h2]; rfl
        · rw [if_neg (by simpa using h2), if_pos ⟨by omega, by omega⟩, decide_eq_false h2, Bool.false_or, w64 (by omega) (by omega), div_64 hb.1 hb.2]

def edgL (s : ByteArray) (l : List El) : Prop := ∀ x ∈ l, x.2.2.size = 0 → edg s x.1 ∧ edg s x.2.1

theorem edgL_copy {s : ByteArray} {l : List El} {f t : Int} (h : edgL s l) (hf : edg s f) (ht : edg s t) : edgL s (mkCopy l f t) := by
  by_cases he : l = []
  · subst he; rw [mkCopy_nil]; split
    · exact h
    · intro x hx _; rw [List.mem_singleton.1 hx]; exact ⟨hf, ht⟩
  · obtain ⟨m, p, rfl⟩ := split_last he
    rw [mkCopy_app]
    split
    · exact h
    · split
      · rename_i hp
        intro x hx hz
        rcases List.mem_append.1 hx with hx | hx
        · exact h x (List.mem_append_left _ hx) hz
        · rw [List.mem_singleton.1 hx]; exact ⟨(h p (List.mem_append_right _ (List.mem_singleton.2 rfl)) hp.1).1, ht⟩
      · intro x hx hz
        rcases List.mem_append.1 hx with hx | hx
        · exact h x hx hz
        · rw [List.mem_singleton.1 hx]; exact ⟨hf, ht⟩

theorem edgL_put {s : ByteArray} {l : List El} {t : ByteArray} (h : edgL s l) : edgL s (mkPut l t) := by
  by_cases he : l = []
  · subst he; rw [mkPut_nil]; split
    · exact h
    · rename_i h0; intro x hx hz; rw [List.mem_singleton.1 hx] at hz; exact absurd hz h0
  · obtain ⟨m, p, rfl⟩ := split_last he
    rw [mkPut_app]
    split
    · exact h
    · rename_i h0
      split
      · intro x hx hz
        rcases List.mem_append.1 hx with hx | hx
        · exact h x hx hz
        · rw [List.mem_singleton.1 hx] at hz; exact absurd hz h0
      · intro x hx hz
        rcases List.mem_append.1 hx with hx | hx
        · exact h x (List.mem_append_left _ hx) hz
        · rw [List.mem_singleton.1 hx] at hz
          simp only at hz
          rw [bsize_app] at hz
          omega

theorem bld_edg {s : ByteArray} : ∀ {l acc : List El} {a : Int}, edgL s acc → edg s a → (∀ c ∈ l, edg s c.1 ∧ edg s c.2.1) → edgL s (bld acc a l).1 ∧ edg s (bld acc a l).2
  | [], acc, a, h, ha, _ => ⟨h, ha⟩
  | c :: r, acc, a, h, ha, hl => by
    have hc := hl c (by simp)
    rw [bld]
    exact bld_edg (edgL_put (edgL_copy h ha hc.1)) hc.2 (fun d hd => hl d (by simp [hd]))

/-- Ones ahead of a place, then noughts. -/
def f1 (x : Int) : Int → Nat → List Int
  | _, 0 => []
  | a, n + 1 => (if a < x then 1 else 0) :: f1 x (a + 1) n

theorem get_mid {α : Type} {A R : List α} {x d : α} {n : Nat} (h : n = A.length) : (A ++ x :: R).getD n d = x := by
  subst h
  rw [List.getD_eq_getElem?_getD, List.getElem?_append_right (Nat.le_refl _), Nat.sub_self]; rfl

theorem set_mid {α : Type} {A R : List α} {x v : α} {n : Nat} (h : n = A.length) : (A ++ x :: R).set n v = A ++ v :: R := by
  subst h
  rw [List.set_append_right _ _ (Nat.le_refl _), Nat.sub_self, List.set_cons_zero]

theorem swp_a {α : Type} {P Q : List α} {z x : α} {n m : Nat} (hn : n = P.length) (hm : m = P.length + 1) : ((P ++ z :: x :: Q).set m z).set n x = P ++ x :: z :: Q := by
  have e : P ++ z :: x :: Q = (P ++ [z]) ++ x :: Q := by simp
  rw [e, set_mid (by simp [hm]), show (P ++ [z]) ++ z :: Q = P ++ z :: z :: Q by simp, set_mid hn]

theorem get_two {α : Type} {P Q : List α} {z x d : α} {m : Nat} (hm : m = P.length + 1) : (P ++ z :: x :: Q).getD m d = x := by
  rw [show P ++ z :: x :: Q = (P ++ [z]) ++ x :: Q by simp, get_mid (by simp [hm])]

theorem mn2_is {a b : Int} : mn2 a b = min a b := by unfold mn2; split <;> omega

theorem mx2_is {a b : Int} : mx2 a b = max a b := by unfold mx2; split <;> omega

abbrev Rg := Int × Int

abbrev rg0 : Rg := ((0 : Int), (0 : Int))

def loR (x : Rg) : Int := min x.1 x.2

def hiR (x : Rg) : Int := max x.1 x.2

def ltR (a b : Rg) : Bool := decide (loR a < loR b ∨ (loR a = loR b ∧ hiR a < hiR b))

theorem lo_hi (x : Rg) : loR x ≤ hiR x := by unfold loR hiR; omega

theorem spanR_is {K : Nat} {x : Rg} : region_Span K x.1 x.2 = some (loR x, hiR x) := by
  unfold region_Span; rw [mn2_is, mx2_is]; rfl

theorem compare_is {K : Nat} {a b : Int} : cmp_Compare K a b = some (if a < b then -1 else if a > b then 1 else 0) := by
  unfold cmp_Compare cmp_isNaN
  rw [Option.bind_some, Option.bind_some, bne_self_eq_false, if_neg (by simp), bne_self_eq_false, if_neg (by simp)]
  by_cases h : a < b
  · rw [if_pos (by simpa using h), if_pos h]
  · rw [if_neg (by simpa using h), if_neg h]
    by_cases h2 : a > b
    · rw [if_pos (by simpa using h2), if_pos h2]
    · rw [if_neg (by simpa using h2), if_neg h2]

theorem cmpR_is {K : Nat} (hK : 10 ≤ K) {a b : Rg} : ∃ c, region_apart_1 K a.1 a.2 b.1 b.2 = some c ∧ decide (c < 0) = ltR a b := by
  obtain ⟨k, rfl⟩ : ∃ k, K = k + 1 + 1 + 1 := ⟨K - 3, by omega⟩
  unfold region_apart_1 cmp_Or_r
  rw [spanR_is, Option.bind_some, spanR_is, Option.bind_some]
  simp only
  rw [compare_is, Option.bind_some, compare_is, Option.bind_some, cmp_Or_r.l0, if_pos (by simp), if_pos (by simp)]
  simp only [show Int.toNat 0 = 0 from rfl, List.getD_cons_zero]
  unfold ltR
  by_cases h1 : loR a < loR b
  · rw [if_pos h1, if_pos (by decide), Option.bind_some]
    exact ⟨_, rfl, by rw [decide_eq_decide]; omega⟩
  · rw [if_neg h1]
    by_cases h2 : loR a > loR b
    · rw [if_pos h2, if_pos (by decide), Option.bind_some]
      exact ⟨_, rfl, by rw [decide_eq_decide]; omega⟩
    · rw [if_neg h2, if_neg (by decide), show IntKind.wrap .i64 ((0 : Int) + 1) = 1 by decide, cmp_Or_r.l0, if_pos (by simp), if_pos (by simp)]
      simp only [show Int.toNat 1 = 1 from rfl, List.getD_cons_succ, List.getD_cons_zero]
      by_cases h3 : hiR a < hiR b
      · rw [if_pos h3, if_pos (by decide), Option.bind_some]
        exact ⟨_, rfl, by rw [decide_eq_decide]; omega⟩
      · rw [if_neg h3]
        by_cases h4 : hiR a > hiR b
        · rw [if_pos h4, if_pos (by decide), Option.bind_some]
          exact ⟨_, rfl, by rw [decide_eq_decide]; omega⟩
        · rw [if_neg h4, if_neg (by decide), show IntKind.wrap .i64 ((1 : Int) + 1) = 2 by decide, cmp_Or_r.l0, if_neg (by simp), Option.bind_some]
          exact ⟨_, rfl, by rw [decide_eq_decide]; omega⟩

/-- Put in from the right. -/
def insV (x : Rg) : List Rg → List Rg
  | [] => [x]
  | z :: l => if ltR x z = true then z :: insV x l else x :: z :: l

def insR (x : Rg) (S : List Rg) : List Rg := (insV x S.reverse).reverse

theorem insR_snoc (x z : Rg) (S : List Rg) : insR x (S ++ [z]) = if ltR x z = true then insR x S ++ [z] else S ++ [z] ++ [x] := by
  unfold insR
  rw [List.reverse_append, List.reverse_singleton, List.singleton_append, insV]
  split <;> simp

theorem insV_perm (x : Rg) : ∀ S : List Rg, (insV x S).Perm (x :: S)
  | [] => List.Perm.refl _
  | z :: l => by
    rw [insV]
    split
    · exact ((insV_perm x l).cons z).trans (List.Perm.swap x z l)
    · exact List.Perm.refl _

theorem insR_perm (x : Rg) (S : List Rg) : (insR x S).Perm (x :: S) := by
  unfold insR
  refine (List.reverse_perm _).trans ((insV_perm x S.reverse).trans ?_)
  exact (List.reverse_perm S).cons x

theorem insR_len (x : Rg) (S : List Rg) : (insR x S).length = S.length + 1 := by rw [(insR_perm x S).length_eq]; rfl

def srtR (X S : List Rg) : List Rg := X.foldl (fun S x => insR x S) S

theorem srtR_perm : ∀ {X S : List Rg}, (srtR X S).Perm (X ++ S)
  | [], S => List.Perm.refl _
  | x :: X, S => by
    show (srtR X (insR x S)).Perm _
    refine srtR_perm.trans ?_
    refine ((insR_perm x S).append_left X).trans ?_
    rw [List.cons_append]
    exact List.perm_middle

theorem insL_loop {K : Nat} {x : Rg} (hK : 10 ≤ K) : ∀ (n : Nat) (S2 T S : List Rg) (k : Nat), S.length = n → n < k → S.length + S2.length + T.length ≤ 100000 →
    slices_insertionSortCmpFunc_rggcregionapart1.l1 K 0 k (S ++ x :: (S2 ++ T)) (S.length : Int) = some (insR x S ++ (S2 ++ T))
  | 0, S2, T, S, k, hn, hk, hl => by
    obtain ⟨k, rfl⟩ : ∃ m, k = m + 1 := ⟨k - 1, by omega⟩
    have : S = [] := List.eq_nil_of_length_eq_zero hn
    subst this
    rw [slices_insertionSortCmpFunc_rggcregionapart1.l1, if_neg (by simp), Option.bind_some, if_neg (by simp)]
    rfl
  | n + 1, S2, T, S, k, hn, hk, hl => by
    obtain ⟨k, rfl⟩ : ∃ m, k = m + 1 := ⟨k - 1, by omega⟩
    obtain ⟨S', z, rfl⟩ := split_last (l := S) (by intro e; rw [e] at hn; simp at hn)
    rw [List.length_append, List.length_singleton] at hn hl
    have eD : (S' ++ [z]) ++ x :: (S2 ++ T) = S' ++ z :: x :: (S2 ++ T) := by simp
    have g1 : (S' ++ z :: x :: (S2 ++ T)).getD (S'.length + 1) rg0 = x := get_two rfl
    have g2 : (S' ++ z :: x :: (S2 ++ T)).getD S'.length rg0 = z := get_mid rfl
    have hw : IntKind.wrap .i64 (((S'.length + 1 : Nat) : Int) - 1) = (S'.length : Int) := by rw [w64 (by omega) (by omega)]; omega
    have hDl : (S' ++ z :: x :: (S2 ++ T)).length = S'.length + 2 + S2.length + T.length := by simp only [List.length_append, List.length_cons]; omega
    obtain ⟨c, hc1, hc2⟩ := cmpR_is (K := K) hK (a := x) (b := z)
    rw [List.length_append, List.length_singleton, slices_insertionSortCmpFunc_rggcregionapart1.l1, eD]
    simp only [hw, Int.toNat_natCast, g1, g2]
    rw [if_pos (by rw [decide_eq_true_eq]; omega), hc1, Option.bind_some, if_pos ⟨by omega, by omega, by omega, by omega⟩, hc2, Option.bind_some, insR_snoc]
    cases hlt : ltR x z with
    | true =>
      rw [if_pos rfl, if_pos ⟨by omega, by omega, by omega, by omega, by rw [List.length_set]; omega⟩, if_pos rfl]
      have e := insL_loop (K := K) (x := x) hK n (z :: S2) T S' k (by omega) (by omega) (by simp only [List.length_cons]; omega)
      rw [show ((S' ++ z :: x :: (S2 ++ T)).set (S'.length + 1) (z.1, z.2)).set S'.length (x.1, x.2) = S' ++ x :: z :: (S2 ++ T) from swp_a rfl rfl]
      rw [List.cons_append] at e
      rw [e]
      simp
    | false =>
      rw [if_neg (by simp), if_neg (by simp)]
      simp

theorem ins0R_loop {K : Nat} (hK : 100000 ≤ K) : ∀ (X S : List Rg) (k : Nat), X.length < k → S.length + X.length ≤ 90000 →
    slices_insertionSortCmpFunc_rggcregionapart1.l0 K ((S.length + X.length : Nat) : Int) 0 k (S ++ X) (S.length : Int) = some (srtR X S)
  | [], S, k, hk, hl => by
    obtain ⟨k, rfl⟩ : ∃ m, k = m + 1 := ⟨k - 1, by omega⟩
    rw [slices_insertionSortCmpFunc_rggcregionapart1.l0, if_neg (by simp), List.append_nil]; rfl
  | x :: X, S, k, hk, hl => by
    obtain ⟨k, rfl⟩ : ∃ m, k = m + 1 := ⟨k - 1, by omega⟩
    rw [List.length_cons] at hk hl
    have hw : IntKind.wrap .i64 (((S.length : Nat) : Int) + 1) = ((S.length + 1 : Nat) : Int) := by rw [w64 (by omega) (by omega)]; omega
    have e := insL_loop (K := K) (x := x) (by omega) S.length [] X S K rfl (by omega) (by simp only [List.length_nil]; omega)
    rw [List.nil_append] at e
    have e2 := ins0R_loop hK X (insR x S) k (by omega) (by rw [insR_len]; omega)
    rw [insR_len] at e2
    rw [slices_insertionSortCmpFunc_rggcregionapart1.l0, if_pos (by simp; omega), e, Option.bind_some, hw, List.length_cons, show S.length + (X.length + 1) = S.length + 1 + X.length by omega, e2]
    rfl

/-- No more than nineteen, sorted. -/
theorem sortR_is {K : Nat} {X : List Rg} (hK : 100000 ≤ K) (hl : X.length < 20) : slices_SortStableFunc_rcregionapart1 K X = some (srtR X []) := by
  obtain ⟨k, rfl⟩ : ∃ m, K = m + 1 := ⟨K - 1, by omega⟩
  unfold slices_SortStableFunc_rcregionapart1 slices_stableCmpFunc_rgcregionapart1 slices_insertionSortCmpFunc_rggcregionapart1
  rw [slices_stableCmpFunc_rgcregionapart1.l0, if_neg (by simp; omega), Option.bind_some]
  simp only [show IntKind.wrap .i64 ((0 : Int) + 1) = 1 by decide]
  cases X with
  | nil =>
    rw [slices_insertionSortCmpFunc_rggcregionapart1.l0, if_neg (by simp), Option.bind_some, slices_stableCmpFunc_rgcregionapart1.l1, if_neg (by simp), Option.bind_some]
    rfl
  | cons x X =>
    rw [List.length_cons] at hl
    have e := ins0R_loop (K := k + 1) hK X [x] (k + 1) (by omega) (by simp only [List.length_singleton]; omega)
    simp only [List.length_singleton, List.singleton_append] at e
    rw [show ((1 + X.length : Nat) : Int) = (((x :: X).length : Nat) : Int) by rw [List.length_cons]; omega, show ((1 : Nat) : Int) = 1 from rfl] at e
    rw [e, Option.bind_some, slices_stableCmpFunc_rgcregionapart1.l1, if_neg (by simp; omega), Option.bind_some]
    rfl

/-! ### In order -/

def leR (a b : Rg) : Prop := ltR b a = false

theorem leR_trans {a b c : Rg} (h1 : leR a b) (h2 : leR b c) : leR a c := by
  unfold leR ltR at *
  rw [decide_eq_false_iff_not] at *
  omega

theorem ltR_le {a b : Rg} (h : ltR a b = true) : leR a b := by
  unfold leR ltR at *
  rw [decide_eq_true_eq] at h
  rw [decide_eq_false_iff_not]
  omega

theorem leR_lo {a b : Rg} (h : leR a b) : loR a ≤ loR b := by
  unfold leR ltR at h
  rw [decide_eq_false_iff_not] at h
  omega

theorem insR_srt {x : Rg} : ∀ (n : Nat) (S : List Rg), S.length = n → S.Pairwise leR → (insR x S).Pairwise leR
  | 0, S, hn, hs => by
    have : S = [] := List.eq_nil_of_length_eq_zero hn
    subst this
    exact List.pairwise_singleton _ _
  | n + 1, S, hn, hs => by
    obtain ⟨S', z, rfl⟩ := split_last (l := S) (by intro e; rw [e] at hn; simp at hn)
    rw [List.length_append, List.length_singleton] at hn
    have hs' := List.pairwise_append.1 hs
    rw [insR_snoc]
    cases hlt : ltR x z with
    | true =>
      rw [if_pos rfl]
      refine List.pairwise_append.2 ⟨insR_srt n S' (by omega) hs'.1, List.pairwise_singleton _ _, fun a ha b hb => ?_⟩
      rw [List.mem_singleton.1 hb]
      rcases List.mem_cons.1 ((insR_perm x S').mem_iff.1 ha) with rfl | ha
      · exact ltR_le hlt
      · exact hs'.2.2 a ha z (by simp)
    | false =>
      rw [if_neg (by simp)]
      refine List.pairwise_append.2 ⟨hs, List.pairwise_singleton _ _, fun a ha b hb => ?_⟩
      rw [List.mem_singleton.1 hb]
      rcases List.mem_append.1 ha with ha | ha
      · exact leR_trans (hs'.2.2 a ha z (by simp)) hlt
      · rw [List.mem_singleton.1 ha]; exact hlt

theorem srtR_srt : ∀ {X S : List Rg}, S.Pairwise leR → (srtR X S).Pairwise leR
  | [], S, h => h
  | x :: X, S, h => srtR_srt (X := X) (insR_srt S.length S rfl h)

/-- Two that touch, as one. -/
def mgR (c x : Rg) : Rg := if c.2 < c.1 then (max (hiR x) (hiR c), loR c) else (loR c, max (hiR x) (hiR c))

def jn : Rg → List Rg → List Rg
  | c, [] => [c]
  | c, x :: l => if loR x > hiR c then c :: jn x l else jn (mgR c x) l

def jnR : List Rg → List Rg
  | [] => []
  | x :: l => jn x l

theorem mg_lo {c x : Rg} : loR (mgR c x) = loR c := by
  have := lo_hi c
  unfold mgR
  split <;> (unfold loR hiR at *; simp only; omega)

theorem mg_hi {c x : Rg} : hiR (mgR c x) = max (hiR x) (hiR c) := by
  have := lo_hi c
  unfold mgR
  split <;> (unfold loR hiR at *; simp only; omega)

theorem touchR_is {K : Nat} {c x : Rg} : region_apart_2 K c.1 c.2 x.1 x.2 = some (decide (hiR c ≥ loR x ∧ hiR x ≥ loR c)) := by
  unfold region_apart_2 interval_Touch
  rw [spanR_is, Option.bind_some, spanR_is, Option.bind_some]
  simp only
  by_cases h : hiR c ≥ loR x
  · rw [if_pos (by simpa using h), Option.bind_some]; congr 1; rw [decide_eq_decide]; omega
  · rw [if_neg (by simpa using h), Option.bind_some]; congr 1; symm; rw [decide_eq_false_iff_not]; omega

theorem mergeR_is {K : Nat} {c x : Rg} (h : loR c ≤ loR x) : region_joined K c.1 c.2 x.1 x.2 = some (mgR c x) := by
  unfold region_joined interval_Join mgR
  rw [spanR_is, Option.bind_some, spanR_is, Option.bind_some]
  simp only [mn2_is, mx2_is, Option.bind_some, decide_eq_true_eq]
  rw [show min (loR c) (loR x) = loR c by omega, Int.max_comm]
  split <;> rfl

theorem fold_loop {K : Nat} {l : List Rg} (hl : l.length ≤ 10000) : ∀ (rest : List Rg) (j k : Nat) (O : List Rg) (c : Rg), l.drop j = rest → rest.length < k → O.length + 1 ≤ j → (∀ x ∈ rest, loR c ≤ loR x) → rest.Pairwise (fun a b => loR a ≤ loR b) →
    interval_Folded_rcregionapart2cregionjoined.l0 K l k (O ++ [c]) (j : Int) = some (O ++ jn c rest)
  | [], j, k, O, c, hd, hk, hO, _, _ => by
    obtain ⟨k, rfl⟩ : ∃ m, k = m + 1 := ⟨k - 1, by omega⟩
    have := drop_nil hd
    rw [interval_Folded_rcregionapart2cregionjoined.l0, if_neg (by simp; omega)]; rfl
  | x :: rest, j, k, O, c, hd, hk, hO, hc1, hc2 => by
    obtain ⟨k, rfl⟩ : ∃ m, k = m + 1 := ⟨k - 1, by omega⟩
    obtain ⟨hj, hx, hd'⟩ := drop_cons hd rg0
    rw [List.length_cons] at hk
    rw [List.pairwise_cons] at hc2
    have hcx := hc1 x (by simp)
    have hlx := lo_hi x
    have hw : IntKind.wrap .i64 ((j : Int) + 1) = ((j + 1 : Nat) : Int) := by rw [w64 (by omega) (by omega)]; omega
    have hol : (O ++ [c]).length = O.length + 1 := by simp
    have hw2 : IntKind.wrap .i64 ((((O ++ [c]).length : Nat) : Int) - 1) = (O.length : Int) := by rw [w64 (by omega) (by omega)]; omega
    have g : (O ++ [c]).getD O.length rg0 = c := get_mid rfl
    have hc : (0 : Int) ≤ (O.length : Int) ∧ (O.length : Int) < (((O ++ [c]).length : Nat) : Int) := by omega
    have st : ∀ v : Rg, (O ++ [c]).set O.length v = O ++ [v] := fun v => set_mid rfl
    rw [interval_Folded_rcregionapart2cregionjoined.l0, if_pos (by simp; omega)]
    simp only [hw2, Int.toNat_natCast, hx, hw, touchR_is, mergeR_is hcx, Option.bind_some, g, if_pos hc, st]
    rw [if_pos (by omega), if_pos (by rw [decide_eq_true_eq]; omega), Option.bind_some]
    simp only [decide_eq_true_eq]
    rw [jn]
    by_cases h : loR x > hiR c
    · rw [if_neg (by omega), if_pos h, if_pos (by simp only [List.length_singleton]; omega)]
      have e := fold_loop (K := K) hl rest (j + 1) k (O ++ [c]) x hd' (by omega) (by omega) hc2.1 hc2.2
      rw [e]; simp
    · rw [if_pos (by omega), if_neg h]
      exact fold_loop (K := K) hl rest (j + 1) k O (mgR c x) hd' (by omega) (by omega) (fun y hy => by rw [mg_lo]; exact hc1 y (by simp [hy])) hc2.2

theorem apart_is {K : Nat} {l : List Rg} (hK : 100000 ≤ K) (hl : l.length < 20) : region_apart K l = some (jnR (srtR l [])) := by
  unfold region_apart slices_Clone
  rw [if_pos (by simp; omega), Option.bind_some, List.nil_append, sortR_is hK hl, Option.bind_some]
  have hlen : (srtR l []).length = l.length := by rw [srtR_perm.length_eq, List.append_nil]
  have hs : (srtR l []).Pairwise (fun a b => loR a ≤ loR b) := (srtR_srt (X := l) List.Pairwise.nil).imp leR_lo
  unfold interval_Folded_rcregionapart2cregionjoined
  obtain ⟨k, rfl⟩ : ∃ m, K = m + 1 := ⟨K - 1, by omega⟩
  cases hS : srtR l [] with
  | nil => rw [interval_Folded_rcregionapart2cregionjoined.l0, if_neg (by simp)]; rfl
  | cons x S =>
    rw [hS] at hlen hs
    rw [List.length_cons] at hlen
    rw [List.pairwise_cons] at hs
    have e2 := fold_loop (K := k + 1) (l := x :: S) (by rw [List.length_cons]; omega) S 1 k [] x rfl (by omega) (by simp) hs.1 hs.2
    rw [List.nil_append, List.nil_append] at e2
    rw [interval_Folded_rcregionapart2cregionjoined.l0, if_pos (by simp), if_pos (by simp), if_neg (by decide), Option.bind_some, if_neg (by simp)]
    simp only [show Int.toNat 0 = 0 from rfl, List.getD_cons_zero]
    rw [if_pos (by simp), show IntKind.wrap .i64 ((0 : Int) + 1) = ((1 : Nat) : Int) by decide]
    rw [show ([] : List Rg) ++ [(x.1, x.2)] = [x] from rfl, e2]
    rfl

theorem jn_len : ∀ {l : List Rg} {c : Rg}, (jn c l).length ≤ l.length + 1
  | [], c => by simp [jn]
  | x :: l, c => by
    rw [jn]
    have h1 := jn_len (l := l) (c := x)
    have h2 := jn_len (l := l) (c := mgR c x)
    split
    · rw [List.length_cons, List.length_cons]; omega
    · rw [List.length_cons]; omega

theorem jnR_len {l : List Rg} : (jnR l).length ≤ l.length := by
  cases l with
  | nil => exact Nat.le_refl _
  | cons x l => exact jn_len

theorem uedge_is {K : Nat} {s : ByteArray} {p : Int} (hK : s.size + 10 ≤ K) (hs : s.size ≤ 1000000) : utf_IsEdge K s p = some (isE s p) := by
  unfold utf_IsEdge isE
  have hb := bt_ok (s := s) (i := p)
  by_cases h0 : 0 ≤ p
  · rw [if_pos (by simpa using h0)]
    by_cases h1 : p ≤ s.size
    · rw [if_pos (by simpa using h1), decide_eq_true ⟨h0, h1⟩, Bool.true_and, uvalid_is hK (by omega)]
      by_cases h2 : p = s.size
      · rw [if_pos (by simpa using h2), Option.bind_some, decide_eq_true h2, Bool.true_or, Bool.and_true]
      · rw [if_neg (by simpa using h2), and_192 hb.1 hb.2, decide_eq_false h2, Bool.false_or, Option.bind_some]
        have hr : 0 ≤ p ∧ p < (s.size : Int) := ⟨h0, by omega⟩
        simp only [if_pos hr]
        by_cases hc : cont (bt s p)
        · rw [decide_eq_true hc, if_neg (by simp)]; simp
        · rw [decide_eq_false hc, if_pos (by simp)]; simp
    · rw [if_neg (by simpa using h1), decide_eq_false (by omega), Bool.false_and]
  · rw [if_neg (by simpa using h0), decide_eq_false (by omega), Bool.false_and]

/-- Within so many places. -/
def inR (n : Int) (x : Rg) : Bool := decide (0 ≤ loR x ∧ hiR x ≤ n)

/-- At edges of code points. -/
def edR (s : ByteArray) (x : Rg) : Bool := isE s x.1 && isE s x.2

theorem ivIs_is {K : Nat} {x : Rg} {n : Int} : interval_Is K (loR x) (hiR x) n = some (inR n x) := by
  have := lo_hi x
  unfold interval_Is inR
  by_cases h : loR x ≥ 0
  · rw [if_pos (by simpa using h), if_pos (by simpa using this)]; congr 1; rw [decide_eq_decide]; omega
  · rw [if_neg (by simpa using h)]; congr 1; symm; rw [decide_eq_false_iff_not]; omega

theorem evI_one {K : Nat} {x : Rg} {s : ByteArray} : region_every_1_sggb_7e816 K x.1 x.2 s = some (!inR s.size x) := by
  unfold region_every_1_sggb_7e816 region_inside_1_sggb_5389a
  rw [spanR_is, Option.bind_some]
  simp only [ivIs_is, Option.bind_some]

theorem evI_loop {K : Nat} {l : List Rg} {s : ByteArray} (hl : l.length ≤ 1000000) : ∀ (rest : List Rg) (j k : Nat), l.drop j = rest → rest.length < k →
    ∃ r, slices_IndexFunc_rcregionevery1_a4c35.l0 K l s k (j : Int) = some r ∧ decide (r ≥ 0) = !rest.all (inR s.size)
  | [], j, k, hd, hk => by
    obtain ⟨k, rfl⟩ : ∃ m, k = m + 1 := ⟨k - 1, by omega⟩
    have := drop_nil hd
    rw [slices_IndexFunc_rcregionevery1_a4c35.l0, if_neg (by simp; omega)]
    exact ⟨_, rfl, rfl⟩
  | x :: rest, j, k, hd, hk => by
    obtain ⟨k, rfl⟩ : ∃ m, k = m + 1 := ⟨k - 1, by omega⟩
    obtain ⟨hj, hx, hd'⟩ := drop_cons hd rg0
    rw [List.length_cons] at hk
    have hw : IntKind.wrap .i64 ((j : Int) + 1) = ((j + 1 : Nat) : Int) := by rw [w64 (by omega) (by omega)]; omega
    rw [slices_IndexFunc_rcregionevery1_a4c35.l0, if_pos (by simp; omega)]
    simp only [Int.toNat_natCast, hx, hw]
    rw [evI_one , Option.bind_some, if_pos (by omega), List.all_cons]
    cases inR s.size x with
    | true =>
      rw [if_neg (by simp)]
      exact evI_loop  hl rest (j + 1) k hd' (by omega)
    | false =>
      rw [if_pos (show (!false) = true from rfl)]
      exact ⟨_, rfl, by rw [decide_eq_true (by omega)]; rfl⟩

theorem evI_is {K : Nat} {l : List Rg} {s : ByteArray} (hl : l.length ≤ 1000000) (hk : l.length < K) : region_every_rcregioninside1_2e7a3 K l s = some (l.all (inR s.size)) := by
  unfold region_every_rcregioninside1_2e7a3 slices_ContainsFunc_rcregionevery1_a4c35 slices_IndexFunc_rcregionevery1_a4c35
  obtain ⟨r, e1, e2⟩ := evI_loop (K := K) (l := l) (s := s)  hl l 0 K rfl hk
  rw [show ((0 : Nat) : Int) = 0 from rfl] at e1
  rw [e1, Option.bind_some, Option.bind_some, e2, Bool.not_not]

theorem evE_one {K : Nat} {x : Rg} {s : ByteArray} (hK : s.size + 10 ≤ K)  (hs : s.size ≤ 1000000) : region_every_1_sggb_f969f K x.1 x.2 s = some (!edR s x) := by
  unfold region_every_1_sggb_f969f region_edges_1_sggb_5389a
  rw [uedge_is hK hs, Option.bind_some, uedge_is hK hs]
  unfold edR
  cases isE s x.1 <;> rfl

theorem evE_loop {K : Nat} {l : List Rg} {s : ByteArray} (hK : s.size + 10 ≤ K)  (hs : s.size ≤ 1000000) (hl : l.length ≤ 1000000) : ∀ (rest : List Rg) (j k : Nat), l.drop j = rest → rest.length < k →
    ∃ r, slices_IndexFunc_rcregionevery1_79479.l0 K l s k (j : Int) = some r ∧ decide (r ≥ 0) = !rest.all (edR s)
  | [], j, k, hd, hk => by
    obtain ⟨k, rfl⟩ : ∃ m, k = m + 1 := ⟨k - 1, by omega⟩
    have := drop_nil hd
    rw [slices_IndexFunc_rcregionevery1_79479.l0, if_neg (by simp; omega)]
    exact ⟨_, rfl, rfl⟩
  | x :: rest, j, k, hd, hk => by
    obtain ⟨k, rfl⟩ : ∃ m, k = m + 1 := ⟨k - 1, by omega⟩
    obtain ⟨hj, hx, hd'⟩ := drop_cons hd rg0
    rw [List.length_cons] at hk
    have hw : IntKind.wrap .i64 ((j : Int) + 1) = ((j + 1 : Nat) : Int) := by rw [w64 (by omega) (by omega)]; omega
    rw [slices_IndexFunc_rcregionevery1_79479.l0, if_pos (by simp; omega)]
    simp only [Int.toNat_natCast, hx, hw]
    rw [evE_one hK hs, Option.bind_some, if_pos (by omega), List.all_cons]
    cases edR s x with
    | true =>
      rw [if_neg (by simp)]
      exact evE_loop hK hs hl rest (j + 1) k hd' (by omega)
    | false =>
      rw [if_pos (show (!false) = true from rfl)]
      exact ⟨_, rfl, by rw [decide_eq_true (by omega)]; rfl⟩

theorem evE_is {K : Nat} {l : List Rg} {s : ByteArray} (hK : s.size + 10 ≤ K)  (hs : s.size ≤ 1000000) (hl : l.length ≤ 1000000) (hk : l.length < K) : region_every_rcregionedges1_83797 K l s = some (l.all (edR s)) := by
  unfold region_every_rcregionedges1_83797 slices_ContainsFunc_rcregionevery1_79479 slices_IndexFunc_rcregionevery1_79479
  obtain ⟨r, e1, e2⟩ := evE_loop (K := K) (l := l) (s := s) hK hs hl l 0 K rfl hk
  rw [show ((0 : Nat) : Int) = 0 from rfl] at e1
  rw [e1, Option.bind_some, Option.bind_some, e2, Bool.not_not]

theorem evM_one {K : Nat} {x : Rg} {base : Int} {d : List El} : region_every_1_sggb_77714 K x.1 x.2 base d = some (!inR base x) := by
  unfold region_every_1_sggb_77714 region_Move_1_sggb_1a382
  rw [spanR_is, Option.bind_some]
  simp only [ivIs_is, Option.bind_some]

theorem evM_loop {K : Nat} {l : List Rg} {base : Int} {d : List El} (hl : l.length ≤ 1000000) : ∀ (rest : List Rg) (j k : Nat), l.drop j = rest → rest.length < k →
    ∃ r, slices_IndexFunc_rcregionevery1_c23b8.l0 K l base d k (j : Int) = some r ∧ decide (r ≥ 0) = !rest.all (inR base)
  | [], j, k, hd, hk => by
    obtain ⟨k, rfl⟩ : ∃ m, k = m + 1 := ⟨k - 1, by omega⟩
    have := drop_nil hd
    rw [slices_IndexFunc_rcregionevery1_c23b8.l0, if_neg (by simp; omega)]
    exact ⟨_, rfl, rfl⟩
  | x :: rest, j, k, hd, hk => by
    obtain ⟨k, rfl⟩ : ∃ m, k = m + 1 := ⟨k - 1, by omega⟩
    obtain ⟨hj, hx, hd'⟩ := drop_cons hd rg0
    rw [List.length_cons] at hk
    have hw : IntKind.wrap .i64 ((j : Int) + 1) = ((j + 1 : Nat) : Int) := by rw [w64 (by omega) (by omega)]; omega
    rw [slices_IndexFunc_rcregionevery1_c23b8.l0, if_pos (by simp; omega)]
    simp only [Int.toNat_natCast, hx, hw]
    rw [evM_one , Option.bind_some, if_pos (by omega), List.all_cons]
    cases inR base x with
    | true =>
      rw [if_neg (by simp)]
      exact evM_loop  hl rest (j + 1) k hd' (by omega)
    | false =>
      rw [if_pos (show (!false) = true from rfl)]
      exact ⟨_, rfl, by rw [decide_eq_true (by omega)]; rfl⟩

theorem evM_is {K : Nat} {l : List Rg} {base : Int} {d : List El} (hl : l.length ≤ 1000000) (hk : l.length < K) : region_every_rcregionMove1_9db43 K l base d = some (l.all (inR base)) := by
  unfold region_every_rcregionMove1_9db43 slices_ContainsFunc_rcregionevery1_c23b8 slices_IndexFunc_rcregionevery1_c23b8
  obtain ⟨r, e1, e2⟩ := evM_loop (K := K) (l := l) (base := base) (d := d)  hl l 0 K rfl hk
  rw [show ((0 : Nat) : Int) = 0 from rfl] at e1
  rw [e1, Option.bind_some, Option.bind_some, e2, Bool.not_not]

def mkR (s : ByteArray) (l : List Rg) : List Rg × Int :=
  if l.length = 0 then ([], 12) else if l.length > 8 then ([], 70) else if l.all (inR s.size) = false then ([], 10) else if l.all (edR s) = false then ([], 11) else (jnR (srtR l []), 0)

theorem cntR_is {K : Nat} {l : List Rg} : region_count_r K l = some (if l.length = 0 then 12 else if l.length > 8 then 70 else 0) := by
  unfold region_count_r
  by_cases h : l.length = 0
  · rw [if_pos (by rw [beq_iff_eq]; omega), if_pos h]
  · rw [if_neg (by rw [beq_iff_eq]; omega), if_neg h]
    by_cases h2 : l.length > 8
    · rw [if_pos (by rw [decide_eq_true_eq]; omega), if_pos h2]
    · rw [if_neg (by rw [decide_eq_true_eq]; omega), if_neg h2]

theorem makeR_is {K : Nat} {l : List Rg} {s : ByteArray} (hK : 100000 ≤ K) (hs : s.size ≤ 10000) (hl : l.length ≤ 1000) : region_Make_eg K l s = some (mkR s l) := by
  unfold region_Make_eg mkR region_inside region_edges
  rw [cntR_is, Option.bind_some]
  by_cases h : l.length = 0
  · simp only [if_pos h]; rw [if_pos (by decide)]
  · simp only [if_neg h]
    by_cases h2 : l.length > 8
    · simp only [if_pos h2]; rw [if_pos (by decide)]
    · simp only [if_neg h2]
      rw [if_neg (by decide), Option.bind_some, evI_is (by omega) (by omega), Option.bind_some]
      cases h3 : l.all (inR s.size) with
      | false => rfl
      | true =>
        rw [if_neg (by simp), if_neg (by simp), Option.bind_some, evE_is (by omega) (by omega) (by omega) (by omega), Option.bind_some]
        cases h4 : l.all (edR s) with
        | false => rfl
        | true => rw [if_neg (by simp), if_neg (by simp), apart_is hK (by omega), Option.bind_some]

theorem makeRn_is {K : Nat} {s : ByteArray} : region_Make_ng K [] s = some ([], 12) := by
  unfold region_Make_ng
  rw [cntR_is, Option.bind_some]; rfl

def goR (base : Int) (d : List El) (x : Rg) : Rg := (mv base d x.1 true, mv base d x.2 true)

def mvR (base : Int) (d : List El) (l : List Rg) : List Rg × Int :=
  if isD base d = false ∨ l.length = 0 ∨ l.all (inR base) = false then ([], 12) else if l.length > 8 then ([], 70) else (jnR (srtR (l.map (goR base d)) []), 0)

theorem moveR_loop {K : Nat} {l : List Rg} {base : Int} {d : List El} (hK : 30000 ≤ K) (hl : l.length ≤ 10000) : ∀ (rest : List Rg) (j k : Nat) (out : List Rg), l.drop j = rest → rest.length < k → out.length ≤ j →
    region_Move_rsgg.l0 K l base d k out (j : Int) = some (out ++ rest.map (goR base d))
  | [], j, k, out, hd, hk, ho => by
    obtain ⟨k, rfl⟩ : ∃ m, k = m + 1 := ⟨k - 1, by omega⟩
    have := drop_nil hd
    rw [region_Move_rsgg.l0, if_neg (by simp; omega)]; simp
  | x :: rest, j, k, out, hd, hk, ho => by
    obtain ⟨k, rfl⟩ : ∃ m, k = m + 1 := ⟨k - 1, by omega⟩
    obtain ⟨hj, hx, hd'⟩ := drop_cons hd rg0
    rw [List.length_cons] at hk
    have hw : IntKind.wrap .i64 ((j : Int) + 1) = ((j + 1 : Nat) : Int) := by rw [w64 (by omega) (by omega)]; omega
    rw [region_Move_rsgg.l0, if_pos (by simp; omega), if_pos (by omega)]
    simp only [Int.toNat_natCast, hx, hw, move_is hK, Option.bind_some]
    rw [if_pos (by simp only [List.length_singleton]; omega), moveR_loop hK hl rest (j + 1) k _ hd' (by omega) (by simp; omega), List.map_cons]
    simp [goR]

theorem moveR_is {K : Nat} {l : List Rg} {base : Int} {d : List El} (hK : 100000 ≤ K) (hl : l.length ≤ 1000) : region_Move_rsgg K l base d = some (mvR base d l) := by
  unfold region_Move_rsgg mvR
  have e1 := moveR_loop (K := K) (l := l) (base := base) (d := d) (by omega) (by omega) l 0 K [] rfl (by omega) (by simp)
  rw [show ((0 : Nat) : Int) = 0 from rfl, List.nil_append] at e1
  rw [is_is (by omega), Option.bind_some, evM_is (by omega) (by omega), Option.bind_some, cntR_is]
  cases h1 : isD base d with
  | false => rfl
  | true =>
    rw [if_neg (by simp)]
    by_cases h2 : l.length = 0
    · rw [if_pos (by rw [beq_iff_eq]; omega), Option.bind_some, if_pos rfl, if_pos (.inr (.inl h2))]
    · rw [if_neg (by rw [beq_iff_eq]; omega)]
      cases h3 : l.all (inR base) with
      | false => rw [Option.bind_some, if_pos (show (!false) = true from rfl), if_pos (.inr (.inr rfl))]
      | true =>
        rw [Option.bind_some, if_neg (show ¬ (!true) = true by simp), Option.bind_some, if_neg h2, if_neg (show ¬ (true = false ∨ l.length = 0 ∨ true = false) from fun h => by rcases h with h | h | h; cases h; exact h2 h; cases h)]
        by_cases h4 : l.length > 8
        · rw [if_pos h4, if_pos (by decide), if_pos h4]
        · rw [if_neg h4, if_neg (by decide), if_neg h4, e1, Option.bind_some, apart_is hK (by rw [List.length_map]; omega), Option.bind_some]

def chR : Rg → List Rg → Bool
  | _, [] => true
  | p, x :: l => decide (hiR p < loR x) && chR x l

def isR (s : ByteArray) : List Rg → Bool
  | [] => false
  | x :: r => decide ((x :: r).length ≤ 8) && ((x :: r).all (edR s) && chR x r)

theorem edR_inR {s : ByteArray} {x : Rg} (h : edR s x = true) : inR s.size x = true := by
  unfold edR isE at h
  unfold inR loR hiR
  simp only [Bool.and_eq_true, decide_eq_true_eq] at h ⊢
  omega

theorem isR_loop {K : Nat} {l : List Rg} (hl : l.length ≤ 100000) : ∀ (rest : List Rg) (j k : Nat) (p : Rg), l.drop j = rest → rest.length < k → 0 < j → l.getD (j - 1) rg0 = p →
    region_Is_rg.l0 K l k (j : Int) = some (chR p rest)
  | [], j, k, p, hd, hk, h0, hp => by
    obtain ⟨k, rfl⟩ : ∃ m, k = m + 1 := ⟨k - 1, by omega⟩
    have := drop_nil hd
    rw [region_Is_rg.l0, if_neg (by simp; omega)]; rfl
  | x :: rest, j, k, p, hd, hk, h0, hp => by
    obtain ⟨k, rfl⟩ : ∃ m, k = m + 1 := ⟨k - 1, by omega⟩
    obtain ⟨hj, hx, hd'⟩ := drop_cons hd rg0
    rw [List.length_cons] at hk
    have hw : IntKind.wrap .i64 ((j : Int) + 1) = ((j + 1 : Nat) : Int) := by rw [w64 (by omega) (by omega)]; omega
    have hw2 : IntKind.wrap .i64 ((j : Int) - 1) = ((j - 1 : Nat) : Int) := by rw [w64 (by omega) (by omega)]; omega
    rw [region_Is_rg.l0, if_pos (by simp; omega)]
    simp only [hw, hw2, Int.toNat_natCast, hx, hp, spanR_is, Option.bind_some]
    rw [if_pos (by omega), isR_loop hl rest (j + 1) k x hd' (by omega) (by omega) (by rw [Nat.add_sub_cancel]; exact hx), chR]
    by_cases h : loR x ≤ hiR p
    · rw [if_pos (by simpa using h), decide_eq_false (by omega), Bool.false_and]
    · rw [if_neg (by simpa using h), decide_eq_true (by omega), Bool.true_and]

theorem isR_is {K : Nat} {l : List Rg} {s : ByteArray} (hK : 100000 ≤ K) (hs : s.size ≤ 10000) (hl : l.length ≤ 1000) : region_Is_rg K l s = some (isR s l) := by
  unfold region_Is_rg region_inside region_edges
  rw [evI_is (by omega) (by omega), evE_is (by omega) (by omega) (by omega) (by omega)]
  cases l with
  | nil => rfl
  | cons x r =>
    rw [if_neg (by rw [decide_eq_true_eq, List.length_cons]; omega)]
    have e := isR_loop (K := K) (l := x :: r) (by omega) r 1 K x rfl (by rw [List.length_cons] at hl; omega) (by omega) rfl
    rw [show ((1 : Nat) : Int) = 1 from rfl] at e
    rw [isR]
    by_cases h : (x :: r).length > 8
    · rw [if_pos (by rw [decide_eq_true_eq]; omega), Option.bind_some, if_pos rfl, decide_eq_false (by omega), Bool.false_and]
    · rw [if_neg (by rw [decide_eq_true_eq]; omega), Option.bind_some, Option.bind_some, Option.bind_some, Option.bind_some, decide_eq_true (by omega), Bool.true_and, e]
      cases h2 : (x :: r).all (edR s) with
      | true =>
        have h3 : (x :: r).all (inR s.size) = true := List.all_eq_true.2 fun y hy => edR_inR (List.all_eq_true.1 h2 y hy)
        rw [h3]; rfl
      | false =>
        cases (x :: r).all (inR s.size) <;> rfl

theorem same24_loop {K : Nat} {a b : List Rg} (hl : a.length = b.length) (hs : a.length < 1000000000000) : ∀ (d j k : Nat), j + d = a.length → d < k →
    palinodelaw24_same_rg.l0 K a b k (j : Int) = some (decide (a.drop j = b.drop j))
  | 0, j, k, hj, hk => by
    obtain ⟨k, rfl⟩ : ∃ m, k = m + 1 := ⟨k - 1, by omega⟩
    rw [palinodelaw24_same_rg.l0, if_neg (by simp; omega), List.drop_eq_nil_of_le (by omega), List.drop_eq_nil_of_le (by omega)]
    simp
  | d + 1, j, k, hj, hk => by
    obtain ⟨k, rfl⟩ : ∃ m, k = m + 1 := ⟨k - 1, by omega⟩
    have hw : IntKind.wrap .i64 ((j : Int) + 1) = ((j + 1 : Nat) : Int) := by rw [w64 (by omega) (by omega)]; omega
    have ha : a.drop j = a.getD j rg0 :: a.drop (j + 1) := by rw [List.drop_eq_getElem_cons (by omega)]; simp [List.getD, List.getElem?_eq_getElem (show j < a.length by omega)]
    have hb : b.drop j = b.getD j rg0 :: b.drop (j + 1) := by rw [List.drop_eq_getElem_cons (by omega)]; simp [List.getD, List.getElem?_eq_getElem (show j < b.length by omega)]
    rw [palinodelaw24_same_rg.l0, if_pos (by simp; omega), if_pos (by omega)]
    simp only [Int.toNat_natCast, hw, same24_loop hl hs d (j + 1) k (by omega) (by omega), ha, hb, List.cons.injEq]
    generalize a.getD j rg0 = x
    generalize b.getD j rg0 = y
    obtain ⟨x1, x2⟩ := x
    obtain ⟨y1, y2⟩ := y
    simp only [Prod.mk.injEq]
    by_cases h : x1 = y1 ∧ x2 = y2
    · rw [if_neg (by simp [h.1, h.2])]
      congr 1; rw [decide_eq_decide]; exact ⟨fun e => ⟨h, e⟩, fun e => e.2⟩
    · rw [if_pos (by simp only [Bool.not_eq_true', Bool.and_eq_false_iff, beq_eq_false_iff_ne, ne_eq]; exact Decidable.not_and_iff_or_not.1 h)]; congr 1; symm; rw [decide_eq_false_iff_not]; exact fun e => h e.1

theorem same24_is {K : Nat} {a b : List Rg} (hs : a.length < 1000000000000) (hK : a.length < K) : palinodelaw24_same_rg K a b = some (decide (a = b)) := by
  unfold palinodelaw24_same_rg
  by_cases h : a.length = b.length
  · rw [if_neg (by simp [h])]
    have := same24_loop (K := K) h hs a.length 0 K (by omega) hK
    simpa using this
  · rw [if_pos (by simp; omega)]
    congr 1; symm; rw [decide_eq_false_iff_not]
    intro e; exact h (by rw [e])

def txR (s : ByteArray) (x : Rg) : ByteArray := s.extract (loR x).toNat (hiR x).toNat

theorem texts_loop {K : Nat} {l : List Rg} {s : ByteArray} (hl : l.length ≤ 10000) (hi : ∀ x ∈ l, inR s.size x = true) : ∀ (rest : List Rg) (j k : Nat) (out : List ByteArray), l.drop j = rest → rest.length < k → out.length ≤ j →
    region_Texts_rg.l0 K l s k out (j : Int) = some (out ++ rest.map (txR s))
  | [], j, k, out, hd, hk, ho => by
    obtain ⟨k, rfl⟩ : ∃ m, k = m + 1 := ⟨k - 1, by omega⟩
    have := drop_nil hd
    rw [region_Texts_rg.l0, if_neg (by simp; omega)]; simp
  | x :: rest, j, k, out, hd, hk, ho => by
    obtain ⟨k, rfl⟩ : ∃ m, k = m + 1 := ⟨k - 1, by omega⟩
    obtain ⟨hj, hx, hd'⟩ := drop_cons hd rg0
    rw [List.length_cons] at hk
    have hw : IntKind.wrap .i64 ((j : Int) + 1) = ((j + 1 : Nat) : Int) := by rw [w64 (by omega) (by omega)]; omega
    have hxi := hi x (List.mem_of_mem_drop (i := j) (by rw [hd]; simp))
    unfold inR at hxi
    rw [decide_eq_true_eq] at hxi
    have := lo_hi x
    rw [region_Texts_rg.l0, if_pos (by simp; omega), if_pos (by omega)]
    simp only [Int.toNat_natCast, hx, hw, spanR_is, Option.bind_some]
    rw [if_pos (by simp only [List.length_singleton]; omega), texts_loop hl hi rest (j + 1) k _ hd' (by omega) (by simp; omega), List.map_cons]
    simp [txR]

theorem isR_parts {s : ByteArray} {l : List Rg} (h : isR s l = true) : l.length ≤ 8 ∧ l ≠ [] ∧ (∀ x ∈ l, edR s x = true) ∧ ∀ x ∈ l, inR s.size x = true := by
  cases l with
  | nil => cases h
  | cons x r =>
    rw [isR, Bool.and_eq_true, Bool.and_eq_true, decide_eq_true_eq] at h
    have h2 := List.all_eq_true.1 h.2.1
    exact ⟨h.1, by simp, h2, fun y hy => edR_inR (h2 y hy)⟩

theorem texts_is {K : Nat} {l : List Rg} {s : ByteArray} (hK : 100000 ≤ K) (hs : s.size ≤ 10000) (hl : l.length ≤ 1000) : region_Texts_rg K l s = some (if isR s l = true then l.map (txR s) else []) := by
  unfold region_Texts_rg
  rw [isR_is hK hs hl, Option.bind_some]
  cases h : isR s l with
  | false => rfl
  | true =>
    have e := texts_loop (K := K) (l := l) (s := s) (by omega) (isR_parts h).2.2.2 l 0 K [] rfl (by omega) (by simp)
    rw [show ((0 : Nat) : Int) = 0 from rfl, List.nil_append] at e
    rw [if_neg (by simp), if_pos rfl, e]

theorem mkR_len {s : ByteArray} {l : List Rg} : (mkR s l).1.length ≤ l.length := by
  unfold mkR
  split
  · simp
  · split
    · simp
    · split
      · simp
      · split
        · simp
        · simp only
          have h1 := jnR_len (l := srtR l [])
          have h2 : (srtR l []).length = l.length := by rw [srtR_perm.length_eq, List.append_nil]
          omega

theorem known24 {K : Nat} (hK : 100000 < K) : palinodelaw24_known K = some true := by
  unfold palinodelaw24_known
  have s1 : (ByteArray.mk #[97, 98, 99, 100, 101, 102]).size = 6 := rfl
  have s2 : (ByteArray.mk #[97, 98, 99]).size = 3 := rfl
  have s3 : (ByteArray.mk #[195, 169]).size = 2 := rfl
  have s4 : (ByteArray.mk #[120, 120]).size = 2 := rfl
  have a1 : region_Make_eg K [(5, 3), (1, 3)] (ByteArray.mk #[97, 98, 99, 100, 101, 102]) = some ([(1, 5)], 0) := by
    rw [makeR_is (by omega) (by omega) (by simp)]; decide
  have a3 : region_Make_eg K [(1, 0)] (ByteArray.mk #[195, 169]) = some ([], 11) := by
    rw [makeR_is (by omega) (by omega) (by simp)]; decide
  have a4 : delta_Build_gr K 6 [(1, (1, ByteArray.mk #[120, 120]))] = some (bldD 6 [(1, (1, ByteArray.mk #[120, 120]))]) := build_is (by simp) (by simp; omega) (fun x hx => by rw [List.mem_singleton.1 hx]; simp only; omega)
  have a5 : mvR (bldD 6 [(1, (1, ByteArray.mk #[120, 120]))]).1 (bldD 6 [(1, (1, ByteArray.mk #[120, 120]))]).2.1 [(1, 5)] = ([(3, 7)], 0) := by decide
  rw [a1, Option.bind_some, makeRn_is, Option.bind_some, a3, Option.bind_some, a4, Option.bind_some]
  simp only
  rw [moveR_is (by omega) (by simp), a5, Option.bind_some, texts_is (by omega) (by omega) (by simp), Option.bind_some, isR_is (by omega) (by omega) (by simp), isR_is (by omega) (by omega) (by simp)]
  simp only [str_beq]
  decide +kernel

/-- Whether a place is in one of them. -/
def covR (l : List Rg) (k : Int) : Bool := l.any fun x => decide (loR x ≤ k ∧ k < hiR x)

theorem covR_cons {x : Rg} {l : List Rg} {k : Int} : covR (x :: l) k = (decide (loR x ≤ k ∧ k < hiR x) || covR l k) := rfl

theorem covR_perm {l r : List Rg} (h : l.Perm r) (k : Int) : covR l k = covR r k := by
  unfold covR
  rw [Bool.eq_iff_iff, List.any_eq_true, List.any_eq_true]
  exact ⟨fun ⟨x, hx, h2⟩ => ⟨x, h.mem_iff.1 hx, h2⟩, fun ⟨x, hx, h2⟩ => ⟨x, h.mem_iff.2 hx, h2⟩⟩

theorem jn_cov {k : Int} : ∀ {l : List Rg} {c : Rg}, (∀ x ∈ l, loR c ≤ loR x) → l.Pairwise (fun a b => loR a ≤ loR b) → covR (jn c l) k = covR (c :: l) k
  | [], c, _, _ => rfl
  | x :: l, c, h1, h2 => by
    rw [List.pairwise_cons] at h2
    have hx := h1 x (by simp)
    have l1 := lo_hi x
    have l2 := lo_hi c
    rw [jn]
    by_cases h : loR x > hiR c
    · rw [if_pos h, covR_cons, jn_cov h2.1 h2.2]; rfl
    · rw [if_neg h, jn_cov (fun y hy => by rw [mg_lo]; exact h1 y (by simp [hy])) h2.2, covR_cons, covR_cons, covR_cons, mg_lo, mg_hi, ← Bool.or_assoc]
      congr 1
      rw [← Bool.decide_or, decide_eq_decide]; omega

theorem jn_ch : ∀ {l : List Rg} {c p : Rg}, hiR p < loR c → (∀ x ∈ l, loR c ≤ loR x) → l.Pairwise (fun a b => loR a ≤ loR b) → chR p (jn c l) = true
  | [], c, p, h, _, _ => by rw [jn, chR, chR, decide_eq_true h]; rfl
  | x :: l, c, p, h, h1, h2 => by
    rw [List.pairwise_cons] at h2
    rw [jn]
    by_cases hx : loR x > hiR c
    · rw [if_pos hx, chR, decide_eq_true h, Bool.true_and]
      exact jn_ch hx h2.1 h2.2
    · rw [if_neg hx]
      exact jn_ch (by rw [mg_lo]; exact h) (fun y hy => by rw [mg_lo]; exact h1 y (by simp [hy])) h2.2

/-- What holds of all ends holds of all ends of what is made. -/
theorem jn_all {Q : Int → Prop} : ∀ {l : List Rg} {c : Rg}, Q c.1 ∧ Q c.2 → (∀ x ∈ l, Q x.1 ∧ Q x.2) → ∀ x ∈ jn c l, Q x.1 ∧ Q x.2
  | [], c, hc, _, x, hx => by rw [jn, List.mem_singleton] at hx; rw [hx]; exact hc
  | y :: l, c, hc, hl, x, hx => by
    have hy := hl y (by simp)
    rw [jn] at hx
    by_cases h : loR y > hiR c
    · rw [if_pos h] at hx
      rcases List.mem_cons.1 hx with rfl | hx
      · exact hc
      · exact jn_all hy (fun z hz => hl z (by simp [hz])) x hx
    · rw [if_neg h] at hx
      refine jn_all (c := mgR c y) ?_ (fun z hz => hl z (by simp [hz])) x hx
      have hlo : Q (loR c) := by unfold loR; rcases Int.le_total c.1 c.2 with e | e; rw [Int.min_eq_left e]; exact hc.1; rw [Int.min_eq_right e]; exact hc.2
      have hhi : ∀ {z : Rg}, Q z.1 ∧ Q z.2 → Q (hiR z) := fun {z} hz => by unfold hiR; rcases Int.le_total z.1 z.2 with e | e; rw [Int.max_eq_right e]; exact hz.2; rw [Int.max_eq_left e]; exact hz.1
      have hmx : Q (max (hiR y) (hiR c)) := by rcases Int.le_total (hiR y) (hiR c) with e | e; rw [Int.max_eq_right e]; exact hhi hc; rw [Int.max_eq_left e]; exact hhi hy
      unfold mgR
      split
      · exact ⟨hmx, hlo⟩
      · exact ⟨hlo, hmx⟩

/-- Regions in order, none of which touches the next one. -/
def apR : List Rg → Bool
  | [] => true
  | x :: l => chR x l

theorem made_ok {l : List Rg} : apR (jnR (srtR l [])) = true ∧ (∀ k, covR (jnR (srtR l [])) k = covR l k) ∧ (jnR (srtR l [])).length ≤ l.length ∧ (l ≠ [] → jnR (srtR l []) ≠ []) ∧ ∀ {Q : Int → Prop}, (∀ x ∈ l, Q x.1 ∧ Q x.2) → ∀ x ∈ jnR (srtR l []), Q x.1 ∧ Q x.2 := by
  have hp : (srtR l []).Perm l := by have := srtR_perm (X := l) (S := []); rwa [List.append_nil] at this
  have hs : (srtR l []).Pairwise (fun a b => loR a ≤ loR b) := (srtR_srt (X := l) List.Pairwise.nil).imp leR_lo
  have hlen := hp.length_eq
  have hjl := jnR_len (l := srtR l [])
  refine ⟨?_, fun k => ?_, by omega, fun hne e => ?_, fun {Q} hQ x hx => ?_⟩
  · cases hS : srtR l [] with
    | nil => rfl
    | cons x S =>
      rw [hS, List.pairwise_cons] at hs
      have h := jn_ch (l := S) (c := x) (p := (loR x - 1, loR x - 1)) (by unfold hiR; simp only; omega) hs.1 hs.2
      show apR (jn x S) = true
      cases hj : jn x S with
      | nil => rfl
      | cons y T => rw [hj, chR, Bool.and_eq_true] at h; exact h.2
  · rw [← covR_perm hp]
    cases hS : srtR l [] with
    | nil => rfl
    | cons x S =>
      rw [hS, List.pairwise_cons] at hs
      exact jn_cov hs.1 hs.2
  · cases hS : srtR l [] with
    | nil => rw [hS] at hlen; exact hne (List.eq_nil_of_length_eq_zero (by simpa using hlen.symm))
    | cons x S =>
      rw [hS] at e
      have : ∀ (S : List Rg) (x : Rg), jn x S ≠ [] := by
        intro S
        induction S with
        | nil => intro x h; cases h
        | cons y S ih => intro x h; rw [jn] at h; split at h; cases h; exact ih _ h
      exact this S x e
  · have hQ' : ∀ x ∈ srtR l [], Q x.1 ∧ Q x.2 := fun y hy => hQ y (hp.mem_iff.1 hy)
    cases hS : srtR l [] with
    | nil => rw [hS] at hx; cases hx
    | cons y S =>
      rw [hS] at hx hQ'
      exact jn_all (hQ' y (by simp)) (fun z hz => hQ' z (by simp [hz])) x hx

theorem chR_mem : ∀ {l : List Rg} {p : Rg}, chR p l = true → ∀ x ∈ l, hiR p < loR x
  | [], _, _, x, hx => by cases hx
  | y :: l, p, h, x, hx => by
    rw [chR, Bool.and_eq_true, decide_eq_true_eq] at h
    rcases List.mem_cons.1 hx with rfl | hx
    · exact h.1
    · have := chR_mem h.2 x hx
      have := lo_hi y
      omega

theorem chR_ap {l : List Rg} {p : Rg} (h : chR p l = true) : apR l = true := by
  cases l with
  | nil => rfl
  | cons y l => rw [chR, Bool.and_eq_true] at h; exact h.2

/-- What is apart is sorted as it is. -/
theorem srtR_ap : ∀ {l S : List Rg}, apR l = true → (∀ z ∈ S, ∀ x ∈ l, hiR z < loR x) → srtR l S = S ++ l
  | [], S, _, _ => by simp [srtR]
  | x :: l, S, h, hS => by
    have e : insR x S = S ++ [x] := by
      rcases List.eq_nil_or_concat S with rfl | ⟨S', z, rfl⟩
      · rfl
      · rw [List.concat_eq_append, insR_snoc, if_neg]
        have h1 := hS z (by simp) x (by simp)
        have h2 := lo_hi z
        unfold ltR
        rw [decide_eq_true_eq]; omega
    show srtR l (insR x S) = _
    rw [e, srtR_ap (chR_ap h) fun z hz y hy => ?_, List.append_assoc]
    · rfl
    · rcases List.mem_append.1 hz with hz | hz
      · exact hS z hz y (by simp [hy])
      · rw [List.mem_singleton.1 hz]; exact chR_mem h y hy

theorem jn_ap : ∀ {l : List Rg} {c : Rg}, chR c l = true → jn c l = c :: l
  | [], _, _ => rfl
  | x :: l, c, h => by
    rw [chR, Bool.and_eq_true, decide_eq_true_eq] at h
    rw [jn, if_pos (by omega), jn_ap h.2]

theorem made_same {l : List Rg} (h : apR l = true) : jnR (srtR l []) = l := by
  rw [srtR_ap h (fun z hz => by cases hz), List.nil_append]
  cases l with
  | nil => rfl
  | cons x l => exact jn_ap h

theorem isR_of {s : ByteArray} {l : List Rg} (h1 : l ≠ []) (h2 : l.length ≤ 8) (h3 : ∀ x ∈ l, edR s x = true) (h4 : apR l = true) : isR s l = true := by
  cases l with
  | nil => exact (h1 rfl).elim
  | cons x l =>
    rw [isR, decide_eq_true h2, List.all_eq_true.2 h3, Bool.true_and, Bool.true_and]; exact h4

theorem mkR_is {s : ByteArray} {l : List Rg} (h : (mkR s l).2 = 0) : (mkR s l).1 = jnR (srtR l []) ∧ isR s (mkR s l).1 = true ∧ l.length ≤ 8 ∧ (∀ x ∈ l, inR s.size x = true) ∧ ∀ x ∈ l, edR s x = true := by
  unfold mkR at h ⊢
  by_cases h1 : l.length = 0
  · rw [if_pos h1] at h; simp at h
  rw [if_neg h1] at h ⊢
  by_cases h2 : l.length > 8
  · rw [if_pos h2] at h; simp at h
  rw [if_neg h2] at h ⊢
  by_cases h3 : l.all (inR s.size) = false
  · rw [if_pos h3] at h; simp at h
  rw [if_neg h3] at h ⊢
  by_cases h4 : l.all (edR s) = false
  · rw [if_pos h4] at h; simp at h
  rw [if_neg h4]
  obtain ⟨m1, m2, m3, m4, m5⟩ := made_ok (l := l)
  have h4' := List.all_eq_true.1 (Bool.of_not_eq_false h4)
  refine ⟨rfl, isR_of (m4 fun e => h1 (by rw [e]; rfl)) (by simp only; omega) (fun x hx => ?_) m1, by omega, List.all_eq_true.1 (Bool.of_not_eq_false h3), h4'⟩
  have := m5 (Q := fun p => isE s p = true) (fun y hy => by have := h4' y hy; unfold edR at this; rw [Bool.and_eq_true] at this; exact this) x hx
  unfold edR
  rw [this.1, this.2]; rfl

theorem edg_isE {t : ByteArray} {q : Int} (hv : uvalid t = true) (h : edg t q) : isE t q = true := by
  obtain ⟨h0, h1, h2⟩ := h
  obtain ⟨n, rfl⟩ : ∃ n : Nat, q = n := ⟨q.toNat, by omega⟩
  rw [Int.toNat_natCast] at h2
  unfold isE
  rw [decide_eq_true ⟨h0, h1⟩, hv, Bool.true_and, Bool.true_and]
  by_cases hn : n = t.size
  · rw [decide_eq_true (by omega)]; rfl
  · have hl : n < (txt t).length := by rw [txt_len]; omega
    have hr : vB ((txt t).drop n) := vB_right (by rw [List.take_append_drop]; exact vB_txt.2 hv) h2
    have hall : ∀ x ∈ (txt t).drop n, 0 ≤ x ∧ x < 256 := by
      intro x hx
      obtain ⟨c, _, rfl⟩ := List.mem_map.1 (List.mem_of_mem_drop hx)
      have := c.toNat_lt
      omega
    have h0' : 0 < (txt (ofBytes ((txt t).drop n))).length := by rw [txt_ofBytes hall, List.length_drop]; omega
    have hb := bt_is (s := ofBytes ((txt t).drop n)) h0'
    rw [Int.natCast_zero] at hb
    have : ∀ (l : List Int) (hl0 : 0 < l.length), l = (txt t).drop n → l[0] = (txt t)[n] := by
      intro l hl0 e; subst e; simp
    rw [this _ h0' (txt_ofBytes hall), ← bt_is hl] at hb
    have hsz : (ofBytes ((txt t).drop n)).size = ((txt t).drop n).length := ofBytes_size _
    have hsz2 : ((txt t).drop n).length = t.size - n := by rw [List.length_drop, txt_len]
    unfold vB uvalid at hr
    obtain ⟨m, hm⟩ : ∃ m, (ofBytes ((txt t).drop n)).size = m + 1 := ⟨(ofBytes ((txt t).drop n)).size - 1, by omega⟩
    have hu : usz (ofBytes ((txt t).drop n)) 0 ≠ 0 := by
      intro e
      rw [hm, uval, if_pos (by omega), if_pos e] at hr
      cases hr
    have hc : ¬ cont (bt t n) := by
      intro hc
      rw [← hb] at hc
      unfold cont at hc
      refine hu ?_
      unfold usz uszB
      rw [if_neg (by omega), if_neg (by omega), if_neg (by omega), if_neg (by omega), if_neg (by omega)]
    rw [decide_eq_false hc]; simp

theorem mv_edge {s : ByteArray} {p : Int} (hp : edg s p) : ∀ {l : List El} {n w to : Int} {pre : Option Bool} {A : List Int}, 0 ≤ to → isS s.size to pre l → edgL s l → (A.length : Int) = n + w → vB A → 0 ≤ n → 0 ≤ w →
    vB ((A ++ apS (txt s) l).take ((mvE p n w l).1 + (mvE p n w l).2).toNat) ∧ vB (A ++ apS (txt s) l)
  | [], n, w, to, pre, A, h0, hs, he, hl, hA, hn, hw => by
    rw [mvE, apS, List.append_nil]
    simp only
    rw [← hl, Int.toNat_natCast, List.take_length]
    exact ⟨hA, hA⟩
  | x :: r, n, w, to, pre, A, h0, hs, he, hl, hA, hn, hw => by
    rw [isS] at hs
    have her : edgL s r := fun y hy => he y (by simp [hy])
    rw [mvE, apS]
    by_cases hx : x.2.2.size = 0
    · rw [if_pos hx] at hs ⊢
      obtain ⟨⟨s1, s2, s3, s4⟩, s5⟩ := hs
      obtain ⟨e1, e2⟩ := he x (by simp) hx
      have ht : txt x.2.2 = [] := List.eq_nil_of_length_eq_zero (by rw [txt_len]; exact hx)
      rw [ht, List.append_nil]
      have hpl : (((txt s).drop x.1.toNat).take (x.2.1 - x.1).toNat).length = (x.2.1 - x.1).toNat := by rw [List.length_take, List.length_drop, txt_len]; omega
      have hpv := edg_part e1 e2 (by omega)
      have rec_ := mv_edge hp (l := r) (n := n + (w + x.2.1 - x.1)) (w := 0) (A := A ++ ((txt s).drop x.1.toNat).take (x.2.1 - x.1).toNat) (by omega) s5 her (by rw [List.length_append, hpl]; omega) (vB_app hA hpv) (by omega) (Int.le_refl 0)
      rw [List.append_assoc] at rec_
      refine ⟨?_, rec_.2⟩
      by_cases c1 : x.1 ≥ p
      · rw [if_pos c1]
        simp only
        rw [← hl, Int.toNat_natCast, List.take_left' rfl]
        exact hA
      · rw [if_neg c1]
        by_cases c2 : x.2.1 > p
        · rw [if_pos c2]
          simp only
          have hq : (n + (w + min x.2.1 p - x.1) + 0).toNat = A.length + (p - x.1).toNat := by omega
          rw [hq, List.take_append, List.take_of_length_le (by omega), Nat.add_sub_cancel_left, List.take_append_of_le_length (by rw [hpl]; omega), List.take_take, Nat.min_eq_left (by omega)]
          exact vB_app hA (edg_part e1 hp (by omega))
        · rw [if_neg c2, show min x.2.1 p = x.2.1 by omega]
          exact rec_.1
    · rw [if_neg hx] at hs ⊢
      obtain ⟨⟨s1, s2, s3, s4⟩, s5⟩ := hs
      rw [s1, s2]
      have e0 : ((txt s).drop (0 : Int).toNat).take ((0 : Int) - 0).toNat = [] := by rw [show ((0 : Int) - 0).toNat = 0 from rfl, List.take_zero]
      rw [e0, List.nil_append]
      have rec_ := mv_edge hp (l := r) (n := n) (w := w + x.2.2.size) (A := A ++ txt x.2.2) h0 s5 her (by rw [List.length_append, txt_len]; omega) (vB_app hA (vB_txt.2 s4)) hn (by omega)
      rw [List.append_assoc] at rec_
      exact rec_

theorem moves24_loop {K : Nat} {c : List El} {s : ByteArray} (hK : s.size + 10 ≤ K) (hs : s.size ≤ 1000000) (hl : c.length ≤ 100) : ∀ (rest : List El) (j k : Nat), c.drop j = rest → rest.length < k →
    palinodelaw24_RegionMoves.l0 K c s k (j : Int) = some (.inl true) ∨ palinodelaw24_RegionMoves.l0 K c s k (j : Int) = some (.inr ()) ∧ ∀ x ∈ rest, x.2.2.size ≤ 40 ∧ edg s x.1 ∧ edg s x.2.1
  | [], j, k, hd, hk => by
    obtain ⟨k, rfl⟩ : ∃ m, k = m + 1 := ⟨k - 1, by omega⟩
    have := drop_nil hd
    rw [palinodelaw24_RegionMoves.l0, if_neg (by simp; omega)]
    exact .inr ⟨rfl, fun x hx => by cases hx⟩
  | x :: rest, j, k, hd, hk => by
    obtain ⟨k, rfl⟩ : ∃ m, k = m + 1 := ⟨k - 1, by omega⟩
    obtain ⟨hj, hx, hd'⟩ := drop_cons hd ((0 : Int), ((0 : Int), ByteArray.empty))
    rw [List.length_cons] at hk
    have hw : IntKind.wrap .i64 ((j : Int) + 1) = ((j + 1 : Nat) : Int) := by rw [w64 (by omega) (by omega)]; omega
    have hb : (0 : Int) ≤ (j : Int) ∧ (j : Int) < ((c.length : Nat) : Int) := by omega
    rw [palinodelaw24_RegionMoves.l0, if_pos (by simp; omega)]
    simp only [Int.toNat_natCast, hx, hw, redge_is hK hs, Option.bind_some, if_pos hb]
    by_cases h1 : x.2.2.size > 40
    · rw [if_pos (by simp; omega), Option.bind_some, if_pos rfl]; exact .inl rfl
    · rw [if_neg (by simp; omega)]
      cases h2 : isE s x.1 with
      | false => exact .inl rfl
      | true =>
        rw [if_neg (by simp)]
        cases h3 : isE s x.2.1 with
        | false => exact .inl rfl
        | true =>
          rw [Option.bind_some, if_neg (by simp)]
          rcases moves24_loop hK hs hl rest (j + 1) k hd' (by omega) with h | ⟨h, h'⟩
          · exact .inl h
          · refine .inr ⟨h, fun y hy => ?_⟩
            rcases List.mem_cons.1 hy with rfl | hy
            · exact ⟨by omega, isE_edg h2, isE_edg h3⟩
            · exact h' y hy

theorem mv_all {n p : Int} {after : Bool} (h0 : 0 ≤ p) (h1 : p ≤ n) (hn : n ≤ 20000) : mv n (mkCopy [] 0 n) p after = p := by
  have hD := keep_D (n := n) (by omega) hn
  have e : (mvE p 0 0 (mkCopy [] 0 n)).1 = p ∧ (mvE p 0 0 (mkCopy [] 0 n)).2 = 0 := by
    rw [mkCopy_nil]
    by_cases c : 0 = n
    · rw [if_pos c]
      exact ⟨show (0 : Int) = p by omega, rfl⟩
    · rw [if_neg c, mvE, if_pos empty_size]
      by_cases c1 : 0 ≥ p
      · rw [if_pos c1]
        exact ⟨show (0 : Int) = p by omega, rfl⟩
      · rw [if_neg c1]
        by_cases c2 : n > p
        · rw [if_pos c2]
          exact ⟨show (0 : Int) + (0 + min n p - 0) = p by omega, rfl⟩
        · rw [if_neg c2]
          exact ⟨show (0 : Int) + (0 + min n p - 0) = p by omega, rfl⟩
  unfold mv
  rw [if_pos hD, show min (max p 0) n = p by omega, e.1, e.2]
  split <;> omega

theorem mvR_ok {base : Int} {d : List El} {m : List Rg} (hd : isD base d = true) (hne : m ≠ []) (hl : m.length ≤ 8) (hi : ∀ x ∈ m, inR base x = true) : mvR base d m = (jnR (srtR (m.map (goR base d)) []), 0) := by
  unfold mvR
  rw [if_neg, if_neg (by omega)]
  intro h
  rcases h with h | h | h
  · rw [hd] at h; cases h
  · exact hne (List.eq_nil_of_length_eq_zero h)
  · rw [List.all_eq_true.2 hi] at h; cases h

theorem isRb_is {K : Nat} {l : List Rg} {s : ByteArray} (hK : 100000 ≤ K) (hs : s.size ≤ 50000) (hl : l.length ≤ 1000) : region_Is_rg K l s = some (isR s l) := by
  unfold region_Is_rg region_inside region_edges
  rw [evI_is (by omega) (by omega), evE_is (by omega) (by omega) (by omega) (by omega)]
  cases l with
  | nil => rfl
  | cons x r =>
    rw [if_neg (by rw [decide_eq_true_eq, List.length_cons]; omega)]
    have e := isR_loop (K := K) (l := x :: r) (by omega) r 1 K x rfl (by rw [List.length_cons] at hl; omega) (by omega) rfl
    rw [show ((1 : Nat) : Int) = 1 from rfl] at e
    rw [isR]
    by_cases h : (x :: r).length > 8
    · rw [if_pos (by rw [decide_eq_true_eq]; omega), Option.bind_some, if_pos rfl, decide_eq_false (by omega), Bool.false_and]
    · rw [if_neg (by rw [decide_eq_true_eq]; omega), Option.bind_some, Option.bind_some, Option.bind_some, Option.bind_some, decide_eq_true (by omega), Bool.true_and, e]
      cases h2 : (x :: r).all (edR s) with
      | true =>
        have h3 : (x :: r).all (inR s.size) = true := List.all_eq_true.2 fun y hy => edR_inR (List.all_eq_true.1 h2 y hy)
        rw [h3]; rfl
      | false =>
        cases (x :: r).all (inR s.size) <;> rfl

theorem RegionMoves_pure (s : ByteArray) (l : List Rg) (c : List El) (os : Kd.ok .str s) (ol : Kd.ok (.slice (.pair (.int .i64) (.int .i64))) l) (oc : Kd.ok (.slice (.pair (.int .i64) (.pair (.int .i64) .str))) c) : ∃ K, palinodelaw24_RegionMoves K s l c = some true := by
  refine ⟨200000, ?_⟩
  clear os ol oc
  unfold palinodelaw24_RegionMoves
  rw [known24 (by omega), Option.bind_some, if_neg (by simp)]
  by_cases h1 : s.size > 150
  · rw [if_pos (by simp; omega), Option.bind_some, if_pos rfl]
  rw [if_neg (by simp; omega)]
  by_cases h2 : l.length > 8
  · rw [if_pos (by simp; omega), Option.bind_some, if_pos rfl]
  rw [if_neg (by simp; omega)]
  by_cases h3 : c.length > 8
  · rw [if_pos (by simp; omega), Option.bind_some, if_pos rfl]
  rw [if_neg (by simp; omega), rvalid_is (by omega) (by omega), Option.bind_some, Option.bind_some]
  cases hv : uvalid s with
  | false => rfl
  | true =>
    rw [if_neg (by simp)]
    have hlo := moves24_loop (K := 200000) (c := c) (s := s) (by omega) (by omega) (by omega) c 0 200000 rfl (by omega)
    rw [show ((0 : Nat) : Int) = 0 from rfl] at hlo
    rcases hlo with h | ⟨h, hc⟩
    · rw [h]; rfl
    rw [h, Option.bind_some, Sum.elim_inr, makeR_is (by omega) (by omega) (by omega), Option.bind_some, build_is (by omega) (by omega) (fun x hx => by have := (hc x hx).1; omega), Option.bind_some]
    by_cases he : (mkR s l).2 = 0
    · rw [if_neg (by simp [he])]
      by_cases hb : (bldD s.size c).2.2 = 0
      · obtain ⟨m1, m2, m3, m4, m5⟩ := mkR_is he
        obtain ⟨p1, p2, p3, p4⟩ := isR_parts m2
        obtain ⟨c1, c2, c3, c4, c5, c6, c7, c8, c9, c10⟩ := built_ok (s := txt s) hb
        have hml := mkR_len (s := s) (l := l)
        have hedg : edgL s (bldD s.size c).2.1 := by
          obtain ⟨g1, g2⟩ := bld_edg (s := s) (l := c) (acc := []) (a := 0) (fun x hx => by cases hx) edg_0 fun x hx => (hc x hx).2
          unfold bldD at hb ⊢
          split
          · intro x hx; cases hx
          · split
            · intro x hx; cases hx
            · exact edgL_copy g1 g2 (edg_end hv)
        have hS := isD_isS c7
        have hap := fun {p : Int} (hp : edg s p) => mv_edge hp (l := (bldD s.size c).2.1) (n := 0) (w := 0) (A := []) (Int.le_refl 0) hS hedg (by simp) vB_nil (Int.le_refl 0) (Int.le_refl 0)
        generalize hM : (mkR s l).1 = M at *
        have htv : uvalid (ofBytes (apS (txt s) (bldD s.size c).2.1)) = true := by
          have := (hap edg_0).2
          rw [List.nil_append] at this; exact this
        have htb : txt (ofBytes (apS (txt s) (bldD s.size c).2.1)) = apS (txt s) (bldD s.size c).2.1 := txt_ofBytes (apS_bytes s _)
        have hD := isD_ok c7
        have htl : ((apS (txt s) (bldD s.size c).2.1).length : Int) = sumK (bldD s.size c).2.1 + sumT (bldD s.size c).2.1 := by
          have hh : (cells (bldD s.size c).2.1).map (apC (txt s)) = apS (txt s) (bldD s.size c).2.1 := apC_cells hD.2.2.2.1
          rw [← hh, List.length_map, cells_len hD.2.2.2.1]
        have hmv : ∀ p : Int, isE s p = true → isE (ofBytes (apS (txt s) (bldD s.size c).2.1)) (mv s.size (bldD s.size c).2.1 p true) = true := by
          intro p hp
          have hpe := isE_edg hp
          have b := mv_bounds (a := p) c7
          refine edg_isE htv ⟨by omega, by rw [ofBytes_size]; omega, ?_⟩
          rw [htb]
          have := (hap hpe).1
          rw [List.nil_append] at this
          unfold mv
          rw [if_pos c7, if_pos rfl, show min (max p 0) (s.size : Int) = p by have := hpe.1; have := hpe.2.1; omega]
          exact this
        have hmove := mvR_ok c7 p2 p1 p4
        have hkD := keep_D (n := (s.size : Int)) (by omega) (by omega)
        have hkeep := mvR_ok hkD p2 p1 p4
        have hid : M.map (goR s.size (mkCopy [] 0 s.size)) = M := by
          have : ∀ x ∈ M, goR s.size (mkCopy [] 0 s.size) x = x := fun x hx => by
            have hxi := p4 x hx
            unfold inR loR hiR at hxi
            rw [decide_eq_true_eq] at hxi
            unfold goR
            rw [mv_all (by omega) (by omega) (by omega), mv_all (by omega) (by omega) (by omega)]
          rw [List.map_congr_left this, List.map_id']
        have hMap : apR M = true := by
          cases hMM : M with
          | nil => rfl
          | cons x r => rw [hMM, isR, Bool.and_eq_true, Bool.and_eq_true] at m2; exact m2.2.2
        rw [hid, made_same hMap] at hkeep
        obtain ⟨q1, q2, q3, q4, q5⟩ := made_ok (l := M.map (goR s.size (bldD s.size c).2.1))
        rw [List.length_map] at q3
        have hisn : isR (ofBytes (apS (txt s) (bldD s.size c).2.1)) (jnR (srtR (M.map (goR s.size (bldD s.size c).2.1)) [])) = true := by
          refine isR_of (q4 fun e => p2 (List.map_eq_nil_iff.1 e)) (by omega) (fun x hx => ?_) q1
          have := q5 (Q := fun p => isE (ofBytes (apS (txt s) (bldD s.size c).2.1)) p = true) (fun y hy => by
            obtain ⟨z, hz, rfl⟩ := List.mem_map.1 hy
            have hze := p3 z hz
            unfold edR at hze
            rw [Bool.and_eq_true] at hze
            exact ⟨hmv _ hze.1, hmv _ hze.2⟩) x hx
          unfold edR
          rw [this.1, this.2]; rfl
        rw [hb, Option.bind_some, if_neg (by simp), c6, dapply_is (by omega) (by omega), Option.bind_some, if_pos c7, if_pos rfl, moveR_is (by omega) (by omega), Option.bind_some, hmove, keepN_is (by omega) (by omega), Option.bind_some]
        simp only
        rw [moveR_is (by omega) (by omega), Option.bind_some, hkeep, if_pos (by simp), if_pos (by simp), isRb_is (by omega) (by rw [ofBytes_size]; have := hD.2; omega) (by omega), Option.bind_some, hisn, if_pos rfl, if_pos (by simp; omega), if_pos (by simp), same24_is (by simp only; omega) (by simp only; omega)]
        simp
      · rw [show ((bldD s.size c).2.2 != 0) = true by simpa using hb, Option.bind_some, if_pos rfl]
    · rw [if_pos (by simpa using he), Option.bind_some, if_pos rfl]

end Go.Pal
