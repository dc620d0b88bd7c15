/- Whatever text, places and texts: three deltas one behind the other, whichever two are put together first. -/
import Derived.Test.YtjnhbaphmhbaaaaFunComposeThree
namespace Go.Pal
open Go
set_option linter.unusedVariables false
set_option linter.unusedSimpArgs false
set_option linter.unnecessarySimpa false
theorem w64 {n : Int} (h1 : -9223372036854775808 ≤ n) (h2 : n < 9223372036854775808) : IntKind.wrap .i64 n = n := by
  simp only [IntKind.wrap, IntKind.bits, IntKind.signed]
  simp
  omega

theorem drop_cons {α : Type} {l : List α} {j : Nat} {g : α} {r : List α} (h : l.drop j = g :: r) (d : α) : j < l.length ∧ l.getD j d = g ∧ l.drop (j + 1) = r := by
  have hj : j < l.length := by
    rcases Nat.lt_or_ge j l.length with h' | h'
    · exact h'
    · rw [List.drop_eq_nil_of_le h'] at h; cases h
  rw [List.drop_eq_getElem_cons hj] at h
  obtain ⟨h1, h2⟩ := List.cons.inj h
  exact ⟨hj, by simp [List.getD, hj, h1], h2⟩

theorem drop_nil {α : Type} {l : List α} {j : Nat} (h : l.drop j = []) : l.length ≤ j := List.drop_eq_nil_iff.1 h

theorem split_last {α : Type} : ∀ {l : List α}, l ≠ [] → ∃ m x, l = m ++ [x] := by
  intro l h
  exact ⟨l.dropLast, l.getLast h, (List.dropLast_concat_getLast h).symm⟩

theorem mx2_eq (a b : Int) : mx2 a b = max a b := by unfold mx2; split <;> omega

theorem mn2_eq (a b : Int) : mn2 a b = min a b := by unfold mn2; split <;> omega

/-- The counts of e, those from f to t told anew. -/
def put (e : List Int) (f t c : Int) : List Int := e.take f.toNat ++ List.replicate (t - f).toNat c ++ e.drop t.toNat

theorem tmod_u8 {n m : Int} (h0 : 0 ≤ n) (hm : 0 < m) : 0 ≤ Int.tmod n m ∧ Int.tmod n m < m := by
  rw [Int.tmod_eq_emod_of_nonneg h0]
  exact ⟨Int.emod_nonneg _ (by omega), Int.emod_lt_of_pos _ hm⟩

/-- The place of the how-manieth that has no count. -/
def up : List Int → Int → Int → Int
  | [], _, i => i
  | c :: r, k, i => if c ≠ 0 then up r k (i + 1) else if k = 0 then i else up r (k - 1) (i + 1)

/-- Place by place through two rows of counts. -/
def thru (G : Int → Int → List Int) : List Int → List Int → List Int
  | c :: a, d :: b => G c d ++ thru G a b
  | _, _ => []

/-- A count for each two. -/
def two (F : Int → Int → Int) (a b : List Int) : List Int := thru (fun c d => [F c d]) a b

/-- A text's bytes. -/
def txt (s : ByteArray) : List Int := s.data.toList.map fun b => (b.toNat : Int)

theorem txt_len {s : ByteArray} : (txt s).length = s.size := by simp [txt]

theorem ofBytes_txt {s : ByteArray} : ofBytes (txt s) = s := by
  cases s with
  | mk d =>
    unfold ofBytes txt
    rw [List.map_map]
    have : ((fun n : Int => UInt8.ofNat n.toNat) ∘ fun b : UInt8 => (b.toNat : Int)) = id := by
      funext b; simp
    rw [this]; simp

theorem txt_extract {s : ByteArray} {i j : Nat} : txt (s.extract i j) = ((txt s).drop i).take (j - i) := by
  unfold txt
  rw [ByteArray.data_extract, Array.toList_extract, List.map_take.symm.symm]
  simp [List.extract_eq_take_drop, List.map_drop]

theorem putAt_len {α : Type} {out l : List α} {n : Nat} (h : n + l.length ≤ out.length) : (putAt out l n).length = out.length := by
  unfold putAt
  simp
  omega

theorem putAt_take {α : Type} {out l : List α} {n : Nat} (h : n + l.length ≤ out.length) : (putAt out l n).take (n + l.length) = out.take n ++ l := by
  unfold putAt
  rw [← List.append_assoc]
  have : (out.take n ++ l).length = n + l.length := by simp; omega
  rw [← this, List.take_left]

theorem txt_get {s : ByteArray} {j : Nat} (h : j < (txt s).length) (hs : j < s.size) : (txt s)[j] = (s[j].toNat : Int) := by
  have : ∀ (l : List Int) (h : j < l.length), l = s.data.toList.map (fun b => (b.toNat : Int)) → l[j] = (s[j].toNat : Int) := by
    intro l h e
    subst e
    rw [List.getElem_map, Array.getElem_toList]
    rfl
  exact this _ h rfl

theorem bt_is {s : ByteArray} {j : Nat} (h : j < (txt s).length) : bt s (j : Int) = (txt s)[j] := by
  have hs : j < s.size := by rw [← txt_len]; exact h
  rw [txt_get h hs]
  unfold bt
  simp [hs]

theorem byte_all {P : Int → Prop} (h : ∀ m : Fin 256, P ((m.val : Nat) : Int)) {c : Int} (h0 : 0 ≤ c) (h1 : c ≤ 255) : P c := by
  have := h ⟨c.toNat, by omega⟩
  simpa [Int.toNat_of_nonneg h0] using this

theorem bt_ok {s : ByteArray} {i : Int} : 0 ≤ bt s i ∧ bt s i ≤ 255 := by
  unfold bt
  have := (s[i.toNat]?.getD 0).toNat_lt
  omega

/-- A byte that goes on. -/
def cont (b : Int) : Prop := 128 ≤ b ∧ b < 192

instance (b : Int) : Decidable (cont b) := inferInstanceAs (Decidable (_ ∧ _))

theorem and_192 {b : Int} (h0 : 0 ≤ b) (h1 : b ≤ 255) : (IntKind.wrap .u8 (BitVec.toNat (BitVec.ofInt (IntKind.bits .u8) b &&& BitVec.ofInt (IntKind.bits .u8) (192 : Int))) != (128 : Int)) = !decide (cont b) :=
  byte_all (P := fun b => (IntKind.wrap .u8 (BitVec.toNat (BitVec.ofInt (IntKind.bits .u8) b &&& BitVec.ofInt (IntKind.bits .u8) (192 : Int))) != (128 : Int)) = !decide (cont b)) (by decide +kernel) h0 h1

theorem not_192 {b : Int} (h0 : 0 ≤ b) (h1 : b ≤ 255) : IntKind.wrap .u8 (BitVec.toNat (BitVec.ofInt (IntKind.bits .u8) b &&& ~~~BitVec.ofInt (IntKind.bits .u8) (192 : Int))) = b % 64 :=
  byte_all (P := fun b => IntKind.wrap .u8 (BitVec.toNat (BitVec.ofInt (IntKind.bits .u8) b &&& ~~~BitVec.ofInt (IntKind.bits .u8) (192 : Int))) = b % 64) (by decide +kernel) h0 h1

theorem not_128 {b : Int} (h0 : 0 ≤ b) (h1 : b ≤ 255) : IntKind.wrap .u8 (BitVec.toNat (BitVec.ofInt (IntKind.bits .u8) b &&& ~~~BitVec.ofInt (IntKind.bits .u8) (128 : Int))) = b % 128 :=
  byte_all (P := fun b => IntKind.wrap .u8 (BitVec.toNat (BitVec.ofInt (IntKind.bits .u8) b &&& ~~~BitVec.ofInt (IntKind.bits .u8) (128 : Int))) = b % 128) (by decide +kernel) h0 h1

theorem not_224 {b : Int} (h0 : 0 ≤ b) (h1 : b ≤ 255) : IntKind.wrap .u8 (BitVec.toNat (BitVec.ofInt (IntKind.bits .u8) b &&& ~~~BitVec.ofInt (IntKind.bits .u8) (224 : Int))) = b % 32 :=
  byte_all (P := fun b => IntKind.wrap .u8 (BitVec.toNat (BitVec.ofInt (IntKind.bits .u8) b &&& ~~~BitVec.ofInt (IntKind.bits .u8) (224 : Int))) = b % 32) (by decide +kernel) h0 h1

theorem not_240 {b : Int} (h0 : 0 ≤ b) (h1 : b ≤ 255) : IntKind.wrap .u8 (BitVec.toNat (BitVec.ofInt (IntKind.bits .u8) b &&& ~~~BitVec.ofInt (IntKind.bits .u8) (240 : Int))) = b % 16 :=
  byte_all (P := fun b => IntKind.wrap .u8 (BitVec.toNat (BitVec.ofInt (IntKind.bits .u8) b &&& ~~~BitVec.ofInt (IntKind.bits .u8) (240 : Int))) = b % 16) (by decide +kernel) h0 h1

theorem not_248 {b : Int} (h0 : 0 ≤ b) (h1 : b ≤ 255) : IntKind.wrap .u8 (BitVec.toNat (BitVec.ofInt (IntKind.bits .u8) b &&& ~~~BitVec.ofInt (IntKind.bits .u8) (248 : Int))) = b % 8 :=
  byte_all (P := fun b => IntKind.wrap .u8 (BitVec.toNat (BitVec.ofInt (IntKind.bits .u8) b &&& ~~~BitVec.ofInt (IntKind.bits .u8) (248 : Int))) = b % 8) (by decide +kernel) h0 h1

theorem is_128 {b : Int} (h0 : 0 ≤ b) (h1 : b ≤ 255) : (IntKind.wrap .u8 (BitVec.toNat (BitVec.ofInt (IntKind.bits .u8) b &&& BitVec.ofInt (IntKind.bits .u8) (128 : Int))) == (0 : Int)) = decide (b < 128) :=
  byte_all (P := fun b => (IntKind.wrap .u8 (BitVec.toNat (BitVec.ofInt (IntKind.bits .u8) b &&& BitVec.ofInt (IntKind.bits .u8) (128 : Int))) == (0 : Int)) = decide (b < 128)) (by decide +kernel) h0 h1

theorem is_224 {b : Int} (h0 : 0 ≤ b) (h1 : b ≤ 255) : (IntKind.wrap .u8 (BitVec.toNat (BitVec.ofInt (IntKind.bits .u8) b &&& BitVec.ofInt (IntKind.bits .u8) (224 : Int))) == (192 : Int)) = decide (192 ≤ b ∧ b < 224) :=
  byte_all (P := fun b => (IntKind.wrap .u8 (BitVec.toNat (BitVec.ofInt (IntKind.bits .u8) b &&& BitVec.ofInt (IntKind.bits .u8) (224 : Int))) == (192 : Int)) = decide (192 ≤ b ∧ b < 224)) (by decide +kernel) h0 h1

theorem is_240 {b : Int} (h0 : 0 ≤ b) (h1 : b ≤ 255) : (IntKind.wrap .u8 (BitVec.toNat (BitVec.ofInt (IntKind.bits .u8) b &&& BitVec.ofInt (IntKind.bits .u8) (240 : Int))) == (224 : Int)) = decide (224 ≤ b ∧ b < 240) :=
  byte_all (P := fun b => (IntKind.wrap .u8 (BitVec.toNat (BitVec.ofInt (IntKind.bits .u8) b &&& BitVec.ofInt (IntKind.bits .u8) (240 : Int))) == (224 : Int)) = decide (224 ≤ b ∧ b < 240)) (by decide +kernel) h0 h1

theorem is_248 {b : Int} (h0 : 0 ≤ b) (h1 : b ≤ 255) : (IntKind.wrap .u8 (BitVec.toNat (BitVec.ofInt (IntKind.bits .u8) b &&& BitVec.ofInt (IntKind.bits .u8) (248 : Int))) == (240 : Int)) = decide (240 ≤ b ∧ b < 248) :=
  byte_all (P := fun b => (IntKind.wrap .u8 (BitVec.toNat (BitVec.ofInt (IntKind.bits .u8) b &&& BitVec.ofInt (IntKind.bits .u8) (248 : Int))) == (240 : Int)) = decide (240 ≤ b ∧ b < 248)) (by decide +kernel) h0 h1

theorem and_63 {b : Int} (h0 : 0 ≤ b) (h1 : b ≤ 255) : IntKind.wrap .i64 (BitVec.toNat (BitVec.ofInt (IntKind.bits .i64) b &&& BitVec.ofInt (IntKind.bits .i64) (63 : Int))) = b % 64 :=
  byte_all (P := fun b => IntKind.wrap .i64 (BitVec.toNat (BitVec.ofInt (IntKind.bits .i64) b &&& BitVec.ofInt (IntKind.bits .i64) (63 : Int))) = b % 64) (by decide +kernel) h0 h1

theorem and_31 {b : Int} (h0 : 0 ≤ b) (h1 : b ≤ 255) : IntKind.wrap .i64 (BitVec.toNat (BitVec.ofInt (IntKind.bits .i64) b &&& BitVec.ofInt (IntKind.bits .i64) (31 : Int))) = b % 32 :=
  byte_all (P := fun b => IntKind.wrap .i64 (BitVec.toNat (BitVec.ofInt (IntKind.bits .i64) b &&& BitVec.ofInt (IntKind.bits .i64) (31 : Int))) = b % 32) (by decide +kernel) h0 h1

theorem and_15 {b : Int} (h0 : 0 ≤ b) (h1 : b ≤ 255) : IntKind.wrap .i64 (BitVec.toNat (BitVec.ofInt (IntKind.bits .i64) b &&& BitVec.ofInt (IntKind.bits .i64) (15 : Int))) = b % 16 :=
  byte_all (P := fun b => IntKind.wrap .i64 (BitVec.toNat (BitVec.ofInt (IntKind.bits .i64) b &&& BitVec.ofInt (IntKind.bits .i64) (15 : Int))) = b % 16) (by decide +kernel) h0 h1

theorem and_7 {b : Int} (h0 : 0 ≤ b) (h1 : b ≤ 255) : IntKind.wrap .i64 (BitVec.toNat (BitVec.ofInt (IntKind.bits .i64) b &&& BitVec.ofInt (IntKind.bits .i64) (7 : Int))) = b % 8 :=
  byte_all (P := fun b => IntKind.wrap .i64 (BitVec.toNat (BitVec.ofInt (IntKind.bits .i64) b &&& BitVec.ofInt (IntKind.bits .i64) (7 : Int))) = b % 8) (by decide +kernel) h0 h1

theorem div_64 {b : Int} (h0 : 0 ≤ b) (h1 : b ≤ 255) : (Int.fdiv b 64 != 2) = !decide (cont b) :=
  byte_all (P := fun b => (Int.fdiv b 64 != 2) = !decide (cont b)) (by decide +kernel) h0 h1

theorem or_lo {r x : Nat} (hx : x < 64) : (r * 64) ||| x = r * 64 + x := by
  have := Nat.two_pow_add_eq_or_of_lt (i := 6) hx r
  rw [Nat.mul_comm] at this
  exact this.symm

theorem w32 {n : Int} (h1 : -2147483648 ≤ n) (h2 : n < 2147483648) : IntKind.wrap .i32 n = n := by
  simp only [IntKind.wrap, IntKind.bits, IntKind.signed]
  simp
  omega

theorem or_32 {r x : Int} (h0 : 0 ≤ r) (h1 : r < 1048576) (h2 : 0 ≤ x) (h3 : x < 64) : IntKind.wrap .i32 (BitVec.toNat (BitVec.ofInt (IntKind.bits .i32) (IntKind.wrap .i32 (r * (64 : Int))) ||| BitVec.ofInt (IntKind.bits .i32) (IntKind.wrap .i32 x))) = r * 64 + x := by
  rw [w32 (n := r * 64) (by omega) (by omega), w32 (n := x) (by omega) (by omega)]
  obtain ⟨a, rfl⟩ : ∃ a : Nat, r = a := ⟨r.toNat, by omega⟩
  obtain ⟨b, rfl⟩ : ∃ b : Nat, x = b := ⟨x.toNat, by omega⟩
  have e1 : (BitVec.ofInt (IntKind.bits .i32) ((a : Int) * 64) ||| BitVec.ofInt (IntKind.bits .i32) (b : Int)).toNat = a * 64 + b := by
    rw [BitVec.toNat_or, BitVec.toNat_ofInt, BitVec.toNat_ofInt]
    have h4 : ((a : Int) * 64 % ((2 ^ IntKind.bits .i32 : Nat) : Int)).toNat = a * 64 := by
      have : IntKind.bits .i32 = 32 := rfl
      rw [this]; omega
    have h5 : ((b : Int) % ((2 ^ IntKind.bits .i32 : Nat) : Int)).toNat = b := by
      have : IntKind.bits .i32 = 32 := rfl
      rw [this]; omega
    rw [h4, h5, or_lo (by omega)]
  rw [e1, w32 (by omega) (by omega)]
  omega

theorem or_64 {r x : Int} (h0 : 0 ≤ r) (h1 : r < 1048576) (h2 : 0 ≤ x) (h3 : x < 64) : IntKind.wrap .i64 (BitVec.toNat (BitVec.ofInt (IntKind.bits .i64) (IntKind.wrap .i64 (r * (64 : Int))) ||| BitVec.ofInt (IntKind.bits .i64) x)) = r * 64 + x := by
  rw [w64 (n := r * 64) (by omega) (by omega)]
  obtain ⟨a, rfl⟩ : ∃ a : Nat, r = a := ⟨r.toNat, by omega⟩
  obtain ⟨b, rfl⟩ : ∃ b : Nat, x = b := ⟨x.toNat, by omega⟩
  have e1 : (BitVec.ofInt (IntKind.bits .i64) ((a : Int) * 64) ||| BitVec.ofInt (IntKind.bits .i64) (b : Int)).toNat = a * 64 + b := by
    rw [BitVec.toNat_or, BitVec.toNat_ofInt, BitVec.toNat_ofInt]
    have h4 : ((a : Int) * 64 % ((2 ^ IntKind.bits .i64 : Nat) : Int)).toNat = a * 64 := by
      have : IntKind.bits .i64 = 64 := rfl
      rw [this]; omega
    have h5 : ((b : Int) % ((2 ^ IntKind.bits .i64 : Nat) : Int)).toNat = b := by
      have : IntKind.bits .i64 = 64 := rfl
      rw [this]; omega
    rw [h4, h5, or_lo (by omega)]
  rw [e1, w64 (by omega) (by omega)]
  omega

/-- How many bytes a code point has that begins with these, of so many; 0: there is none. -/
def uszB (n c d e f : Int) : Int :=
  if c < 128 then 1
  else if 192 ≤ c ∧ c < 224 then (if 2 ≤ n ∧ cont d ∧ 128 ≤ c % 32 * 64 + d % 64 then 2 else 0)
  else if 224 ≤ c ∧ c < 240 then (if 3 ≤ n ∧ cont d ∧ cont e ∧ 2048 ≤ (c % 16 * 64 + d % 64) * 64 + e % 64 ∧ ¬ (55296 ≤ (c % 16 * 64 + d % 64) * 64 + e % 64 ∧ (c % 16 * 64 + d % 64) * 64 + e % 64 < 57344) then 3 else 0)
  else if 240 ≤ c ∧ c < 248 then (if 4 ≤ n ∧ cont d ∧ cont e ∧ cont f ∧ 65536 ≤ ((c % 8 * 64 + d % 64) * 64 + e % 64) * 64 + f % 64 ∧ ((c % 8 * 64 + d % 64) * 64 + e % 64) * 64 + f % 64 ≤ 1114111 then 4 else 0)
  else 0

theorem long_end {K : Nat} {s : ByteArray} {a : Int} {n r i : Int} {k : Nat} (h : ¬ i < n) : utf_long.l0 K n a s (k + 1) r i = some (.inr r) := by
  rw [utf_long.l0, if_neg (by simpa using h)]

theorem long_bad {K : Nat} {s : ByteArray} {a : Int} (h0 : 0 ≤ a) (hs : (s.size : Int) ≤ 1000000000000) {n r i : Int} {k : Nat} (h : i < n) (hi : 0 ≤ i) (hr : a + i < s.size) (hc : ¬ cont (bt s (a + i))) : utf_long.l0 K n a s (k + 1) r i = some (.inl (0, 0)) := by
  rw [utf_long.l0, w64 (n := a + i) (by omega) (by omega), if_pos (by simpa using h), if_pos ⟨by omega, by omega⟩, and_192 bt_ok.1 bt_ok.2, if_pos (by simpa using hc)]

theorem long_go {K : Nat} {s : ByteArray} {a : Int} (h0 : 0 ≤ a) (hs : (s.size : Int) ≤ 1000000000000) {n r i : Int} {k : Nat} (h : i < n) (hi : 0 ≤ i) (hr : a + i < s.size) (hc : cont (bt s (a + i))) (r0 : 0 ≤ r) (r1 : r < 1048576) : utf_long.l0 K n a s (k + 1) r i = utf_long.l0 K n a s k (r * 64 + bt s (a + i) % 64) (i + 1) := by
  have hb := bt_ok (s := s) (i := a + i)
  rw [utf_long.l0, w64 (n := a + i) (by omega) (by omega), if_pos (by simpa using h), if_pos ⟨by omega, by omega⟩, and_192 hb.1 hb.2, if_neg (by simpa using hc), not_192 hb.1 hb.2, or_32 r0 r1 (by omega) (by omega), w64 (n := i + 1) (by omega) (by omega)]

theorem size1_bad {K : Nat} {s : ByteArray} {a : Int} (h0 : 0 ≤ a) (hs : (s.size : Int) ≤ 1000000000000) {n r i : Int} {k : Nat} (h : i < n) (hi : 0 ≤ i) (hr : a + i < s.size) (hc : ¬ cont (bt s (a + i))) : palinoderef1_Size.l0 K n a s (k + 1) r i = some (.inl 0) := by
  have hb := bt_ok (s := s) (i := a + i)
  rw [palinoderef1_Size.l0, w64 (n := a + i) (by omega) (by omega), if_pos (by simpa using h), if_pos ⟨by omega, by omega⟩, w64 (n := bt s (a + i)) (by omega) (by omega), div_64 hb.1 hb.2, if_pos (by simpa using hc)]

theorem size1_end {K : Nat} {s : ByteArray} {a : Int} {n r i : Int} {k : Nat} (h : ¬ i < n) : palinoderef1_Size.l0 K n a s (k + 1) r i = some (.inr r) := by
  rw [palinoderef1_Size.l0, if_neg (by simpa using h)]

theorem size1_go {K : Nat} {s : ByteArray} {a : Int} (h0 : 0 ≤ a) (hs : (s.size : Int) ≤ 1000000000000) {n r i : Int} {k : Nat} (h : i < n) (hi : 0 ≤ i) (hr : a + i < s.size) (hc : cont (bt s (a + i))) (r0 : 0 ≤ r) (r1 : r < 1048576) : palinoderef1_Size.l0 K n a s (k + 1) r i = palinoderef1_Size.l0 K n a s k (r * 64 + bt s (a + i) % 64) (i + 1) := by
  have hb := bt_ok (s := s) (i := a + i)
  rw [palinoderef1_Size.l0, w64 (n := a + i) (by omega) (by omega), if_pos (by simpa using h), if_pos ⟨by omega, by omega⟩, w64 (n := bt s (a + i)) (by omega) (by omega), div_64 hb.1 hb.2, if_neg (by simpa using hc), and_63 hb.1 hb.2, or_64 r0 r1 (by omega) (by omega), w64 (n := i + 1) (by omega) (by omega)]

/-- How many bytes the code point has that begins at a place. -/
def usz (s : ByteArray) (a : Int) : Int := if a < 0 ∨ a ≥ s.size then 0 else uszB (s.size - a) (bt s a) (bt s (a + 1)) (bt s (a + 2)) (bt s (a + 3))

theorem uszB_ok {n c d e f : Int} (hn : 1 ≤ n) : 0 ≤ uszB n c d e f ∧ uszB n c d e f ≤ 4 ∧ uszB n c d e f ≤ n := by
  unfold uszB
  split
  · omega
  · split
    · split <;> omega
    · split
      · split <;> omega
      · split
        · split <;> omega
        · omega

theorem usz_ok {s : ByteArray} {a : Int} : 0 ≤ usz s a ∧ usz s a ≤ 4 ∧ (0 ≤ a → a < s.size → a + usz s a ≤ s.size) := by
  unfold usz
  split
  · rename_i h; exact ⟨by omega, by omega, fun h1 h2 => by omega⟩
  · have := uszB_ok (n := s.size - a) (c := bt s a) (d := bt s (a + 1)) (e := bt s (a + 2)) (f := bt s (a + 3)) (by omega)
    exact ⟨by omega, by omega, fun h1 h2 => by omega⟩

theorem point_is {K : Nat} {r : Int} (h0 : 0 ≤ r) : utf_isPoint K r = some (decide (r ≤ 1114111 ∧ ¬ (55296 ≤ r ∧ r < 57344))) := by
  unfold utf_isPoint
  rw [if_pos (by simpa using h0)]
  by_cases h1 : r ≤ 1114111
  · rw [if_pos (by simpa using h1)]
    by_cases h2 : r < 55296
    · rw [if_pos (by simpa using h2)]
      congr 1; symm; simp; omega
    · rw [if_neg (by simpa using h2)]
      congr 1
      by_cases h3 : r > 57343
      · simp [h3]; omega
      · simp [h3]; omega
  · rw [if_neg (by simpa using h1)]
    congr 1; symm; simp; omega

/-- What is read: the code point, and its bytes. -/
def tell (n v least : Int) : Int × Int := if least ≤ v ∧ v ≤ 1114111 ∧ ¬ (55296 ≤ v ∧ v < 57344) then (v, n) else (0, 0)

theorem long_tell {K : Nat} {n v least : Int} (h0 : 0 ≤ v) : ((if decide (v < least) = true then some true else (utf_isPoint K v).bind fun r_28 => some (!r_28)).bind fun z_39 => if z_39 = true then some ((0 : Int), (0 : Int)) else some (v, n)) = some (tell n v least) := by
  unfold tell
  rw [point_is h0]
  by_cases h1 : v < least
  · rw [if_pos (by simpa using h1), Option.bind_some, if_pos rfl, if_neg (by omega)]
  · rw [if_neg (by simpa using h1), Option.bind_some, Option.bind_some]
    by_cases h2 : v ≤ 1114111 ∧ ¬ (55296 ≤ v ∧ v < 57344)
    · rw [if_neg (by simp; omega), if_pos (by omega)]
    · rw [if_pos (by simp; omega), if_neg (by omega)]

theorem long1_is {K : Nat} {s : ByteArray} {a : Int} (hK : 10 ≤ K) (h0 : 0 ≤ a) (hs : (s.size : Int) ≤ 1000000000000) (ha : a < s.size) (hc : bt s a < 128) : utf_long K s a 1 128 0 0 = some (bt s a, 1) := by
  obtain ⟨k, rfl⟩ : ∃ k, K = k + 5 := ⟨K - 5, by omega⟩
  have hb := bt_ok (s := s) (i := a)
  unfold utf_long
  rw [w64 (by omega) (by omega), if_neg (by simp; omega), if_pos ⟨h0, ha⟩, not_128 hb.1 hb.2, w32 (by omega) (by omega), long_end (by omega), Option.bind_some]
  simp only [Sum.elim_inr]
  rw [long_tell (by omega)]
  unfold tell
  rw [if_pos (by omega)]
  congr 2
  omega

theorem long2_is {K : Nat} {s : ByteArray} {a : Int} (hK : 10 ≤ K) (h0 : 0 ≤ a) (hs : (s.size : Int) ≤ 1000000000000) (ha : a < s.size) : utf_long K s a 2 224 192 128 =
    some (if 2 ≤ (s.size : Int) - a ∧ cont (bt s (a + 1)) then tell 2 (bt s a % 32 * 64 + bt s (a + 1) % 64) 128 else (0, 0)) := by
  obtain ⟨k, rfl⟩ : ∃ k, K = k + 5 := ⟨K - 5, by omega⟩
  have hb := bt_ok (s := s) (i := a)
  have hb1 := bt_ok (s := s) (i := a + 1)
  unfold utf_long
  rw [w64 (by omega) (by omega)]
  by_cases hn : (s.size : Int) - a < 2
  · rw [if_pos (by simpa using hn), if_neg (by omega)]
  · rw [if_neg (by simpa using hn), if_pos ⟨h0, ha⟩, not_224 hb.1 hb.2, w32 (by omega) (by omega)]
    by_cases c1 : cont (bt s (a + 1))
    · rw [long_go h0 hs (by omega) (by omega) (by omega) c1 (by omega) (by omega), long_end (by omega), Option.bind_some]
      simp only [Sum.elim_inr]
      rw [long_tell (by omega), if_pos ⟨by omega, c1⟩]
    · rw [long_bad h0 hs (by omega) (by omega) (by omega) c1, Option.bind_some, if_neg (fun h => c1 h.2)]
      rfl

theorem long3_is {K : Nat} {s : ByteArray} {a : Int} (hK : 10 ≤ K) (h0 : 0 ≤ a) (hs : (s.size : Int) ≤ 1000000000000) (ha : a < s.size) : utf_long K s a 3 240 224 2048 =
    some (if 3 ≤ (s.size : Int) - a ∧ cont (bt s (a + 1)) ∧ cont (bt s (a + 2)) then tell 3 ((bt s a % 16 * 64 + bt s (a + 1) % 64) * 64 + bt s (a + 2) % 64) 2048 else (0, 0)) := by
  obtain ⟨k, rfl⟩ : ∃ k, K = k + 5 := ⟨K - 5, by omega⟩
  have hb := bt_ok (s := s) (i := a)
  have hb1 := bt_ok (s := s) (i := a + 1)
  have hb2 := bt_ok (s := s) (i := a + 2)
  unfold utf_long
  rw [w64 (by omega) (by omega)]
  by_cases hn : (s.size : Int) - a < 3
  · rw [if_pos (by simpa using hn), if_neg (by omega)]
  · rw [if_neg (by simpa using hn), if_pos ⟨h0, ha⟩, not_240 hb.1 hb.2, w32 (by omega) (by omega)]
    by_cases c1 : cont (bt s (a + 1))
    · rw [long_go h0 hs (by omega) (by omega) (by omega) c1 (by omega) (by omega)]
      by_cases c2 : cont (bt s (a + 2))
      · rw [show (1 : Int) + 1 = 2 from rfl, long_go h0 hs (by omega) (by omega) (by omega) c2 (by omega) (by omega), long_end (by omega), Option.bind_some]
        simp only [Sum.elim_inr]
        rw [long_tell (by omega), if_pos ⟨by omega, c1, c2⟩]
      · rw [show (1 : Int) + 1 = 2 from rfl, long_bad h0 hs (by omega) (by omega) (by omega) c2, Option.bind_some, if_neg (fun h => c2 h.2.2)]
        rfl
    · rw [long_bad h0 hs (by omega) (by omega) (by omega) c1, Option.bind_some, if_neg (fun h => c1 h.2.1)]
      rfl

theorem long4_go {K k : Nat} {s : ByteArray} {a : Int} (h0 : 0 ≤ a) (hs : (s.size : Int) ≤ 1000000000000) (hn : ¬ (s.size : Int) - a < 4) : utf_long.l0 K 4 a s (k + 4) (bt s a % 8) 1 =
    some (if cont (bt s (a + 1)) ∧ cont (bt s (a + 2)) ∧ cont (bt s (a + 3)) then .inr (((bt s a % 8 * 64 + bt s (a + 1) % 64) * 64 + bt s (a + 2) % 64) * 64 + bt s (a + 3) % 64) else .inl (0, 0)) := by
  have hb := bt_ok (s := s) (i := a)
  have hb1 := bt_ok (s := s) (i := a + 1)
  have hb2 := bt_ok (s := s) (i := a + 2)
  have hb3 := bt_ok (s := s) (i := a + 3)
  have r1 : 0 ≤ bt s a % 8 ∧ bt s a % 8 < 8 := by omega
  have r2 : 0 ≤ bt s (a + 1) % 64 ∧ bt s (a + 1) % 64 < 64 := by omega
  have r3 : 0 ≤ bt s (a + 2) % 64 ∧ bt s (a + 2) % 64 < 64 := by omega
  by_cases c1 : cont (bt s (a + 1))
  · have g1 := long_go (K := K) h0 hs (n := 4) (r := bt s a % 8) (i := 1) (k := k + 3) (by omega) (by omega) (by omega) c1 (by omega) (by omega)
    rw [g1, show (1 : Int) + 1 = 2 from rfl]
    by_cases c2 : cont (bt s (a + 2))
    · have g2 := long_go (K := K) h0 hs (n := 4) (r := bt s a % 8 * 64 + bt s (a + 1) % 64) (i := 2) (k := k + 2) (by omega) (by omega) (by omega) c2 (by omega) (by omega)
      rw [g2, show (2 : Int) + 1 = 3 from rfl]
      by_cases c3 : cont (bt s (a + 3))
      · have g3 := long_go (K := K) h0 hs (n := 4) (r := (bt s a % 8 * 64 + bt s (a + 1) % 64) * 64 + bt s (a + 2) % 64) (i := 3) (k := k + 1) (by omega) (by omega) (by omega) c3 (by omega) (by omega)
        rw [g3, long_end (by omega), if_pos ⟨c1, c2, c3⟩]
      · have g3 := long_bad (K := K) h0 hs (n := 4) (r := (bt s a % 8 * 64 + bt s (a + 1) % 64) * 64 + bt s (a + 2) % 64) (i := 3) (k := k + 1) (by omega) (by omega) (by omega) c3
        rw [g3, if_neg (fun h => c3 h.2.2)]
    · have g2 := long_bad (K := K) h0 hs (n := 4) (r := bt s a % 8 * 64 + bt s (a + 1) % 64) (i := 2) (k := k + 2) (by omega) (by omega) (by omega) c2
      rw [g2, if_neg (fun h => c2 h.2.1)]
  · have g1 := long_bad (K := K) h0 hs (n := 4) (r := bt s a % 8) (i := 1) (k := k + 3) (by omega) (by omega) (by omega) c1
    rw [g1, if_neg (fun h => c1 h.1)]

theorem long4_is {K : Nat} {s : ByteArray} {a least : Int} (hK : 10 ≤ K) (h0 : 0 ≤ a) (hs : (s.size : Int) ≤ 1000000000000) (ha : a < s.size) : utf_long K s a 4 248 240 least =
    some (if 4 ≤ (s.size : Int) - a ∧ cont (bt s (a + 1)) ∧ cont (bt s (a + 2)) ∧ cont (bt s (a + 3)) then tell 4 (((bt s a % 8 * 64 + bt s (a + 1) % 64) * 64 + bt s (a + 2) % 64) * 64 + bt s (a + 3) % 64) least else (0, 0)) := by
  obtain ⟨k, rfl⟩ : ∃ k, K = k + 4 := ⟨K - 4, by omega⟩
  have hb := bt_ok (s := s) (i := a)
  have r0 : 0 ≤ bt s a % 8 ∧ bt s a % 8 < 8 := by omega
  have r1 : 0 ≤ bt s (a + 1) % 64 := by omega
  have r2 : 0 ≤ bt s (a + 2) % 64 := by omega
  have r3 : 0 ≤ bt s (a + 3) % 64 := by omega
  unfold utf_long
  rw [w64 (n := (s.size : Int) - a) (by omega) (by omega)]
  by_cases hn : (s.size : Int) - a < 4
  · rw [if_pos (by simpa using hn), if_neg (by omega)]
  · rw [if_neg (by simpa using hn), if_pos ⟨h0, ha⟩, not_248 hb.1 hb.2, w32 (n := bt s a % 8) (by omega) (by omega), long4_go h0 hs hn]
    by_cases c : cont (bt s (a + 1)) ∧ cont (bt s (a + 2)) ∧ cont (bt s (a + 3))
    · rw [if_pos c, Option.bind_some, if_pos ⟨by omega, c⟩]
      simp only [Sum.elim_inr]
      generalize bt s a % 8 = x0 at *
      generalize bt s (a + 1) % 64 = x1 at *
      generalize bt s (a + 2) % 64 = x2 at *
      generalize bt s (a + 3) % 64 = x3 at *
      rw [long_tell (by omega)]
    · rw [if_neg c, Option.bind_some, if_neg (fun h => c h.2)]
      simp only [Sum.elim_inl]

/-- The code point at a place, and its bytes. -/
def upt (s : ByteArray) (a : Int) : Int × Int :=
  if a < 0 ∨ a ≥ s.size then (0, 0)
  else if bt s a < 128 then (bt s a, 1)
  else if 192 ≤ bt s a ∧ bt s a < 224 then (if 2 ≤ (s.size : Int) - a ∧ cont (bt s (a + 1)) then tell 2 (bt s a % 32 * 64 + bt s (a + 1) % 64) 128 else (0, 0))
  else if 224 ≤ bt s a ∧ bt s a < 240 then (if 3 ≤ (s.size : Int) - a ∧ cont (bt s (a + 1)) ∧ cont (bt s (a + 2)) then tell 3 ((bt s a % 16 * 64 + bt s (a + 1) % 64) * 64 + bt s (a + 2) % 64) 2048 else (0, 0))
  else if 240 ≤ bt s a ∧ bt s a < 248 then (if 4 ≤ (s.size : Int) - a ∧ cont (bt s (a + 1)) ∧ cont (bt s (a + 2)) ∧ cont (bt s (a + 3)) then tell 4 (((bt s a % 8 * 64 + bt s (a + 1) % 64) * 64 + bt s (a + 2) % 64) * 64 + bt s (a + 3) % 64) 65536 else (0, 0))
  else (0, 0)

theorem tell_snd {n v least : Int} : (tell n v least).2 = if least ≤ v ∧ v ≤ 1114111 ∧ ¬ (55296 ≤ v ∧ v < 57344) then n else 0 := by
  unfold tell; split <;> rfl

theorem upt_snd {s : ByteArray} {a : Int} : (upt s a).2 = usz s a := by
  unfold upt usz uszB
  have hb := bt_ok (s := s) (i := a)
  have hb1 := bt_ok (s := s) (i := a + 1)
  have hb2 := bt_ok (s := s) (i := a + 2)
  have hb3 := bt_ok (s := s) (i := a + 3)
  by_cases h : a < 0 ∨ a ≥ s.size
  · rw [if_pos h, if_pos h]
  · rw [if_neg h, if_neg h]
    by_cases h1 : bt s a < 128
    · rw [if_pos h1, if_pos h1]
    · rw [if_neg h1, if_neg h1]
      by_cases h2 : 192 ≤ bt s a ∧ bt s a < 224
      · rw [if_pos h2, if_pos h2]
        by_cases c : 2 ≤ (s.size : Int) - a ∧ cont (bt s (a + 1))
        · rw [if_pos c, tell_snd]
          congr 1
          apply propext
          constructor
          · intro h; exact ⟨c.1, c.2, h.1⟩
          · intro h; exact ⟨h.2.2, by omega, by omega⟩
        · rw [if_neg c, if_neg (fun h => c ⟨h.1, h.2.1⟩)]
      · rw [if_neg h2, if_neg h2]
        by_cases h3 : 224 ≤ bt s a ∧ bt s a < 240
        · rw [if_pos h3, if_pos h3]
          by_cases c : 3 ≤ (s.size : Int) - a ∧ cont (bt s (a + 1)) ∧ cont (bt s (a + 2))
          · rw [if_pos c, tell_snd]
            congr 1
            apply propext
            constructor
            · intro h; exact ⟨c.1, c.2.1, c.2.2, h.1, h.2.2⟩
            · intro h; exact ⟨h.2.2.2.1, by omega, h.2.2.2.2⟩
          · rw [if_neg c, if_neg (fun h => c ⟨h.1, h.2.1, h.2.2.1⟩)]
        · rw [if_neg h3, if_neg h3]
          by_cases h4 : 240 ≤ bt s a ∧ bt s a < 248
          · rw [if_pos h4, if_pos h4]
            by_cases c : 4 ≤ (s.size : Int) - a ∧ cont (bt s (a + 1)) ∧ cont (bt s (a + 2)) ∧ cont (bt s (a + 3))
            · rw [if_pos c, tell_snd]
              congr 1
              apply propext
              constructor
              · intro h; exact ⟨c.1, c.2.1, c.2.2.1, c.2.2.2, h.1, h.2.1⟩
              · intro h; exact ⟨h.2.2.2.2.1, h.2.2.2.2.2, by omega⟩
            · rw [if_neg c, if_neg (fun h => c ⟨h.1, h.2.1, h.2.2.1, h.2.2.2.1⟩)]
          · rw [if_neg h4, if_neg h4]

theorem upt_is {K : Nat} {s : ByteArray} {a : Int} (hK : 10 ≤ K) (hs : (s.size : Int) ≤ 1000000000000) : utf_point K s a = some (upt s a) := by
  obtain ⟨k, hk⟩ : ∃ k, K = k + 5 := ⟨K - 5, by omega⟩
  have hb := bt_ok (s := s) (i := a)
  unfold utf_point upt
  by_cases h : a < 0 ∨ a ≥ s.size
  · have : (if decide (a < 0) = true then some true else some (decide (a ≥ ((s.size : Nat) : Int)))) = some true := by
      by_cases h1 : a < 0
      · rw [if_pos (by simpa using h1)]
      · rw [if_neg (by simpa using h1)]; simp; omega
    rw [this, Option.bind_some, if_pos rfl, if_pos h]
  · have : (if decide (a < 0) = true then some true else some (decide (a ≥ ((s.size : Nat) : Int)))) = some false := by
      rw [if_neg (by simp; omega)]; simp; omega
    rw [this, Option.bind_some, if_neg (by simp), if_neg h]
    unfold utf_forms
    rw [Option.bind_some]
    have hin : 0 ≤ a ∧ a < ((s.size : Nat) : Int) := ⟨by omega, by omega⟩
    have hw0 : IntKind.wrap .i64 ((0 : Int) + 1) = 1 := by decide
    have hw1 : IntKind.wrap .i64 ((1 : Int) + 1) = 2 := by decide
    have hw2 : IntKind.wrap .i64 ((2 : Int) + 1) = 3 := by decide
    have hw3 : IntKind.wrap .i64 ((3 : Int) + 1) = 4 := by decide
    rw [hk]
    simp only [utf_point.l0, if_pos hin, hw0, hw1, hw2, hw3]
    simp only [show ((0 : Int)).toNat = 0 from rfl, show ((1 : Int)).toNat = 1 from rfl, show ((2 : Int)).toNat = 2 from rfl, show ((3 : Int)).toNat = 3 from rfl, List.getD_cons_zero, List.getD_cons_succ, is_128 hb.1 hb.2, is_224 hb.1 hb.2, is_240 hb.1 hb.2, is_248 hb.1 hb.2]
    rw [← hk]
    simp only [decide_eq_true_eq]
    by_cases h1 : bt s a < 128
    · rw [if_pos (by omega), if_pos (by omega), if_pos h1, if_pos h1, long1_is hK (by omega) hs (by omega) h1]; rfl
    · rw [if_pos (by omega), if_pos (by omega), if_neg h1, if_neg h1, if_pos (by omega), if_pos (by omega)]
      by_cases h2 : 192 ≤ bt s a ∧ bt s a < 224
      · rw [if_pos h2, if_pos h2, long2_is hK (by omega) hs (by omega)]; rfl
      · rw [if_neg h2, if_neg h2, if_pos (by omega), if_pos (by omega)]
        by_cases h3 : 224 ≤ bt s a ∧ bt s a < 240
        · rw [if_pos h3, if_pos h3, long3_is hK (by omega) hs (by omega)]; rfl
        · rw [if_neg h3, if_neg h3, if_pos (by omega), if_pos (by omega)]
          by_cases h4 : 240 ≤ bt s a ∧ bt s a < 248
          · rw [if_pos h4, if_pos h4, long4_is hK (by omega) hs (by omega)]; rfl
          · rw [if_neg h4, if_neg h4, if_neg (by omega)]

theorem usize_is {K : Nat} {s : ByteArray} {a : Int} (hK : 10 ≤ K) (hs : (s.size : Int) ≤ 1000000000000) : utf_Size K s a = some (usz s a) := by
  unfold utf_Size
  rw [upt_is hK hs, Option.bind_some, upt_snd]

theorem size1_tell {n v least : Int} : ((if decide (v < least) = true then some true else if decide (v > 1114111) = true then some true else if decide (v ≥ 55296) = true then some (decide (v < 57344)) else some false).bind fun z_76 => if z_76 = true then some (0 : Int) else some n) = some (tell n v least).2 := by
  rw [tell_snd]
  by_cases h1 : v < least
  · rw [if_pos (by simpa using h1), Option.bind_some, if_pos rfl, if_neg (by omega)]
  · rw [if_neg (by simpa using h1)]
    by_cases h2 : v > 1114111
    · rw [if_pos (by simpa using h2), Option.bind_some, if_pos rfl, if_neg (by omega)]
    · rw [if_neg (by simpa using h2)]
      by_cases h3 : v ≥ 55296
      · rw [if_pos (by simpa using h3), Option.bind_some]
        by_cases h4 : v < 57344
        · rw [if_pos (by simpa using h4), if_neg (by omega)]
        · rw [if_neg (by simpa using h4), if_pos (by omega)]
      · rw [if_neg (by simpa using h3), Option.bind_some, if_neg (by simp), if_pos (by omega)]

theorem s2_go {K k : Nat} {s : ByteArray} {a r : Int} (h0 : 0 ≤ a) (hs : (s.size : Int) ≤ 1000000000000) (hn : ¬ (s.size : Int) - a < 2) (hr : 0 ≤ r ∧ r < 64) : palinoderef1_Size.l0 K 2 a s (k + 4) r 1 =
    some (if cont (bt s (a + 1)) then .inr (r * 64 + bt s (a + 1) % 64) else .inl 0) := by
  by_cases c1 : cont (bt s (a + 1))
  · have g1 := size1_go (K := K) h0 hs (n := 2) (r := r) (i := 1) (k := k + 3) (by omega) (by omega) (by omega) c1 (by omega) (by omega)
    rw [g1, size1_end (by omega), if_pos c1]
  · have g1 := size1_bad (K := K) h0 hs (n := 2) (r := r) (i := 1) (k := k + 3) (by omega) (by omega) (by omega) c1
    rw [g1, if_neg c1]

theorem s3_go {K k : Nat} {s : ByteArray} {a r : Int} (h0 : 0 ≤ a) (hs : (s.size : Int) ≤ 1000000000000) (hn : ¬ (s.size : Int) - a < 3) (hr : 0 ≤ r ∧ r < 64) : palinoderef1_Size.l0 K 3 a s (k + 4) r 1 =
    some (if cont (bt s (a + 1)) ∧ cont (bt s (a + 2)) then .inr ((r * 64 + bt s (a + 1) % 64) * 64 + bt s (a + 2) % 64) else .inl 0) := by
  have r2 : 0 ≤ bt s (a + 1) % 64 ∧ bt s (a + 1) % 64 < 64 := by omega
  by_cases c1 : cont (bt s (a + 1))
  · have g1 := size1_go (K := K) h0 hs (n := 3) (r := r) (i := 1) (k := k + 3) (by omega) (by omega) (by omega) c1 (by omega) (by omega)
    rw [g1, show (1 : Int) + 1 = 2 from rfl]
    by_cases c2 : cont (bt s (a + 2))
    · have g2 := size1_go (K := K) h0 hs (n := 3) (r := r * 64 + bt s (a + 1) % 64) (i := 2) (k := k + 2) (by omega) (by omega) (by omega) c2 (by omega) (by omega)
      rw [g2, size1_end (by omega), if_pos ⟨c1, c2⟩]
    · have g2 := size1_bad (K := K) h0 hs (n := 3) (r := r * 64 + bt s (a + 1) % 64) (i := 2) (k := k + 2) (by omega) (by omega) (by omega) c2
      rw [g2, if_neg (fun h => c2 h.2)]
  · have g1 := size1_bad (K := K) h0 hs (n := 3) (r := r) (i := 1) (k := k + 3) (by omega) (by omega) (by omega) c1
    rw [g1, if_neg (fun h => c1 h.1)]

theorem s4_go {K k : Nat} {s : ByteArray} {a r : Int} (h0 : 0 ≤ a) (hs : (s.size : Int) ≤ 1000000000000) (hn : ¬ (s.size : Int) - a < 4) (hr : 0 ≤ r ∧ r < 64) : palinoderef1_Size.l0 K 4 a s (k + 4) r 1 =
    some (if cont (bt s (a + 1)) ∧ cont (bt s (a + 2)) ∧ cont (bt s (a + 3)) then .inr (((r * 64 + bt s (a + 1) % 64) * 64 + bt s (a + 2) % 64) * 64 + bt s (a + 3) % 64) else .inl 0) := by
  have r2 : 0 ≤ bt s (a + 1) % 64 ∧ bt s (a + 1) % 64 < 64 := by omega
  have r3 : 0 ≤ bt s (a + 2) % 64 ∧ bt s (a + 2) % 64 < 64 := by omega
  by_cases c1 : cont (bt s (a + 1))
  · have g1 := size1_go (K := K) h0 hs (n := 4) (r := r) (i := 1) (k := k + 3) (by omega) (by omega) (by omega) c1 (by omega) (by omega)
    rw [g1, show (1 : Int) + 1 = 2 from rfl]
    by_cases c2 : cont (bt s (a + 2))
    · have g2 := size1_go (K := K) h0 hs (n := 4) (r := r * 64 + bt s (a + 1) % 64) (i := 2) (k := k + 2) (by omega) (by omega) (by omega) c2 (by omega) (by omega)
      rw [g2, show (2 : Int) + 1 = 3 from rfl]
      by_cases c3 : cont (bt s (a + 3))
      · have g3 := size1_go (K := K) h0 hs (n := 4) (r := (r * 64 + bt s (a + 1) % 64) * 64 + bt s (a + 2) % 64) (i := 3) (k := k + 1) (by omega) (by omega) (by omega) c3 (by omega) (by omega)
        rw [g3, size1_end (by omega), if_pos ⟨c1, c2, c3⟩]
      · have g3 := size1_bad (K := K) h0 hs (n := 4) (r := (r * 64 + bt s (a + 1) % 64) * 64 + bt s (a + 2) % 64) (i := 3) (k := k + 1) (by omega) (by omega) (by omega) c3
        rw [g3, if_neg (fun h => c3 h.2.2)]
    · have g2 := size1_bad (K := K) h0 hs (n := 4) (r := r * 64 + bt s (a + 1) % 64) (i := 2) (k := k + 2) (by omega) (by omega) (by omega) c2
      rw [g2, if_neg (fun h => c2 h.2.1)]
  · have g1 := size1_bad (K := K) h0 hs (n := 4) (r := r) (i := 1) (k := k + 3) (by omega) (by omega) (by omega) c1
    rw [g1, if_neg (fun h => c1 h.1)]

/-- A code point of more than one byte, read. -/
theorem size1_many {n r least : Int} {K : Nat} {s : ByteArray} {a : Int} {C : Prop} [Decidable C] {v : Int} (hw : IntKind.wrap .i64 ((s.size : Int) - a) = (s.size : Int) - a) (hg : ¬ (s.size : Int) - a < n → palinoderef1_Size.l0 K n a s K r 1 = some (if C then .inr v else .inl 0)) :
    (if decide (IntKind.wrap .i64 ((((ByteArray.size s) : Nat) : Int) - a) < n) = true then some (0 : Int) else (palinoderef1_Size.l0 K n a s K r 1).bind (Sum.elim (fun z_74 => some z_74) (fun z_75 => (if (decide (z_75 < least)) = true then some true else if (decide (z_75 > (1114111 : Int))) = true then some true else if (decide (z_75 ≥ (55296 : Int))) = true then some (decide (z_75 < (57344 : Int))) else some false).bind (fun z_76 => if z_76 = true then some (0 : Int) else some n)))) =
      some (if n ≤ (s.size : Int) - a ∧ C then tell n v least else (0, 0)).2 := by
  rw [hw]
  by_cases h : (s.size : Int) - a < n
  · rw [if_pos (by simpa using h), if_neg (fun h' => by omega)]
  · rw [if_neg (by simpa using h), hg h]
    by_cases c : C
    · rw [if_pos c, Option.bind_some, if_pos ⟨by omega, c⟩]
      simp only [Sum.elim_inr]
      rw [size1_tell]
    · rw [if_neg c, Option.bind_some, if_neg (fun h' => c h'.2)]
      simp only [Sum.elim_inl]

theorem rsize_is {K : Nat} {s : ByteArray} {a : Int} (hK : 10 ≤ K) (hs : (s.size : Int) ≤ 1000000000000) : palinoderef1_Size K s a = some (usz s a) := by
  obtain ⟨k, hk⟩ : ∃ k, K = k + 4 := ⟨K - 4, by omega⟩
  have hb := bt_ok (s := s) (i := a)
  rw [← upt_snd]
  unfold palinoderef1_Size upt
  by_cases h : a < 0 ∨ a ≥ s.size
  · have : (if decide (a < 0) = true then some true else some (decide (a ≥ ((s.size : Nat) : Int)))) = some true := by
      by_cases h1 : a < 0
      · rw [if_pos (by simpa using h1)]
      · rw [if_neg (by simpa using h1)]; simp; omega
    rw [this, Option.bind_some, if_pos rfl, if_pos h]
  · have : (if decide (a < 0) = true then some true else some (decide (a ≥ ((s.size : Nat) : Int)))) = some false := by
      rw [if_neg (by simp; omega)]; simp; omega
    have hw : IntKind.wrap .i64 ((s.size : Int) - a) = (s.size : Int) - a := w64 (by omega) (by omega)
    have e2 := size1_many (least := 128) (K := K) (s := s) (a := a) (n := 2) (r := bt s a % 32) hw (fun hn => by rw [hk]; exact s2_go (by omega) hs hn (by omega))
    have e3 := size1_many (least := 2048) (K := K) (s := s) (a := a) (n := 3) (r := bt s a % 16) hw (fun hn => by rw [hk]; exact s3_go (by omega) hs hn (by omega))
    have e4 := size1_many (least := 65536) (K := K) (s := s) (a := a) (n := 4) (r := bt s a % 8) hw (fun hn => by rw [hk]; exact s4_go (by omega) hs hn (by omega))
    rw [this, Option.bind_some, if_neg (by simp), if_neg h, if_pos ⟨by omega, by omega⟩, w64 (n := bt s a) (by omega) (by omega), and_31 hb.1 hb.2, and_15 hb.1 hb.2, and_7 hb.1 hb.2]
    by_cases h1 : bt s a < 128
    · rw [if_pos (by simpa using h1), if_pos h1]
    · rw [if_neg (by simpa using h1), if_neg h1]
      by_cases h2 : 192 ≤ bt s a ∧ bt s a < 224
      · rw [if_pos (by simp; omega), Option.bind_some, if_pos (by simp; omega), Option.bind_some, if_pos h2]
        simp only [Sum.elim_inr]
        exact e2
      · have c2 : (if decide (bt s a ≥ 192) = true then some (decide (bt s a < 224)) else some false) = some false := by
          by_cases g : bt s a ≥ 192
          · rw [if_pos (by simpa using g)]; simp; omega
          · rw [if_neg (by simpa using g)]
        rw [c2, Option.bind_some, if_neg (by simp), if_neg h2]
        by_cases h3 : 224 ≤ bt s a ∧ bt s a < 240
        · rw [if_pos (by simp; omega), Option.bind_some, if_pos (by simp; omega), Option.bind_some, if_pos h3]
          simp only [Sum.elim_inr]
          exact e3
        · have c3 : (if decide (bt s a ≥ 224) = true then some (decide (bt s a < 240)) else some false) = some false := by
            by_cases g : bt s a ≥ 224
            · rw [if_pos (by simpa using g)]; simp; omega
            · rw [if_neg (by simpa using g)]
          rw [c3, Option.bind_some, if_neg (by simp), if_neg h3]
          by_cases h4 : 240 ≤ bt s a ∧ bt s a < 248
          · rw [if_pos (by simp; omega), Option.bind_some, if_pos (by simp; omega), Option.bind_some, if_pos h4]
            simp only [Sum.elim_inr]
            exact e4
          · have c4 : (if decide (bt s a ≥ 240) = true then some (decide (bt s a < 248)) else some false) = some false := by
              by_cases g : bt s a ≥ 240
              · rw [if_pos (by simpa using g)]; simp; omega
              · rw [if_neg (by simpa using g)]
            rw [c4, Option.bind_some, if_neg (by simp), if_neg h4, Option.bind_some]
            simp only [Sum.elim_inl]

/-- Whether from a place on there are code points, one behind the other. -/
def uval (s : ByteArray) : Nat → Int → Bool
  | 0, _ => true
  | m + 1, a => if a < s.size then (if usz s a = 0 then false else uval s m (a + usz s a)) else true

def uvalid (s : ByteArray) : Bool := uval s s.size 0

theorem uvalid_loop {K : Nat} {s : ByteArray} (hK : 10 ≤ K) (hs : (s.size : Int) ≤ 1000000000000) : ∀ (d k m : Nat) (a : Int), 0 ≤ a → (s.size : Int) - a ≤ d → a ≤ s.size → d < k → d ≤ m → utf_Valid.l0 K s k a = some (uval s m a) := by
  intro d
  induction d with
  | zero =>
    intro k m a h0 h1 h2 hk hm
    obtain ⟨k, rfl⟩ : ∃ l, k = l + 1 := ⟨k - 1, by omega⟩
    rw [utf_Valid.l0, if_neg (by simp; omega)]
    cases m with
    | zero => rfl
    | succ m => rw [uval, if_neg (by omega)]
  | succ d ih =>
    intro k m a h0 h1 h2 hk hm
    obtain ⟨k, rfl⟩ : ∃ l, k = l + 1 := ⟨k - 1, by omega⟩
    obtain ⟨m, rfl⟩ : ∃ l, m = l + 1 := ⟨m - 1, by omega⟩
    have hu := usz_ok (s := s) (a := a)
    rw [utf_Valid.l0, uval]
    by_cases h : a < s.size
    · have hu3 := hu.2.2 h0 h
      rw [if_pos (by simpa using h), if_pos h, usize_is hK hs, Option.bind_some]
      by_cases hz : usz s a = 0
      · rw [if_pos (by simpa using hz), if_pos hz]
      · rw [if_neg (by simpa using hz), if_neg hz, w64 (by omega) (by omega)]
        exact ih k m _ (by omega) (by omega) (by omega) (by omega) (by omega)
    · rw [if_neg (by simpa using h), if_neg h]

theorem uvalid_is {K : Nat} {s : ByteArray} (hK : s.size + 10 ≤ K) (hs : (s.size : Int) ≤ 1000000000000) : utf_Valid K s = some (uvalid s) := by
  unfold utf_Valid uvalid
  exact uvalid_loop (by omega) hs s.size K s.size 0 (by omega) (by omega) (by omega) (by omega) (by omega)

theorem rvalid_loop {K : Nat} {s : ByteArray} (hK : 10 ≤ K) (hs : (s.size : Int) ≤ 1000000000000) : ∀ (d k m : Nat) (a : Int), 0 ≤ a → (s.size : Int) - a ≤ d → a ≤ s.size → d < k → d ≤ m → palinoderef1_Valid.l0 K s k a = some (uval s m a) := by
  intro d
  induction d with
  | zero =>
    intro k m a h0 h1 h2 hk hm
    obtain ⟨k, rfl⟩ : ∃ l, k = l + 1 := ⟨k - 1, by omega⟩
    rw [palinoderef1_Valid.l0, if_neg (by simp; omega)]
    cases m with
    | zero => rfl
    | succ m => rw [uval, if_neg (by omega)]
  | succ d ih =>
    intro k m a h0 h1 h2 hk hm
    obtain ⟨k, rfl⟩ : ∃ l, k = l + 1 := ⟨k - 1, by omega⟩
    obtain ⟨m, rfl⟩ : ∃ l, m = l + 1 := ⟨m - 1, by omega⟩
    have hu := usz_ok (s := s) (a := a)
    rw [palinoderef1_Valid.l0, uval]
    by_cases h : a < s.size
    · have hu3 := hu.2.2 h0 h
      rw [if_pos (by simpa using h), if_pos h, rsize_is hK hs, Option.bind_some]
      by_cases hz : usz s a = 0
      · rw [if_pos (by simpa using hz), if_pos hz]
      · rw [if_neg (by simpa using hz), if_neg hz, w64 (by omega) (by omega)]
        exact ih k m _ (by omega) (by omega) (by omega) (by omega) (by omega)
    · rw [if_neg (by simpa using h), if_neg h]

theorem rvalid_is {K : Nat} {s : ByteArray} (hK : s.size + 10 ≤ K) (hs : (s.size : Int) ≤ 1000000000000) : palinoderef1_Valid K s = some (uvalid s) := by
  unfold palinoderef1_Valid uvalid
  exact rvalid_loop (by omega) hs s.size K s.size 0 (by omega) (by omega) (by omega) (by omega) (by omega)

theorem toList_loop (s : ByteArray) : ∀ (d i : Nat) (r : List UInt8), s.size - i = d → ByteArray.toList.loop s i r = r.reverse ++ s.data.toList.drop i := by
  intro d
  induction d with
  | zero =>
    intro i r h
    unfold ByteArray.toList.loop
    rw [if_neg (by omega), List.drop_eq_nil_of_le (by have : s.data.toList.length = s.size := by simp
                                                      omega)]
    simp
  | succ d ih =>
    intro i r h
    unfold ByteArray.toList.loop
    have hl : s.data.toList.length = s.size := by simp
    have hi : i < s.data.toList.length := by omega
    rw [if_pos (by omega), ih (i + 1) _ (by omega), List.drop_eq_getElem_cons hi]
    have : s.get! i = s.data.toList[i] := by
      have h2 : i < s.data.size := by simpa using hi
      show s.data[i]! = _
      rw [getElem!_pos s.data i h2]
      simp
    rw [this]
    simp

theorem toList_eq (s : ByteArray) : ByteArray.toList s = s.data.toList := by
  unfold ByteArray.toList
  rw [toList_loop s s.size 0 [] rfl]
  simp

theorem str_beq {a b : ByteArray} : (ByteArray.toList a == ByteArray.toList b) = decide (a = b) := by
  rw [toList_eq, toList_eq]
  by_cases h : a = b
  · subst h; simp
  · have : a.data.toList ≠ b.data.toList := fun h' => h (by have := Array.toList_inj.1 h'; cases a; cases b; simp only at this; rw [this])
    rw [beq_eq_false_iff_ne.2 this]; simp [h]

theorem size_zero {a : ByteArray} : a = ⟨#[]⟩ ↔ a.size = 0 := by
  constructor
  · rintro rfl; rfl
  · intro h
    rw [← ofBytes_txt (s := a)]
    have : txt a = [] := List.eq_nil_of_length_eq_zero (by rw [txt_len]; exact h)
    rw [this]; rfl

theorem str_nil {a : ByteArray} : (ByteArray.toList a == ByteArray.toList (ByteArray.mk #[])) = decide (a.size = 0) := by
  rw [str_beq]
  exact decide_eq_decide.2 size_zero

abbrev El := Int × (Int × ByteArray)

theorem isCopy_is {K : Nat} {x1 x2 : Int} {x3 : ByteArray} : delta_IsCopy K x1 x2 x3 = some (decide (x3.size = 0)) := by
  unfold delta_IsCopy
  rw [str_nil]

theorem elem_is {K : Nat} {x1 x2 base to : Int} {x3 : ByteArray} {ahead copied : Bool} (hK : 30000 ≤ K) : delta_elem K x1 x2 x3 base to ahead copied =
    some (if x3.size = 0 then decide (to ≤ x1 ∧ (to < x1 ∨ copied = false) ∧ x1 < x2 ∧ x2 ≤ base) else decide (x1 = 0 ∧ x2 = 0 ∧ (ahead = false ∨ copied = true) ∧ x3.size ≤ 20000) && uvalid x3) := by
  unfold delta_elem
  rw [isCopy_is, Option.bind_some]
  by_cases h : x3.size = 0
  · rw [if_pos (by simpa using h), if_pos h]
    by_cases h1 : x1 ≥ to
    · rw [if_pos (by simpa using h1)]
      by_cases h2 : x1 > to
      · rw [if_pos (by simpa using h2)]
        by_cases h3 : x1 < x2
        · rw [if_pos (by simpa using h3)]
          congr 1; rw [decide_eq_decide]; omega
        · rw [if_neg (by simpa using h3)]
          congr 1; symm; rw [decide_eq_false_iff_not]; omega
      · rw [if_neg (by simpa using h2)]
        cases copied with
        | true => rw [if_neg (by simp)]; congr 1; symm; rw [decide_eq_false_iff_not]; simp; omega
        | false =>
          rw [if_pos (by simp)]
          by_cases h3 : x1 < x2
          · rw [if_pos (by simpa using h3)]
            congr 1; rw [decide_eq_decide]; simp; omega
          · rw [if_neg (by simpa using h3)]
            congr 1; symm; rw [decide_eq_false_iff_not]; omega
    · rw [if_neg (by simpa using h1)]
      congr 1; symm; rw [decide_eq_false_iff_not]; omega
  · rw [if_neg (by simpa using h), if_neg h]
    by_cases h1 : x1 = 0 ∧ x2 = 0
    · rw [if_pos (by simp [h1])]
      by_cases h2 : x3.size ≤ 20000
      · have hv : utf_Valid K x3 = some (uvalid x3) := uvalid_is (by omega) (by omega)
        cases ahead with
        | false => rw [if_pos (by simp), if_pos (by simp; omega), hv, Option.bind_some]; simp [h1, h2]
        | true =>
          rw [if_neg (by simp)]
          cases copied with
          | true => rw [if_pos rfl, if_pos (by simp; omega), hv, Option.bind_some]; simp [h1, h2]
          | false => rw [if_neg (by simp)]; simp
      · cases ahead with
        | false => rw [if_pos (by simp), if_neg (by simp; omega)]; simp [h2]
        | true =>
          rw [if_neg (by simp)]
          cases copied with
          | true => rw [if_pos rfl, if_neg (by simp; omega)]; simp [h2]
          | false => rw [if_neg (by simp)]; simp
    · rw [if_neg (by simp; omega)]
      congr 1; symm
      rw [Bool.and_eq_false_iff, decide_eq_false_iff_not]
      left
      exact fun h' => h1 ⟨h'.1, h'.2.1⟩

/-- Elements that may come behind others. -/
def isL (base : Int) : Int → Int → Option Bool → List El → Bool
  | _, _, _, [] => true
  | size, to, pre, x :: r =>
    if x.2.2.size = 0 then
      decide (to ≤ x.1 ∧ (to < x.1 ∨ pre ≠ some true) ∧ x.1 < x.2.1 ∧ x.2.1 ≤ base ∧ size + (x.2.1 - x.1) ≤ 20000) && isL base (size + (x.2.1 - x.1)) x.2.1 (some true) r
    else
      (decide (x.1 = 0 ∧ x.2.1 = 0 ∧ pre ≠ some false ∧ size + x.2.2.size ≤ 20000) && uvalid x.2.2) && isL base (size + x.2.2.size) to (some false) r

/-- Whether elements are a delta. -/
def isD (base : Int) (l : List El) : Bool := decide (0 ≤ base ∧ base ≤ 20000 ∧ l.length ≤ 60) && isL base 0 0 none l

def preOf (d : List El) (j : Nat) : Option Bool := if j = 0 then none else some (decide ((d.getD (j - 1) ((0 : Int), ((0 : Int), ByteArray.empty))).2.2.size = 0))

theorem preOf_succ {d : List El} {j : Nat} {x : El} (h : d.getD j ((0 : Int), ((0 : Int), ByteArray.empty)) = x) : preOf d (j + 1) = some (decide (x.2.2.size = 0)) := by
  unfold preOf
  rw [if_neg (by omega), Nat.add_sub_cancel, h]

theorem is_loop {K : Nat} {d : List El} {base : Int} (hK : 30000 ≤ K) (hb : base ≤ 20000) (hl : d.length ≤ 60) : ∀ (rest : List El) (j k : Nat) (size to : Int), d.drop j = rest → rest.length < k → 0 ≤ size → size ≤ 20000 → 0 ≤ to → to ≤ 20000 →
    delta_Is.l0 K d base k size to (j : Int) = some (isL base size to (preOf d j) rest)
  | [], j, k, size, to, hd, hk, h0, h1, h2, h3 => by
    obtain ⟨k, rfl⟩ : ∃ m, k = m + 1 := ⟨k - 1, by simp at hk; omega⟩
    have := drop_nil hd
    rw [delta_Is.l0, if_neg (by simp; omega)]
    rfl
  | x :: rest, j, k, size, to, hd, hk, h0, h1, h2, h3 => by
    obtain ⟨k, rfl⟩ : ∃ m, k = m + 1 := ⟨k - 1, by simp at hk; omega⟩
    obtain ⟨hj, hgd, hd'⟩ := drop_cons hd ((0 : Int), ((0 : Int), ByteArray.empty))
    have hk' : rest.length < k := by simp at hk; omega
    have hw : IntKind.wrap .i64 ((j : Int) + 1) = ((j + 1 : Nat) : Int) := by rw [w64 (by omega) (by omega)]; omega
    have hw1 : IntKind.wrap .i64 ((j : Int) - 1) = (j : Int) - 1 := w64 (by omega) (by omega)
    have hps := preOf_succ hgd
    have hnext := fun (size' to' : Int) (a0 : 0 ≤ size') (a1 : size' ≤ 20000) (a2 : 0 ≤ to') (a3 : to' ≤ 20000) => is_loop (K := K) hK hb hl rest (j + 1) k size' to' hd' hk' a0 a1 a2 a3
    rw [hps] at hnext
    have hcp : (if decide ((j : Int) > 0) = true then (delta_IsCopy K (d.getD ((j : Int) - 1).toNat ((0 : Int), ((0 : Int), ByteArray.empty))).1 (d.getD ((j : Int) - 1).toNat ((0 : Int), ((0 : Int), ByteArray.empty))).2.1 (d.getD ((j : Int) - 1).toNat ((0 : Int), ((0 : Int), ByteArray.empty))).2.2).bind fun r_22 => if 0 ≤ (j : Int) - 1 ∧ (j : Int) - 1 < ((d.length : Nat) : Int) then some r_22 else none else some false) = some (preOf d j == some true) := by
      unfold preOf
      by_cases hj0 : j = 0
      · subst hj0; simp
      · rw [if_pos (by simp; omega), isCopy_is, Option.bind_some, if_pos ⟨by omega, by omega⟩, if_neg hj0, show ((j : Int) - 1).toNat = j - 1 by omega]
        simp
    have hah : ∀ b : Bool, (decide ((j : Int) > 0) = false ∨ b = true) ↔ (preOf d j = none ∨ b = true) := by
      intro b
      unfold preOf
      by_cases hj0 : j = 0
      · subst hj0; simp
      · simp [hj0]
    rw [delta_Is.l0]
    simp only [Int.toNat_natCast, hgd, hw, hw1]
    rw [if_pos (by simpa using hj), if_pos ⟨by omega, by omega⟩, hcp, Option.bind_some, elem_is hK, Option.bind_some, isCopy_is, isL]
    by_cases hz : x.2.2.size = 0
    · rw [if_pos hz, if_pos hz, hz]
      by_cases hc : to ≤ x.1 ∧ (to < x.1 ∨ (preOf d j == some true) = false) ∧ x.1 < x.2.1 ∧ x.2.1 ≤ base
      · rw [show decide (to ≤ x.1 ∧ (to < x.1 ∨ (preOf d j == some true) = false) ∧ x.1 < x.2.1 ∧ x.2.1 ≤ base) = true from decide_eq_true hc, if_neg (by simp), Option.bind_some, if_pos (by simp), Option.bind_some]
        simp only [Int.natCast_zero, Int.add_zero]
        rw [w64 (n := x.2.1 - x.1) (by omega) (by omega), w64 (n := x.2.1 - x.1) (by omega) (by omega), w64 (n := size + (x.2.1 - x.1)) (by omega) (by omega)]
        have hp : (preOf d j == some true) = false ↔ preOf d j ≠ some true := by simp
        by_cases hs : size + (x.2.1 - x.1) ≤ 20000
        · rw [if_neg (by simpa using hs), hnext _ _ (by omega) hs (by omega) (by omega), hz]
          have : decide (to ≤ x.1 ∧ (to < x.1 ∨ preOf d j ≠ some true) ∧ x.1 < x.2.1 ∧ x.2.1 ≤ base ∧ size + (x.2.1 - x.1) ≤ 20000) = true := by
            rw [decide_eq_true_eq]
            rw [hp] at hc
            exact ⟨hc.1, hc.2.1, hc.2.2.1, hc.2.2.2, hs⟩
          rw [this]; simp
        · rw [if_pos (by simp; omega)]
          have : decide (to ≤ x.1 ∧ (to < x.1 ∨ preOf d j ≠ some true) ∧ x.1 < x.2.1 ∧ x.2.1 ≤ base ∧ size + (x.2.1 - x.1) ≤ 20000) = false := by
            rw [decide_eq_false_iff_not]
            exact fun h => hs h.2.2.2.2
          rw [this]; rfl
      · rw [show decide (to ≤ x.1 ∧ (to < x.1 ∨ (preOf d j == some true) = false) ∧ x.1 < x.2.1 ∧ x.2.1 ≤ base) = false from decide_eq_false hc, if_pos (by simp)]
        have hp : (preOf d j == some true) = false ↔ preOf d j ≠ some true := by simp
        have : decide (to ≤ x.1 ∧ (to < x.1 ∨ preOf d j ≠ some true) ∧ x.1 < x.2.1 ∧ x.2.1 ≤ base ∧ size + (x.2.1 - x.1) ≤ 20000) = false := by
          rw [decide_eq_false_iff_not]
          rw [hp] at hc
          exact fun h => hc ⟨h.1, h.2.1, h.2.2.1, h.2.2.2.1⟩
        rw [this]; rfl
    · rw [if_neg hz, if_neg hz]
      have hpre : (decide ((j : Int) > 0) = false ∨ (preOf d j == some true) = true) ↔ preOf d j ≠ some false := by
        rw [hah]
        cases preOf d j with
        | none => simp
        | some b => cases b <;> simp
      by_cases hc : x.1 = 0 ∧ x.2.1 = 0 ∧ (decide ((j : Int) > 0) = false ∨ (preOf d j == some true) = true) ∧ x.2.2.size ≤ 20000
      · rw [show decide (x.1 = 0 ∧ x.2.1 = 0 ∧ (decide ((j : Int) > 0) = false ∨ (preOf d j == some true) = true) ∧ x.2.2.size ≤ 20000) = true from by rw [decide_eq_true_eq]; exact hc]
        cases hv : uvalid x.2.2 with
        | false => rw [if_pos (by simp)]; simp
        | true =>
          rw [if_neg (by simp), Option.bind_some, if_neg (by simpa using hz), Option.bind_some]
          rw [hc.1, hc.2.1, Int.sub_zero, w64 (n := 0) (by omega) (by omega), Int.zero_add, w64 (n := (x.2.2.size : Int)) (by omega) (by omega), w64 (n := size + (x.2.2.size : Int)) (by omega) (by omega)]
          by_cases hs : size + (x.2.2.size : Int) ≤ 20000
          · rw [if_neg (by simpa using hs), hnext _ _ (by omega) hs (by omega) (by omega)]
            have : decide ((0 : Int) = 0 ∧ (0 : Int) = 0 ∧ preOf d j ≠ some false ∧ size + (x.2.2.size : Int) ≤ 20000) = true := by
              rw [decide_eq_true_eq]
              exact ⟨rfl, rfl, hpre.1 hc.2.2.1, hs⟩
            rw [this]
            simp [hz]
          · rw [if_pos (by simp; omega)]
            have : decide ((0 : Int) = 0 ∧ (0 : Int) = 0 ∧ preOf d j ≠ some false ∧ size + (x.2.2.size : Int) ≤ 20000) = false := by
              rw [decide_eq_false_iff_not]
              exact fun h => hs h.2.2.2
            rw [this]; rfl
      · rw [show decide (x.1 = 0 ∧ x.2.1 = 0 ∧ (decide ((j : Int) > 0) = false ∨ (preOf d j == some true) = true) ∧ x.2.2.size ≤ 20000) = false from by rw [decide_eq_false_iff_not]; exact hc]
        rw [if_pos (by simp)]
        have : decide (x.1 = 0 ∧ x.2.1 = 0 ∧ preOf d j ≠ some false ∧ size + (x.2.2.size : Int) ≤ 20000) = false := by
          rw [decide_eq_false_iff_not]
          exact fun h => hc ⟨h.1, h.2.1, hpre.2 h.2.2.1, by omega⟩
        rw [this]; rfl

theorem is_is {K : Nat} {d : List El} {base : Int} (hK : 30000 ≤ K) : delta_Is K base d = some (isD base d) := by
  unfold delta_Is isD
  by_cases h1 : base < 0
  · rw [if_pos (by simpa using h1), Option.bind_some, if_pos rfl]
    congr 1; symm; rw [Bool.and_eq_false_iff, decide_eq_false_iff_not]; left; omega
  · rw [if_neg (by simpa using h1)]
    by_cases h2 : base > 20000
    · rw [if_pos (by simpa using h2), Option.bind_some, if_pos rfl]
      congr 1; symm; rw [Bool.and_eq_false_iff, decide_eq_false_iff_not]; left; omega
    · rw [if_neg (by simpa using h2), Option.bind_some]
      by_cases h3 : d.length > 60
      · rw [if_pos (by simp; omega)]
        congr 1; symm; rw [Bool.and_eq_false_iff, decide_eq_false_iff_not]; left; omega
      · have h := is_loop (K := K) (d := d) (base := base) hK (by omega) (by omega) d 0 K 0 0 rfl (by omega) (by omega) (by omega) (by omega) (by omega)
        rw [Int.natCast_zero] at h
        rw [if_neg (by simp; omega), h]
        have : decide (0 ≤ base ∧ base ≤ 20000 ∧ d.length ≤ 60) = true := by rw [decide_eq_true_eq]; omega
        rw [this]
        rfl

abbrev el0 : El := ((0 : Int), ((0 : Int), ByteArray.empty))

def lastIs (b : Bool) (l : List El) : Prop := l ≠ [] ∧ decide ((l.getD (l.length - 1) el0).2.2.size = 0) = b

instance (b : Bool) (l : List El) : Decidable (lastIs b l) := inferInstanceAs (Decidable (_ ∧ _))

/-- Bytes kept, behind elements. -/
def mkCopy (l : List El) (f t : Int) : List El :=
  if f = t then l else if lastIs true l ∧ (l.getD (l.length - 1) el0).2.1 = f then l.set (l.length - 1) ((l.getD (l.length - 1) el0).1, (t, (l.getD (l.length - 1) el0).2.2)) else l ++ [(f, (t, ByteArray.empty))]

/-- A text put in, behind elements. -/
def mkPut (l : List El) (s : ByteArray) : List El :=
  if s.size = 0 then l else if lastIs false l then l.set (l.length - 1) ((l.getD (l.length - 1) el0).1, ((l.getD (l.length - 1) el0).2.1, (l.getD (l.length - 1) el0).2.2 ++ s)) else l ++ [(0, (0, s))]

def sumT : List El → Nat
  | [] => 0
  | x :: r => x.2.2.size + sumT r

def sumK : List El → Int
  | [] => 0
  | x :: r => (x.2.1 - x.1) + sumK r

theorem sumT_app : ∀ {l r : List El}, sumT (l ++ r) = sumT l + sumT r
  | [], r => by simp [sumT]
  | x :: l, r => by simp only [List.cons_append, sumT, sumT_app]; omega

theorem sumK_app : ∀ {l r : List El}, sumK (l ++ r) = sumK l + sumK r
  | [], r => by simp [sumK]
  | x :: l, r => by simp only [List.cons_append, sumK, sumK_app]; omega

theorem le_sumT : ∀ {l : List El} {x : El}, x ∈ l → x.2.2.size ≤ sumT l
  | y :: l, x, h => by
    rw [sumT]
    rcases List.mem_cons.1 h with rfl | h
    · omega
    · have := le_sumT h; omega

theorem empty_size : ByteArray.empty.size = 0 := rfl

theorem getD_last {l : List El} {p : El} : (l ++ [p]).getD ((l ++ [p]).length - 1) el0 = p := by
  simp [List.getD]

theorem set_last {α : Type} {l : List α} {p q : α} : (l ++ [p]).set ((l ++ [p]).length - 1) q = l ++ [q] := by
  have : (l ++ [p]).length - 1 = l.length := by simp
  rw [this, List.set_append_right _ _ (Nat.le_refl _), Nat.sub_self, List.set_cons_zero]

theorem mkCopy_nil {f t : Int} : mkCopy [] f t = if f = t then [] else [(f, (t, ByteArray.empty))] := by
  unfold mkCopy
  split
  · rfl
  · rw [if_neg (fun h => h.1.1 rfl)]; rfl

theorem lastIs_app {b : Bool} {l : List El} {p : El} : lastIs b (l ++ [p]) ↔ decide (p.2.2.size = 0) = b := by
  unfold lastIs
  rw [getD_last]
  exact ⟨fun h => h.2, fun h => ⟨by simp, h⟩⟩

theorem mkCopy_app {l : List El} {p : El} {f t : Int} : mkCopy (l ++ [p]) f t = if f = t then l ++ [p] else if p.2.2.size = 0 ∧ p.2.1 = f then l ++ [(p.1, (t, p.2.2))] else l ++ [p] ++ [(f, (t, ByteArray.empty))] := by
  unfold mkCopy
  rw [getD_last, set_last]
  by_cases h : f = t
  · rw [if_pos h, if_pos h]
  · rw [if_neg h, if_neg h]
    by_cases h2 : p.2.2.size = 0 ∧ p.2.1 = f
    · rw [if_pos ⟨lastIs_app.2 (decide_eq_true h2.1), h2.2⟩, if_pos h2]
    · rw [if_neg (fun h' => h2 ⟨of_decide_eq_true (lastIs_app.1 h'.1), h'.2⟩), if_neg h2]

theorem mkPut_nil {s : ByteArray} : mkPut [] s = if s.size = 0 then [] else [(0, (0, s))] := by
  unfold mkPut
  split
  · rfl
  · rw [if_neg (fun h => h.1 rfl)]; rfl

theorem mkPut_app {l : List El} {p : El} {s : ByteArray} : mkPut (l ++ [p]) s = if s.size = 0 then l ++ [p] else if p.2.2.size = 0 then l ++ [p] ++ [(0, (0, s))] else l ++ [(p.1, (p.2.1, p.2.2 ++ s))] := by
  unfold mkPut
  rw [getD_last, set_last]
  by_cases h : s.size = 0
  · rw [if_pos h, if_pos h]
  · rw [if_neg h, if_neg h]
    by_cases h2 : p.2.2.size = 0
    · rw [if_neg (fun h' => by have := lastIs_app.1 h'; simp [h2] at this), if_pos h2]
    · rw [if_pos (lastIs_app.2 (decide_eq_false h2)), if_neg h2]

theorem bsize_app {a b : ByteArray} : (a ++ b).size = a.size + b.size := ByteArray.size_append

theorem mkCopy_len {l : List El} {f t : Int} : (mkCopy l f t).length ≤ l.length + 1 := by
  unfold mkCopy
  split
  · omega
  · split <;> simp

theorem mkPut_len {l : List El} {s : ByteArray} : (mkPut l s).length ≤ l.length + 1 := by
  unfold mkPut
  split
  · omega
  · split <;> simp

theorem mkCopy_sumT {l : List El} {f t : Int} : sumT (mkCopy l f t) = sumT l := by
  by_cases h : l = []
  · subst h; rw [mkCopy_nil]; split <;> simp [sumT, empty_size]
  · obtain ⟨m, p, rfl⟩ := split_last h
    rw [mkCopy_app]
    split
    · rfl
    · split
      · simp [sumT_app, sumT]
      · simp [sumT_app, sumT, empty_size]

theorem mkPut_sumT {l : List El} {s : ByteArray} : sumT (mkPut l s) = sumT l + s.size := by
  by_cases h : l = []
  · subst h; rw [mkPut_nil]; split
    · simp [sumT]; omega
    · simp [sumT]
  · obtain ⟨m, p, rfl⟩ := split_last h
    rw [mkPut_app]
    split
    · omega
    · split
      · simp [sumT_app, sumT] <;> omega
      · simp [sumT_app, sumT, bsize_app] <;> omega

theorem copy_is {K : Nat} {m f t : Int} {l : List El} (hl : l.length ≤ 1000000000) : delta_Maker_Copy_bgg_11dec K m l f t = some (mkCopy l f t) := by
  unfold delta_Maker_Copy_bgg_11dec mkCopy
  have hw : IntKind.wrap .i64 ((l.length : Int) - 1) = (l.length : Int) - 1 := w64 (by omega) (by omega)
  rw [hw]
  by_cases h : f = t
  · rw [if_pos (by simpa using h), if_pos h]
  · rw [if_neg (by simpa using h), if_neg h]
    by_cases he : l = []
    · subst he
      rw [if_neg (by simp), Option.bind_some, if_neg (by simp), if_pos (by simp), if_neg (fun h => h.1.1 rfl)]
    · have hp : 0 < l.length := List.length_pos_iff.2 he
      have hn : ((l.length : Int) - 1).toNat = l.length - 1 := by omega
      rw [if_pos (by simp; omega), hn, isCopy_is, Option.bind_some]
      by_cases hz : (l.getD (l.length - 1) el0).2.2.size = 0
      · rw [if_pos (decide_eq_true hz), if_pos ⟨by omega, by omega⟩, Option.bind_some]
        by_cases hq : (l.getD (l.length - 1) el0).2.1 = f
        · rw [if_pos (by simpa using hq), if_pos ⟨by omega, by omega⟩, if_pos ⟨⟨he, decide_eq_true hz⟩, hq⟩]
        · rw [if_neg (by simpa using hq), if_pos (by simp; omega), if_neg (fun h => hq h.2)]
      · rw [if_neg (by simpa using hz), if_pos ⟨by omega, by omega⟩, Option.bind_some, if_neg (by simp), if_pos (by simp; omega), if_neg (fun h => hz (of_decide_eq_true h.1.2))]

theorem copy0_is {K : Nat} {m f t : Int} : delta_Maker_Copy_bgg_48161 K m f t = some (mkCopy [] f t) := by
  unfold delta_Maker_Copy_bgg_48161
  rw [mkCopy_nil]
  by_cases h : f = t
  · rw [if_pos (by simpa using h), if_pos h]
  · rw [if_neg (by simpa using h), if_neg h, Option.bind_some, if_pos (by simp)]

theorem putm_is {K : Nat} {m : Int} {l : List El} {s : ByteArray} (hl : l.length ≤ 1000000000) (ht : sumT l + s.size ≤ 9223372036854775807) : delta_Maker_Put_bg_92925 K m l s = some (mkPut l s) := by
  unfold delta_Maker_Put_bg_92925 mkPut
  have hw : IntKind.wrap .i64 ((l.length : Int) - 1) = (l.length : Int) - 1 := w64 (by omega) (by omega)
  rw [hw, str_nil]
  by_cases h : s.size = 0
  · rw [if_pos (by simpa using h), if_pos h]
  · rw [if_neg (by simpa using h), if_neg h]
    by_cases he : l = []
    · subst he
      rw [if_neg (by simp), Option.bind_some, if_neg (by simp), if_pos (by simp), if_neg (fun h => h.1 rfl)]
    · have hp : 0 < l.length := List.length_pos_iff.2 he
      have hn : ((l.length : Int) - 1).toNat = l.length - 1 := by omega
      have hm : l.getD (l.length - 1) el0 ∈ l := by
        rw [List.getD, List.getElem?_eq_getElem (by omega)]
        simp
      have hs := le_sumT hm
      rw [if_pos (by simp; omega), hn, isCopy_is, Option.bind_some, if_pos ⟨by omega, by omega⟩, Option.bind_some]
      by_cases hz : (l.getD (l.length - 1) el0).2.2.size = 0
      · rw [show decide ((l.getD (l.length - 1) ((0 : Int), ((0 : Int), ByteArray.empty))).2.2.size = 0) = true from decide_eq_true hz, if_neg (by simp), if_pos (by simp; omega), if_neg (fun h => by have := h.2; rw [decide_eq_true hz] at this; cases this)]
      · have h3 : (l.getD (l.length - 1) ((0 : Int), ((0 : Int), ByteArray.empty))).2.2.size ≤ sumT l := hs
        rw [show decide ((l.getD (l.length - 1) ((0 : Int), ((0 : Int), ByteArray.empty))).2.2.size = 0) = false from decide_eq_false hz, if_pos (by simp), if_pos ⟨by omega, by omega, by omega⟩, if_pos ⟨he, decide_eq_false hz⟩]

/-- Changes, one behind the other. -/
def bld : List El → Int → List El → List El × Int
  | acc, a, [] => (acc, a)
  | acc, a, c :: r => bld (mkPut (mkCopy acc a c.1) c.2.2) c.2.1 r

theorem bld_len : ∀ {l acc : List El} {a : Int}, (bld acc a l).1.length ≤ acc.length + 2 * l.length
  | [], acc, a => by simp [bld]
  | c :: r, acc, a => by
    rw [bld]
    have h1 := bld_len (l := r) (acc := mkPut (mkCopy acc a c.1) c.2.2) (a := c.2.1)
    have h2 := mkPut_len (l := mkCopy acc a c.1) (s := c.2.2)
    have h3 := mkCopy_len (l := acc) (f := a) (t := c.1)
    simp only [List.length_cons]; omega

theorem build_loop {K : Nat} {l : List El} {base : Int} : ∀ (rest : List El) (j k : Nat) (acc : List El) (a : Int), l.drop j = rest → rest.length < k → l.length ≤ 1000000 → acc.length ≤ 2 * j → sumT acc + sumT rest ≤ 9000000000000000000 →
    delta_Build_gr.l0 K l base k acc a (j : Int) = some (bld acc a rest)
  | [], j, k, acc, a, hd, hk, hl, ha, ht => by
    obtain ⟨k, rfl⟩ : ∃ m, k = m + 1 := ⟨k - 1, by simp at hk; omega⟩
    have := drop_nil hd
    rw [delta_Build_gr.l0, if_neg (by simp; omega)]
    rfl
  | c :: rest, j, k, acc, a, hd, hk, hl, ha, ht => by
    obtain ⟨k, rfl⟩ : ∃ m, k = m + 1 := ⟨k - 1, by simp at hk; omega⟩
    obtain ⟨hj, hgd, hd'⟩ := drop_cons hd el0
    have hk' : rest.length < k := by simp at hk; omega
    have hw : IntKind.wrap .i64 ((j : Int) + 1) = ((j + 1 : Nat) : Int) := by rw [w64 (by omega) (by omega)]; omega
    have h2 := mkPut_len (l := mkCopy acc a c.1) (s := c.2.2)
    have h3 := mkCopy_len (l := acc) (f := a) (t := c.1)
    have s1 := mkCopy_sumT (l := acc) (f := a) (t := c.1)
    have s2 := mkPut_sumT (l := mkCopy acc a c.1) (s := c.2.2)
    simp only [sumT] at ht
    rw [delta_Build_gr.l0]
    simp only [Int.toNat_natCast, hgd, hw]
    rw [if_pos (by simpa using hj), if_pos ⟨by omega, by omega⟩, copy_is (by omega), Option.bind_some, putm_is (by omega) (by omega), Option.bind_some, build_loop rest (j + 1) k _ _ hd' hk' hl (by omega) (by omega)]
    rfl

def rngL (base : Int) (l : List El) : Bool := l.all fun c => decide (0 ≤ c.1 ∧ c.1 ≤ c.2.1 ∧ c.2.1 ≤ base)

def ordL : Option El → List El → Bool
  | _, [] => true
  | none, b :: r => ordL (some b) r
  | some a, b :: r => !decide (b.1 < a.2.1 ∨ a.1 = b.1 ∧ a.2.1 = b.1) && ordL (some b) r

def valL (l : List El) : Bool := l.all fun c => uvalid c.2.2

def lngL : Int → List El → Int
  | _, [] => 0
  | left, c :: r => if c.2.2.size > left then 13 else lngL (left - c.2.2.size) r

theorem rng_loop {K : Nat} {l : List El} {base : Int} (hl : l.length ≤ 1000000000) : ∀ (rest : List El) (j k : Nat), l.drop j = rest → rest.length < k →
    delta_check_gr.l0 K l base k (j : Int) = some (if rngL base rest = true then .inr () else .inl 10)
  | [], j, k, hd, hk => by
    obtain ⟨k, rfl⟩ : ∃ m, k = m + 1 := ⟨k - 1, by simp at hk; omega⟩
    have := drop_nil hd
    rw [delta_check_gr.l0, if_neg (by simp; omega)]
    rfl
  | c :: rest, j, k, hd, hk => by
    obtain ⟨k, rfl⟩ : ∃ m, k = m + 1 := ⟨k - 1, by simp at hk; omega⟩
    obtain ⟨hj, hgd, hd'⟩ := drop_cons hd el0
    have hk' : rest.length < k := by simp at hk; omega
    have hw : IntKind.wrap .i64 ((j : Int) + 1) = ((j + 1 : Nat) : Int) := by rw [w64 (by omega) (by omega)]; omega
    rw [delta_check_gr.l0]
    simp only [Int.toNat_natCast, hgd, hw]
    rw [if_pos (by simpa using hj), if_pos ⟨by omega, by omega⟩, rng_loop hl rest (j + 1) k hd' hk', show rngL base (c :: rest) = (decide (0 ≤ c.1 ∧ c.1 ≤ c.2.1 ∧ c.2.1 ≤ base) && rngL base rest) from rfl]
    by_cases h1 : c.1 < 0
    · rw [if_pos (by simpa using h1), Option.bind_some, if_pos rfl, decide_eq_false (by omega)]; rfl
    · rw [if_neg (by simpa using h1)]
      by_cases h2 : c.1 > c.2.1
      · rw [if_pos (by simpa using h2), Option.bind_some, if_pos rfl, decide_eq_false (by omega)]; rfl
      · rw [if_neg (by simpa using h2), Option.bind_some]
        by_cases h3 : c.2.1 > base
        · rw [if_pos (by simpa using h3), decide_eq_false (by omega)]; rfl
        · rw [if_neg (by simpa using h3), decide_eq_true (by omega)]; rfl

theorem ord_loop {K : Nat} {l : List El} (hl : l.length ≤ 1000000000) : ∀ (rest : List El) (j k : Nat), l.drop j = rest → rest.length < k → 1 ≤ j →
    delta_Ordered_r.l0 K l k (j : Int) = some (ordL (some (l.getD (j - 1) el0)) rest)
  | [], j, k, hd, hk, h1 => by
    obtain ⟨k, rfl⟩ : ∃ m, k = m + 1 := ⟨k - 1, by simp at hk; omega⟩
    have := drop_nil hd
    rw [delta_Ordered_r.l0, if_neg (by simp; omega)]
    rfl
  | c :: rest, j, k, hd, hk, h1 => by
    obtain ⟨k, rfl⟩ : ∃ m, k = m + 1 := ⟨k - 1, by simp at hk; omega⟩
    obtain ⟨hj, hgd, hd'⟩ := drop_cons hd el0
    have hk' : rest.length < k := by simp at hk; omega
    have hw : IntKind.wrap .i64 ((j : Int) + 1) = ((j + 1 : Nat) : Int) := by rw [w64 (by omega) (by omega)]; omega
    have hw1 : IntKind.wrap .i64 ((j : Int) - 1) = (j : Int) - 1 := w64 (by omega) (by omega)
    have hn : ((j : Int) - 1).toNat = j - 1 := by omega
    have hr := ord_loop (K := K) hl rest (j + 1) k hd' hk' (by omega)
    rw [Nat.add_sub_cancel, hgd] at hr
    rw [delta_Ordered_r.l0]
    simp only [Int.toNat_natCast, hgd, hw, hw1, hn]
    rw [if_pos (by simpa using hj), if_pos ⟨by omega, by omega, by omega, by omega⟩, hr, ordL]
    by_cases a1 : c.1 < (l.getD (j - 1) el0).2.1
    · rw [if_pos (by simpa using a1), Option.bind_some, if_pos rfl, decide_eq_true (.inl a1)]; rfl
    · rw [if_neg (by simpa using a1)]
      by_cases a2 : (l.getD (j - 1) el0).1 = c.1
      · rw [if_pos (by simpa using a2), Option.bind_some]
        by_cases a3 : (l.getD (j - 1) el0).2.1 = c.1
        · rw [if_pos (by simpa using a3), decide_eq_true (.inr ⟨a2, a3⟩)]; rfl
        · rw [if_neg (by simpa using a3), decide_eq_false (by omega)]; rfl
      · rw [if_neg (by simpa using a2), Option.bind_some, if_neg (by simp), decide_eq_false (by omega)]; rfl

theorem ord_is {K : Nat} {l : List El} (hl : l.length ≤ 1000000000) (hK : l.length < K) : delta_Ordered_r K l = some (ordL none l) := by
  unfold delta_Ordered_r
  cases l with
  | nil =>
    obtain ⟨k, rfl⟩ : ∃ m, K = m + 1 := ⟨K - 1, by simp at hK; omega⟩
    rw [delta_Ordered_r.l0, if_neg (by simp)]; rfl
  | cons c r =>
    have h := ord_loop (K := K) hl r 1 K rfl (by simp at hK; omega) (by omega)
    rw [show ((1 : Nat) : Int) = 1 from rfl] at h
    rw [h]; rfl

theorem val_loop {K : Nat} {l : List El} (hl : l.length ≤ 1000000000) (ht : ∀ x ∈ l, x.2.2.size + 10 ≤ K ∧ x.2.2.size ≤ 1000000000000) : ∀ (rest : List El) (j k : Nat), l.drop j = rest → rest.length < k →
    delta_check_gr.l1 K l k (j : Int) = some (if valL rest = true then .inr () else .inl 12)
  | [], j, k, hd, hk => by
    obtain ⟨k, rfl⟩ : ∃ m, k = m + 1 := ⟨k - 1, by simp at hk; omega⟩
    have := drop_nil hd
    rw [delta_check_gr.l1, if_neg (by simp; omega)]
    rfl
  | c :: rest, j, k, hd, hk => by
    obtain ⟨k, rfl⟩ : ∃ m, k = m + 1 := ⟨k - 1, by simp at hk; omega⟩
    obtain ⟨hj, hgd, hd'⟩ := drop_cons hd el0
    have hk' : rest.length < k := by simp at hk; omega
    have hw : IntKind.wrap .i64 ((j : Int) + 1) = ((j + 1 : Nat) : Int) := by rw [w64 (by omega) (by omega)]; omega
    have hc : c ∈ l := by rw [← hgd]; simp [List.getD, hj]
    have hcs := ht c hc
    rw [delta_check_gr.l1]
    simp only [Int.toNat_natCast, hgd, hw]
    rw [if_pos (by simpa using hj), if_pos ⟨by omega, by omega⟩, uvalid_is (by omega) (by omega), Option.bind_some, val_loop hl ht rest (j + 1) k hd' hk', show valL (c :: rest) = (uvalid c.2.2 && valL rest) from rfl]
    cases uvalid c.2.2 <;> simp

theorem lng_loop {K : Nat} {l : List El} (hl : l.length ≤ 1000000000) : ∀ (rest : List El) (j k : Nat) (left : Int), l.drop j = rest → rest.length < k → 0 ≤ left → left ≤ 1000000000000 →
    delta_long_gr.l1 K l k left (j : Int) = some (lngL left rest)
  | [], j, k, left, hd, hk, h0, h1 => by
    obtain ⟨k, rfl⟩ : ∃ m, k = m + 1 := ⟨k - 1, by simp at hk; omega⟩
    have := drop_nil hd
    rw [delta_long_gr.l1, if_neg (by simp; omega)]
    rfl
  | c :: rest, j, k, left, hd, hk, h0, h1 => by
    obtain ⟨k, rfl⟩ : ∃ m, k = m + 1 := ⟨k - 1, by simp at hk; omega⟩
    obtain ⟨hj, hgd, hd'⟩ := drop_cons hd el0
    have hk' : rest.length < k := by simp at hk; omega
    have hw : IntKind.wrap .i64 ((j : Int) + 1) = ((j + 1 : Nat) : Int) := by rw [w64 (by omega) (by omega)]; omega
    rw [delta_long_gr.l1]
    simp only [Int.toNat_natCast, hgd, hw]
    rw [if_pos (by simpa using hj), if_pos ⟨by omega, by omega⟩, lngL]
    by_cases h : c.2.2.size > left
    · rw [if_pos (by simpa using h), if_pos h]
    · rw [if_neg (by simpa using h), if_neg h, w64 (by omega) (by omega), lng_loop hl rest (j + 1) k _ hd' hk' (by omega) (by omega)]

theorem gap_loop {K : Nat} {l : List El} (hl : l.length ≤ 1000000) (hr : rngL 20000 l = true) : ∀ (rest : List El) (j k : Nat) (left : Int), l.drop j = rest → rest.length < k → j ≤ l.length → 0 ≤ left → left ≤ 20000 + 20000 * j →
    delta_long_gr.l0 K l k left (j : Int) = some (left + sumK rest) ∧ 0 ≤ left + sumK rest ∧ left + sumK rest ≤ 20000 + 20000 * l.length
  | [], j, k, left, hd, hk, hj, h0, h1 => by
    obtain ⟨k, rfl⟩ : ∃ m, k = m + 1 := ⟨k - 1, by simp at hk; omega⟩
    have := drop_nil hd
    rw [delta_long_gr.l0, if_neg (by simp; omega)]
    simp only [sumK, Int.add_zero]
    exact ⟨trivial, h0, by omega⟩
  | c :: rest, j, k, left, hd, hk, hjl, h0, h1 => by
    obtain ⟨k, rfl⟩ : ∃ m, k = m + 1 := ⟨k - 1, by simp at hk; omega⟩
    obtain ⟨hj, hgd, hd'⟩ := drop_cons hd el0
    have hk' : rest.length < k := by simp at hk; omega
    have hw : IntKind.wrap .i64 ((j : Int) + 1) = ((j + 1 : Nat) : Int) := by rw [w64 (by omega) (by omega)]; omega
    have hc : c ∈ l := by rw [← hgd]; simp [List.getD, hj]
    have hcr := of_decide_eq_true (List.all_eq_true.1 hr c hc)
    rw [delta_long_gr.l0]
    simp only [Int.toNat_natCast, hgd, hw]
    rw [if_pos (by simpa using hj), if_pos ⟨by omega, by omega⟩, w64 (n := c.2.1 - c.1) (by omega) (by omega), w64 (n := left + (c.2.1 - c.1)) (by omega) (by omega)]
    obtain ⟨e1, e2, e3⟩ := gap_loop (K := K) hl hr rest (j + 1) k (left + (c.2.1 - c.1)) hd' hk' (by omega) (by omega) (by omega)
    simp only [sumK]
    rw [e1]
    exact ⟨by congr 1; omega, by omega, by omega⟩

theorem rngL_mono {b c : Int} (h : b ≤ c) {l : List El} (hr : rngL b l = true) : rngL c l = true := by
  unfold rngL at *
  rw [List.all_eq_true] at *
  intro x hx
  have := of_decide_eq_true (hr x hx)
  exact decide_eq_true (by omega)

/-- The first error of changes, by kind. -/
def chk (base : Int) (l : List El) : Int :=
  if base < 0 ∨ base > 20000 then 10 else if rngL base l = false then 10 else if ordL none l = false then 180 else if valL l = false then 12 else lngL (20000 - base + sumK l) l

theorem check_is {K : Nat} {l : List El} {base : Int} (hl : l.length ≤ 1000000) (hK : l.length < K) (ht : ∀ x ∈ l, x.2.2.size + 10 ≤ K ∧ x.2.2.size ≤ 1000000000000) : delta_check_gr K base l = some (chk base l) := by
  unfold delta_check_gr chk
  by_cases h1 : base < 0
  · rw [if_pos (by simpa using h1), Option.bind_some, if_pos rfl, if_pos (.inl h1)]
  · rw [if_neg (by simpa using h1), Option.bind_some]
    by_cases h2 : base > 20000
    · rw [if_pos (by simpa using h2), if_pos (.inr h2)]
    · rw [if_neg (by simpa using h2), if_neg (by omega)]
      have e0 := rng_loop (K := K) (base := base) (l := l) (by omega) l 0 K rfl (by omega)
      rw [Int.natCast_zero] at e0
      rw [e0, Option.bind_some]
      cases hr : rngL base l with
      | false => simp
      | true =>
        simp only [if_true, Sum.elim_inr, Bool.true_eq_false, if_false]
        rw [ord_is (by omega) hK, Option.bind_some]
        cases ho : ordL none l with
        | false => simp
        | true =>
          have e1 := val_loop (K := K) (l := l) (by omega) ht l 0 K rfl (by omega)
          rw [Int.natCast_zero] at e1
          rw [if_neg (by simp), e1, Option.bind_some]
          cases hv : valL l with
          | false => simp
          | true =>
            simp only [if_true, Sum.elim_inr, Bool.true_eq_false, if_false]
            unfold delta_long_gr
            obtain ⟨e2, e3, e4⟩ := gap_loop (K := K) (l := l) hl (rngL_mono (by omega) hr) l 0 K (20000 - base) rfl (by omega) (by omega) (by omega) (by omega)
            have e5 := lng_loop (K := K) (l := l) (by omega) l 0 K (20000 - base + sumK l) rfl (by omega) (by omega) (by omega)
            rw [Int.natCast_zero] at e2 e5
            rw [w64 (n := 20000 - base) (by omega) (by omega), e2, Option.bind_some, e5]
            rfl

/-- What is built. -/
def bldD (base : Int) (l : List El) : Int × (List El × Int) :=
  if chk base l ≠ 0 then (0, ([], chk base l)) else if (mkCopy (bld [] 0 l).1 (bld [] 0 l).2 base).length > 60 then (0, ([], 70)) else (base, (mkCopy (bld [] 0 l).1 (bld [] 0 l).2 base, 0))

theorem build_is {K : Nat} {l : List El} {base : Int} (hl : l.length ≤ 1000000) (hK : l.length < K) (ht : ∀ x ∈ l, x.2.2.size + 10 ≤ K ∧ x.2.2.size ≤ 1000000000000) : delta_Build_gr K base l = some (bldD base l) := by
  unfold delta_Build_gr bldD
  rw [check_is hl hK ht, Option.bind_some]
  by_cases h : chk base l = 0
  · have hs : sumT l ≤ 1000000000000 * l.length := by
      have : ∀ (r : List El), (∀ x ∈ r, x.2.2.size ≤ 1000000000000) → sumT r ≤ 1000000000000 * r.length := by
        intro r
        induction r with
        | nil => intro _; simp [sumT]
        | cons x r ih =>
          intro hx
          have h1 := hx x (by simp)
          have h2 := ih fun y hy => hx y (by simp [hy])
          simp only [sumT, List.length_cons]; omega
      exact this l fun x hx => (ht x hx).2
    have e := build_loop (K := K) (l := l) (base := base) l 0 K [] 0 rfl hK hl (by simp) (by simp only [sumT]; omega)
    rw [Int.natCast_zero] at e
    have hbl := bld_len (l := l) (acc := []) (a := 0)
    simp only [List.length_nil] at hbl
    rw [if_neg (by simpa using h), if_neg (by simpa using h)]
    unfold delta_NewMaker
    rw [Option.bind_some, e, Option.bind_some, copy_is (by omega), Option.bind_some]
    unfold delta_Maker_Delta_b_ee1c6
    by_cases h6 : (mkCopy (bld [] 0 l).1 (bld [] 0 l).2 base).length > 60
    · rw [if_pos (by simp; omega), if_pos h6]; rfl
    · rw [if_neg (by simp; omega), if_neg h6]; rfl
  · rw [if_pos (by simpa using h), if_pos h]

theorem keep_is {K : Nat} {base : Int} : delta_Keep K base = some (max 0 (min base 20000), mkCopy [] 0 (max 0 (min base 20000))) := by
  unfold delta_Keep delta_NewMaker
  rw [mn2_eq, mx2_eq, Option.bind_some, copy0_is, Option.bind_some, show min (max base 0) 20000 = max 0 (min base 20000) by omega]

/-- An element of a delta. -/
def okE (base : Int) (x : El) : Prop := 0 ≤ x.1 ∧ x.1 ≤ x.2.1 ∧ x.2.1 ≤ base ∧ (x.2.2.size = 0 ∨ x.1 = 0 ∧ x.2.1 = 0)

theorem isL_ok {base : Int} (hb : 0 ≤ base) : ∀ {l : List El} {size to : Int} {pre : Option Bool}, isL base size to pre l = true → 0 ≤ to → size ≤ 20000 → (∀ x ∈ l, okE base x) ∧ size + sumK l + sumT l ≤ 20000
  | [], size, to, pre, h, h0, h1 => ⟨by simp, by simp [sumK, sumT]; omega⟩
  | x :: r, size, to, pre, h, h0, h1 => by
    rw [isL] at h
    split at h
    · rename_i hz
      rw [Bool.and_eq_true, decide_eq_true_eq] at h
      obtain ⟨⟨c1, c2, c3, c4, c5⟩, hr⟩ := h
      obtain ⟨e1, e2⟩ := isL_ok hb hr (by omega) c5
      refine ⟨fun y hy => ?_, by simp only [sumK, sumT, hz]; omega⟩
      rcases List.mem_cons.1 hy with rfl | hy
      · exact ⟨by omega, by omega, c4, .inl hz⟩
      · exact e1 y hy
    · rw [Bool.and_eq_true, Bool.and_eq_true, decide_eq_true_eq] at h
      obtain ⟨⟨⟨c1, c2, c3, c4⟩, hv⟩, hr⟩ := h
      obtain ⟨e1, e2⟩ := isL_ok hb hr h0 c4
      refine ⟨fun y hy => ?_, by simp only [sumK, sumT]; omega⟩
      rcases List.mem_cons.1 hy with rfl | hy
      · exact ⟨by omega, by omega, by omega, .inr ⟨c1, c2⟩⟩
      · exact e1 y hy

theorem isD_ok {base : Int} {l : List El} (h : isD base l = true) : 0 ≤ base ∧ base ≤ 20000 ∧ l.length ≤ 60 ∧ (∀ x ∈ l, okE base x) ∧ sumK l + sumT l ≤ 20000 := by
  unfold isD at h
  rw [Bool.and_eq_true, decide_eq_true_eq] at h
  obtain ⟨⟨h1, h2, h3⟩, h4⟩ := h
  obtain ⟨e1, e2⟩ := isL_ok h1 h4 (by omega) (by omega)
  exact ⟨h1, h2, h3, e1, by omega⟩

theorem sumK_nonneg {base : Int} : ∀ {l : List El}, (∀ x ∈ l, okE base x) → 0 ≤ sumK l
  | [], _ => by simp [sumK]
  | x :: r, h => by
    have h1 := h x (by simp)
    have h2 := sumK_nonneg (l := r) fun y hy => h y (by simp [hy])
    have := h1.2.1
    simp only [sumK]; omega

theorem sums_loop11 {K : Nat} {d : List El} {base : Int} (hb : base ≤ 20000) (hl : d.length ≤ 1000) : ∀ (rest : List El) (j k : Nat) (kept put : Int), d.drop j = rest → rest.length < k → (∀ x ∈ rest, okE base x) → 0 ≤ kept → 0 ≤ put → kept + sumK rest ≤ 1000000 → put + sumT rest ≤ 1000000 →
    delta_sums.l0 K d k kept put (j : Int) = some (kept + sumK rest, put + sumT rest)
  | [], j, k, kept, put, hd, hk, hx, h0, h1, h2, h3 => by
    obtain ⟨k, rfl⟩ : ∃ m, k = m + 1 := ⟨k - 1, by simp at hk; omega⟩
    have := drop_nil hd
    rw [delta_sums.l0, if_neg (by simp; omega)]
    simp [sumK, sumT]
  | x :: rest, j, k, kept, put, hd, hk, hx, h0, h1, h2, h3 => by
    obtain ⟨k, rfl⟩ : ∃ m, k = m + 1 := ⟨k - 1, by simp at hk; omega⟩
    obtain ⟨hj, hgd, hd'⟩ := drop_cons hd el0
    have hk' : rest.length < k := by simp at hk; omega
    have hw : IntKind.wrap .i64 ((j : Int) + 1) = ((j + 1 : Nat) : Int) := by rw [w64 (by omega) (by omega)]; omega
    obtain ⟨o1, o2, o3, o4⟩ := hx x (by simp)
    have hr : ∀ y ∈ rest, okE base y := fun y hy => hx y (by simp [hy])
    have hn := sumK_nonneg hr
    simp only [sumK, sumT] at h2 h3
    rw [delta_sums.l0]
    simp only [Int.toNat_natCast, hgd, hw]
    rw [if_pos (by simpa using hj), if_pos ⟨by omega, by omega⟩, w64 (n := x.2.1 - x.1) (by omega) (by omega), w64 (n := kept + (x.2.1 - x.1)) (by omega) (by omega), w64 (n := put + (x.2.2.size : Int)) (by omega) (by omega),
      sums_loop11 hb hl rest (j + 1) k _ _ hd' hk' hr (by omega) (by omega) (by omega) (by omega)]
    simp only [sumK, sumT]
    congr 2 <;> omega

theorem sums_is {K : Nat} {d : List El} {base : Int} (hK : 30000 ≤ K) : delta_sums K base d = some (if isD base d = true then (sumK d, (sumT d : Int)) else (0, 0)) := by
  unfold delta_sums
  rw [is_is hK, Option.bind_some]
  cases h : isD base d with
  | false => simp
  | true =>
    obtain ⟨h1, h2, h3, h4, h5⟩ := isD_ok h
    have hn := sumK_nonneg h4
    have e := sums_loop11 (K := K) h2 (by omega) d 0 K 0 0 rfl (by omega) h4 (by omega) (by omega) (by omega) (by omega)
    rw [Int.natCast_zero] at e
    rw [if_neg (by simp), e]
    simp

theorem dsize_is {K : Nat} {d : List El} {base : Int} (hK : 30000 ≤ K) : delta_Size K base d = some (if isD base d = true then sumK d + sumT d else 0) := by
  unfold delta_Size
  rw [sums_is hK, Option.bind_some]
  by_cases h : isD base d = true
  · obtain ⟨h1, h2, h3, h4, h5⟩ := isD_ok h
    have hn := sumK_nonneg h4
    rw [if_pos h, if_pos h, w64 (by simp only; omega) (by simp only; omega)]
  · rw [if_neg h, if_neg h]; rfl

/-- What elements make of a text's bytes. -/
def apS (s : List Int) : List El → List Int
  | [] => []
  | x :: r => ((s.drop x.1.toNat).take (x.2.1 - x.1).toNat ++ txt x.2.2) ++ apS s r

theorem apply_loop {K : Nat} {d : List El} {s : ByteArray} (hs : s.size ≤ 20000) (hl : d.length ≤ 1000) : ∀ (rest : List El) (j k : Nat) (out W : List Int) (n : Nat), d.drop j = rest → rest.length < k → (∀ x ∈ rest, okE s.size x) → out.take n = W → (n : Int) + sumK rest + sumT rest = out.length → out.length ≤ 1000000 →
    delta_Apply.l0 K d s k out (n : Int) (j : Int) = some (ofBytes (W ++ apS (txt s) rest), 0)
  | [], j, k, out, W, n, hd, hk, hx, hW, hn, ho => by
    obtain ⟨k, rfl⟩ : ∃ m, k = m + 1 := ⟨k - 1, by simp at hk; omega⟩
    have := drop_nil hd
    simp only [sumK, sumT] at hn
    rw [delta_Apply.l0, if_neg (by simp; omega), ← hW, List.take_of_length_le (by omega)]
    simp [apS]
  | x :: rest, j, k, out, W, n, hd, hk, hx, hW, hn, ho => by
    obtain ⟨k, rfl⟩ : ∃ m, k = m + 1 := ⟨k - 1, by simp at hk; omega⟩
    obtain ⟨hj, hgd, hd'⟩ := drop_cons hd el0
    have hk' : rest.length < k := by simp at hk; omega
    have hw : IntKind.wrap .i64 ((j : Int) + 1) = ((j + 1 : Nat) : Int) := by rw [w64 (by omega) (by omega)]; omega
    obtain ⟨o1, o2, o3, o4⟩ := hx x (by simp)
    have hr : ∀ y ∈ rest, okE s.size y := fun y hy => hx y (by simp [hy])
    have hnn := sumK_nonneg hr
    simp only [sumK, sumT] at hn
    have htl := txt_len (s := s)
    have ht2 := txt_len (s := x.2.2)
    obtain ⟨f, hf⟩ : ∃ f : Nat, x.1 = f := ⟨x.1.toNat, by omega⟩
    obtain ⟨m, hm⟩ : ∃ m : Nat, x.2.1 - x.1 = m := ⟨(x.2.1 - x.1).toNat, by omega⟩
    have hft : x.2.1 = ((f + m : Nat) : Int) := by omega
    have hq : List.map (fun b => (UInt8.toNat b : Int)) (Array.toList (ByteArray.data (ByteArray.extract s f (f + m)))) = ((txt s).drop f).take m := by
      have := txt_extract (s := s) (i := f) (j := f + m)
      rw [show f + m - f = m by omega] at this
      exact this
    have hql : (((txt s).drop f).take m).length = m := by simp; omega
    have htk : List.take (out.length - n) (((txt s).drop f).take m) = ((txt s).drop f).take m := List.take_of_length_le (by omega)
    have hp1 := putAt_len (out := out) (l := ((txt s).drop f).take m) (n := n) (by omega)
    have hwn : IntKind.wrap .i64 ((n : Int) + (m : Int)) = ((n + m : Nat) : Int) := by rw [w64 (by omega) (by omega)]; omega
    have htt : List.map (fun b => (UInt8.toNat b : Int)) (Array.toList (ByteArray.data x.2.2)) = txt x.2.2 := rfl
    have htk2 : List.take (out.length - (n + m)) (txt x.2.2) = txt x.2.2 := List.take_of_length_le (by omega)
    have hwn2 : IntKind.wrap .i64 (((n + m : Nat) : Int) + (x.2.2.size : Int)) = ((n + m + x.2.2.size : Nat) : Int) := by rw [w64 (by omega) (by omega)]; omega
    have t1 := putAt_take (out := out) (l := ((txt s).drop f).take m) (n := n) (by omega)
    rw [hql] at t1
    have t2 := putAt_take (out := putAt out (((txt s).drop f).take m) n) (l := txt x.2.2) (n := n + m) (by omega)
    rw [t1, ht2, hW] at t2
    have hp2 := putAt_len (out := putAt out (((txt s).drop f).take m) n) (l := txt x.2.2) (n := n + m) (by omega)
    rw [delta_Apply.l0]
    simp only [Int.toNat_natCast, hgd, hw, hf, hft, hq, htk, hql, hwn, hp1, htt, htk2, ht2, hwn2]
    rw [if_pos (by simpa using hj), if_pos ⟨by omega, by omega⟩, if_pos ⟨by omega, by omega, by omega, by omega, by omega⟩, if_pos ⟨by omega, by omega⟩,
      apply_loop hs hl rest (j + 1) k _ _ (n + m + x.2.2.size) hd' hk' hr t2 (by rw [hp2, hp1]; omega) (by omega), apS, hf, hft, show (((f + m : Nat) : Int) - (f : Int)).toNat = m by omega, Int.toNat_natCast]
    simp only [List.append_assoc]

theorem dapply_is {K : Nat} {d : List El} {base : Int} {s : ByteArray} (hK : 30000 ≤ K) (hsz : s.size ≤ 1000000000000) : delta_Apply K base d s = some (if isD base d = true then (if (s.size : Int) = base then (ofBytes (apS (txt s) d), 0) else (⟨#[]⟩, 80)) else (⟨#[]⟩, 12)) := by
  unfold delta_Apply
  rw [is_is hK, Option.bind_some]
  by_cases h : isD base d = true
  · obtain ⟨h1, h2, h3, h4, h5⟩ := isD_ok h
    have hn := sumK_nonneg h4
    rw [h, if_neg (by simp), if_pos rfl]
    by_cases hs : (s.size : Int) = base
    · subst hs
      rw [if_neg (by simp), if_pos rfl, dsize_is hK, if_pos h, Option.bind_some, if_pos ⟨by omega, by omega, by omega, by omega⟩]
      have e := apply_loop (K := K) (d := d) (s := s) (by omega) (by omega) d 0 K (List.replicate (sumK d + sumT d).toNat 0) [] 0 rfl (by omega) h4 rfl (by simp; omega) (by simp; omega)
      rw [Int.natCast_zero] at e
      rw [e]; rfl
    · rw [if_pos (by simpa using hs), if_neg hs]
  · rw [if_pos (by simpa using h), if_neg h]

theorem el_beq {a b : El} : ((a.1 == b.1) && ((a.2.1 == b.2.1) && (ByteArray.toList a.2.2 == ByteArray.toList b.2.2))) = decide (a = b) := by
  rw [str_beq]
  obtain ⟨a1, a2, a3⟩ := a
  obtain ⟨b1, b2, b3⟩ := b
  by_cases h1 : a1 = b1 <;> by_cases h2 : a2 = b2 <;> by_cases h3 : a3 = b3 <;> simp [h1, h2, h3]

abbrev Ce := Int × Int

def cellsT (t : ByteArray) : List Ce := (txt t).map fun b => (-1, b)

def cellsC : Int → Nat → List Ce
  | _, 0 => []
  | f, m + 1 => (f, 0) :: cellsC (f + 1) m

/-- The cells of elements. -/
def cells : List El → List Ce
  | [] => []
  | x :: r => (cellsT x.2.2 ++ cellsC x.1 (x.2.1 - x.1).toNat) ++ cells r

theorem cellsT_len {t : ByteArray} : (cellsT t).length = t.size := by simp [cellsT, txt_len]

theorem cellsC_len : ∀ {m : Nat} {f : Int}, (cellsC f m).length = m
  | 0, _ => rfl
  | m + 1, f => by rw [cellsC, List.length_cons, cellsC_len]

theorem cells_len {base : Int} : ∀ {l : List El}, (∀ x ∈ l, okE base x) → ((cells l).length : Int) = sumK l + sumT l
  | [], _ => rfl
  | x :: r, h => by
    obtain ⟨o1, o2, o3, o4⟩ := h x (by simp)
    have := cells_len (l := r) fun y hy => h y (by simp [hy])
    simp only [cells, sumK, sumT, List.length_append, cellsT_len, cellsC_len]
    omega

/-- Every cell of the base lies in it. -/
theorem cells_in {base : Int} : ∀ {l : List El}, (∀ x ∈ l, okE base x) → ∀ c ∈ cells l, c.1 = -1 ∨ 0 ≤ c.1 ∧ c.1 < base
  | [], _, c, hc => by simp [cells] at hc
  | x :: r, h, c, hc => by
    obtain ⟨o1, o2, o3, o4⟩ := h x (by simp)
    rw [cells] at hc
    rcases List.mem_append.1 hc with hc | hc
    · rcases List.mem_append.1 hc with hc | hc
      · obtain ⟨b, _, rfl⟩ := List.mem_map.1 hc
        exact .inl rfl
      · right
        have key : ∀ (m : Nat) (f : Int), c ∈ cellsC f m → f ≤ c.1 ∧ c.1 < f + m := by
          intro m
          induction m with
          | zero => intro f h; simp [cellsC] at h
          | succ m ih =>
            intro f h
            rw [cellsC] at h
            rcases List.mem_cons.1 h with rfl | h
            · simp only; omega
            · have := ih (f + 1) h; omega
        have := key _ _ hc
        omega
    · exact cells_in (fun y hy => h y (by simp [hy])) c hc

theorem txt_app {a b : ByteArray} : txt (a ++ b) = txt a ++ txt b := by
  unfold txt
  rw [ByteArray.data_append]
  simp

theorem bt_left {a b : ByteArray} {i : Nat} (h : i < a.size) : bt (a ++ b) (i : Int) = bt a (i : Int) := by
  have h1 : i < (txt a).length := by rw [txt_len]; exact h
  have h2 : i < (txt (a ++ b)).length := by rw [txt_len, bsize_app]; omega
  rw [bt_is h1, bt_is h2]
  have : ∀ (l : List Int) (hl : i < l.length), l = txt a ++ txt b → l[i] = (txt a)[i] := by
    intro l hl e; subst e; rw [List.getElem_append_left]
  exact this _ h2 txt_app

theorem bt_right {a b : ByteArray} {i : Nat} : bt (a ++ b) ((a.size + i : Nat) : Int) = bt b (i : Int) := by
  by_cases h : i < b.size
  · have h1 : i < (txt b).length := by rw [txt_len]; exact h
    have h2 : a.size + i < (txt (a ++ b)).length := by rw [txt_len, bsize_app]; omega
    rw [bt_is h1, bt_is h2]
    have : ∀ (l : List Int) (hl : a.size + i < l.length), l = txt a ++ txt b → l[a.size + i] = (txt b)[i] := by
      intro l hl e
      subst e
      rw [List.getElem_append_right (by rw [txt_len]; omega)]
      congr 1
      rw [txt_len]; omega
    exact this _ h2 txt_app
  · have h1 : ¬ i < b.size := h
    have h2 : ¬ a.size + i < (a ++ b).size := by rw [bsize_app]; omega
    unfold bt
    rw [Int.toNat_natCast, Int.toNat_natCast]
    simp [h1, h2]

theorem uszB_mono {n n' c d e f d' e' f' : Int} (hn : n ≤ n') (hd : 2 ≤ n → d' = d) (he : 3 ≤ n → e' = e) (hf : 4 ≤ n → f' = f) (h : uszB n c d e f ≠ 0) : uszB n' c d' e' f' = uszB n c d e f := by
  unfold uszB at *
  split
  · rfl
  · rename_i h1
    rw [if_neg h1] at h
    split
    · rename_i h2
      rw [if_pos h2] at h
      by_cases c2 : 2 ≤ n ∧ cont d ∧ 128 ≤ c % 32 * 64 + d % 64
      · rw [hd c2.1, if_pos c2, if_pos ⟨by omega, c2.2⟩]
      · rw [if_neg c2] at h; exact absurd rfl h
    · rename_i h2
      rw [if_neg h2] at h
      split
      · rename_i h3
        rw [if_pos h3] at h
        by_cases c3 : 3 ≤ n ∧ cont d ∧ cont e ∧ 2048 ≤ (c % 16 * 64 + d % 64) * 64 + e % 64 ∧ ¬ (55296 ≤ (c % 16 * 64 + d % 64) * 64 + e % 64 ∧ (c % 16 * 64 + d % 64) * 64 + e % 64 < 57344)
        · rw [hd (by omega), he c3.1, if_pos c3, if_pos ⟨by omega, c3.2⟩]
        · rw [if_neg c3] at h; exact absurd rfl h
      · rename_i h3
        rw [if_neg h3] at h
        split
        · rename_i h4
          rw [if_pos h4] at h
          by_cases c4 : 4 ≤ n ∧ cont d ∧ cont e ∧ cont f ∧ 65536 ≤ ((c % 8 * 64 + d % 64) * 64 + e % 64) * 64 + f % 64 ∧ ((c % 8 * 64 + d % 64) * 64 + e % 64) * 64 + f % 64 ≤ 1114111
          · rw [hd (by omega), he (by omega), hf c4.1, if_pos c4, if_pos ⟨by omega, c4.2⟩]
          · rw [if_neg c4] at h; exact absurd rfl h
        · first
          | rfl
          | (rename_i h4
             rw [if_neg h4] at h
             exact absurd rfl h)

theorem usz_left {a b : ByteArray} {i : Nat} (h : usz a (i : Int) ≠ 0) : usz (a ++ b) (i : Int) = usz a (i : Int) := by
  unfold usz at *
  by_cases h1 : (i : Int) < 0 ∨ (i : Int) ≥ a.size
  · rw [if_pos h1] at h; exact absurd rfl h
  · have hb := bsize_app (a := a) (b := b)
    rw [if_neg h1] at h ⊢
    rw [if_neg (by omega), bt_left (by omega)]
    refine uszB_mono (by omega) (fun hh => ?_) (fun hh => ?_) (fun hh => ?_) h
    · have e : (i : Int) + 1 = ((i + 1 : Nat) : Int) := by omega
      rw [e, bt_left (by omega)]
    · have e : (i : Int) + 2 = ((i + 2 : Nat) : Int) := by omega
      rw [e, bt_left (by omega)]
    · have e : (i : Int) + 3 = ((i + 3 : Nat) : Int) := by omega
      rw [e, bt_left (by omega)]

theorem usz_right {a b : ByteArray} {i : Nat} : usz (a ++ b) ((a.size + i : Nat) : Int) = usz b (i : Int) := by
  unfold usz
  have hb := bsize_app (a := a) (b := b)
  by_cases h1 : (i : Int) < 0 ∨ (i : Int) ≥ b.size
  · rw [if_pos h1, if_pos (by omega)]
  · rw [if_neg h1, if_neg (by omega), bt_right]
    have e1 : ((a.size + i : Nat) : Int) + 1 = ((a.size + (i + 1) : Nat) : Int) := by omega
    have e2 : ((a.size + i : Nat) : Int) + 2 = ((a.size + (i + 2) : Nat) : Int) := by omega
    have e3 : ((a.size + i : Nat) : Int) + 3 = ((a.size + (i + 3) : Nat) : Int) := by omega
    rw [e1, e2, e3, bt_right, bt_right, bt_right, show ((a ++ b).size : Int) - ((a.size + i : Nat) : Int) = (b.size : Int) - i by omega]
    rfl

theorem uval_fuel {s : ByteArray} : ∀ (d m m' : Nat) (a : Nat), s.size - a ≤ d → d ≤ m → d ≤ m' → uval s m (a : Int) = uval s m' (a : Int) := by
  intro d
  induction d with
  | zero =>
    intro m m' a h hm hm'
    cases m with
    | zero => cases m' with
      | zero => rfl
      | succ m' => rw [uval, uval, if_neg (by omega)]
    | succ m => cases m' with
      | zero => rw [uval, uval, if_neg (by omega)]
      | succ m' => rw [uval, uval, if_neg (by omega), if_neg (by omega)]
  | succ d ih =>
    intro m m' a h hm hm'
    obtain ⟨m, rfl⟩ : ∃ l, m = l + 1 := ⟨m - 1, by omega⟩
    obtain ⟨m', rfl⟩ : ∃ l, m' = l + 1 := ⟨m' - 1, by omega⟩
    have hu := usz_ok (s := s) (a := a)
    rw [uval, uval]
    split
    · split
      · rfl
      · obtain ⟨n, hn⟩ : ∃ n : Nat, (a : Int) + usz s a = n := ⟨((a : Int) + usz s a).toNat, by omega⟩
        rw [hn]
        exact ih m m' n (by omega) (by omega) (by omega)
    · rfl

theorem uval_app {a b : ByteArray} (hb : uvalid b = true) : ∀ (d i m : Nat), a.size - i = d → i ≤ a.size → d + b.size ≤ m → uval a d (i : Int) = true → uval (a ++ b) m (i : Int) = true := by
  have hsz := bsize_app (a := a) (b := b)
  have right : ∀ (e j m : Nat), b.size - j ≤ e → j ≤ b.size → e ≤ m → uval b e (j : Int) = true → uval (a ++ b) m ((a.size + j : Nat) : Int) = true := by
    intro e
    induction e with
    | zero =>
      intro j m h1 h2 h3 h4
      cases m with
      | zero => rfl
      | succ m => rw [uval, if_neg (by omega)]
    | succ e ih =>
      intro j m h1 h2 h3 h4
      obtain ⟨m, rfl⟩ : ∃ l, m = l + 1 := ⟨m - 1, by omega⟩
      have hu := usz_ok (s := b) (a := j)
      rw [uval] at h4 ⊢
      by_cases hj : (j : Int) < b.size
      · have hu3 := hu.2.2 (by omega) hj
        rw [if_pos hj] at h4
        rw [if_pos (by omega), usz_right]
        by_cases hz : usz b j = 0
        · rw [if_pos hz] at h4; cases h4
        · rw [if_neg hz] at h4 ⊢
          obtain ⟨n, hn⟩ : ∃ n : Nat, usz b j = n := ⟨(usz b j).toNat, by omega⟩
          rw [hn] at h4 hu3 hz ⊢
          have e1 : ((a.size + j : Nat) : Int) + (n : Int) = ((a.size + (j + n) : Nat) : Int) := by omega
          have e2 : (j : Int) + (n : Int) = ((j + n : Nat) : Int) := by omega
          rw [e1]
          rw [e2] at h4
          exact ih (j + n) m (by omega) (by omega) (by omega) h4
      · rw [if_neg (by omega)]
  intro d
  induction d using Nat.strongRecOn with
  | _ d ih =>
    intro i m h1 h2 h3 h4
    by_cases hi : i = a.size
    · subst hi
      have := right b.size 0 m (by omega) (by omega) (by omega) hb
      simpa using this
    · obtain ⟨d, rfl⟩ : ∃ l, d = l + 1 := ⟨d - 1, by omega⟩
      obtain ⟨m, rfl⟩ : ∃ l, m = l + 1 := ⟨m - 1, by omega⟩
      have hu := usz_ok (s := a) (a := i)
      have hu3 := hu.2.2 (by omega) (by omega)
      rw [uval, if_pos (by omega)] at h4
      rw [uval, if_pos (by omega)]
      by_cases hz : usz a i = 0
      · rw [if_pos hz] at h4; cases h4
      · rw [if_neg hz] at h4
        rw [usz_left hz, if_neg hz]
        obtain ⟨n, hn⟩ : ∃ n : Nat, usz a i = n := ⟨(usz a i).toNat, by omega⟩
        rw [hn] at h4 hu3 hz ⊢
        have e2 : (i : Int) + (n : Int) = ((i + n : Nat) : Int) := by omega
        rw [e2] at h4 ⊢
        refine ih (a.size - (i + n)) (by omega) (i + n) m rfl (by omega) (by omega) ?_
        rw [uval_fuel (a.size - (i + n)) (a.size - (i + n)) d (i + n) (by omega) (by omega) (by omega)]
        exact h4

theorem uvalid_app {a b : ByteArray} (ha : uvalid a = true) (hb : uvalid b = true) : uvalid (a ++ b) = true := by
  unfold uvalid
  have h := uval_app hb a.size 0 (a ++ b).size (by omega) (by omega) (by rw [bsize_app]; omega) ha
  exact h

/-- Elements that may come behind others, however long. -/
def isS (base : Int) : Int → Option Bool → List El → Prop
  | _, _, [] => True
  | to, pre, x :: r =>
    if x.2.2.size = 0 then (to ≤ x.1 ∧ (to < x.1 ∨ pre ≠ some true) ∧ x.1 < x.2.1 ∧ x.2.1 ≤ base) ∧ isS base x.2.1 (some true) r
    else (x.1 = 0 ∧ x.2.1 = 0 ∧ pre ≠ some false ∧ uvalid x.2.2 = true) ∧ isS base to (some false) r

def lastTo : Int → List El → Int
  | to, [] => to
  | to, x :: r => lastTo (if x.2.2.size = 0 then x.2.1 else to) r

def lastPre : Option Bool → List El → Option Bool
  | p, [] => p
  | _, x :: r => lastPre (some (decide (x.2.2.size = 0))) r

theorem isS_app {base : Int} : ∀ {l r : List El} {to : Int} {pre : Option Bool}, isS base to pre (l ++ r) ↔ isS base to pre l ∧ isS base (lastTo to l) (lastPre pre l) r
  | [], r, to, pre => by simp [isS, lastTo, lastPre]
  | x :: l, r, to, pre => by
    rw [List.cons_append, isS, isS, lastTo, lastPre]
    by_cases h : x.2.2.size = 0
    · rw [if_pos h, if_pos h, if_pos h, decide_eq_true h, isS_app]
      exact ⟨fun h => ⟨⟨h.1, h.2.1⟩, h.2.2⟩, fun h => ⟨h.1.1, h.1.2, h.2⟩⟩
    · rw [if_neg h, if_neg h, if_neg h, decide_eq_false h, isS_app]
      exact ⟨fun h => ⟨⟨h.1, h.2.1⟩, h.2.2⟩, fun h => ⟨h.1.1, h.1.2, h.2⟩⟩

theorem lastTo_app : ∀ {l : List El} {x : El} {to : Int}, lastTo to (l ++ [x]) = if x.2.2.size = 0 then x.2.1 else lastTo to l
  | [], _, _ => rfl
  | y :: l, x, to => by rw [List.cons_append, lastTo, lastTo_app, lastTo]

theorem lastPre_app : ∀ {l : List El} {x : El} {p : Option Bool}, lastPre p (l ++ [x]) = some (decide (x.2.2.size = 0))
  | [], _, _ => rfl
  | y :: l, x, p => by rw [List.cons_append, lastPre, lastPre_app]

theorem isS_isL {base : Int} : ∀ {l : List El} {size to : Int} {pre : Option Bool}, isS base to pre l → size + sumK l + sumT l ≤ 20000 → isL base size to pre l = true
  | [], _, _, _, _, _ => rfl
  | x :: r, size, to, pre, h, hs => by
    have nn : ∀ {r : List El} {to : Int} {pre : Option Bool}, isS base to pre r → 0 ≤ sumK r := by
      intro r
      induction r with
      | nil => intro _ _ _; simp [sumK]
      | cons y r ih =>
        intro to pre h
        rw [isS] at h
        split at h
        · have := ih h.2; have := h.1.2.2.1; simp only [sumK]; omega
        · have := ih h.2; have := h.1.1; have := h.1.2.1; simp only [sumK]; omega
    rw [isS] at h
    simp only [sumK, sumT] at hs
    rw [isL]
    by_cases hz : x.2.2.size = 0
    · rw [if_pos hz] at h ⊢
      have hn := nn h.2
      rw [isS_isL h.2 (by omega), decide_eq_true ⟨h.1.1, h.1.2.1, h.1.2.2.1, h.1.2.2.2, by omega⟩]
      rfl
    · rw [if_neg hz] at h ⊢
      have hn := nn h.2
      have h1 := h.1.1
      have h2 := h.1.2.1
      rw [isS_isL h.2 (by omega), decide_eq_true ⟨h.1.1, h.1.2.1, h.1.2.2.1, by omega⟩, h.1.2.2.2]
      rfl

/-- What a maker has made, up to a place. -/
def Made (base : Int) (acc : List El) (a : Int) : Prop := isS base 0 none acc ∧ lastTo 0 acc ≤ a ∧ 0 ≤ a ∧ a ≤ base

theorem made_copy {base a f : Int} {acc : List El} (h : Made base acc a) (h1 : a ≤ f) (h2 : f ≤ base) : Made base (mkCopy acc a f) f := by
  obtain ⟨m1, m2, m3, m4⟩ := h
  by_cases he : acc = []
  · subst he
    rw [mkCopy_nil]
    by_cases hf : a = f
    · rw [if_pos hf]; exact ⟨m1, by rw [lastTo]; omega, by omega, h2⟩
    · rw [if_neg hf]
      refine ⟨?_, ?_, by omega, h2⟩
      · rw [isS, if_pos empty_size]
        exact ⟨⟨m3, .inr (by simp), by simp only; omega, h2⟩, trivial⟩
      · rw [lastTo, if_pos empty_size, lastTo]; simp
  · obtain ⟨l, p, rfl⟩ := split_last he
    rw [mkCopy_app]
    by_cases hf : a = f
    · rw [if_pos hf]; exact ⟨m1, by omega, by omega, h2⟩
    · rw [if_neg hf]
      have m1' := m1
      rw [isS_app] at m1'
      obtain ⟨i1, i2⟩ := m1'
      rw [lastTo_app] at m2
      by_cases hp : p.2.2.size = 0 ∧ p.2.1 = a
      · rw [if_pos hp]
        rw [isS, if_pos hp.1] at i2
        refine ⟨?_, ?_, by omega, h2⟩
        · rw [isS_app]
          refine ⟨i1, ?_⟩
          rw [isS, if_pos (show (p.1, (f, p.2.2)).2.2.size = 0 from hp.1)]
          have := i2.1.2.2.1
          exact ⟨⟨i2.1.1, i2.1.2.1, by simp only; omega, h2⟩, trivial⟩
        · rw [lastTo_app, if_pos (show (p.1, (f, p.2.2)).2.2.size = 0 from hp.1)]
          simp
      · rw [if_neg hp]
        refine ⟨?_, ?_, by omega, h2⟩
        · rw [isS_app]
          refine ⟨m1, ?_⟩
          rw [isS, if_pos empty_size, lastTo_app, lastPre_app]
          refine ⟨⟨by simpa using m2, ?_, by simp only; omega, h2⟩, trivial⟩
          by_cases hz : p.2.2.size = 0
          · rw [if_pos hz] at m2 ⊢
            left
            simp only
            have : p.2.1 ≠ a := fun e => hp ⟨hz, e⟩
            omega
          · right
            rw [decide_eq_false hz]
            simp
        · rw [lastTo_app, if_pos empty_size]; simp

theorem made_put {base a : Int} {acc : List El} {s : ByteArray} (h : Made base acc a) (hv : uvalid s = true) : Made base (mkPut acc s) a := by
  obtain ⟨m1, m2, m3, m4⟩ := h
  by_cases he : acc = []
  · subst he
    rw [mkPut_nil]
    by_cases hz : s.size = 0
    · rw [if_pos hz]; exact ⟨m1, m2, m3, m4⟩
    · rw [if_neg hz]
      refine ⟨?_, ?_, m3, m4⟩
      · rw [isS, if_neg hz]
        exact ⟨⟨rfl, rfl, by simp, hv⟩, trivial⟩
      · rw [lastTo, if_neg hz, lastTo]; exact m3
  · obtain ⟨l, p, rfl⟩ := split_last he
    rw [mkPut_app]
    by_cases hz : s.size = 0
    · rw [if_pos hz]; exact ⟨m1, m2, m3, m4⟩
    · rw [if_neg hz]
      have m1' := m1
      rw [isS_app] at m1'
      obtain ⟨i1, i2⟩ := m1'
      by_cases hp : p.2.2.size = 0
      · rw [if_pos hp]
        refine ⟨?_, ?_, m3, m4⟩
        · rw [isS_app]
          refine ⟨m1, ?_⟩
          rw [isS, if_neg hz, lastPre_app, decide_eq_true hp]
          exact ⟨⟨rfl, rfl, by simp, hv⟩, trivial⟩
        · rw [lastTo_app, if_neg hz]; exact m2
      · rw [if_neg hp]
        rw [isS, if_neg hp] at i2
        have hz2 : ¬ (p.2.2 ++ s).size = 0 := by rw [bsize_app]; omega
        refine ⟨?_, ?_, m3, m4⟩
        · rw [isS_app]
          refine ⟨i1, ?_⟩
          rw [isS, if_neg hz2]
          exact ⟨⟨i2.1.1, i2.1.2.1, i2.1.2.2.1, uvalid_app i2.1.2.2.2 hv⟩, trivial⟩
        · rw [lastTo_app, if_neg hz2]
          rw [lastTo_app, if_neg hp] at m2
          exact m2

theorem mkPut_sumK {l : List El} {s : ByteArray} : sumK (mkPut l s) = sumK l := by
  by_cases h : l = []
  · subst h; rw [mkPut_nil]; split <;> simp [sumK]
  · obtain ⟨m, p, rfl⟩ := split_last h
    rw [mkPut_app]
    split
    · rfl
    · split <;> simp [sumK_app, sumK]

theorem mkCopy_sumK {l : List El} {a f : Int} : sumK (mkCopy l a f) = sumK l + (f - a) := by
  by_cases h : l = []
  · subst h; rw [mkCopy_nil]; split
    · simp only [sumK]; omega
    · simp only [sumK]; omega
  · obtain ⟨m, p, rfl⟩ := split_last h
    rw [mkCopy_app]
    split
    · omega
    · split
      · rename_i h2
        have := h2.2
        simp only [sumK_app, sumK]; omega
      · simp only [sumK_app, sumK]; omega

theorem apS_app {s : List Int} : ∀ {l r : List El}, apS s (l ++ r) = apS s l ++ apS s r
  | [], r => rfl
  | x :: l, r => by simp only [List.cons_append, apS, apS_app, List.append_assoc]

theorem txt_empty : txt ByteArray.empty = [] := rfl

theorem apS_put {s : List Int} {l : List El} {t : ByteArray} : apS s (mkPut l t) = apS s l ++ txt t := by
  have hz : t.size = 0 → txt t = [] := fun h => List.eq_nil_of_length_eq_zero (by rw [txt_len]; exact h)
  by_cases h : l = []
  · subst h; rw [mkPut_nil]; split
    · rename_i h; rw [hz h]; rfl
    · simp [apS]
  · obtain ⟨m, p, rfl⟩ := split_last h
    rw [mkPut_app]
    split
    · rename_i h; rw [hz h]; simp
    · split
      · rw [apS_app]; simp [apS]
      · rw [apS_app, apS_app]; simp [apS, txt_app]

theorem apS_copy {base a f : Int} {s : List Int} {l : List El} (h : Made base l a) (h1 : a ≤ f) (h2 : f ≤ base) : apS s (mkCopy l a f) = apS s l ++ (s.drop a.toNat).take (f - a).toNat := by
  obtain ⟨m1, m2, m3, m4⟩ := h
  by_cases he : l = []
  · subst he; rw [mkCopy_nil]; split
    · rename_i h; rw [h]; simp [apS]
    · simp [apS, txt_empty]
  · obtain ⟨m, p, rfl⟩ := split_last he
    rw [mkCopy_app]
    split
    · rename_i h; rw [h]; simp
    · split
      · rename_i hp
        rw [isS_app] at m1
        have i2 := m1.2
        rw [isS, if_pos hp.1] at i2
        have hl : 0 ≤ lastTo 0 m := by
          have key : ∀ (r : List El) (to : Int) (pre : Option Bool), 0 ≤ to → isS base to pre r → 0 ≤ lastTo to r := by
            intro r
            induction r with
            | nil => intro to pre h0 _; exact h0
            | cons y r ih =>
              intro to pre h0 hr
              rw [isS] at hr
              rw [lastTo]
              split at hr
              · rename_i hy; rw [if_pos hy]; have := hr.1.1; have := hr.1.2.2.1; exact ih _ _ (by omega) hr.2
              · rename_i hy; rw [if_neg hy]; exact ih _ _ h0 hr.2
          exact key m 0 none (by omega) m1.1
        have q1 := i2.1.1
        have q2 := i2.1.2.2.1
        have htz : txt p.2.2 = [] := List.eq_nil_of_length_eq_zero (by rw [txt_len]; exact hp.1)
        rw [apS_app, apS_app]
        simp only [apS, htz, List.append_nil, List.append_assoc]
        congr 1
        rw [hp.2]
        have e1 : (f - p.1).toNat = (a - p.1).toNat + (f - a).toNat := by omega
        have e2 : a.toNat = p.1.toNat + (a - p.1).toNat := by omega
        rw [e1, e2, List.take_add, List.drop_drop]
      · rw [apS_app]; simp [apS, txt_empty]

/-- What changes make of a text's bytes. -/
def chS (s : List Int) : Int → List El → List Int
  | _, [] => []
  | a, c :: r => ((s.drop a.toNat).take (c.1 - a).toNat ++ txt c.2.2) ++ chS s c.2.1 r

theorem bld_ok {base : Int} {s : List Int} : ∀ {l acc : List El} {a : Int} {prev : Option El}, Made base acc a → rngL base l = true → ordL prev l = true → valL l = true → (∀ p, prev = some p → p.2.1 = a) → (prev = none → a = 0) →
    Made base (bld acc a l).1 (bld acc a l).2 ∧ sumT (bld acc a l).1 = sumT acc + sumT l ∧ sumK (bld acc a l).1 = sumK acc + ((bld acc a l).2 - a) - sumK l ∧ apS s (bld acc a l).1 = apS s acc ++ chS s a l
  | [], acc, a, prev, hm, _, _, _, _, _ => ⟨hm, by simp [bld, sumT], by simp only [bld, sumK]; omega, by simp [bld, chS]⟩
  | c :: r, acc, a, prev, hm, hr, ho, hv, hp, hn => by
    rw [show rngL base (c :: r) = (decide (0 ≤ c.1 ∧ c.1 ≤ c.2.1 ∧ c.2.1 ≤ base) && rngL base r) from rfl, Bool.and_eq_true, decide_eq_true_eq] at hr
    rw [show valL (c :: r) = (uvalid c.2.2 && valL r) from rfl, Bool.and_eq_true] at hv
    obtain ⟨⟨r1, r2, r3⟩, hr'⟩ := hr
    have hac : a ≤ c.1 ∧ ordL (some c) r = true := by
      cases prev with
      | none => rw [hn rfl]; exact ⟨r1, ho⟩
      | some p =>
        rw [ordL, Bool.and_eq_true] at ho
        have h1 := ho.1
        have h2 := hp p rfl
        simp only [Bool.not_eq_true', decide_eq_false_iff_not] at h1
        exact ⟨by omega, ho.2⟩
    have k1 := made_copy hm hac.1 (by omega)
    have k2 := made_put k1 hv.1
    have k3 : Made base (mkPut (mkCopy acc a c.1) c.2.2) c.2.1 := ⟨k2.1, by have := k2.2.1; omega, by omega, r3⟩
    obtain ⟨e1, e2, e3, e4⟩ := bld_ok (s := s) k3 hr' hac.2 hv.2 (fun p hp => by cases hp; rfl) (fun h => by cases h)
    rw [bld]
    refine ⟨e1, by rw [e2, mkPut_sumT, mkCopy_sumT]; simp only [sumT]; omega, by rw [e3, mkPut_sumK, mkCopy_sumK]; simp only [sumK]; omega, ?_⟩
    rw [e4, apS_put, apS_copy hm hac.1 (by omega)]
    simp only [chS, List.append_assoc]

theorem lng_zero : ∀ {l : List El} {left : Int}, lngL left l = 0 → (sumT l : Int) ≤ left ∨ l = []
  | [], _, _ => .inr rfl
  | c :: r, left, h => by
    rw [lngL] at h
    split at h
    · cases h
    · left
      simp only [sumT]
      rcases lng_zero h with h' | h'
      · omega
      · subst h'; simp only [sumT]; omega

/-- What is built is a delta; what it makes. -/
theorem built_ok {base : Int} {l : List El} {s : List Int} (h : (bldD base l).2.2 = 0) : 0 ≤ base ∧ base ≤ 20000 ∧ rngL base l = true ∧ ordL none l = true ∧ valL l = true ∧ (bldD base l).1 = base ∧ isD base (bldD base l).2.1 = true ∧
    sumT (bldD base l).2.1 = sumT l ∧ sumK (bldD base l).2.1 = base - sumK l ∧ apS s (bldD base l).2.1 = chS s 0 l ++ (s.drop (bld [] 0 l).2.toNat).take (base - (bld [] 0 l).2).toNat := by
  unfold bldD at *
  split at h
  · rename_i h1
    exact absurd h h1
  · rename_i h1
    split at h
    · cases h
    · rename_i h2
      rw [if_neg h1, if_neg h2]
      have h1' : chk base l = 0 := by simpa using h1
      unfold chk at h1'
      split at h1'
      · cases h1'
      · split at h1'
        · cases h1'
        · split at h1'
          · cases h1'
          · split at h1'
            · cases h1'
            · rename_i a1 a2 a3 a4
              have b2 : rngL base l = true := by simpa using a2
              have b3 : ordL none l = true := by simpa using a3
              have b4 : valL l = true := by simpa using a4
              have hm : Made base [] 0 := ⟨trivial, by simp [lastTo], by omega, by omega⟩
              obtain ⟨e1, e2, e3, e4⟩ := bld_ok (s := s) hm b2 b3 b4 (fun p hp => by cases hp) (fun _ => rfl)
              have hle := e1.2.2.2
              have f1 := made_copy e1 hle (by omega)
              have f2 := mkCopy_sumK (l := (bld [] 0 l).1) (a := (bld [] 0 l).2) (f := base)
              have f3 := mkCopy_sumT (l := (bld [] 0 l).1) (f := (bld [] 0 l).2) (t := base)
              have f4 := apS_copy (s := s) e1 hle (by omega)
              simp only [sumT, sumK, apS] at e2 e3 e4
              have hlong : base - sumK l + sumT l ≤ 20000 := by
                rcases lng_zero h1' with h' | h'
                · omega
                · subst h'; simp only [sumK, sumT]; omega
              refine ⟨by omega, by omega, b2, b3, b4, rfl, ?_, by rw [f3, e2]; omega, by rw [f2, e3]; omega, by rw [f4, e4]; rfl⟩
              have h60 : (mkCopy (bld [] 0 l).1 (bld [] 0 l).2 base).length ≤ 60 := by omega
              unfold isD
              rw [decide_eq_true ⟨by omega, by omega, h60⟩, isS_isL f1.1 (by rw [f2, f3, e2, e3]; omega)]
              rfl

theorem cellsC_add : ∀ {m n : Nat} {f : Int}, cellsC f (m + n) = cellsC f m ++ cellsC (f + m) n
  | 0, n, f => by simp [cellsC]
  | m + 1, n, f => by
    rw [show m + 1 + n = (m + n) + 1 by omega, cellsC, cellsC_add, cellsC, show f + 1 + (m : Int) = f + ((m + 1 : Nat) : Int) by omega]
    rfl

theorem cellsT_app {a b : ByteArray} : cellsT (a ++ b) = cellsT a ++ cellsT b := by
  unfold cellsT
  rw [txt_app, List.map_append]

theorem cellsT_nil {t : ByteArray} (h : t.size = 0) : cellsT t = [] := List.eq_nil_of_length_eq_zero (by rw [cellsT_len]; exact h)

theorem cells_app : ∀ {l r : List El}, cells (l ++ r) = cells l ++ cells r
  | [], r => rfl
  | x :: l, r => by simp only [List.cons_append, cells, cells_app, List.append_assoc]

theorem cells_put {base : Int} {l : List El} {t : ByteArray} (hm : isS base 0 none l) : cells (mkPut l t) = cells l ++ cellsT t := by
  by_cases h : l = []
  · subst h; rw [mkPut_nil]; split
    · rename_i h; rw [cellsT_nil h]; rfl
    · simp [cells, cellsC]
  · obtain ⟨m, p, rfl⟩ := split_last h
    rw [mkPut_app]
    split
    · rename_i h; rw [cellsT_nil h]; simp
    · split
      · rw [cells_app]; simp [cells, cellsC]
      · rename_i hp
        rw [isS_app] at hm
        have i2 := hm.2
        rw [isS, if_neg hp] at i2
        rw [cells_app, cells_app]
        simp [cells, cellsT_app, i2.1.1, i2.1.2.1, cellsC]

theorem cells_copy {base a f : Int} {l : List El} (h : Made base l a) (h1 : a ≤ f) : cells (mkCopy l a f) = cells l ++ cellsC a (f - a).toNat := by
  obtain ⟨m1, m2, m3, m4⟩ := h
  have ce : cellsT ByteArray.empty = [] := cellsT_nil rfl
  by_cases he : l = []
  · subst he; rw [mkCopy_nil]; split
    · rename_i h; rw [h]; simp [cells, cellsC]
    · simp [cells, ce]
  · obtain ⟨m, p, rfl⟩ := split_last he
    rw [mkCopy_app]
    split
    · rename_i h; rw [h]; simp [cellsC]
    · split
      · rename_i hp
        rw [isS_app] at m1
        have i2 := m1.2
        rw [isS, if_pos hp.1] at i2
        have q2 := i2.1.2.2.1
        have htz := cellsT_nil hp.1
        rw [cells_app, cells_app]
        simp only [cells, htz, List.append_nil, List.nil_append, List.append_assoc]
        congr 1
        rw [hp.2]
        rw [show (f - p.1).toNat = (a - p.1).toNat + (f - a).toNat by omega, cellsC_add, show p.1 + ((a - p.1).toNat : Int) = a by omega]
      · rw [cells_app]; simp [cells, ce]

/-- What changes make, cell by cell. -/
def chC : Int → List El → List Ce
  | _, [] => []
  | a, c :: r => (cellsC a (c.1 - a).toNat ++ cellsT c.2.2) ++ chC c.2.1 r

theorem bld_cells {base : Int} : ∀ {l acc : List El} {a : Int} {prev : Option El}, Made base acc a → rngL base l = true → ordL prev l = true → valL l = true → (∀ p, prev = some p → p.2.1 = a) → (prev = none → a = 0) →
    Made base (bld acc a l).1 (bld acc a l).2 ∧ cells (bld acc a l).1 = cells acc ++ chC a l
  | [], acc, a, prev, hm, _, _, _, _, _ => ⟨hm, by simp [bld, chC]⟩
  | c :: r, acc, a, prev, hm, hr, ho, hv, hp, hn => by
    rw [show rngL base (c :: r) = (decide (0 ≤ c.1 ∧ c.1 ≤ c.2.1 ∧ c.2.1 ≤ base) && rngL base r) from rfl, Bool.and_eq_true, decide_eq_true_eq] at hr
    rw [show valL (c :: r) = (uvalid c.2.2 && valL r) from rfl, Bool.and_eq_true] at hv
    obtain ⟨⟨r1, r2, r3⟩, hr'⟩ := hr
    have hac : a ≤ c.1 ∧ ordL (some c) r = true := by
      cases prev with
      | none => rw [hn rfl]; exact ⟨r1, ho⟩
      | some p =>
        rw [ordL, Bool.and_eq_true] at ho
        have h1 := ho.1
        have h2 := hp p rfl
        simp only [Bool.not_eq_true', decide_eq_false_iff_not] at h1
        exact ⟨by omega, ho.2⟩
    have k1 := made_copy hm hac.1 (by omega)
    have k2 := made_put k1 hv.1
    have k3 : Made base (mkPut (mkCopy acc a c.1) c.2.2) c.2.1 := ⟨k2.1, by have := k2.2.1; omega, by omega, r3⟩
    obtain ⟨e1, e2⟩ := bld_cells k3 hr' hac.2 hv.2 (fun p hp => by cases hp; rfl) (fun h => by cases h)
    rw [bld]
    refine ⟨e1, ?_⟩
    rw [e2, cells_put k1.1, cells_copy hm hac.1]
    simp only [chC, List.append_assoc]

/-- How many at the head are put in. -/
def runT : List Ce → Nat
  | [] => 0
  | c :: r => if c.1 < 0 then runT r + 1 else 0

/-- How many at the head go on from a place. -/
def runC : Int → List Ce → Nat
  | _, [] => 0
  | a, c :: r => if c.1 = a + 1 then runC c.1 r + 1 else 0

/-- Cells, told. -/
def told : Nat → List Ce → List El
  | 0, _ => []
  | _, [] => []
  | m + 1, c :: r =>
    if c.1 < 0 then (0, (0, ofBytes (c.2 :: (r.take (runT r)).map (·.2)))) :: told m (r.drop (runT r))
    else (c.1, (c.1 + runC c.1 r + 1, ByteArray.empty)) :: told m (r.drop (runC c.1 r))

theorem runC_C : ∀ {m : Nat} {a : Int} {R : List Ce}, (∀ c r, R = c :: r → c.1 ≠ a + m + 1) → runC a (cellsC (a + 1) m ++ R) = m
  | 0, a, R, hR => by
    cases R with
    | nil => rfl
    | cons c r =>
      have := hR c r rfl
      simp only [cellsC, List.nil_append, runC]
      rw [if_neg (by omega)]
  | m + 1, a, R, hR => by
    rw [cellsC, List.cons_append, runC, if_pos rfl, runC_C (fun c r e => by have := hR c r e; omega)]

theorem map_snd_cellsT {l : List Int} : (l.map (fun b => ((-1 : Int), b))).map (·.2) = l := by
  rw [List.map_map]
  have : ((fun x : Ce => x.2) ∘ fun b : Int => ((-1 : Int), b)) = id := by funext b; rfl
  rw [this]; simp

theorem isS_val {base : Int} : ∀ {r : List El} {to : Int} {pre : Option Bool}, isS base to pre r → valL r = true
  | [], _, _, _ => rfl
  | x :: r, to, pre, h => by
    have hv0 : ∀ t : ByteArray, t.size = 0 → uvalid t = true := fun t h => by unfold uvalid; rw [h]; rfl
    rw [isS] at h
    rw [show valL (x :: r) = (uvalid x.2.2 && valL r) from rfl]
    split at h
    · rename_i hz; rw [hv0 _ hz, isS_val h.2]; rfl
    · rw [h.1.2.2.2, isS_val h.2]; rfl

theorem isL_isS {base : Int} : ∀ {l : List El} {size to : Int} {pre : Option Bool}, isL base size to pre l = true → isS base to pre l
  | [], _, _, _, _ => trivial
  | x :: r, size, to, pre, h => by
    rw [isL] at h
    rw [isS]
    split at h
    · rename_i hz
      rw [Bool.and_eq_true, decide_eq_true_eq] at h
      rw [if_pos hz]
      exact ⟨⟨h.1.1, h.1.2.1, h.1.2.2.1, h.1.2.2.2.1⟩, isL_isS h.2⟩
    · rename_i hz
      rw [Bool.and_eq_true, Bool.and_eq_true, decide_eq_true_eq] at h
      rw [if_neg hz]
      exact ⟨⟨h.1.1.1, h.1.1.2.1, h.1.1.2.2.1, h.1.2⟩, isL_isS h.2⟩

theorem isD_isS {base : Int} {l : List El} (h : isD base l = true) : isS base 0 none l := by
  unfold isD at h
  rw [Bool.and_eq_true] at h
  exact isL_isS h.2

theorem lng_is2 : ∀ {l : List El} {left : Int}, 0 ≤ left → lngL left l = if (sumT l : Int) > left then 13 else 0
  | [], left, h => by rw [if_neg (by simp only [sumT]; omega)]; rfl
  | c :: r, left, h => by
    rw [lngL]
    by_cases h1 : (c.2.2.size : Int) > left
    · rw [if_pos h1, if_pos (by simp only [sumT]; omega)]
    · rw [if_neg h1, lng_is2 (by omega)]
      by_cases h2 : (sumT r : Int) > left - c.2.2.size
      · rw [if_pos h2, if_pos (by simp only [sumT]; omega)]
      · rw [if_neg h2, if_neg (by simp only [sumT]; omega)]

theorem built_cells {base : Int} {l : List El} (h : (bldD base l).2.2 = 0) : cells (bldD base l).2.1 = chC 0 l ++ cellsC (bld [] 0 l).2 (base - (bld [] 0 l).2).toNat := by
  obtain ⟨c1, c2, c3, c4, c5, c6, c7, c8, c9, c10⟩ := built_ok (s := []) h
  have hm : Made base [] 0 := ⟨trivial, by simp [lastTo], by omega, by omega⟩
  obtain ⟨m1, m2⟩ := bld_cells hm c3 c4 c5 (fun p hp => by cases hp) (fun _ => rfl)
  have f2 := cells_copy m1 m1.2.2.2
  unfold bldD at h ⊢
  split at h
  · rename_i h1; exact absurd h h1
  · rename_i h1
    split at h
    · cases h
    · rename_i h2
      rw [if_neg h1, if_neg h2, f2, m2]; rfl

/-- One change. -/
theorem one_is {n a b : Nat} {t : ByteArray} (h1 : a ≤ b) (h2 : b ≤ n) (hn : n ≤ 10000) (ht : t.size ≤ 1000) : (uvalid t = false → (bldD n [((a : Int), ((b : Int), t))]).2.2 = 12) ∧
    (uvalid t = true → (bldD n [((a : Int), ((b : Int), t))]).2.2 = 0 ∧ (bldD n [((a : Int), ((b : Int), t))]).1 = n ∧ isD n (bldD n [((a : Int), ((b : Int), t))]).2.1 = true ∧ cells (bldD n [((a : Int), ((b : Int), t))]).2.1 = cellsC 0 a ++ (cellsT t ++ cellsC b (n - b))) := by
  have r1 : rngL n [((a : Int), ((b : Int), t))] = true := by simp [rngL]; omega
  have r2 : ordL none [((a : Int), ((b : Int), t))] = true := rfl
  have hv : valL [((a : Int), ((b : Int), t))] = uvalid t := by simp [valL]
  have hc : chk n [((a : Int), ((b : Int), t))] = if uvalid t = false then 12 else 0 := by
    unfold chk
    rw [if_neg (by omega), r1, r2, hv, if_neg (by simp), if_neg (by simp)]
    cases uvalid t with
    | false => rfl
    | true =>
      rw [if_neg (by simp), if_neg (by simp), lng_is2 (by simp only [sumK]; omega), if_neg (by simp only [sumK, sumT]; omega)]
  have hbl : bld [] 0 [((a : Int), ((b : Int), t))] = (mkPut (mkCopy [] 0 a) t, (b : Int)) := rfl
  constructor
  · intro h
    unfold bldD
    rw [hc, if_pos h, if_pos (by omega)]
  · intro h
    have hz : (bldD n [((a : Int), ((b : Int), t))]).2.2 = 0 := by
      have l1 := mkCopy_len (l := []) (f := 0) (t := a)
      have l2 := mkPut_len (l := mkCopy [] 0 a) (s := t)
      have l3 := mkCopy_len (l := mkPut (mkCopy [] 0 a) t) (f := b) (t := n)
      simp only [List.length_nil] at l1
      unfold bldD
      rw [hc, if_neg (show ¬ uvalid t = false by simp [h]), if_neg (show ¬ (0 : Int) ≠ 0 by simp), hbl]
      simp only
      rw [if_neg (by omega)]
    obtain ⟨c1, c2, c3, c4, c5, c6, c7, c8, c9, c10⟩ := built_ok (s := []) hz
    refine ⟨hz, c6, c7, ?_⟩
    rw [built_cells hz, hbl]
    simp only [chC, List.append_nil, List.append_assoc]
    rw [show ((a : Int) - 0).toNat = a by omega, show ((n : Int) - (b : Int)).toNat = n - b by omega]

/-- No two elements could be one. -/
def nrm : Option El → List El → Prop
  | _, [] => True
  | pre, x :: r => ((x.2.2.size = 0 ∧ 0 ≤ x.1 ∧ x.1 < x.2.1 ∧ ∀ p, pre = some p → p.2.2.size = 0 → p.2.1 ≠ x.1) ∨ (x.2.2.size ≠ 0 ∧ x.1 = 0 ∧ x.2.1 = 0 ∧ ∀ p, pre = some p → p.2.2.size = 0)) ∧ nrm (some x) r

def lastN : Option El → List El → Option El
  | p, [] => p
  | _, x :: r => lastN (some x) r

theorem nrm_app : ∀ {l r : List El} {pre : Option El}, nrm pre (l ++ r) ↔ nrm pre l ∧ nrm (lastN pre l) r
  | [], r, pre => by simp [nrm, lastN]
  | x :: l, r, pre => by simp only [List.cons_append, nrm, lastN, nrm_app, and_assoc]

theorem lastN_app : ∀ {l : List El} {x : El} {pre : Option El}, lastN pre (l ++ [x]) = some x
  | [], _, _ => rfl
  | _ :: l, x, _ => by rw [List.cons_append, lastN, lastN_app]

theorem cellsT_empty : cellsT ByteArray.empty = [] := cellsT_nil rfl

theorem nrm_copy {l : List El} {f t : Int} (h : nrm none l) (h0 : 0 ≤ f) (h1 : f ≤ t) : nrm none (mkCopy l f t) ∧ cells (mkCopy l f t) = cells l ++ cellsC f (t - f).toNat := by
  by_cases he : l = []
  · subst he; rw [mkCopy_nil]; split
    · rename_i h; rw [h]; simp [cells, cellsC, nrm]
    · simp only [nrm, cells, cellsT_empty]
      exact ⟨⟨.inl ⟨empty_size, h0, by omega, fun p hp => by cases hp⟩, trivial⟩, by simp⟩
  · obtain ⟨m, p, rfl⟩ := split_last he
    rw [mkCopy_app]
    have h2 := nrm_app.1 h
    split
    · rename_i h'; subst h'; exact ⟨h, by simp [cellsC]⟩
    · split
      · rename_i hp
        have i2 := h2.2.1
        rcases i2 with i2 | i2
        · refine ⟨nrm_app.2 ⟨h2.1, .inl ⟨hp.1, i2.2.1, by simp only; omega, i2.2.2.2⟩, trivial⟩, ?_⟩
          have htz := cellsT_nil hp.1
          rw [cells_app, cells_app]
          simp only [cells, htz, List.append_nil, List.nil_append, List.append_assoc]
          congr 1
          rw [hp.2, show (t - p.1).toNat = (f - p.1).toNat + (t - f).toNat by omega, cellsC_add, show p.1 + ((f - p.1).toNat : Int) = f by omega]
        · exact absurd hp.1 i2.1
      · rename_i hp
        refine ⟨nrm_app.2 ⟨h, .inl ⟨empty_size, h0, by simp only; omega, fun q hq hz => ?_⟩, trivial⟩, ?_⟩
        · rw [lastN_app] at hq
          cases hq
          simp only
          exact fun e => hp ⟨hz, e⟩
        · rw [cells_app]; simp [cells, cellsT_empty]

theorem nrm_put {l : List El} {s : ByteArray} (h : nrm none l) : nrm none (mkPut l s) ∧ cells (mkPut l s) = cells l ++ cellsT s := by
  by_cases he : l = []
  · subst he; rw [mkPut_nil]; split
    · rename_i h; rw [cellsT_nil h]; simp [cells, nrm]
    · rename_i hz
      simp only [nrm, cells]
      exact ⟨⟨.inr ⟨hz, by simp, by simp, fun p hp => by cases hp⟩, trivial⟩, by simp [cellsC]⟩
  · obtain ⟨m, p, rfl⟩ := split_last he
    rw [mkPut_app]
    have h2 := nrm_app.1 h
    split
    · rename_i h'; rw [cellsT_nil h']; simp; exact h
    · split
      · rename_i hs hp
        refine ⟨nrm_app.2 ⟨h, .inr ⟨hs, by simp, by simp, fun q hq => ?_⟩, trivial⟩, ?_⟩
        · rw [lastN_app] at hq; cases hq; exact hp
        · rw [cells_app]; simp [cells, cellsC]
      · rename_i hs hp
        rcases h2.2.1 with i2 | i2
        · exact absurd i2.1 hp
        · refine ⟨nrm_app.2 ⟨h2.1, .inr ⟨by rw [bsize_app]; omega, i2.2.1, i2.2.2.1, i2.2.2.2⟩, trivial⟩, ?_⟩
          rw [cells_app, cells_app]
          simp [cells, cellsT_app, i2.2.1, i2.2.2.1, cellsC]

theorem isS_nrm {base : Int} : ∀ {l : List El} {to : Int} {pre : Option Bool} {q : Option El}, 0 ≤ to → isS base to pre l → pre = q.map (fun p => decide (p.2.2.size = 0)) → (∀ p, q = some p → p.2.2.size = 0 → p.2.1 = to) → nrm q l
  | [], _, _, _, _, _, _, _ => trivial
  | x :: r, to, pre, q, h0, h, hq, ht => by
    rw [isS] at h
    split at h
    · rename_i hz
      refine ⟨.inl ⟨hz, by have := h.1.1; omega, h.1.2.2.1, fun p hp hpz => ?_⟩, isS_nrm (by have := h.1.1; have := h.1.2.2.1; omega) h.2 (by rw [Option.map_some, decide_eq_true hz]) (fun p hp hpz => by cases hp; rfl)⟩
      have h3 := ht p hp hpz
      rcases h.1.2.1 with h4 | h4
      · omega
      · subst hp; exact absurd (by rw [hq, Option.map_some, decide_eq_true hpz]) h4
    · rename_i hz
      refine ⟨.inr ⟨hz, h.1.1, h.1.2.1, fun p hp => ?_⟩, isS_nrm h0 h.2 (by rw [Option.map_some, decide_eq_false hz]) (fun p hp hpz => by cases hp; exact absurd hpz hz)⟩
      have h4 := h.1.2.2.1
      subst hp
      by_cases hpz : p.2.2.size = 0
      · exact hpz
      · exact absurd (by rw [hq, Option.map_some, decide_eq_false hpz]) h4

theorem isD_nrm {base : Int} {l : List El} (h : isD base l = true) : nrm none l := isS_nrm (Int.le_refl 0) (isD_isS h) rfl (fun p hp => by cases hp)

/-- Cells of a text's parts and of places in order. -/
def incC (base : Int) : Int → List Ce → Prop
  | _, [] => True
  | to, c :: r => if c.1 < 0 then c.1 = -1 ∧ incC base to r else to ≤ c.1 ∧ c.1 < base ∧ incC base (c.1 + 1) r

def endC : Int → List Ce → Int
  | to, [] => to
  | to, c :: r => endC (if c.1 < 0 then to else c.1 + 1) r

theorem incC_app {base : Int} : ∀ {l r : List Ce} {to : Int}, incC base to (l ++ r) ↔ incC base to l ∧ incC base (endC to l) r
  | [], r, to => by simp [incC, endC]
  | c :: l, r, to => by
    simp only [List.cons_append, incC, endC]
    split
    · rw [incC_app, and_assoc]
    · rw [incC_app]; constructor
      · rintro ⟨a, b, c, d⟩; exact ⟨⟨a, b, c⟩, d⟩
      · rintro ⟨⟨a, b, c⟩, d⟩; exact ⟨a, b, c, d⟩

theorem incC_T {base to : Int} {l : List Int} : incC base to (l.map fun b => ((-1 : Int), b)) ∧ endC to (l.map fun b => ((-1 : Int), b)) = to := by
  induction l with
  | nil => exact ⟨trivial, rfl⟩
  | cons b l ih => simp only [List.map_cons, incC, endC]; rw [if_pos (by omega), if_pos (by omega)]; exact ⟨⟨trivial, ih.1⟩, ih.2⟩

theorem incC_C {base : Int} : ∀ {m : Nat} {to f : Int}, 0 ≤ f → (0 < m → to ≤ f) → (0 < m → f + m ≤ base) → incC base to (cellsC f m) ∧ endC to (cellsC f m) = if m = 0 then to else f + m
  | 0, to, f, _, _, _ => ⟨trivial, rfl⟩
  | m + 1, to, f, h0, h1, h2 => by
    have := h1 (by omega)
    have := h2 (by omega)
    obtain ⟨a, b⟩ := incC_C (base := base) (m := m) (to := f + 1) (f := f + 1) (by omega) (fun _ => by omega) (fun _ => by omega)
    simp only [cellsC, incC, endC]
    rw [if_neg (by omega), if_neg (by omega), if_neg (by omega)]
    refine ⟨⟨by omega, by omega, a⟩, ?_⟩
    rw [b]
    split
    · omega
    · omega

theorem incC_Cinv {base : Int} : ∀ {m : Nat} {to f : Int}, 0 ≤ f → 0 < m → incC base to (cellsC f m) → to ≤ f ∧ f + m ≤ base
  | m + 1, to, f, h0, _, h => by
    rw [cellsC, incC, if_neg (by simp only; omega)] at h
    by_cases hm : m = 0
    · subst hm; have := h.2.1; simp only at this; exact ⟨h.1, by omega⟩
    · have := incC_Cinv (by omega) (by omega) h.2.2
      exact ⟨h.1, by omega⟩

theorem isS_incC {base : Int} : ∀ {l : List El} {to : Int} {pre : Option Bool}, 0 ≤ to → isS base to pre l → incC base to (cells l)
  | [], _, _, _, _ => trivial
  | x :: r, to, pre, h0, h => by
    rw [isS] at h
    rw [cells]
    split at h
    · rename_i hz
      have q1 := h.1.1
      have q2 := h.1.2.2.1
      have q3 := h.1.2.2.2
      obtain ⟨a, b⟩ := incC_C (base := base) (m := (x.2.1 - x.1).toNat) (to := to) (f := x.1) (by omega) (by omega) (by omega)
      rw [cellsT_nil hz, List.nil_append, incC_app]
      refine ⟨a, ?_⟩
      rw [b, if_neg (by omega), show x.1 + ((x.2.1 - x.1).toNat : Int) = x.2.1 by omega]
      exact isS_incC (by omega) h.2
    · rename_i hz
      rw [h.1.1, h.1.2.1, show ((0 : Int) - 0).toNat = 0 from rfl, cellsC, List.append_nil]
      unfold cellsT
      rw [incC_app, (incC_T (base := base)).2]
      exact ⟨incC_T.1, isS_incC h0 h.2⟩

theorem isD_incC {base : Int} {l : List El} (h : isD base l = true) : incC base 0 (cells l) := isS_incC (Int.le_refl 0) (isD_isS h)

theorem nrm_isS {base : Int} : ∀ {l : List El} {to : Int} {q : Option El}, 0 ≤ to → nrm q l → incC base to (cells l) → valL l = true → (∀ p, q = some p → p.2.2.size = 0 → p.2.1 = to) → isS base to (q.map (fun p => decide (p.2.2.size = 0))) l
  | [], _, _, _, _, _, _, _ => trivial
  | x :: r, to, q, h0, h, hi, hv, hq => by
    rw [show valL (x :: r) = (uvalid x.2.2 && valL r) from rfl, Bool.and_eq_true] at hv
    rw [isS]
    rw [cells] at hi
    rcases h.1 with h1 | h1
    · rw [if_pos h1.1]
      rw [cellsT_nil h1.1, List.nil_append, incC_app] at hi
      have hin := incC_Cinv h1.2.1 (by have := h1.2.2.1; omega) hi.1
      have hb := incC_C (base := base) (m := (x.2.1 - x.1).toNat) (to := to) (f := x.1) (by omega) (by omega) (by omega)
      have hlt := h1.2.2.1
      rw [hb.2, if_neg (by omega), show x.1 + ((x.2.1 - x.1).toNat : Int) = x.2.1 by omega] at hi
      refine ⟨⟨hin.1, ?_, h1.2.2.1, by omega⟩, ?_⟩
      · cases q with
        | none => right; simp
        | some p =>
          by_cases hz : p.2.2.size = 0
          · left
            have := h1.2.2.2 p rfl hz
            have := hq p rfl hz
            omega
          · right; rw [Option.map_some, decide_eq_false hz]; simp
      · have := nrm_isS (q := some x) (to := x.2.1) (by omega) h.2 hi.2 hv.2 (fun p hp _ => by cases hp; rfl)
        rwa [Option.map_some, decide_eq_true h1.1] at this
    · rw [if_neg h1.1]
      rw [h1.2.1, h1.2.2.1, show ((0 : Int) - 0).toNat = 0 from rfl, cellsC, List.append_nil] at hi
      unfold cellsT at hi
      rw [incC_app, (incC_T (base := base)).2] at hi
      refine ⟨⟨h1.2.1, h1.2.2.1, ?_, hv.1⟩, ?_⟩
      · cases q with
        | none => simp
        | some p => rw [Option.map_some, decide_eq_true (h1.2.2.2 p rfl)]; simp
      · have := nrm_isS (q := some x) (to := to) h0 h.2 hi.2 hv.2 (fun p hp hz => by cases hp; exact absurd hz h1.1)
        rwa [Option.map_some, decide_eq_false h1.1] at this

theorem nrm_len : ∀ {r : List El} {pre : Option El}, nrm pre r → r.length ≤ (cells r).length ∧ (∀ e ∈ r, e.2.2.size ≤ (cells r).length) ∧ sumT r ≤ (cells r).length ∧ sumK r + sumT r = (cells r).length ∧ 0 ≤ sumK r
  | [], _, _ => ⟨Nat.le_refl _, by simp, by simp [sumT], by simp [sumK, sumT, cells], by simp [sumK]⟩
  | x :: r, pre, h => by
    obtain ⟨h1, h2, h3, h4, h5⟩ := nrm_len h.2
    have e1 := cellsT_len (t := x.2.2)
    have e2 := cellsC_len (m := (x.2.1 - x.1).toNat) (f := x.1)
    have hl : (cells (x :: r)).length = x.2.2.size + (x.2.1 - x.1).toNat + (cells r).length := by rw [cells, List.length_append, List.length_append, e1, e2]
    have h0 : x.1 ≤ x.2.1 ∧ (x.2.2.size = 0 → x.1 < x.2.1) := by
      rcases h.1 with h1 | h1
      · exact ⟨by omega, fun _ => h1.2.2.1⟩
      · exact ⟨by omega, fun hz => absurd hz h1.1⟩
    refine ⟨?_, fun e he => ?_, ?_, ?_, ?_⟩
    · rw [List.length_cons, hl]
      by_cases hz : x.2.2.size = 0
      · have := h0.2 hz; omega
      · omega
    · rw [hl]
      rcases List.mem_cons.1 he with rfl | he
      · omega
      · have := h2 e he; omega
    · rw [sumT, hl]; omega
    · rw [sumK, sumT, hl]; omega
    · rw [sumK]; omega

/-- What is a delta, by its cells. -/
theorem isD_of {base : Int} {l : List El} (h : nrm none l) (hi : incC base 0 (cells l)) (hv : valL l = true) (h0 : 0 ≤ base) (h1 : base ≤ 20000) (hl : l.length ≤ 60) (hc : (cells l).length ≤ 20000) : isD base l = true := by
  have := nrm_isS (Int.le_refl 0) h hi hv (fun p hp => by cases hp)
  have hk := nrm_len h
  unfold isD
  rw [Bool.and_eq_true, decide_eq_true_eq]
  exact ⟨⟨h0, h1, hl⟩, isS_isL this (by omega)⟩

theorem cells_firstN : ∀ {r : List El} {pre : Option El}, nrm pre r → ∀ c R, cells r = c :: R → (c.1 = -1 ∧ ∀ p, pre = some p → p.2.2.size = 0) ∨ (0 ≤ c.1 ∧ ∀ p, pre = some p → p.2.2.size = 0 → p.2.1 ≠ c.1)
  | [], pre, h, c, R, e => by simp [cells] at e
  | x :: r, pre, h, c, R, e => by
    rw [cells] at e
    rcases h.1 with h1 | h1
    · obtain ⟨m, hm⟩ : ∃ m, (x.2.1 - x.1).toNat = m + 1 := ⟨(x.2.1 - x.1).toNat - 1, by have := h1.2.2.1; omega⟩
      rw [cellsT_nil h1.1, hm, cellsC] at e
      simp only [List.nil_append, List.cons_append, List.cons.injEq] at e
      right
      rw [← e.1]
      exact ⟨h1.2.1, h1.2.2.2⟩
    · left
      have hl : 0 < (txt x.2.2).length := by rw [txt_len]; have := h1.1; omega
      obtain ⟨b, l, hb⟩ := List.exists_cons_of_length_pos hl
      unfold cellsT at e
      rw [hb] at e
      simp only [List.map_cons, List.cons_append, List.cons.injEq] at e
      rw [← e.1]
      exact ⟨rfl, h1.2.2.2⟩

theorem told_cellsN : ∀ {r : List El} {pre : Option El} {m : Nat}, nrm pre r → (cells r).length ≤ m → told m (cells r) = r
  | [], pre, m, h, hm => by cases m <;> rfl
  | x :: r, pre, m, h, hm => by
    rw [cells] at hm ⊢
    have hf := cells_firstN h.2
    rcases h.1 with h1 | h1
    · have hz := h1.1
      have q2 := h1.2.2.1
      obtain ⟨n, hn⟩ : ∃ n, (x.2.1 - x.1).toNat = n + 1 := ⟨(x.2.1 - x.1).toNat - 1, by omega⟩
      rw [cellsT_nil hz, hn, cellsC] at hm ⊢
      simp only [List.nil_append, List.cons_append, List.length_cons, List.length_append, cellsC_len] at hm ⊢
      obtain ⟨m, rfl⟩ : ∃ k, m = k + 1 := ⟨m - 1, by omega⟩
      have hrun : runC x.1 (cellsC (x.1 + 1) n ++ cells r) = n := runC_C fun c R e => by
        rcases hf c R e with h' | h'
        · have := h'.1; have := h1.2.1; omega
        · have := h'.2 x rfl hz; omega
      have h10 := h1.2.1
      rw [told, if_neg (by simp only; omega)]
      simp only
      have hdrop : (cellsC (x.1 + 1) n ++ cells r).drop n = cells r := by
        have := List.drop_left (l₁ := cellsC (x.1 + 1) n) (l₂ := cells r)
        rwa [cellsC_len] at this
      have hx3 : x.2.2 = ByteArray.empty := size_zero.2 hz
      rw [hrun, hdrop, told_cellsN h.2 (by omega), show x.1 + (n : Int) + 1 = x.2.1 by omega, ← hx3]
    · have hl : 0 < (txt x.2.2).length := by rw [txt_len]; have := h1.1; omega
      obtain ⟨b, l, hb⟩ := List.exists_cons_of_length_pos hl
      have hll : l.length + 1 = x.2.2.size := by rw [← txt_len, hb]; rfl
      have hcc : cellsC x.1 (x.2.1 - x.1).toNat = [] := by rw [h1.2.1, h1.2.2.1]; rfl
      have hT : cellsT x.2.2 = (-1, b) :: l.map (fun b => (-1, b)) := by unfold cellsT; rw [hb]; rfl
      have hrun0 : ∀ (l : List Int), runT (l.map (fun b => ((-1 : Int), b)) ++ cells r) = l.length := by
        intro l
        induction l with
        | nil =>
          cases hR : cells r with
          | nil => rfl
          | cons c R =>
            simp only [List.map_nil, List.nil_append, runT]
            rw [if_neg]
            · rfl
            · rcases hf c R hR with h' | h'
              · exact absurd (h'.2 x rfl) h1.1
              · have := h'.1; omega
        | cons b l ih => simp only [List.map_cons, List.cons_append, runT]; rw [if_pos (by omega), ih]; rfl
      rw [hcc, hT, List.append_nil] at hm ⊢
      simp only [List.cons_append, List.length_cons, List.length_append, List.length_map] at hm ⊢
      obtain ⟨m, rfl⟩ : ∃ k, m = k + 1 := ⟨m - 1, by omega⟩
      rw [told, if_pos (by simp only; omega)]
      simp only
      have e1 : (l.map (fun b => ((-1 : Int), b)) ++ cells r).drop l.length = cells r := by
        have := List.drop_left (l₁ := l.map (fun b => ((-1 : Int), b))) (l₂ := cells r)
        rwa [List.length_map] at this
      have e2 : (l.map (fun b => ((-1 : Int), b)) ++ cells r).take l.length = l.map (fun b => ((-1 : Int), b)) := by
        have := List.take_left (l₁ := l.map (fun b => ((-1 : Int), b))) (l₂ := cells r)
        rwa [List.length_map] at this
      have e3 : ofBytes (b :: l) = x.2.2 := by rw [← hb, ofBytes_txt]
      rw [hrun0, e1, e2, map_snd_cellsT, e3, told_cellsN h.2 (by omega)]
      obtain ⟨x1, x2, x3⟩ := x
      simp only at h1 ⊢
      rw [h1.2.1, h1.2.2.1]

theorem cells_inj {a b : List El} (ha : nrm none a) (hb : nrm none b) (h : cells a = cells b) : a = b := by
  rw [← told_cellsN ha (Nat.le_refl _), h, told_cellsN hb (Nat.le_refl _)]

/-- What was made, if all its texts are valid and it isn't too many. -/
def fin (ba : Int) (r : List El) : Int × (List El × Int) := if valL r = true then (if r.length > 60 then (0, ([], 70)) else (ba, (r, 0))) else (0, ([], 12))

theorem fin_ok {ba : Int} {r : List El} (h : valL r = true) (hl : r.length ≤ 60) : fin ba r = (ba, (r, 0)) := by
  unfold fin
  rw [if_pos h, if_neg (by omega)]

def sl {α : Type} (L : List α) (f t : Int) : List α := (L.take t.toNat).drop f.toNat

theorem sl_app {α : Type} {A B : List α} {f t : Int} : sl (A ++ B) f t = sl A f t ++ sl B (f - A.length) (t - A.length) := by
  unfold sl
  rw [List.take_append, List.drop_append, List.length_take]
  congr 1
  rw [show (t - (A.length : Int)).toNat = t.toNat - A.length by omega, show (f - (A.length : Int)).toNat = f.toNat - A.length by omega]
  by_cases h : A.length ≤ t.toNat
  · rw [show min t.toNat A.length = A.length by omega]
  · rw [show t.toNat - A.length = 0 by omega]; simp

theorem sl_clip {α : Type} {A : List α} {f t : Int} : sl A f t = sl A (max f 0) (min t A.length) := by
  unfold sl
  rw [show (max f 0).toNat = f.toNat by omega]
  congr 1
  by_cases h : t ≤ A.length
  · rw [show min t (A.length : Int) = t by omega]
  · rw [show min t (A.length : Int) = (A.length : Int) by omega, List.take_of_length_le (by omega), List.take_of_length_le (by omega)]

theorem sl_none {α : Type} {A : List α} {f t : Int} (h : t ≤ f) (h0 : 0 ≤ f) : sl A f t = [] := by
  unfold sl
  apply List.drop_of_length_le
  rw [List.length_take]
  omega

theorem sl_C : ∀ {m : Nat} {f lo hi : Int}, 0 ≤ lo → lo ≤ hi → hi ≤ m → sl (cellsC f m) lo hi = cellsC (f + lo) (hi - lo).toNat := by
  intro m f lo hi h0 h1 h2
  unfold sl
  obtain ⟨a, rfl⟩ : ∃ a : Nat, lo = a := ⟨lo.toNat, by omega⟩
  obtain ⟨b, rfl⟩ : ∃ b : Nat, hi = (a + b : Nat) := ⟨(hi - a).toNat, by omega⟩
  obtain ⟨c, rfl⟩ : ∃ c : Nat, m = a + b + c := ⟨m - (a + b), by omega⟩
  rw [Int.toNat_natCast, Int.toNat_natCast, cellsC_add, List.take_append_of_le_length (by rw [cellsC_len]; omega), List.take_of_length_le (by rw [cellsC_len]; omega), cellsC_add, List.drop_append_of_le_length (by rw [cellsC_len]; omega), List.drop_of_length_le (by rw [cellsC_len]; omega), List.nil_append]
  congr 1
  omega

theorem sl_T {t : ByteArray} {lo hi : Int} : sl (cellsT t) lo hi = cellsT (t.extract lo.toNat hi.toNat) := by
  unfold sl cellsT
  rw [txt_extract, ← List.map_take, ← List.map_drop, List.drop_take]

def cE (x : El) : List Ce := cellsT x.2.2 ++ cellsC x.1 (x.2.1 - x.1).toNat

theorem cells_cons {x : El} {r : List El} : cells (x :: r) = cE x ++ cells r := by rw [cells, cE]

theorem cE_len {x : El} : (cE x).length = x.2.2.size + (x.2.1 - x.1).toNat := by rw [cE, List.length_append, cellsT_len, cellsC_len]

theorem compPart_loop {K : Nat} {a : List El} {base f t m : Int} (hb : base ≤ 20000) (hl : a.length ≤ 1000) (hf : 0 ≤ f) (hf2 : f ≤ 1000000) (ht : 0 ≤ t) (ht2 : t ≤ 1000000) : ∀ (rest : List El) (j k : Nat) (acc : List El) (at0 : Int), a.drop j = rest → rest.length < k → (∀ x ∈ rest, okE base x) → nrm none acc → 0 ≤ at0 → at0 + (cells rest).length ≤ 1000000 → (cells acc).length + (cells rest).length ≤ 1000000 →
    ∃ acc', compose_part_bsgggg_0b7b7.l0 K a f t m k acc at0 (j : Int) = some acc' ∧ nrm none acc' ∧ cells acc' = cells acc ++ sl (cells rest) (f - at0) (t - at0)
  | [], j, k, acc, at0, hd, hk, hok, hn, h0, h1, h2 => by
    obtain ⟨k, rfl⟩ : ∃ m, k = m + 1 := ⟨k - 1, by simp at hk; omega⟩
    have := drop_nil hd
    rw [compose_part_bsgggg_0b7b7.l0, if_neg (by simp; omega)]
    exact ⟨acc, rfl, hn, by simp [cells, sl]⟩
  | x :: rest, j, k, acc, at0, hd, hk, hok, hn, h0, h1, h2 => by
    obtain ⟨k, rfl⟩ : ∃ m, k = m + 1 := ⟨k - 1, by simp at hk; omega⟩
    obtain ⟨hj, hgd, hd'⟩ := drop_cons hd el0
    have hk' : rest.length < k := by simp at hk; omega
    have hw : IntKind.wrap .i64 ((j : Int) + 1) = ((j + 1 : Nat) : Int) := by rw [w64 (by omega) (by omega)]; omega
    obtain ⟨o1, o2, o3, o4⟩ := hok x (by simp)
    have hok' : ∀ y ∈ rest, okE base y := fun y hy => hok y (by simp [hy])
    rw [cells_cons, List.length_append, cE_len] at h1 h2
    have hn1 := nrm_len hn
    have wn : IntKind.wrap .i64 (IntKind.wrap .i64 (x.2.1 - x.1) + (x.2.2.size : Int)) = ((cE x).length : Int) := by
      rw [w64 (n := x.2.1 - x.1) (by omega) (by omega), w64 (by omega) (by omega), cE_len]
      omega
    have wat : IntKind.wrap .i64 (at0 + ((cE x).length : Int)) = at0 + (cE x).length := by
      rw [cE_len]; exact w64 (by omega) (by omega)
    have wf : IntKind.wrap .i64 (f - at0) = f - at0 := w64 (by omega) (by omega)
    have wt : IntKind.wrap .i64 (t - at0) = t - at0 := w64 (by omega) (by omega)
    rw [compose_part_bsgggg_0b7b7.l0]
    simp only [Int.toNat_natCast, hgd, hw, wn, wat, wf, wt]
    rw [if_pos (by simpa using hj), if_pos ⟨by omega, by omega⟩, mx2_eq, mn2_eq]
    have hsl : sl (cells (x :: rest)) (f - at0) (t - at0) = sl (cE x) (max (f - at0) 0) (min (t - at0) (cE x).length) ++ sl (cells rest) (f - (at0 + (cE x).length)) (t - (at0 + (cE x).length)) := by
      rw [cells_cons, sl_app, sl_clip, show f - at0 - ((cE x).length : Int) = f - (at0 + (cE x).length) by omega, show t - at0 - ((cE x).length : Int) = t - (at0 + (cE x).length) by omega]
    have hlen := cE_len (x := x)
    generalize hlo : max (f - at0) 0 = lo at hsl ⊢
    generalize hhi : min (t - at0) ((cE x).length : Int) = hi at hsl ⊢
    rw [hsl]
    by_cases hc : lo ≥ hi
    · rw [if_pos (by simpa using hc)]
      obtain ⟨acc', e1, e2, e3⟩ := compPart_loop (K := K) (a := a) (base := base) (f := f) (t := t) (m := m) hb hl hf hf2 ht ht2 rest (j + 1) k acc (at0 + (cE x).length) hd' hk' hok' hn (by omega) (by omega) (by omega)
      exact ⟨acc', e1, e2, by rw [e3, sl_none hc (by omega), List.nil_append]⟩
    · rw [if_neg (by simpa using hc), isCopy_is, Option.bind_some]
      by_cases hz : x.2.2.size = 0
      · rw [if_pos (by rw [decide_eq_true_eq]; exact hz), copy_is (by omega), Option.bind_some, w64 (n := x.1 + lo) (by omega) (by omega), w64 (n := x.1 + hi) (by omega) (by omega)]
        obtain ⟨n1, n2⟩ := nrm_copy (f := x.1 + lo) (t := x.1 + hi) hn (by omega) (by omega)
        have hsx : sl (cE x) lo hi = cellsC (x.1 + lo) (x.1 + hi - (x.1 + lo)).toNat := by
          rw [cE, cellsT_nil hz, List.nil_append, sl_C (by omega) (by omega) (by omega)]
          congr 1; omega
        have hcl : (cells (mkCopy acc (x.1 + lo) (x.1 + hi))).length ≤ (cells acc).length + (cE x).length := by
          rw [n2, List.length_append, cellsC_len]; omega
        obtain ⟨acc', e1, e2, e3⟩ := compPart_loop (K := K) (a := a) (base := base) (f := f) (t := t) (m := m) hb hl hf hf2 ht ht2 rest (j + 1) k _ (at0 + (cE x).length) hd' hk' hok' n1 (by omega) (by omega) (by omega)
        exact ⟨acc', e1, e2, by rw [e3, n2, hsx, List.append_assoc]⟩
      · rcases o4 with o4 | o4
        · exact absurd o4 hz
        · have hzx : (cE x).length = x.2.2.size := by omega
          have hext : (x.2.2.extract lo.toNat hi.toNat).size ≤ x.2.2.size := by
            rw [← txt_len, ← txt_len, txt_extract, List.length_take, List.length_drop]; omega
          rw [if_neg (by rw [decide_eq_true_eq]; exact hz), putm_is (by omega) (by omega), Option.bind_some, if_pos ⟨by omega, by omega, by omega⟩]
          obtain ⟨n1, n2⟩ := nrm_put (s := x.2.2.extract lo.toNat hi.toNat) hn
          have hsx : sl (cE x) lo hi = cellsT (x.2.2.extract lo.toNat hi.toNat) := by
            rw [cE, o4.1, o4.2, show ((0 : Int) - 0).toNat = 0 from rfl, cellsC, List.append_nil, sl_T]
          have hcl : (cells (mkPut acc (x.2.2.extract lo.toNat hi.toNat))).length ≤ (cells acc).length + (cE x).length := by
            rw [n2, List.length_append, cellsT_len]; omega
          obtain ⟨acc', e1, e2, e3⟩ := compPart_loop (K := K) (a := a) (base := base) (f := f) (t := t) (m := m) hb hl hf hf2 ht ht2 rest (j + 1) k _ (at0 + (cE x).length) hd' hk' hok' n1 (by omega) (by omega) (by omega)
          exact ⟨acc', e1, e2, by rw [e3, n2, hsx, List.append_assoc]⟩

theorem compPart_is {K : Nat} {a acc : List El} {ba base f t m : Int} (hK : 100000 ≤ K) (ha : isD base a = true) (hf : 0 ≤ f) (hft : f ≤ t) (ht : t ≤ (cells a).length) (hn : nrm none acc) (hacc : (cells acc).length ≤ 900000) :
    ∃ acc', compose_part_bsgggg_0b7b7 K m acc ba a f t = some acc' ∧ nrm none acc' ∧ cells acc' = cells acc ++ sl (cells a) f t := by
  obtain ⟨h1, h2, h3, h4, h5⟩ := isD_ok ha
  have hc := cells_len h4
  unfold compose_part_bsgggg_0b7b7
  have := compPart_loop (K := K) (a := a) (base := base) (f := f) (t := t) (m := m) h2 (by omega) hf (by omega) (by omega) (by omega) a 0 K acc 0 rfl (by omega) h4 hn (Int.le_refl 0) (by omega) (by omega)
  rwa [Int.sub_zero, Int.sub_zero] at this

/-- The cells of two deltas one behind the other. -/
def twoC (x y : List Ce) : List Ce := y.map fun c => if c.1 < 0 then c else x.getD c.1.toNat (0, 0)

theorem twoC_app {x y z : List Ce} : twoC x (y ++ z) = twoC x y ++ twoC x z := by unfold twoC; rw [List.map_append]

theorem twoC_T {x : List Ce} {t : ByteArray} : twoC x (cellsT t) = cellsT t := by
  unfold twoC cellsT
  rw [List.map_map]
  apply List.map_congr_left
  intro c _
  simp

theorem twoC_C {x : List Ce} : ∀ {m : Nat} {f : Nat}, f + m ≤ x.length → twoC x (cellsC f m) = (x.drop f).take m
  | 0, f, _ => by simp [cellsC, twoC]
  | m + 1, f, h => by
    have ih := twoC_C (x := x) (m := m) (f := f + 1) (by omega)
    have hf : f < x.length := by omega
    rw [List.drop_eq_getElem_cons hf, List.take_succ_cons, ← ih, cellsC, show (f : Int) + 1 = ((f + 1 : Nat) : Int) by omega]
    unfold twoC
    rw [List.map_cons, if_neg (by simp only; omega)]
    simp only [Int.toNat_natCast]
    rw [List.getD_eq_getElem?_getD, List.getElem?_eq_getElem hf]
    rfl

theorem twoC_cE {x : List Ce} {y : El} (h0 : 0 ≤ y.1) (h1 : y.1 ≤ y.2.1) (h2 : y.2.1 ≤ x.length) : twoC x (cE y) = cellsT y.2.2 ++ sl x y.1 y.2.1 := by
  rw [cE, twoC_app, twoC_T]
  congr 1
  obtain ⟨f, hf⟩ : ∃ f : Nat, y.1 = f := ⟨y.1.toNat, by omega⟩
  rw [hf, twoC_C (by omega)]
  unfold sl
  rw [List.drop_take]
  congr 1
  · omega

theorem two_loop {K : Nat} {a b : List El} {ba : Int} (hK : 100000 ≤ K) (ha : isD ba a = true) (hl : b.length ≤ 1000) : ∀ (rest : List El) (j k : Nat) (acc : List El), b.drop j = rest → rest.length < k → (∀ x ∈ rest, okE (cells a).length x) → nrm none acc → (cells acc).length + (cells rest).length ≤ 100000 →
    ∃ acc', compose_Two.l0 K b ba a k acc (j : Int) = some acc' ∧ nrm none acc' ∧ cells acc' = cells acc ++ twoC (cells a) (cells rest)
  | [], j, k, acc, hd, hk, hok, hn, h2 => by
    obtain ⟨k, rfl⟩ : ∃ m, k = m + 1 := ⟨k - 1, by simp at hk; omega⟩
    have := drop_nil hd
    rw [compose_Two.l0, if_neg (by simp; omega)]
    exact ⟨acc, rfl, hn, by simp [cells, twoC]⟩
  | x :: rest, j, k, acc, hd, hk, hok, hn, h2 => by
    obtain ⟨k, rfl⟩ : ∃ m, k = m + 1 := ⟨k - 1, by simp at hk; omega⟩
    obtain ⟨hj, hgd, hd'⟩ := drop_cons hd el0
    have hk' : rest.length < k := by simp at hk; omega
    have hw : IntKind.wrap .i64 ((j : Int) + 1) = ((j + 1 : Nat) : Int) := by rw [w64 (by omega) (by omega)]; omega
    obtain ⟨o1, o2, o3, o4⟩ := hok x (by simp)
    rw [cells_cons, List.length_append, cE_len] at h2
    have hn1 := nrm_len hn
    rw [compose_Two.l0]
    simp only [Int.toNat_natCast, hgd, hw]
    rw [if_pos (by simpa using hj), if_pos ⟨by omega, by omega⟩, putm_is (by omega) (by omega), Option.bind_some]
    obtain ⟨n1, n2⟩ := nrm_put (s := x.2.2) hn
    obtain ⟨acc1, e1, e2, e3⟩ := compPart_is (K := K) (a := a) (acc := mkPut acc x.2.2) (ba := ba) (base := ba) (f := x.1) (t := x.2.1) (m := ba) hK ha o1 o2 o3 n1 (by rw [n2, List.length_append, cellsT_len]; omega)
    rw [e1, Option.bind_some]
    have hcc : cells acc1 = cells acc ++ twoC (cells a) (cE x) := by rw [e3, n2, twoC_cE o1 o2 o3, List.append_assoc]
    obtain ⟨acc2, f1, f2, f3⟩ := two_loop hK ha hl rest (j + 1) k acc1 hd' hk' (fun y hy => hok y (by simp [hy])) e2 (by rw [hcc, List.length_append]; unfold twoC; rw [List.length_map, cE_len]; omega)
    exact ⟨acc2, f1, f2, by rw [f3, hcc, cells_cons, twoC_app, List.append_assoc]⟩

theorem elems_is {K : Nat} {m : Int} {l : List El} (h : l.length ≤ 1000000) : delta_Maker_Elems_b_3d342 K m l = some l := by
  unfold delta_Maker_Elems_b_3d342
  rw [if_pos ⟨by omega, by omega, by omega, by omega⟩]
  congr 1
  unfold putAt
  rw [Int.toNat_natCast, List.length_replicate, List.take_of_length_le (Nat.le_refl _), List.take_zero, List.nil_append, List.drop_of_length_le (by rw [List.length_replicate]; omega), List.append_nil]

theorem made_loop {K : Nat} {l : List El} (hl : l.length ≤ 1000000) (ht : ∀ x ∈ l, x.2.2.size + 10 ≤ K ∧ x.2.2.size ≤ 1000000000000) : ∀ (rest : List El) (j k : Nat), l.drop j = rest → rest.length < k →
    compose_made_b_ee1c6.l0 K l k (j : Int) = some (if valL rest = true then .inr () else .inl (0, ([], 12)))
  | [], j, k, hd, hk => by
    obtain ⟨k, rfl⟩ : ∃ m, k = m + 1 := ⟨k - 1, by simp at hk; omega⟩
    have := drop_nil hd
    rw [compose_made_b_ee1c6.l0, if_neg (by simp; omega)]
    rfl
  | c :: rest, j, k, hd, hk => by
    obtain ⟨k, rfl⟩ : ∃ m, k = m + 1 := ⟨k - 1, by simp at hk; omega⟩
    obtain ⟨hj, hgd, hd'⟩ := drop_cons hd el0
    have hk' : rest.length < k := by simp at hk; omega
    have hw : IntKind.wrap .i64 ((j : Int) + 1) = ((j + 1 : Nat) : Int) := by rw [w64 (by omega) (by omega)]; omega
    have hc : c ∈ l := by rw [← hgd]; simp [List.getD, hj]
    have hcs := ht c hc
    rw [compose_made_b_ee1c6.l0]
    simp only [Int.toNat_natCast, hgd, hw]
    rw [if_pos (by simpa using hj), if_pos ⟨by omega, by omega⟩, uvalid_is (by omega) (by omega), Option.bind_some, made_loop hl ht rest (j + 1) k hd' hk', show valL (c :: rest) = (uvalid c.2.2 && valL rest) from rfl]
    cases uvalid c.2.2 <;> simp

theorem compMade_is {K : Nat} {m : Int} {l : List El} (hK : 100000 ≤ K) (hl : l.length ≤ 90000) (ht : ∀ x ∈ l, x.2.2.size ≤ 90000) : compose_made_b_ee1c6 K m l = some (fin m l) := by
  unfold compose_made_b_ee1c6 fin
  have := made_loop (K := K) (l := l) (by omega) (fun x hx => by have := ht x hx; omega) l 0 K rfl (by omega)
  rw [Int.natCast_zero] at this
  rw [elems_is (by omega), Option.bind_some, this, Option.bind_some]
  by_cases hv : valL l = true
  · rw [if_pos hv, if_pos hv]
    unfold delta_Maker_Delta_b_ee1c6
    simp only [Sum.elim_inr]
    by_cases h6 : l.length > 60
    · rw [if_pos (by simp; omega), if_pos h6]; rfl
    · rw [if_neg (by simp; omega), if_neg h6]; rfl
  · rw [if_neg hv, if_neg hv]; rfl

theorem two_is {K : Nat} {a b : List El} {ba bb : Int} (hK : 100000 ≤ K) (ha : isD ba a = true) (hb : isD bb b = true) (hl : bb = (cells a).length) :
    ∃ r, nrm none r ∧ cells r = twoC (cells a) (cells b) ∧ compose_Two K ba a bb b = some (fin ba r) := by
  obtain ⟨h1, h2, h3, h4, h5⟩ := isD_ok ha
  obtain ⟨g1, g2, g3, g4, g5⟩ := isD_ok hb
  have hca := cells_len h4
  have hcb := cells_len g4
  unfold compose_Two
  rw [is_is (by omega), Option.bind_some, ha, if_neg (by simp), is_is (by omega), Option.bind_some, hb, Option.bind_some, if_neg (by simp), dsize_is (by omega), Option.bind_some, if_pos ha, if_neg (by simp; omega)]
  obtain ⟨r, e1, e2, e3⟩ := two_loop (K := K) (a := a) (b := b) (ba := ba) hK ha (by omega) b 0 K [] rfl (by omega) (fun x hx => by rw [← hl]; exact g4 x hx) trivial (by simp [cells]; omega)
  rw [Int.natCast_zero] at e1
  rw [show cells [] = [] from rfl, List.nil_append] at e3
  have hn := nrm_len e2
  have hcl : (cells r).length = (cells b).length := by rw [e3]; unfold twoC; rw [List.length_map]
  refine ⟨r, e2, e3, ?_⟩
  unfold delta_NewMaker
  rw [Option.bind_some, e1, Option.bind_some, compMade_is hK (by omega) (fun x hx => by have := hn.2.1 x hx; omega), Option.bind_some]

theorem twoLen_is {K : Nat} {a b : List El} {ba bb : Int} (hK : 100000 ≤ K) (ha : isD ba a = true) (hb : isD bb b = true) (hl : bb ≠ (cells a).length) : compose_Two K ba a bb b = some (0, ([], 80)) := by
  obtain ⟨h1, h2, h3, h4, h5⟩ := isD_ok ha
  have hca := cells_len h4
  unfold compose_Two
  rw [is_is (by omega), Option.bind_some, ha, if_neg (by simp), is_is (by omega), Option.bind_some, hb, Option.bind_some, if_neg (by simp), dsize_is (by omega), Option.bind_some, if_pos ha, if_pos (by rw [bne_iff_ne]; omega)]

theorem dequalG_loop {K : Nat} {a b : List El} (hl : a.length = b.length) (hs : a.length < 1000000000000) : ∀ (d j k : Nat), j + d = a.length → d < k →
    slices_Equal_gr.l0 K a b k (j : Int) = some (decide (a.drop j = b.drop j)) := by
  intro d
  induction d with
  | zero =>
    intro j k hj hk
    obtain ⟨k, rfl⟩ : ∃ m, k = m + 1 := ⟨k - 1, by omega⟩
    rw [slices_Equal_gr.l0, if_neg (by simp; omega), List.drop_eq_nil_of_le (by omega), List.drop_eq_nil_of_le (by omega)]
    simp
  | succ d ih =>
    intro j k hj hk
    obtain ⟨k, rfl⟩ : ∃ m, k = m + 1 := ⟨k - 1, by omega⟩
    have hw : IntKind.wrap .i64 ((j : Int) + 1) = ((j + 1 : Nat) : Int) := by rw [w64 (by omega) (by omega)]; omega
    have ha : j < a.length := by omega
    have hb : j < b.length := by omega
    have ga : a.getD j el0 = a[j] := by simp [List.getD, ha]
    have gb : b.getD j el0 = b[j] := by simp [List.getD, hb]
    rw [slices_Equal_gr.l0, if_pos (by simp; omega), if_pos ⟨by omega, by omega, by omega⟩]
    simp only [Int.toNat_natCast, hw, ga, gb, el_beq]
    rw [ih (j + 1) k (by omega) (by omega), List.drop_eq_getElem_cons ha, List.drop_eq_getElem_cons hb]
    by_cases h : a[j] = b[j]
    · rw [if_neg (by simp [h])]
      congr 1
      rw [decide_eq_decide, h]
      exact ⟨fun e => by rw [e], fun e => (List.cons.inj e).2⟩
    · rw [if_pos (by simpa using h)]
      congr 1
      symm
      rw [decide_eq_false_iff_not]
      exact fun h' => h (List.cons.inj h').1

theorem dsameG_is {K : Nat} {a b : List El} {p q : Int} (hs : a.length < 1000000000000) (hb : b.length < 1000000000000) (hK : a.length < K) : delta_Same_sggsgr K p a q b = some (decide (p = q ∧ a = b)) := by
  unfold delta_Same_sggsgr slices_Equal_gr
  by_cases h : p = q
  · rw [if_pos (by simpa using h)]
    by_cases hl : a.length = b.length
    · have e := dequalG_loop (K := K) hl hs a.length 0 K (by omega) hK
      rw [Int.natCast_zero] at e
      rw [if_neg (by simp; omega), e]
      simp [h]
    · rw [if_pos (by simp; omega)]
      have : a ≠ b := fun e => hl (by rw [e])
      simp [this]
  · rw [if_neg (by simpa using h)]
    simp [h]

theorem cellsC_cons {f : Int} {m : Nat} : cellsC f (m + 1) = (f, 0) :: cellsC (f + 1) m := rfl

/-- The cells of the delta back. -/
def invC (s : List Int) : Int → Int → List Ce → List Ce
  | _, old, [] => (s.drop old.toNat).map fun b => (-1, b)
  | i, old, c :: l => if c.1 < 0 then invC s (i + 1) old l else ((sl s old c.1).map fun b => (-1, b)) ++ (i, 0) :: invC s (i + 1) (c.1 + 1) l

theorem invC_T {s : List Int} {R : List Ce} : ∀ {l : List Int} {i old : Int}, invC s i old ((l.map fun b => ((-1 : Int), b)) ++ R) = invC s (i + l.length) old R
  | [], i, old => by simp
  | b :: l, i, old => by
    rw [List.map_cons, List.cons_append, invC, if_pos (by simp), invC_T, List.length_cons, show i + 1 + (l.length : Int) = i + ((l.length + 1 : Nat) : Int) by omega]

theorem invC_C {s : List Int} {R : List Ce} : ∀ {m : Nat} {i f : Int}, 0 ≤ f → invC s i f (cellsC f m ++ R) = cellsC i m ++ invC s (i + m) (f + m) R
  | 0, i, f, _ => by simp [cellsC]
  | m + 1, i, f, h => by
    rw [cellsC_cons, List.cons_append, invC, if_neg (by simp only; omega)]
    simp only
    rw [sl_none (Int.le_refl f) h, List.map_nil, List.nil_append, invC_C (by omega), cellsC_cons, List.cons_append, show i + 1 + (m : Int) = i + ((m + 1 : Nat) : Int) by omega, show f + 1 + (m : Int) = f + ((m + 1 : Nat) : Int) by omega]

theorem invC_C' {s : List Int} {R : List Ce} {m : Nat} {i f old : Int} (h : 0 ≤ f) (hm : 0 < m) : invC s i old (cellsC f m ++ R) = ((sl s old f).map fun b => (-1, b)) ++ (cellsC i m ++ invC s (i + m) (f + m) R) := by
  obtain ⟨m, rfl⟩ : ∃ k, m = k + 1 := ⟨m - 1, by omega⟩
  rw [cellsC_cons, List.cons_append, invC, if_neg (by simp only; omega)]
  simp only
  rw [invC_C (by omega), cellsC_cons, List.cons_append, show i + 1 + (m : Int) = i + ((m + 1 : Nat) : Int) by omega, show f + 1 + (m : Int) = f + ((m + 1 : Nat) : Int) by omega]

theorem sl_txt {s : ByteArray} {a b : Int} : (sl (txt s) a b).map (fun x => ((-1 : Int), x)) = cellsT (s.extract a.toNat b.toNat) := by
  rw [← sl_T]
  unfold sl cellsT
  rw [List.map_drop, List.map_take]

theorem drop_txt {s : ByteArray} {a : Int} : ((txt s).drop a.toNat).map (fun x => ((-1 : Int), x)) = cellsT (s.extract a.toNat s.size) := by
  unfold cellsT
  rw [txt_extract, List.take_of_length_le (by rw [List.length_drop, txt_len]; omega)]

theorem ext_size {s : ByteArray} {a b : Nat} (h : a ≤ b) (hb : b ≤ s.size) : (s.extract a b).size = b - a := by
  rw [← txt_len, txt_extract, List.length_take, List.length_drop, txt_len]; omega

theorem inv_loop {K : Nat} {d : List El} {s : ByteArray} {m : Int} (hs : s.size ≤ 20000) (hl : d.length ≤ 1000) : ∀ (rest : List El) (j k : Nat) (acc : List El) (at0 old : Int) (pre : Option Bool), d.drop j = rest → rest.length < k → isS s.size old pre rest → nrm none acc → 0 ≤ at0 → at0 + (cells rest).length ≤ 20000 → 0 ≤ old → old ≤ s.size → (cells acc).length ≤ at0 + old →
    ∃ acc' old', compose_Invert.l0 K d m s k acc at0 old (j : Int) = some (acc', old') ∧ nrm none acc' ∧ 0 ≤ old' ∧ old' ≤ s.size ∧ (cells acc').length ≤ 40000 ∧ cells acc' ++ cellsT (s.extract old'.toNat s.size) = cells acc ++ invC (txt s) at0 old (cells rest)
  | [], j, k, acc, at0, old, pre, hd, hk, hok, hn, h0, h1, h2, h3, h4 => by
    obtain ⟨k, rfl⟩ : ∃ m, k = m + 1 := ⟨k - 1, by simp at hk; omega⟩
    have := drop_nil hd
    rw [compose_Invert.l0, if_neg (by simp; omega)]
    exact ⟨acc, old, rfl, hn, h2, h3, by omega, by rw [show cells [] = [] from rfl, invC, drop_txt]⟩
  | x :: rest, j, k, acc, at0, old, pre, hd, hk, hok, hn, h0, h1, h2, h3, h4 => by
    obtain ⟨k, rfl⟩ : ∃ m, k = m + 1 := ⟨k - 1, by simp at hk; omega⟩
    obtain ⟨hj, hgd, hd'⟩ := drop_cons hd el0
    have hk' : rest.length < k := by simp at hk; omega
    have hw : IntKind.wrap .i64 ((j : Int) + 1) = ((j + 1 : Nat) : Int) := by rw [w64 (by omega) (by omega)]; omega
    have hn1 := nrm_len hn
    rw [isS] at hok
    rw [cells_cons, List.length_append, cE_len] at h1
    rw [compose_Invert.l0]
    simp only [Int.toNat_natCast, hgd, hw]
    rw [if_pos (by simpa using hj), if_pos ⟨by omega, by omega⟩, isCopy_is, Option.bind_some]
    by_cases hz : x.2.2.size = 0
    · rw [if_pos hz] at hok
      have q1 := hok.1.1
      have q2 := hok.1.2.2.1
      have q3 := hok.1.2.2.2
      have hes := ext_size (s := s) (a := old.toNat) (b := x.1.toNat) (by omega) (by omega)
      have wn : IntKind.wrap .i64 (x.2.1 - x.1) = x.2.1 - x.1 := w64 (by omega) (by omega)
      have wn2 : IntKind.wrap .i64 (x.2.1 - x.1 + (x.2.2.size : Int)) = x.2.1 - x.1 := by rw [w64 (by omega) (by omega)]; omega
      have wat : IntKind.wrap .i64 (at0 + (x.2.1 - x.1)) = at0 + (x.2.1 - x.1) := w64 (by omega) (by omega)
      rw [if_pos (by rw [decide_eq_true_eq]; exact hz), putm_is (by omega) (by omega), Option.bind_some, if_pos ⟨by omega, by omega, by omega⟩, wn, wn2, wat]
      obtain ⟨n1, n2⟩ := nrm_put (s := s.extract old.toNat x.1.toNat) hn
      have c1 : (cells (mkPut acc (s.extract old.toNat x.1.toNat))).length = (cells acc).length + (x.1.toNat - old.toNat) := by rw [n2, List.length_append, cellsT_len, hes]
      have n3 := nrm_len n1
      rw [copy_is (by omega), Option.bind_some]
      obtain ⟨m1, m2⟩ := nrm_copy (f := at0) (t := at0 + (x.2.1 - x.1)) n1 h0 (by omega)
      have c2 : (cells (mkCopy (mkPut acc (s.extract old.toNat x.1.toNat)) at0 (at0 + (x.2.1 - x.1)))).length = (cells acc).length + (x.1.toNat - old.toNat) + (x.2.1 - x.1).toNat := by rw [m2, List.length_append, cellsC_len, c1]; omega
      obtain ⟨acc', old', e1, e2, e3, e4, e5, e6⟩ := inv_loop (K := K) (d := d) (s := s) (m := m) hs hl rest (j + 1) k _ (at0 + (x.2.1 - x.1)) x.2.1 (some true) hd' hk' hok.2 m1 (by omega) (by omega) (by omega) q3 (by omega)
      refine ⟨acc', old', e1, e2, e3, e4, e5, ?_⟩
      rw [e6, m2, n2, cells_cons, cE, cellsT_nil hz, List.nil_append, invC_C' (by omega) (by omega), sl_txt, show at0 + (x.2.1 - x.1) - at0 = x.2.1 - x.1 by omega, show at0 + (((x.2.1 - x.1).toNat : Nat) : Int) = at0 + (x.2.1 - x.1) by omega, show x.1 + (((x.2.1 - x.1).toNat : Nat) : Int) = x.2.1 by omega]
      simp only [List.append_assoc]
    · rw [if_neg hz] at hok
      have q1 := hok.1.1
      have q2 := hok.1.2.1
      have wn : IntKind.wrap .i64 (x.2.1 - x.1) = 0 := by rw [w64 (by omega) (by omega)]; omega
      have wn2 : IntKind.wrap .i64 ((0 : Int) + (x.2.2.size : Int)) = x.2.2.size := by rw [w64 (by omega) (by omega)]; omega
      have wat : IntKind.wrap .i64 (at0 + (x.2.2.size : Int)) = at0 + x.2.2.size := w64 (by omega) (by omega)
      rw [if_neg (by rw [decide_eq_true_eq]; exact hz), wn, wn2, wat]
      obtain ⟨acc', old', e1, e2, e3, e4, e5, e6⟩ := inv_loop (K := K) (d := d) (s := s) (m := m) hs hl rest (j + 1) k acc (at0 + x.2.2.size) old (some false) hd' hk' hok.2 hn (by omega) (by omega) h2 h3 (by omega)
      refine ⟨acc', old', e1, e2, e3, e4, e5, ?_⟩
      rw [e6, cells_cons, cE, q1, q2, show ((0 : Int) - 0).toNat = 0 from rfl, cellsC, List.append_nil]
      unfold cellsT
      rw [invC_T, txt_len]

theorem invert_is {K : Nat} {d : List El} {base : Int} {s : ByteArray} (hK : 100000 ≤ K) (h : isD base d = true) (hv : uvalid s = true) (hs : base = s.size) :
    ∃ r, nrm none r ∧ cells r = invC (txt s) 0 0 (cells d) ∧ (cells r).length ≤ 60000 ∧ compose_Invert K base d s = some (fin (cells d).length r) := by
  obtain ⟨h1, h2, h3, h4, h5⟩ := isD_ok h
  have hcd := cells_len h4
  have hS := isD_isS h
  rw [hs] at hS h2
  unfold compose_Invert
  rw [is_is (by omega), Option.bind_some, h, if_neg (by simp), uvalid_is (by omega) (by omega), Option.bind_some, hv, Option.bind_some, if_neg (by simp), if_neg (by simp; omega), dsize_is (by omega), Option.bind_some, if_pos h]
  obtain ⟨acc', old', e1, e2, e3, e4, e5, e6⟩ := inv_loop (K := K) (d := d) (s := s) (m := sumK d + sumT d) (by omega) (by omega) d 0 K [] 0 0 none rfl (by omega) hS trivial (Int.le_refl 0) (by omega) (Int.le_refl 0) (by omega) (by simp [cells])
  rw [Int.natCast_zero] at e1
  have hes := ext_size (s := s) (a := old'.toNat) (b := s.size) (by omega) (by omega)
  have hn := nrm_len e2
  obtain ⟨n1, n2⟩ := nrm_put (s := s.extract old'.toNat s.size) e2
  have hc : (cells (mkPut acc' (s.extract old'.toNat s.size))).length ≤ 60000 := by rw [n2, List.length_append, cellsT_len, hes]; omega
  have hn' := nrm_len n1
  have hl := mkPut_len (l := acc') (s := s.extract old'.toNat s.size)
  unfold delta_NewMaker
  rw [Option.bind_some, e1, Option.bind_some]
  simp only
  rw [putm_is (by omega) (by omega), Option.bind_some, if_pos ⟨by omega, by omega⟩, compMade_is hK (by omega) (fun x hx => by have := hn'.2.1 x hx; omega), Option.bind_some]
  refine ⟨_, n1, ?_, hc, ?_⟩
  · rw [n2, e6]; simp [cells]
  · rw [hcd]

theorem known13 {K : Nat} (hK : 100000 ≤ K) : palinodelaw13_known K = some true := by
  have b1 : bldD 2 [((1 : Int), ((1 : Int), (ByteArray.mk #[120])))] = (2, ([(0, (1, ByteArray.empty)), (0, (0, ByteArray.mk #[120])), (1, (2, ByteArray.empty))], 0)) := by decide +kernel
  have b2 : bldD 3 [((1 : Int), ((2 : Int), ByteArray.empty))] = (3, ([(0, (1, ByteArray.empty)), (2, (3, ByteArray.empty))], 0)) := by decide +kernel
  have e1 : delta_Build_gr K 2 [((1 : Int), ((1 : Int), (ByteArray.mk #[120])))] = some (2, ([(0, (1, ByteArray.empty)), (0, (0, ByteArray.mk #[120])), (1, (2, ByteArray.empty))], 0)) := by
    rw [build_is (by simp) (by simp; omega) (by intro x hx; simp only [List.mem_singleton] at hx; subst hx; show 1 + 10 ≤ K ∧ 1 ≤ 1000000000000; omega), b1]
  have e2 : delta_Build_gr K 3 [((1 : Int), ((2 : Int), ByteArray.empty))] = some (3, ([(0, (1, ByteArray.empty)), (2, (3, ByteArray.empty))], 0)) := by
    rw [build_is (by simp) (by simp; omega) (by intro x hx; simp only [List.mem_singleton] at hx; subst hx; show 0 + 10 ≤ K ∧ 0 ≤ 1000000000000; omega), b2]
  have d1 : isD 2 [(0, (1, ByteArray.empty)), (0, (0, ByteArray.mk #[120])), (1, (2, ByteArray.empty))] = true := by decide +kernel
  have d2 : isD 3 [(0, (1, ByteArray.empty)), (2, (3, ByteArray.empty))] = true := by decide +kernel
  have d3 : isD 2 [(0, (1, ByteArray.empty)), (0, (0, ByteArray.mk #[98])), (1, (2, ByteArray.empty))] = true := by decide +kernel
  have d4 : isD 2 [(0, (2, ByteArray.empty))] = true := by decide +kernel
  obtain ⟨r, r1, r2, r3⟩ := two_is hK d1 d2 (by decide +kernel)
  have hr : r = [(0, (2, ByteArray.empty))] := cells_inj r1 (isD_nrm d4) (by rw [r2]; decide +kernel)
  obtain ⟨i, i1, i2, i3, i4⟩ := invert_is (s := ByteArray.mk #[97, 98, 99]) hK d2 (by decide +kernel) rfl
  have hi : i = [(0, (1, ByteArray.empty)), (0, (0, ByteArray.mk #[98])), (1, (2, ByteArray.empty))] := cells_inj i1 (isD_nrm d3) (by rw [i2]; decide +kernel)
  have f1 : fin 2 [(0, (2, ByteArray.empty))] = (2, ([(0, (2, ByteArray.empty))], 0)) := by decide +kernel
  have f2 : fin (cells [(0, (1, ByteArray.empty)), (2, (3, ByteArray.empty))]).length [(0, (1, ByteArray.empty)), (0, (0, ByteArray.mk #[98])), (1, (2, ByteArray.empty))] = (2, ([(0, (1, ByteArray.empty)), (0, (0, ByteArray.mk #[98])), (1, (2, ByteArray.empty))], 0)) := by decide +kernel
  have a1 : ofBytes (apS (txt (ByteArray.mk #[97, 99])) [(0, (1, ByteArray.empty)), (0, (0, ByteArray.mk #[98])), (1, (2, ByteArray.empty))]) = ByteArray.mk #[97, 98, 99] := by decide +kernel
  have t2 := twoLen_is hK d2 d2 (by decide +kernel)
  rw [hr, f1] at r3
  rw [hi, f2] at i4
  unfold palinodelaw13_known
  rw [e1, Option.bind_some, e2, Option.bind_some]
  simp only
  rw [r3, Option.bind_some, t2, Option.bind_some, i4, Option.bind_some]
  simp only
  rw [dapply_is (by omega) (by show 2 ≤ _; omega), Option.bind_some, d3, if_pos rfl, show ((ByteArray.mk #[97, 99]).size : Int) = 2 from rfl, if_pos (show (2 : Int) = 2 from rfl), a1]
  simp only [beq_self_eq_true, if_true, keep_is, Option.bind_some]
  rw [dsameG_is (by simp) (by rw [mkCopy_nil]; split <;> simp) (by simp; omega), Option.bind_some]
  decide +kernel

theorem cellsC_in : ∀ {m : Nat} {f : Int}, ∀ c ∈ cellsC f m, f ≤ c.1 ∧ c.1 < f + m ∧ c.2 = 0
  | 0, f, c, h => by cases h
  | m + 1, f, c, h => by
    rw [cellsC_cons] at h
    rcases List.mem_cons.1 h with rfl | h
    · exact ⟨by simp only; omega, by simp only; omega, rfl⟩
    · have := cellsC_in c h
      exact ⟨by omega, by omega, this.2.2⟩

theorem cells_snd : ∀ {l : List El}, (∀ x ∈ l, 0 ≤ x.1) → ∀ c ∈ cells l, c.1 = -1 ∨ 0 ≤ c.1 ∧ c.2 = 0
  | [], _, c, hc => by cases hc
  | x :: l, h, c, hc => by
    rw [cells_cons, cE] at hc
    rcases List.mem_append.1 hc with hc | hc
    · rcases List.mem_append.1 hc with hc | hc
      · obtain ⟨b, _, rfl⟩ := List.mem_map.1 hc
        exact .inl rfl
      · have := cellsC_in c hc
        have h0 := h x (by simp)
        exact .inr ⟨by omega, this.2.2⟩
    · exact cells_snd (fun y hy => h y (by simp [hy])) c hc

theorem cellsC_get : ∀ {m i : Nat} {f : Int}, i < m → (cellsC f m).getD i (0, 0) = (f + i, 0)
  | m + 1, 0, f, _ => by rw [cellsC_cons]; simp
  | m + 1, i + 1, f, h => by
    rw [cellsC_cons, List.getD_cons_succ, cellsC_get (by omega)]
    congr 1; omega

theorem twoC_keepL {n : Nat} {y : List Ce} (h : ∀ c ∈ y, c.1 = -1 ∨ 0 ≤ c.1 ∧ c.1 < n ∧ c.2 = 0) : twoC (cellsC 0 n) y = y := by
  unfold twoC
  refine (List.map_congr_left (g := id) fun c hc => ?_).trans (List.map_id _)
  rcases h c hc with h | h
  · rw [if_pos (by omega)]; rfl
  · rw [if_neg (by omega), cellsC_get (by omega)]
    obtain ⟨c1, c2⟩ := c
    simp only at h ⊢
    simp only [id, Prod.mk.injEq]
    omega

theorem keep_cells {n : Int} (h0 : 0 ≤ n) : nrm none (mkCopy [] 0 n) ∧ cells (mkCopy [] 0 n) = cellsC 0 n.toNat := by
  have := nrm_copy (l := []) (f := 0) (t := n) trivial (Int.le_refl 0) h0
  exact ⟨this.1, by rw [this.2, Int.sub_zero]; rfl⟩

theorem keep_D {n : Int} (h0 : 0 ≤ n) (h1 : n ≤ 20000) : isD n (mkCopy [] 0 n) = true := by
  obtain ⟨e1, e2⟩ := keep_cells h0
  refine isD_of e1 ?_ ?_ h0 h1 ?_ (by rw [e2, cellsC_len]; omega)
  · rw [e2]; exact (incC_C (Int.le_refl 0) (fun _ => Int.le_refl 0) (fun _ => by omega)).1
  · rw [mkCopy_nil]; split
    · rfl
    · rw [show valL [((0 : Int), (n, ByteArray.empty))] = (uvalid ByteArray.empty && true) from rfl]; decide +kernel
  · rw [mkCopy_nil]; split <;> simp

theorem fin_D {base : Int} {l : List El} (h : isD base l = true) (b : Int) : fin b l = (b, (l, 0)) := by
  obtain ⟨h1, h2, h3, h4, h5⟩ := isD_ok h
  exact fin_ok (isS_val (isD_isS h)) h3

theorem two_keepL {K : Nat} {n : Int} {b : List El} (hK : 100000 ≤ K) (hb : isD n b = true) : compose_Two K n (mkCopy [] 0 n) n b = some (n, (b, 0)) := by
  obtain ⟨g1, g2, g3, g4, g5⟩ := isD_ok hb
  obtain ⟨k1, k2⟩ := keep_cells g1
  obtain ⟨r, r1, r2, r3⟩ := two_is hK (keep_D g1 g2) hb (by rw [k2, cellsC_len]; omega)
  have : r = b := by
    apply cells_inj r1 (isD_nrm hb)
    rw [r2, k2]
    apply twoC_keepL
    intro c hc
    rcases cells_in g4 c hc with h | h
    · exact .inl h
    · rcases cells_snd (fun x hx => (g4 x hx).1) c hc with h' | h'
      · exact .inl h'
      · exact .inr ⟨h.1, by omega, h'.2⟩
  rw [r3, this, fin_D hb]

theorem keepN_is {K : Nat} {n : Int} (h0 : 0 ≤ n) (h1 : n ≤ 20000) : delta_Keep K n = some (n, mkCopy [] 0 n) := by
  rw [keep_is, show max 0 (min n 20000) = n by omega]

/-- Elements of which some could be one, or none. -/
def loose (l : List El) : Prop := ∀ x ∈ l, 0 ≤ x.1 ∧ x.1 ≤ x.2.1 ∧ (x.2.2.size = 0 ∨ x.1 = 0 ∧ x.2.1 = 0)

def nrmF : List El → List El → List El
  | acc, [] => acc
  | acc, x :: r => nrmF (mkCopy (mkPut acc x.2.2) x.1 x.2.1) r

theorem nrmF_is : ∀ {l acc : List El}, loose l → nrm none acc → nrm none (nrmF acc l) ∧ cells (nrmF acc l) = cells acc ++ cells l
  | [], acc, _, h => ⟨h, by simp [nrmF, cells]⟩
  | x :: r, acc, hl, h => by
    obtain ⟨h0, h1, h2⟩ := hl x (by simp)
    obtain ⟨p1, p2⟩ := nrm_put (s := x.2.2) h
    obtain ⟨c1, c2⟩ := nrm_copy (f := x.1) (t := x.2.1) p1 h0 h1
    obtain ⟨r1, r2⟩ := nrmF_is (l := r) (fun y hy => hl y (by simp [hy])) c1
    rw [nrmF]
    exact ⟨r1, by rw [r2, c2, p2, cells_cons, cE]; simp only [List.append_assoc]⟩

theorem mkPut_0 {l : List El} {s : ByteArray} (h : s.size = 0) : mkPut l s = l := by
  by_cases he : l = []
  · subst he; rw [mkPut_nil, if_pos h]
  · obtain ⟨m, p, rfl⟩ := split_last he
    rw [mkPut_app, if_pos h]

theorem mkCopy_0 {l : List El} {f : Int} : mkCopy l f f = l := by
  by_cases he : l = []
  · subst he; rw [mkCopy_nil, if_pos rfl]
  · obtain ⟨m, p, rfl⟩ := split_last he
    rw [mkCopy_app, if_pos rfl]

theorem nrmF_len : ∀ {l acc : List El}, loose l → (nrmF acc l).length ≤ acc.length + l.length
  | [], acc, _ => Nat.le_refl _
  | x :: r, acc, hl => by
    have h := hl x (by simp)
    have ih := nrmF_len (l := r) (acc := mkCopy (mkPut acc x.2.2) x.1 x.2.1) (fun y hy => hl y (by simp [hy]))
    rw [nrmF, List.length_cons]
    have h1 := mkCopy_len (l := mkPut acc x.2.2) (f := x.1) (t := x.2.1)
    have h2 := mkPut_len (l := acc) (s := x.2.2)
    rcases h.2.2 with h' | h'
    · rw [mkPut_0 h'] at ih h1 ⊢; omega
    · rw [h'.1, h'.2, mkCopy_0] at ih ⊢; omega

theorem nrmF_of {l r : List El} (hl : loose l) (hr : nrm none r) (hc : cells r = cells l) : r = nrmF [] l := by
  obtain ⟨h1, h2⟩ := nrmF_is (acc := []) hl trivial
  exact cells_inj hr h1 (by rw [h2, hc]; rfl)

theorem len_of {l r : List El} (hl : loose l) (hr : nrm none r) (hc : cells r = cells l) : r.length ≤ l.length := by
  rw [nrmF_of hl hr hc]
  have := nrmF_len (acc := []) hl
  simpa using this

theorem nrm_loose : ∀ {l : List El} {q : Option El}, nrm q l → loose l
  | [], _, _ => fun x hx => by cases hx
  | x :: r, q, h => by
    intro y hy
    rcases List.mem_cons.1 hy with rfl | hy
    · rcases h.1 with h1 | h1
      · exact ⟨h1.2.1, by omega, .inl h1.1⟩
      · exact ⟨by omega, by omega, .inr ⟨h1.2.1, h1.2.2.1⟩⟩
    · exact nrm_loose h.2 y hy

/-- An element's part. -/
def cutE (x : El) (f t : Nat) : El := if x.2.2.size = 0 then (x.1 + f, (x.1 + t, x.2.2)) else (x.1, (x.2.1, x.2.2.extract f t))

def lnE (x : El) : Nat := (cE x).length

def spT : Nat → List El → List El
  | _, [] => []
  | n, x :: r => if lnE x ≤ n then x :: spT (n - lnE x) r else [cutE x 0 n]

def spD : Nat → List El → List El
  | _, [] => []
  | n, x :: r => if lnE x ≤ n then spD (n - lnE x) r else cutE x n (lnE x) :: r

theorem spD_len : ∀ {r : List El} {n : Nat}, (spD n r).length ≤ r.length
  | [], _ => Nat.le_refl _
  | x :: r, n => by
    rw [spD]
    have := spD_len (r := r) (n := n - lnE x)
    split <;> simp only [List.length_cons] <;> omega

theorem sp_len : ∀ {r : List El} {n m : Nat}, n ≤ m → (spT n r).length + (spD m r).length ≤ r.length + 1
  | [], _, _, _ => by simp [spT, spD]
  | x :: r, n, m, h => by
    rw [spT, spD]
    by_cases h1 : lnE x ≤ n
    · rw [if_pos h1, if_pos (by omega)]
      have := sp_len (r := r) (n := n - lnE x) (m := m - lnE x) (by omega)
      simp only [List.length_cons]; omega
    · rw [if_neg h1]
      have := spD_len (r := r) (n := m - lnE x)
      split <;> simp only [List.length_cons, List.length_nil] <;> omega

theorem cutE_cells {x : El} {f t : Nat} (h : x.2.2.size = 0 ∨ x.1 = 0 ∧ x.2.1 = 0) (hft : f ≤ t) (ht : t ≤ lnE x) : cE (cutE x f t) = ((cE x).drop f).take (t - f) := by
  have hl : lnE x = x.2.2.size + (x.2.1 - x.1).toNat := cE_len
  have hs : ((cE x).drop f).take (t - f) = sl (cE x) (f : Int) (t : Int) := by
    unfold sl; rw [Int.toNat_natCast, Int.toNat_natCast, List.drop_take]
  rw [hs]
  unfold cutE
  by_cases hz : x.2.2.size = 0
  · rw [if_pos hz]
    unfold cE
    simp only
    rw [cellsT_nil hz, List.nil_append, List.nil_append, sl_C (by omega) (by omega) (by omega)]
    congr 1; omega
  · rw [if_neg hz]
    rcases h with h | h
    · exact absurd h hz
    · unfold cE
      simp only
      rw [h.1, h.2, show ((0 : Int) - 0).toNat = 0 from rfl, cellsC, List.append_nil, List.append_nil, sl_T, Int.toNat_natCast, Int.toNat_natCast]

theorem cutE_loose {x : El} {f t : Nat} (h : 0 ≤ x.1 ∧ x.1 ≤ x.2.1 ∧ (x.2.2.size = 0 ∨ x.1 = 0 ∧ x.2.1 = 0)) (hft : f ≤ t) : 0 ≤ (cutE x f t).1 ∧ (cutE x f t).1 ≤ (cutE x f t).2.1 ∧ ((cutE x f t).2.2.size = 0 ∨ (cutE x f t).1 = 0 ∧ (cutE x f t).2.1 = 0) := by
  unfold cutE
  split
  · rename_i hz; exact ⟨by simp only; omega, by simp only; omega, .inl hz⟩
  · rename_i hz
    rcases h.2.2 with h' | h'
    · exact absurd h' hz
    · exact ⟨h.1, h.2.1, .inr h'⟩

theorem spT_is : ∀ {r : List El} {n : Nat}, loose r → loose (spT n r) ∧ cells (spT n r) = (cells r).take n
  | [], n, h => ⟨h, by simp [spT, cells]⟩
  | x :: r, n, h => by
    have hx := h x (by simp)
    have hr : loose r := fun y hy => h y (by simp [hy])
    rw [spT]
    by_cases h1 : lnE x ≤ n
    · rw [if_pos h1]
      obtain ⟨e1, e2⟩ := spT_is (n := n - lnE x) hr
      refine ⟨fun y hy => ?_, ?_⟩
      · rcases List.mem_cons.1 hy with rfl | hy
        · exact hx
        · exact e1 y hy
      · rw [cells_cons, cells_cons, e2, List.take_append, List.take_of_length_le h1]; rfl
    · rw [if_neg h1]
      refine ⟨fun y hy => ?_, ?_⟩
      · rw [List.mem_singleton.1 hy]; exact cutE_loose hx (by omega)
      · rw [cells_cons, cells_cons, cutE_cells hx.2.2 (by omega) (by omega), show cells [] = [] from rfl, List.append_nil, List.drop_zero, Nat.sub_zero, List.take_append_of_le_length (by unfold lnE at h1; omega)]

theorem spD_is : ∀ {r : List El} {n : Nat}, loose r → loose (spD n r) ∧ cells (spD n r) = (cells r).drop n
  | [], n, h => ⟨h, by simp [spD, cells]⟩
  | x :: r, n, h => by
    have hx := h x (by simp)
    have hr : loose r := fun y hy => h y (by simp [hy])
    rw [spD]
    by_cases h1 : lnE x ≤ n
    · rw [if_pos h1]
      obtain ⟨e1, e2⟩ := spD_is (n := n - lnE x) hr
      refine ⟨e1, ?_⟩
      rw [cells_cons, e2, List.drop_append, List.drop_of_length_le h1]; rfl
    · rw [if_neg h1]
      refine ⟨fun y hy => ?_, ?_⟩
      · rcases List.mem_cons.1 hy with rfl | hy
        · exact cutE_loose hx (by omega)
        · exact hr y hy
      · rw [cells_cons, cells_cons, cutE_cells hx.2.2 (by omega) (Nat.le_refl _), List.take_of_length_le (by rw [List.length_drop]; unfold lnE; omega), List.drop_append_of_le_length (by unfold lnE at h1; omega)]

theorem bldD_is {base : Int} {l : List El} (h : (bldD base l).2.2 = 0) : (bldD base l).2.1 = mkCopy (bld [] 0 l).1 (bld [] 0 l).2 base := by
  unfold bldD at h ⊢
  split at h
  · rename_i q1; exact absurd h q1
  · rename_i q1
    split at h
    · cases h
    · rename_i q2
      rw [if_neg q1, if_neg q2]

/-- One change behind a delta: the elements, some of which may be empty. -/
def chg (r : List El) (p q : Nat) (t : ByteArray) : List El := spT p r ++ (0, (0, t)) :: spD q r

theorem chg_cells {r : List El} {p q : Nat} {t : ByteArray} (h : loose r) : loose (chg r p q t) ∧ cells (chg r p q t) = (cells r).take p ++ cellsT t ++ (cells r).drop q := by
  obtain ⟨a1, a2⟩ := spT_is (n := p) h
  obtain ⟨b1, b2⟩ := spD_is (n := q) h
  refine ⟨fun x hx => ?_, ?_⟩
  · rcases List.mem_append.1 hx with hx | hx
    · exact a1 x hx
    · rcases List.mem_cons.1 hx with rfl | hx
      · exact ⟨Int.le_refl 0, Int.le_refl 0, .inr ⟨rfl, rfl⟩⟩
      · exact b1 x hx
  · unfold chg
    rw [cells_app, cells_cons, a2, b2, cE]
    simp [cellsC]

theorem chg_len {r : List El} {p q : Nat} {t : ByteArray} (h : p ≤ q) : (chg r p q t).length ≤ r.length + 2 := by
  unfold chg
  have := sp_len (r := r) h
  rw [List.length_append, List.length_cons]; omega

theorem incC_mono {base : Int} : ∀ {l : List Ce} {to to' : Int}, to ≤ to' → incC base to' l → incC base to l
  | [], _, _, _, _ => trivial
  | c :: l, to, to', h, hi => by
    rw [incC] at hi ⊢
    split at hi
    · rename_i hc; rw [if_pos hc]; exact ⟨hi.1, incC_mono h hi.2⟩
    · rename_i hc; rw [if_neg hc]; exact ⟨by omega, hi.2⟩

theorem endC_le {base : Int} : ∀ {l : List Ce} {to : Int}, incC base to l → to ≤ endC to l
  | [], _, _ => Int.le_refl _
  | c :: l, to, h => by
    rw [incC] at h
    rw [endC]
    split at h
    · rename_i hc; rw [if_pos hc]; exact endC_le h.2
    · rename_i hc; rw [if_neg hc]; have := endC_le h.2.2; omega

/-- Taking away from the middle and putting text in keeps the order. -/
theorem incC_chg {base : Int} {l : List Ce} {to : Int} {p q : Nat} {t : ByteArray} (h : incC base to l) (hpq : p ≤ q) : incC base to (l.take p ++ cellsT t ++ l.drop q) := by
  have e : l.take p ++ l.drop p = l := List.take_append_drop p l
  rw [← e] at h
  obtain ⟨h1, h2⟩ := incC_app.1 h
  have e2 : (l.drop p).take (q - p) ++ l.drop q = l.drop p := by
    have := List.take_append_drop (q - p) (l.drop p)
    rwa [List.drop_drop, show p + (q - p) = q by omega] at this
  rw [← e2] at h2
  obtain ⟨h3, h4⟩ := incC_app.1 h2
  rw [List.append_assoc, incC_app]
  refine ⟨h1, ?_⟩
  unfold cellsT
  rw [incC_app, (incC_T (base := base)).2]
  exact ⟨incC_T.1, incC_mono (endC_le h3) h4⟩

theorem two_one {x : List Ce} {p q : Nat} {t : ByteArray} (hp : p ≤ q) (hq : q ≤ x.length) : twoC x (cellsC 0 p ++ cellsT t ++ cellsC q (x.length - q)) = x.take p ++ cellsT t ++ x.drop q := by
  have h1 := twoC_C (x := x) (m := p) (f := 0) (by omega)
  have h2 := twoC_C (x := x) (m := x.length - q) (f := q) (by omega)
  rw [Int.natCast_zero] at h1
  rw [twoC_app, twoC_app, twoC_T, h1, h2, List.drop_zero, List.take_of_length_le (l := x.drop q) (by rw [List.length_drop]; omega)]

/-- Ones ahead of a place, then noughts. -/
def f1 (x : Int) : Int → Nat → List Int
  | _, 0 => []
  | a, n + 1 => (if a < x then 1 else 0) :: f1 x (a + 1) n

theorem twoC_assoc {x y z : List Ce} (h : ∀ c ∈ z, c.1 = -1 ∨ 0 ≤ c.1 ∧ c.1 < y.length) : twoC (twoC x y) z = twoC x (twoC y z) := by
  unfold twoC
  rw [List.map_map]
  apply List.map_congr_left
  intro c hc
  simp only [Function.comp]
  rcases h c hc with h | h
  · have e : (if c.1 < 0 then c else y.getD c.1.toNat (0, 0)) = c := if_pos (by omega)
    rw [e, if_pos (by omega), if_pos (by omega)]
  · have hl : c.1.toNat < y.length := by omega
    have e : (if c.1 < 0 then c else y.getD c.1.toNat (0, 0)) = y[c.1.toNat] := by
      rw [if_neg (by omega), List.getD_eq_getElem?_getD, List.getElem?_eq_getElem hl]; rfl
    rw [e, if_neg (by omega), List.getD_eq_getElem?_getD, List.getElem?_map, List.getElem?_eq_getElem hl]
    rfl

def ascT (t : ByteArray) : Prop := ∀ x ∈ txt t, x < 128

def ascL (l : List El) : Prop := ∀ x ∈ l, ascT x.2.2

theorem asc_valid {t : ByteArray} (h : ascT t) : uvalid t = true := by
  have key : ∀ (m : Nat) (a : Int), 0 ≤ a → uval t m a = true := by
    intro m
    induction m with
    | zero => intro a _; rfl
    | succ m ih =>
      intro a h0
      rw [uval]
      split
      · rename_i ha
        obtain ⟨n, rfl⟩ : ∃ n : Nat, a = n := ⟨a.toNat, by omega⟩
        have hn : n < (txt t).length := by rw [txt_len]; omega
        have hb : bt t (n : Int) < 128 := by rw [bt_is hn]; exact h _ (List.getElem_mem hn)
        have : usz t (n : Int) = 1 := by
          unfold usz uszB
          rw [if_neg (by omega), if_pos hb]
        rw [this, if_neg (by omega)]
        exact ih _ (by omega)
      · rfl
  exact key _ 0 (Int.le_refl 0)

theorem ascL_val {l : List El} (h : ascL l) : valL l = true := List.all_eq_true.2 fun x hx => asc_valid (h x hx)

theorem asc_empty : ascT ByteArray.empty := by
  intro x hx
  rw [txt_empty] at hx
  cases hx

theorem mkCopy_asc {l : List El} {f t : Int} (h : ascL l) : ascL (mkCopy l f t) := by
  by_cases he : l = []
  · subst he; rw [mkCopy_nil]; split
    · exact h
    · intro x hx; rw [List.mem_singleton.1 hx]; exact asc_empty
  · obtain ⟨m, p, rfl⟩ := split_last he
    rw [mkCopy_app]
    split
    · exact h
    · split
      · intro x hx
        rcases List.mem_append.1 hx with hx | hx
        · exact h x (List.mem_append_left _ hx)
        · rw [List.mem_singleton.1 hx]; exact h p (List.mem_append_right _ (List.mem_singleton.2 rfl))
      · intro x hx
        rcases List.mem_append.1 hx with hx | hx
        · exact h x hx
        · rw [List.mem_singleton.1 hx]; exact asc_empty

theorem mkPut_asc {l : List El} {s : ByteArray} (h : ascL l) (hs : ascT s) : ascL (mkPut l s) := by
  by_cases he : l = []
  · subst he; rw [mkPut_nil]; split
    · exact h
    · intro x hx; rw [List.mem_singleton.1 hx]; exact hs
  · obtain ⟨m, p, rfl⟩ := split_last he
    rw [mkPut_app]
    split
    · exact h
    · split
      · intro x hx
        rcases List.mem_append.1 hx with hx | hx
        · exact h x hx
        · rw [List.mem_singleton.1 hx]; exact hs
      · intro x hx
        rcases List.mem_append.1 hx with hx | hx
        · exact h x (List.mem_append_left _ hx)
        · rw [List.mem_singleton.1 hx]
          have hp := h p (List.mem_append_right _ (List.mem_singleton.2 rfl))
          intro y hy
          simp only at hy
          rw [txt_app] at hy
          rcases List.mem_append.1 hy with hy | hy
          · exact hp y hy
          · exact hs y hy

theorem nrmF_asc : ∀ {l acc : List El}, ascL l → ascL acc → ascL (nrmF acc l)
  | [], acc, _, h => h
  | x :: r, acc, hl, h => by
    rw [nrmF]
    exact nrmF_asc (fun y hy => hl y (by simp [hy])) (mkCopy_asc (mkPut_asc h (hl x (by simp))))

theorem asc_of {l r : List El} (hl : loose l) (ha : ascL l) (hr : nrm none r) (hc : cells r = cells l) : ascL r := by
  rw [nrmF_of hl hr hc]
  exact nrmF_asc ha (fun x hx => by cases hx)

theorem cutE_asc {x : El} {f t : Nat} (h : ascT x.2.2) : ascT (cutE x f t).2.2 := by
  unfold cutE
  split
  · exact h
  · intro y hy
    simp only at hy
    rw [txt_extract] at hy
    exact h y (List.mem_of_mem_drop (List.mem_of_mem_take hy))

theorem spT_asc : ∀ {r : List El} {n : Nat}, ascL r → ascL (spT n r)
  | [], _, h => h
  | x :: r, n, h => by
    rw [spT]
    split
    · intro y hy
      rcases List.mem_cons.1 hy with rfl | hy
      · exact h _ (by simp)
      · exact spT_asc (fun z hz => h z (by simp [hz])) y hy
    · intro y hy
      rw [List.mem_singleton.1 hy]
      exact cutE_asc (h x (by simp))

theorem spD_asc : ∀ {r : List El} {n : Nat}, ascL r → ascL (spD n r)
  | [], _, h => h
  | x :: r, n, h => by
    rw [spD]
    split
    · exact spD_asc (fun z hz => h z (by simp [hz]))
    · intro y hy
      rcases List.mem_cons.1 hy with rfl | hy
      · exact cutE_asc (h x (by simp))
      · exact h y (by simp [hy])

theorem chg_asc {r : List El} {p q : Nat} {t : ByteArray} (h : ascL r) (ht : ascT t) : ascL (chg r p q t) := by
  intro x hx
  rcases List.mem_append.1 hx with hx | hx
  · exact spT_asc h x hx
  · rcases List.mem_cons.1 hx with rfl | hx
    · exact ht
    · exact spD_asc h x hx

theorem one4_len {n : Int} {p q : Int} {t : ByteArray} (h : (bldD n [(p, (q, t))]).2.2 = 0) : (bldD n [(p, (q, t))]).2.1.length ≤ 3 := by
  rw [bldD_is h]
  have l1 := mkCopy_len (l := []) (f := 0) (t := p)
  have l2 := mkPut_len (l := mkCopy [] 0 p) (s := t)
  have l3 := mkCopy_len (l := mkPut (mkCopy [] 0 p) t) (f := q) (t := n)
  simp only [List.length_nil] at l1
  show (mkCopy (mkPut (mkCopy [] 0 p) t) q n).length ≤ 3
  omega

/-- A change, as a delta. -/
theorem one_asc {n p q : Nat} {t : ByteArray} (h1 : p ≤ q) (h2 : q ≤ n) (hn : n ≤ 1000) (ht : t.size ≤ 10) (ha : ascT t) :
    (bldD n [((p : Int), ((q : Int), t))]).2.2 = 0 ∧ (bldD n [((p : Int), ((q : Int), t))]).1 = n ∧ isD n (bldD n [((p : Int), ((q : Int), t))]).2.1 = true ∧ ascL (bldD n [((p : Int), ((q : Int), t))]).2.1 ∧ (bldD n [((p : Int), ((q : Int), t))]).2.1.length ≤ 3 ∧
      cells (bldD n [((p : Int), ((q : Int), t))]).2.1 = cellsC 0 p ++ cellsT t ++ cellsC q (n - q) ∧ (cells (bldD n [((p : Int), ((q : Int), t))]).2.1).length = n - (q - p) + t.size := by
  obtain ⟨a1, a2, a3, a4⟩ := (one_is (n := n) (a := p) (b := q) (t := t) h1 h2 (by omega) (by omega)).2 (asc_valid ha)
  refine ⟨a1, a2, a3, ?_, one4_len a1, by rw [a4, List.append_assoc], ?_⟩
  · rw [bldD_is a1]
    exact mkCopy_asc (mkPut_asc (mkCopy_asc (fun x hx => by cases hx)) ha)
  · rw [a4]
    simp only [List.length_append, cellsC_len, cellsT_len]
    omega

/-- A change behind a delta. -/
theorem asc_step {K : Nat} {ba : Int} {a : List El} {n m p q : Nat} {t : ByteArray} (hK : 100000 ≤ K) (ha : isD ba a = true) (hasc : ascL a) (hl : a.length ≤ n) (hn : n ≤ 50) (hm : m = (cells a).length) (hm2 : m ≤ 900) (h1 : p ≤ q) (h2 : q ≤ m) (ht : t.size ≤ 10) (hta : ascT t) :
    ∃ r, compose_Two K ba a m (bldD m [((p : Int), ((q : Int), t))]).2.1 = some (ba, (r, 0)) ∧ isD ba r = true ∧ ascL r ∧ r.length ≤ n + 2 ∧ cells r = twoC (cells a) (cells (bldD m [((p : Int), ((q : Int), t))]).2.1) := by
  obtain ⟨b1, b2, b3, b4, b5, b6, b7⟩ := one_asc (n := m) h1 h2 (by omega) ht hta
  obtain ⟨h3, h4, h5, h6, h7⟩ := isD_ok ha
  obtain ⟨r, r1, r2, r3⟩ := two_is hK ha b3 (by omega)
  have r2' := r2
  rw [b6, hm, two_one h1 (by omega)] at r2
  have hlo := nrm_loose (isD_nrm ha)
  obtain ⟨l1, l2⟩ := chg_cells (p := p) (q := q) (t := t) hlo
  have hlen := len_of l1 r1 (by rw [r2, l2])
  have hcl := chg_len (r := a) (p := p) (q := q) (t := t) h1
  have hra := asc_of l1 (chg_asc hasc hta) r1 (by rw [r2, l2])
  have hcr : (cells r).length ≤ 20000 := by
    rw [r2]; simp only [List.length_append, List.length_take, List.length_drop, cellsT_len]; omega
  have hD : isD ba r = true := isD_of r1 (by rw [r2]; exact incC_chg (isD_incC ha) h1) (ascL_val hra) h3 h4 (by omega) hcr
  exact ⟨r, by rw [r3, fin_D hD], hD, hra, by omega, r2'⟩

theorem ascii_loop {K : Nat} {s : ByteArray} (hs : s.size ≤ 1000) : ∀ (n k j : Nat), j + n = s.size → n < k →
    palinodelaw13_ascii.l0 K s k (j : Int) = some false ∨ palinodelaw13_ascii.l0 K s k (j : Int) = some true ∧ ∀ x ∈ (txt s).drop j, x < 128
  | 0, k, j, hj, hk => by
    obtain ⟨k, rfl⟩ : ∃ m, k = m + 1 := ⟨k - 1, by omega⟩
    rw [palinodelaw13_ascii.l0, if_neg (by simp; omega), List.drop_of_length_le (by rw [txt_len]; omega)]
    exact .inr ⟨rfl, by simp⟩
  | n + 1, k, j, hj, hk => by
    obtain ⟨k, rfl⟩ : ∃ m, k = m + 1 := ⟨k - 1, by omega⟩
    have hm : j < (txt s).length := by rw [txt_len]; omega
    have hw : IntKind.wrap .i64 ((j : Int) + 1) = ((j + 1 : Nat) : Int) := by rw [w64 (by omega) (by omega)]; omega
    rw [palinodelaw13_ascii.l0, if_pos (by simp; omega), if_pos ⟨by omega, by omega⟩, hw, bt_is hm]
    by_cases hc : (txt s)[j] ≥ 128
    · rw [if_pos (by simpa using hc)]; exact .inl rfl
    · rw [if_neg (by simpa using hc)]
      rcases ascii_loop hs n k (j + 1) (by omega) (by omega) with h | ⟨h, e⟩
      · exact .inl h
      · refine .inr ⟨h, fun x hx => ?_⟩
        rw [List.drop_eq_getElem_cons hm] at hx
        rcases List.mem_cons.1 hx with rfl | hx
        · omega
        · exact e x hx

theorem ascii_is {K : Nat} {s : ByteArray} (hs : s.size ≤ 1000) (hK : s.size < K) : palinodelaw13_ascii K s = some false ∨ palinodelaw13_ascii K s = some true ∧ ascT s := by
  unfold palinodelaw13_ascii
  have := ascii_loop (K := K) (s := s) hs s.size K 0 (by omega) hK
  rw [Int.natCast_zero, List.drop_zero] at this
  exact this

theorem three_step {K k : Nat} {t0 t1 t2 : ByteArray} {a0 a1 a2 c0 c1 c2 : Int} (hK : 100000 ≤ K) (ba : ∀ x ∈ [a0, a1, a2], 0 ≤ x ∧ x ≤ 255) (bc : ∀ x ∈ [c0, c1, c2], 0 ≤ x ∧ x ≤ 255) {d : List (Int × List El)} {n i : Nat} (hi : i < 3) (hd : d.length = 3) (hn : n ≤ 200) :
    palinodelaw13_ComposeThree.l0 K t0 t1 t2 a0 a1 a2 c0 c1 c2 (k + 1) d (n : Int) (i : Int) = some (.inl true) ∨
    ∃ (p q : Nat), p ≤ q ∧ q ≤ n ∧ ([t0, t1, t2].getD i ByteArray.empty).size ≤ 10 ∧ ascT ([t0, t1, t2].getD i ByteArray.empty) ∧
      palinodelaw13_ComposeThree.l0 K t0 t1 t2 a0 a1 a2 c0 c1 c2 (k + 1) d (n : Int) (i : Int) = palinodelaw13_ComposeThree.l0 K t0 t1 t2 a0 a1 a2 c0 c1 c2 k (d.set i ((n : Int), (bldD n [((p : Int), ((q : Int), [t0, t1, t2].getD i ByteArray.empty))]).2.1)) ((n - (q - p) + ([t0, t1, t2].getD i ByteArray.empty).size : Nat) : Int) ((i + 1 : Nat) : Int) := by
  have hw : IntKind.wrap .i64 ((i : Int) + 1) = ((i + 1 : Nat) : Int) := by rw [w64 (by omega) (by omega)]; omega
  have hA : 0 ≤ [a0, a1, a2].getD i 0 ∧ [a0, a1, a2].getD i 0 ≤ 255 := by
    apply ba
    rw [List.getD_eq_getElem?_getD, List.getElem?_eq_getElem (by simpa using hi)]
    exact List.getElem_mem _
  have hC : 0 ≤ [c0, c1, c2].getD i 0 ∧ [c0, c1, c2].getD i 0 ≤ 255 := by
    apply bc
    rw [List.getD_eq_getElem?_getD, List.getElem?_eq_getElem (by simpa using hi)]
    exact List.getElem_mem _
  rw [palinodelaw13_ComposeThree.l0]
  simp only [Int.toNat_natCast, hw, List.length_cons, List.length_nil, hd]
  obtain ⟨t, ht⟩ : ∃ t, [t0, t1, t2].getD i ByteArray.empty = t := ⟨_, rfl⟩
  obtain ⟨a, ha⟩ : ∃ a, [a0, a1, a2].getD i 0 = a := ⟨_, rfl⟩
  obtain ⟨c, hc⟩ : ∃ c, [c0, c1, c2].getD i 0 = c := ⟨_, rfl⟩
  rw [ha] at hA
  rw [hc] at hC
  simp only [ht, ha, hc]
  rw [if_pos (by simp; omega)]
  by_cases hs : t.size > 10
  · rw [if_pos (by simp; omega), if_pos ⟨by omega, by omega, by omega⟩, Option.bind_some, if_pos rfl]; exact .inl rfl
  · rw [if_neg (by simp; omega)]
    rcases ascii_is (K := K) (s := t) (by omega) (by omega) with h | ⟨h, hasc⟩
    · rw [h, Option.bind_some, if_pos ⟨by omega, by omega, by omega⟩, Option.bind_some, if_pos (by rfl)]; exact .inl rfl
    · right
      have hp := tmod_u8 (n := a) (m := (n : Int) + 1) hA.1 (by omega)
      obtain ⟨p, hpe⟩ : ∃ p : Nat, Int.tmod a ((n : Int) + 1) = p := ⟨(Int.tmod a ((n : Int) + 1)).toNat, by omega⟩
      have hq := tmod_u8 (n := c) (m := (n : Int) - p + 1) hC.1 (by omega)
      obtain ⟨r, hre⟩ : ∃ r : Nat, Int.tmod c ((n : Int) - p + 1) = r := ⟨(Int.tmod c ((n : Int) - p + 1)).toNat, by omega⟩
      obtain ⟨b1, b2, b3, b4, b5, b6, b7⟩ := one_asc (n := n) (p := p) (q := p + r) (t := t) (by omega) (by omega) (by omega) (by omega) hasc
      have hcs := cells_len (isD_ok b3).2.2.2.1
      have e1 : IntKind.wrap .i64 ((n : Int) + 1) = (n : Int) + 1 := w64 (by omega) (by omega)
      have e2 : IntKind.wrap .i64 a = a := w64 (by omega) (by omega)
      have e3 : IntKind.wrap .i64 c = c := w64 (by omega) (by omega)
      have e4 : IntKind.wrap .i64 ((n : Int) - (p : Int)) = (n : Int) - p := w64 (by omega) (by omega)
      have e5 : IntKind.wrap .i64 ((n : Int) - (p : Int) + 1) = (n : Int) - p + 1 := w64 (by omega) (by omega)
      have e6 : IntKind.wrap .i64 ((p : Int) + (r : Int)) = ((p + r : Nat) : Int) := by rw [w64 (by omega) (by omega)]; omega
      refine ⟨p, p + r, by omega, by omega, by omega, hasc, ?_⟩
      rw [h, Option.bind_some, if_pos ⟨by omega, by omega, by omega⟩, Option.bind_some, if_neg (by simp)]
      simp only [e1, e2, e3, hpe, e4, e5, hre, e6]
      rw [if_pos ⟨by omega, by omega, by omega, by omega, by omega, by omega⟩, build_is (by simp) (by simp; omega) (by intro z hz; rw [List.mem_singleton.1 hz]; show t.size + 10 ≤ K ∧ t.size ≤ 1000000000000; omega), Option.bind_some, if_pos (by omega), if_neg (by simpa using b1), if_pos (by omega), b2, dsize_is (by omega), if_pos b3, Option.bind_some, ← hcs, b7]

theorem allsx_is {K : Nat} {x y z : Int × List El} (hK : 100000 ≤ K) (h : isD x.1 x.2 = true) {b1 b2 : Int} {r1 r2 : List El} (h1 : compose_Two K x.1 x.2 y.1 y.2 = some (b1, (r1, 0))) (h2 : compose_Two K b1 r1 z.1 z.2 = some (b2, (r2, 0))) :
    compose_All_sx K [x, y, z] 0 3 = some (b2, (r2, 0)) := by
  obtain ⟨g1, g2, g3, g4, g5⟩ := isD_ok h
  obtain ⟨k, rfl⟩ : ∃ k, K = k + 1 + 1 + 1 := ⟨K - 3, by omega⟩
  unfold compose_All_sx
  rw [if_neg (by decide)]
  simp only [Nat.zero_add, List.getD_cons_zero]
  rw [keepN_is g1 g2, Option.bind_some]
  simp only
  rw [two_keepL (by omega) h, Option.bind_some, if_pos (by decide), compose_All_sx.l0, if_pos (by decide), Option.bind_some, if_pos (by rfl)]
  simp only [show (0 + Int.toNat 1) = 1 from rfl, List.getD_cons_succ, List.getD_cons_zero]
  rw [h1, Option.bind_some, if_pos (by decide), compose_All_sx.l0, show IntKind.wrap .i64 ((1 : Int) + 1) = 2 by decide, if_pos (by decide), Option.bind_some, if_pos (by rfl)]
  simp only [show (0 + Int.toNat 2) = 2 from rfl, List.getD_cons_succ, List.getD_cons_zero]
  rw [h2, Option.bind_some, if_pos (by decide), compose_All_sx.l0, show IntKind.wrap .i64 ((2 : Int) + 1) = 3 by decide, if_neg (by decide), Option.bind_some, if_neg (by simp)]

theorem ComposeThree_pure (s : ByteArray) (a : Int × (Int × Int)) (t : ByteArray × (ByteArray × ByteArray)) (c : Int × (Int × Int)) (os : Kd.ok .str s) (oa : Kd.ok (.pair (.int .u8) (.pair (.int .u8) (.int .u8))) a) (ot : Kd.ok (.pair .str (.pair .str .str)) t) (oc : Kd.ok (.pair (.int .u8) (.pair (.int .u8) (.int .u8))) c) :
    ∃ K, palinodelaw13_ComposeThree K s a.1 a.2.1 a.2.2 t.1 t.2.1 t.2.2 c.1 c.2.1 c.2.2 = some true := by
  refine ⟨200000, ?_⟩
  obtain ⟨a0, a1, a2⟩ := a
  obtain ⟨t0, t1, t2⟩ := t
  obtain ⟨c0, c1, c2⟩ := c
  have ba : ∀ x ∈ [a0, a1, a2], 0 ≤ x ∧ x ≤ 255 := by
    intro x hx
    simp only [List.mem_cons, List.not_mem_nil, or_false] at hx
    rcases hx with rfl | rfl | rfl
    · exact bounds_u8 oa.1
    · exact bounds_u8 oa.2.1
    · exact bounds_u8 oa.2.2
  have bc : ∀ x ∈ [c0, c1, c2], 0 ≤ x ∧ x ≤ 255 := by
    intro x hx
    simp only [List.mem_cons, List.not_mem_nil, or_false] at hx
    rcases hx with rfl | rfl | rfl
    · exact bounds_u8 oc.1
    · exact bounds_u8 oc.2.1
    · exact bounds_u8 oc.2.2
  clear os oa ot oc
  simp only
  unfold palinodelaw13_ComposeThree
  rw [known13 (by omega), Option.bind_some, if_neg (by simp)]
  by_cases hs : s.size > 60
  · rw [if_pos (by simp; omega)]
  · rw [if_neg (by simp; omega)]
    rcases three_step (K := 200000) (k := 199999) (t0 := t0) (t1 := t1) (t2 := t2) (by omega) ba bc (d := [(0, []), (0, []), (0, [])]) (n := s.size) (i := 0) (by omega) rfl (by omega) with h | ⟨p0, q0, u1, u2, u3, u4, h⟩
    · rw [show ((0 : Nat) : Int) = 0 from rfl] at h; rw [h]; rfl
    · rw [show ((0 : Nat) : Int) = 0 from rfl] at h
      simp only [List.getD_cons_zero] at u3 u4 h
      rw [h]
      obtain ⟨n1, hn1⟩ : ∃ n1, s.size - (q0 - p0) + t0.size = n1 := ⟨_, rfl⟩
      rw [hn1]
      rcases three_step (K := 200000) (k := 199998) (t0 := t0) (t1 := t1) (t2 := t2) (by omega) ba bc (d := List.set [(0, []), (0, []), (0, [])] 0 ((s.size : Int), (bldD s.size [((p0 : Int), ((q0 : Int), t0))]).2.1)) (n := n1) (i := 1) (by omega) rfl (by omega) with h | ⟨p1, q1, v1, v2, v3, v4, h⟩
      · rw [h]; rfl
      · simp only [List.getD_cons_zero, List.getD_cons_succ] at v3 v4 h
        rw [h]
        obtain ⟨n2, hn2⟩ : ∃ n2, n1 - (q1 - p1) + t1.size = n2 := ⟨_, rfl⟩
        rw [hn2]
        rcases three_step (K := 200000) (k := 199997) (t0 := t0) (t1 := t1) (t2 := t2) (by omega) ba bc (d := List.set (List.set [(0, []), (0, []), (0, [])] 0 ((s.size : Int), (bldD s.size [((p0 : Int), ((q0 : Int), t0))]).2.1)) 1 ((n1 : Int), (bldD n1 [((p1 : Int), ((q1 : Int), t1))]).2.1)) (n := n2) (i := 2) (by omega) rfl (by omega) with h | ⟨p2, q2, w1, w2, w3, w4, h⟩
        · rw [h]; rfl
        · simp only [List.getD_cons_zero, List.getD_cons_succ] at w3 w4 h
          rw [h, palinodelaw13_ComposeThree.l0, if_neg (by decide), Option.bind_some]
          simp only [Sum.elim_inr, List.set_cons_zero, List.set_cons_succ, List.getD_cons_zero, List.getD_cons_succ]
          obtain ⟨x1, x2, x3, x4, x5, x6, x7⟩ := one_asc (n := s.size) u1 u2 (by omega) u3 u4
          obtain ⟨y1, y2, y3, y4, y5, y6, y7⟩ := one_asc (n := n1) v1 v2 (by omega) v3 v4
          obtain ⟨z1, z2, z3, z4, z5, z6, z7⟩ := one_asc (n := n2) w1 w2 (by omega) w3 w4
          obtain ⟨ra, e1, e2, e3, e4, e5⟩ := asc_step (K := 200000) (by omega) x3 x4 x5 (by omega) (m := n1) (by omega) (by omega) v1 v2 v3 v4
          have hral : (cells ra).length = n2 := by rw [e5]; unfold twoC; rw [List.length_map]; omega
          obtain ⟨rb, f1, f2, f3, f4, f5⟩ := asc_step (K := 200000) (by omega) e2 e3 e4 (by omega) (m := n2) (by omega) (by omega) w1 w2 w3 w4
          obtain ⟨rc, g1, g2, g3, g4, g5⟩ := asc_step (K := 200000) (by omega) y3 y4 y5 (by omega) (m := n2) (by omega) (by omega) w1 w2 w3 w4
          obtain ⟨rx, k1, k2, k3⟩ := two_is (K := 200000) (by omega) x3 g2 (by omega)
          have hrx : rx = rb := by
            apply cells_inj k1 (isD_nrm f2)
            rw [k2, g5, f5, e5, twoC_assoc (by rw [show (cells (bldD n1 [((p1 : Int), ((q1 : Int), t1))]).2.1).length = n2 by omega]; exact cells_in (isD_ok z3).2.2.2.1)]
          rw [hrx, fin_D f2] at k3
          have hal := allsx_is (K := 200000) (x := ((s.size : Int), (bldD s.size [((p0 : Int), ((q0 : Int), t0))]).2.1)) (y := ((n1 : Int), (bldD n1 [((p1 : Int), ((q1 : Int), t1))]).2.1)) (z := ((n2 : Int), (bldD n2 [((p2 : Int), ((q2 : Int), t2))]).2.1)) (by omega) x3 e1 f1
          rw [e1, Option.bind_some, if_pos (by simp)]
          simp only
          rw [f1, Option.bind_some, if_pos (by simp), g1, Option.bind_some]
          simp only
          rw [k3, Option.bind_some, hal, Option.bind_some, if_pos (by simp)]
          simp only [beq_self_eq_true, if_true]
          rw [dsameG_is (by omega) (by omega) (by omega), Option.bind_some, decide_eq_true ⟨rfl, rfl⟩, if_pos rfl, Option.bind_some, if_pos rfl, rvalid_is (by omega) (by omega), Option.bind_some, if_pos (by simp), asc_valid u4]

end Go.Pal
