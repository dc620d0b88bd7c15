/- Whatever numbers: what would be too long, too many elements, is not built. -/
import Derived.Test.YtjhkbooonbcklaaFunDeltaLong
namespace Go.Pal
open Go
set_option linter.unusedVariables false
set_option linter.unusedSimpArgs false
set_option linter.unnecessarySimpa false
theorem w64 {n : Int} (h1 : -9223372036854775808 ≤ n) (h2 : n < 9223372036854775808) : IntKind.wrap .i64 n = n := by
  simp only [IntKind.wrap, IntKind.bits, IntKind.signed]
  simp
  omega

theorem drop_cons {α : Type} {l : List α} {j : Nat} {g : α} {r : List α} (h : l.drop j = g :: r) (d : α) : j < l.length ∧ l.getD j d = g ∧ l.drop (j + 1) = r := by
  have hj : j < l.length := by
    rcases Nat.lt_or_ge j l.length with h' | h'
    · exact h'
    · rw [List.drop_eq_nil_of_le h'] at h; cases h
  rw [List.drop_eq_getElem_cons hj] at h
  obtain ⟨h1, h2⟩ := List.cons.inj h
  exact ⟨hj, by simp [List.getD, hj, h1], h2⟩

theorem drop_nil {α : Type} {l : List α} {j : Nat} (h : l.drop j = []) : l.length ≤ j := List.drop_eq_nil_iff.1 h

theorem split_last {α : Type} : ∀ {l : List α}, l ≠ [] → ∃ m x, l = m ++ [x] := by
  intro l h
  exact ⟨l.dropLast, l.getLast h, (List.dropLast_concat_getLast h).symm⟩

theorem mx2_eq (a b : Int) : mx2 a b = max a b := by unfold mx2; split <;> omega

theorem mn2_eq (a b : Int) : mn2 a b = min a b := by unfold mn2; split <;> omega

/-- The counts of e, those from f to t told anew. -/
def put (e : List Int) (f t c : Int) : List Int := e.take f.toNat ++ List.replicate (t - f).toNat c ++ e.drop t.toNat

theorem tmod_u8 {n m : Int} (h0 : 0 ≤ n) (hm : 0 < m) : 0 ≤ Int.tmod n m ∧ Int.tmod n m < m := by
  rw [Int.tmod_eq_emod_of_nonneg h0]
  exact ⟨Int.emod_nonneg _ (by omega), Int.emod_lt_of_pos _ hm⟩

/-- A text's bytes. -/
def txt (s : ByteArray) : List Int := s.data.toList.map fun b => (b.toNat : Int)

theorem txt_len {s : ByteArray} : (txt s).length = s.size := by simp [txt]

theorem ofBytes_txt {s : ByteArray} : ofBytes (txt s) = s := by
  cases s with
  | mk d =>
    unfold ofBytes txt
    rw [List.map_map]
    have : ((fun n : Int => UInt8.ofNat n.toNat) ∘ fun b : UInt8 => (b.toNat : Int)) = id := by
      funext b; simp
    rw [this]; simp

theorem txt_extract {s : ByteArray} {i j : Nat} : txt (s.extract i j) = ((txt s).drop i).take (j - i) := by
  unfold txt
  rw [ByteArray.data_extract, Array.toList_extract, List.map_take.symm.symm]
  simp [List.extract_eq_take_drop, List.map_drop]

theorem putAt_len {α : Type} {out l : List α} {n : Nat} (h : n + l.length ≤ out.length) : (putAt out l n).length = out.length := by
  unfold putAt
  simp
  omega

theorem putAt_take {α : Type} {out l : List α} {n : Nat} (h : n + l.length ≤ out.length) : (putAt out l n).take (n + l.length) = out.take n ++ l := by
  unfold putAt
  rw [← List.append_assoc]
  have : (out.take n ++ l).length = n + l.length := by simp; omega
  rw [← this, List.take_left]

theorem txt_get {s : ByteArray} {j : Nat} (h : j < (txt s).length) (hs : j < s.size) : (txt s)[j] = (s[j].toNat : Int) := by
  have : ∀ (l : List Int) (h : j < l.length), l = s.data.toList.map (fun b => (b.toNat : Int)) → l[j] = (s[j].toNat : Int) := by
    intro l h e
    subst e
    rw [List.getElem_map, Array.getElem_toList]
    rfl
  exact this _ h rfl

theorem bt_is {s : ByteArray} {j : Nat} (h : j < (txt s).length) : bt s (j : Int) = (txt s)[j] := by
  have hs : j < s.size := by rw [← txt_len]; exact h
  rw [txt_get h hs]
  unfold bt
  simp [hs]

theorem byte_all {P : Int → Prop} (h : ∀ m : Fin 256, P ((m.val : Nat) : Int)) {c : Int} (h0 : 0 ≤ c) (h1 : c ≤ 255) : P c := by
  have := h ⟨c.toNat, by omega⟩
  simpa [Int.toNat_of_nonneg h0] using this

theorem bt_ok {s : ByteArray} {i : Int} : 0 ≤ bt s i ∧ bt s i ≤ 255 := by
  unfold bt
  have := (s[i.toNat]?.getD 0).toNat_lt
  omega

/-- A byte that goes on. -/
def cont (b : Int) : Prop := 128 ≤ b ∧ b < 192

instance (b : Int) : Decidable (cont b) := inferInstanceAs (Decidable (_ ∧ _))

theorem and_192 {b : Int} (h0 : 0 ≤ b) (h1 : b ≤ 255) : (IntKind.wrap .u8 (BitVec.toNat (BitVec.ofInt (IntKind.bits .u8) b &&& BitVec.ofInt (IntKind.bits .u8) (192 : Int))) != (128 : Int)) = !decide (cont b) :=
  byte_all (P := fun b => (IntKind.wrap .u8 (BitVec.toNat (BitVec.ofInt (IntKind.bits .u8) b &&& BitVec.ofInt (IntKind.bits .u8) (192 : Int))) != (128 : Int)) = !decide (cont b)) (by decide +kernel) h0 h1

theorem not_192 {b : Int} (h0 : 0 ≤ b) (h1 : b ≤ 255) : IntKind.wrap .u8 (BitVec.toNat (BitVec.ofInt (IntKind.bits .u8) b &&& ~~~BitVec.ofInt (IntKind.bits .u8) (192 : Int))) = b % 64 :=
  byte_all (P := fun b => IntKind.wrap .u8 (BitVec.toNat (BitVec.ofInt (IntKind.bits .u8) b &&& ~~~BitVec.ofInt (IntKind.bits .u8) (192 : Int))) = b % 64) (by decide +kernel) h0 h1

theorem not_128 {b : Int} (h0 : 0 ≤ b) (h1 : b ≤ 255) : IntKind.wrap .u8 (BitVec.toNat (BitVec.ofInt (IntKind.bits .u8) b &&& ~~~BitVec.ofInt (IntKind.bits .u8) (128 : Int))) = b % 128 :=
  byte_all (P := fun b => IntKind.wrap .u8 (BitVec.toNat (BitVec.ofInt (IntKind.bits .u8) b &&& ~~~BitVec.ofInt (IntKind.bits .u8) (128 : Int))) = b % 128) (by decide +kernel) h0 h1

theorem not_224 {b : Int} (h0 : 0 ≤ b) (h1 : b ≤ 255) : IntKind.wrap .u8 (BitVec.toNat (BitVec.ofInt (IntKind.bits .u8) b &&& ~~~BitVec.ofInt (IntKind.bits .u8) (224 : Int))) = b % 32 :=
  byte_all (P := fun b => IntKind.wrap .u8 (BitVec.toNat (BitVec.ofInt (IntKind.bits .u8) b &&& ~~~BitVec.ofInt (IntKind.bits .u8) (224 : Int))) = b % 32) (by decide +kernel) h0 h1

theorem not_240 {b : Int} (h0 : 0 ≤ b) (h1 : b ≤ 255) : IntKind.wrap .u8 (BitVec.toNat (BitVec.ofInt (IntKind.bits .u8) b &&& ~~~BitVec.ofInt (IntKind.bits .u8) (240 : Int))) = b % 16 :=
  byte_all (P := fun b => IntKind.wrap .u8 (BitVec.toNat (BitVec.ofInt (IntKind.bits .u8) b &&& ~~~BitVec.ofInt (IntKind.bits .u8) (240 : Int))) = b % 16) (by decide +kernel) h0 h1

theorem not_248 {b : Int} (h0 : 0 ≤ b) (h1 : b ≤ 255) : IntKind.wrap .u8 (BitVec.toNat (BitVec.ofInt (IntKind.bits .u8) b &&& ~~~BitVec.ofInt (IntKind.bits .u8) (248 : Int))) = b % 8 :=
  byte_all (P := fun b => IntKind.wrap .u8 (BitVec.toNat (BitVec.ofInt (IntKind.bits .u8) b &&& ~~~BitVec.ofInt (IntKind.bits .u8) (248 : Int))) = b % 8) (by decide +kernel) h0 h1

theorem is_128 {b : Int} (h0 : 0 ≤ b) (h1 : b ≤ 255) : (IntKind.wrap .u8 (BitVec.toNat (BitVec.ofInt (IntKind.bits .u8) b &&& BitVec.ofInt (IntKind.bits .u8) (128 : Int))) == (0 : Int)) = decide (b < 128) :=
  byte_all (P := fun b => (IntKind.wrap .u8 (BitVec.toNat (BitVec.ofInt (IntKind.bits .u8) b &&& BitVec.ofInt (IntKind.bits .u8) (128 : Int))) == (0 : Int)) = decide (b < 128)) (by decide +kernel) h0 h1

theorem is_224 {b : Int} (h0 : 0 ≤ b) (h1 : b ≤ 255) : (IntKind.wrap .u8 (BitVec.toNat (BitVec.ofInt (IntKind.bits .u8) b &&& BitVec.ofInt (IntKind.bits .u8) (224 : Int))) == (192 : Int)) = decide (192 ≤ b ∧ b < 224) :=
  byte_all (P := fun b => (IntKind.wrap .u8 (BitVec.toNat (BitVec.ofInt (IntKind.bits .u8) b &&& BitVec.ofInt (IntKind.bits .u8) (224 : Int))) == (192 : Int)) = decide (192 ≤ b ∧ b < 224)) (by decide +kernel) h0 h1

theorem is_240 {b : Int} (h0 : 0 ≤ b) (h1 : b ≤ 255) : (IntKind.wrap .u8 (BitVec.toNat (BitVec.ofInt (IntKind.bits .u8) b &&& BitVec.ofInt (IntKind.bits .u8) (240 : Int))) == (224 : Int)) = decide (224 ≤ b ∧ b < 240) :=
  byte_all (P := fun b => (IntKind.wrap .u8 (BitVec.toNat (BitVec.ofInt (IntKind.bits .u8) b &&& BitVec.ofInt (IntKind.bits .u8) (240 : Int))) == (224 : Int)) = decide (224 ≤ b ∧ b < 240)) (by decide +kernel) h0 h1

theorem is_248 {b : Int} (h0 : 0 ≤ b) (h1 : b ≤ 255) : (IntKind.wrap .u8 (BitVec.toNat (BitVec.ofInt (IntKind.bits .u8) b &&& BitVec.ofInt (IntKind.bits .u8) (248 : Int))) == (240 : Int)) = decide (240 ≤ b ∧ b < 248) :=
  byte_all (P := fun b => (IntKind.wrap .u8 (BitVec.toNat (BitVec.ofInt (IntKind.bits .u8) b &&& BitVec.ofInt (IntKind.bits .u8) (248 : Int))) == (240 : Int)) = decide (240 ≤ b ∧ b < 248)) (by decide +kernel) h0 h1

theorem and_63 {b : Int} (h0 : 0 ≤ b) (h1 : b ≤ 255) : IntKind.wrap .i64 (BitVec.toNat (BitVec.ofInt (IntKind.bits .i64) b &&& BitVec.ofInt (IntKind.bits .i64) (63 : Int))) = b % 64 :=
  byte_all (P := fun b => IntKind.wrap .i64 (BitVec.toNat (BitVec.ofInt (IntKind.bits .i64) b &&& BitVec.ofInt (IntKind.bits .i64) (63 : Int))) = b % 64) (by decide +kernel) h0 h1

theorem and_31 {b : Int} (h0 : 0 ≤ b) (h1 : b ≤ 255) : IntKind.wrap .i64 (BitVec.toNat (BitVec.ofInt (IntKind.bits .i64) b &&& BitVec.ofInt (IntKind.bits .i64) (31 : Int))) = b % 32 :=
  byte_all (P := fun b => IntKind.wrap .i64 (BitVec.toNat (BitVec.ofInt (IntKind.bits .i64) b &&& BitVec.ofInt (IntKind.bits .i64) (31 : Int))) = b % 32) (by decide +kernel) h0 h1

theorem and_15 {b : Int} (h0 : 0 ≤ b) (h1 : b ≤ 255) : IntKind.wrap .i64 (BitVec.toNat (BitVec.ofInt (IntKind.bits .i64) b &&& BitVec.ofInt (IntKind.bits .i64) (15 : Int))) = b % 16 :=
  byte_all (P := fun b => IntKind.wrap .i64 (BitVec.toNat (BitVec.ofInt (IntKind.bits .i64) b &&& BitVec.ofInt (IntKind.bits .i64) (15 : Int))) = b % 16) (by decide +kernel) h0 h1

theorem and_7 {b : Int} (h0 : 0 ≤ b) (h1 : b ≤ 255) : IntKind.wrap .i64 (BitVec.toNat (BitVec.ofInt (IntKind.bits .i64) b &&& BitVec.ofInt (IntKind.bits .i64) (7 : Int))) = b % 8 :=
  byte_all (P := fun b => IntKind.wrap .i64 (BitVec.toNat (BitVec.ofInt (IntKind.bits .i64) b &&& BitVec.ofInt (IntKind.bits .i64) (7 : Int))) = b % 8) (by decide +kernel) h0 h1

theorem div_64 {b : Int} (h0 : 0 ≤ b) (h1 : b ≤ 255) : (Int.fdiv b 64 != 2) = !decide (cont b) :=
  byte_all (P := fun b => (Int.fdiv b 64 != 2) = !decide (cont b)) (by decide +kernel) h0 h1

theorem or_lo {r x : Nat} (hx : x < 64) : (r * 64) ||| x = r * 64 + x := by
  have := Nat.two_pow_add_eq_or_of_lt (i := 6) hx r
  rw [Nat.mul_comm] at this
  exact this.symm

theorem w32 {n : Int} (h1 : -2147483648 ≤ n) (h2 : n < 2147483648) : IntKind.wrap .i32 n = n := by
  simp only [IntKind.wrap, IntKind.bits, IntKind.signed]
  simp
  omega

theorem or_32 {r x : Int} (h0 : 0 ≤ r) (h1 : r < 1048576) (h2 : 0 ≤ x) (h3 : x < 64) : IntKind.wrap .i32 (BitVec.toNat (BitVec.ofInt (IntKind.bits .i32) (IntKind.wrap .i32 (r * (64 : Int))) ||| BitVec.ofInt (IntKind.bits .i32) (IntKind.wrap .i32 x))) = r * 64 + x := by
  rw [w32 (n := r * 64) (by omega) (by omega), w32 (n := x) (by omega) (by omega)]
  obtain ⟨a, rfl⟩ : ∃ a : Nat, r = a := ⟨r.toNat, by omega⟩
  obtain ⟨b, rfl⟩ : ∃ b : Nat, x = b := ⟨x.toNat, by omega⟩
  have e1 : (BitVec.ofInt (IntKind.bits .i32) ((a : Int) * 64) ||| BitVec.ofInt (IntKind.bits .i32) (b : Int)).toNat = a * 64 + b := by
    rw [BitVec.toNat_or, BitVec.toNat_ofInt, BitVec.toNat_ofInt]
    have h4 : ((a : Int) * 64 % ((2 ^ IntKind.bits .i32 : Nat) : Int)).toNat = a * 64 := by
      have : IntKind.bits .i32 = 32 := rfl
      rw [this]; omega
    have h5 : ((b : Int) % ((2 ^ IntKind.bits .i32 : Nat) : Int)).toNat = b := by
      have : IntKind.bits .i32 = 32 := rfl
      rw [this]; omega
    rw [h4, h5, or_lo (by omega)]
  rw [e1, w32 (by omega) (by omega)]
  omega

theorem or_64 {r x : Int} (h0 : 0 ≤ r) (h1 : r < 1048576) (h2 : 0 ≤ x) (h3 : x < 64) : IntKind.wrap .i64 (BitVec.toNat (BitVec.ofInt (IntKind.bits .i64) (IntKind.wrap .i64 (r * (64 : Int))) ||| BitVec.ofInt (IntKind.bits .i64) x)) = r * 64 + x := by
  rw [w64 (n := r * 64) (by omega) (by omega)]
  obtain ⟨a, rfl⟩ : ∃ a : Nat, r = a := ⟨r.toNat, by omega⟩
  obtain ⟨b, rfl⟩ : ∃ b : Nat, x = b := ⟨x.toNat, by omega⟩
  have e1 : (BitVec.ofInt (IntKind.bits .i64) ((a : Int) * 64) ||| BitVec.ofInt (IntKind.bits .i64) (b : Int)).toNat = a * 64 + b := by
    rw [BitVec.toNat_or, BitVec.toNat_ofInt, BitVec.toNat_ofInt]
    have h4 : ((a : Int) * 64 % ((2 ^ IntKind.bits .i64 : Nat) : Int)).toNat = a * 64 := by
      have : IntKind.bits .i64 = 64 := rfl
      rw [this]; omega
    have h5 : ((b : Int) % ((2 ^ IntKind.bits .i64 : Nat) : Int)).toNat = b := by
      have : IntKind.bits .i64 = 64 := rfl
      rw [this]; omega
    rw [h4, h5, or_lo (by omega)]
  rw [e1, w64 (by omega) (by omega)]
  omega

/-- How many bytes a code point has that begins with these, of so many; 0: there is none. -/
def uszB (n c d e f : Int) : Int :=
  if c < 128 then 1
  else if 192 ≤ c ∧ c < 224 then (if 2 ≤ n ∧ cont d ∧ 128 ≤ c % 32 * 64 + d % 64 then 2 else 0)
  else if 224 ≤ c ∧ c < 240 then (if 3 ≤ n ∧ cont d ∧ cont e ∧ 2048 ≤ (c % 16 * 64 + d % 64) * 64 + e % 64 ∧ ¬ (55296 ≤ (c % 16 * 64 + d % 64) * 64 + e % 64 ∧ (c % 16 * 64 + d % 64) * 64 + e % 64 < 57344) then 3 else 0)
  else if 240 ≤ c ∧ c < 248 then (if 4 ≤ n ∧ cont d ∧ cont e ∧ cont f ∧ 65536 ≤ ((c % 8 * 64 + d % 64) * 64 + e % 64) * 64 + f % 64 ∧ ((c % 8 * 64 + d % 64) * 64 + e % 64) * 64 + f % 64 ≤ 1114111 then 4 else 0)
  else 0

theorem long_end {K : Nat} {s : ByteArray} {a : Int} {n r i : Int} {k : Nat} (h : ¬ i < n) : utf_long.l0 K n a s (k + 1) r i = some (.inr r) := by
  rw [utf_long.l0, if_neg (by simpa using h)]

theorem long_bad {K : Nat} {s : ByteArray} {a : Int} (h0 : 0 ≤ a) (hs : (s.size : Int) ≤ 1000000000000) {n r i : Int} {k : Nat} (h : i < n) (hi : 0 ≤ i) (hr : a + i < s.size) (hc : ¬ cont (bt s (a + i))) : utf_long.l0 K n a s (k + 1) r i = some (.inl (0, 0)) := by
  rw [utf_long.l0, w64 (n := a + i) (by omega) (by omega), if_pos (by simpa using h), if_pos ⟨by omega, by omega⟩, and_192 bt_ok.1 bt_ok.2, if_pos (by simpa using hc)]

theorem long_go {K : Nat} {s : ByteArray} {a : Int} (h0 : 0 ≤ a) (hs : (s.size : Int) ≤ 1000000000000) {n r i : Int} {k : Nat} (h : i < n) (hi : 0 ≤ i) (hr : a + i < s.size) (hc : cont (bt s (a + i))) (r0 : 0 ≤ r) (r1 : r < 1048576) : utf_long.l0 K n a s (k + 1) r i = utf_long.l0 K n a s k (r * 64 + bt s (a + i) % 64) (i + 1) := by
  have hb := bt_ok (s := s) (i := a + i)
  rw [utf_long.l0, w64 (n := a + i) (by omega) (by omega), if_pos (by simpa using h), if_pos ⟨by omega, by omega⟩, and_192 hb.1 hb.2, if_neg (by simpa using hc), not_192 hb.1 hb.2, or_32 r0 r1 (by omega) (by omega), w64 (n := i + 1) (by omega) (by omega)]

theorem size1_bad {K : Nat} {s : ByteArray} {a : Int} (h0 : 0 ≤ a) (hs : (s.size : Int) ≤ 1000000000000) {n r i : Int} {k : Nat} (h : i < n) (hi : 0 ≤ i) (hr : a + i < s.size) (hc : ¬ cont (bt s (a + i))) : palinoderef1_Size.l0 K n a s (k + 1) r i = some (.inl 0) := by
  have hb := bt_ok (s := s) (i := a + i)
  rw [palinoderef1_Size.l0, w64 (n := a + i) (by omega) (by omega), if_pos (by simpa using h), if_pos ⟨by omega, by omega⟩, w64 (n := bt s (a + i)) (by omega) (by omega), div_64 hb.1 hb.2, if_pos (by simpa using hc)]

theorem size1_end {K : Nat} {s : ByteArray} {a : Int} {n r i : Int} {k : Nat} (h : ¬ i < n) : palinoderef1_Size.l0 K n a s (k + 1) r i = some (.inr r) := by
  rw [palinoderef1_Size.l0, if_neg (by simpa using h)]

theorem size1_go {K : Nat} {s : ByteArray} {a : Int} (h0 : 0 ≤ a) (hs : (s.size : Int) ≤ 1000000000000) {n r i : Int} {k : Nat} (h : i < n) (hi : 0 ≤ i) (hr : a + i < s.size) (hc : cont (bt s (a + i))) (r0 : 0 ≤ r) (r1 : r < 1048576) : palinoderef1_Size.l0 K n a s (k + 1) r i = palinoderef1_Size.l0 K n a s k (r * 64 + bt s (a + i) % 64) (i + 1) := by
  have hb := bt_ok (s := s) (i := a + i)
  rw [palinoderef1_Size.l0, w64 (n := a + i) (by omega) (by omega), if_pos (by simpa using h), if_pos ⟨by omega, by omega⟩, w64 (n := bt s (a + i)) (by omega) (by omega), div_64 hb.1 hb.2, if_neg (by simpa using hc), and_63 hb.1 hb.2, or_64 r0 r1 (by omega) (by omega), w64 (n := i + 1) (by omega) (by omega)]

/-- How many bytes the code point has that begins at a place. -/
def usz (s : ByteArray) (a : Int) : Int := if a < 0 ∨ a ≥ s.size then 0 else uszB (s.size - a) (bt s a) (bt s (a + 1)) (bt s (a + 2)) (bt s (a + 3))

theorem uszB_ok {n c d e f : Int} (hn : 1 ≤ n) : 0 ≤ uszB n c d e f ∧ uszB n c d e f ≤ 4 ∧ uszB n c d e f ≤ n := by
  unfold uszB
  split
  · omega
  · split
    · split <;> omega
    · split
      · split <;> omega
      · split
        · split <;> omega
        · omega

theorem usz_ok {s : ByteArray} {a : Int} : 0 ≤ usz s a ∧ usz s a ≤ 4 ∧ (0 ≤ a → a < s.size → a + usz s a ≤ s.size) := by
  unfold usz
  split
  · rename_i h; exact ⟨by omega, by omega, fun h1 h2 => by omega⟩
  · have := uszB_ok (n := s.size - a) (c := bt s a) (d := bt s (a + 1)) (e := bt s (a + 2)) (f := bt s (a + 3)) (by omega)
    exact ⟨by omega, by omega, fun h1 h2 => by omega⟩

theorem point_is {K : Nat} {r : Int} (h0 : 0 ≤ r) : utf_isPoint K r = some (decide (r ≤ 1114111 ∧ ¬ (55296 ≤ r ∧ r < 57344))) := by
  unfold utf_isPoint
  rw [if_pos (by simpa using h0)]
  by_cases h1 : r ≤ 1114111
  · rw [if_pos (by simpa using h1)]
    by_cases h2 : r < 55296
    · rw [if_pos (by simpa using h2)]
      congr 1; symm; simp; omega
    · rw [if_neg (by simpa using h2)]
      congr 1
      by_cases h3 : r > 57343
      · simp [h3]; omega
      · simp [h3]; omega
  · rw [if_neg (by simpa using h1)]
    congr 1; symm; simp; omega

/-- What is read: the code point, and its bytes. -/
def tell (n v least : Int) : Int × Int := if least ≤ v ∧ v ≤ 1114111 ∧ ¬ (55296 ≤ v ∧ v < 57344) then (v, n) else (0, 0)

theorem long_tell {K : Nat} {n v least : Int} (h0 : 0 ≤ v) : ((if decide (v < least) = true then some true else (utf_isPoint K v).bind fun r_28 => some (!r_28)).bind fun z_39 => if z_39 = true then some ((0 : Int), (0 : Int)) else some (v, n)) = some (tell n v least) := by
  unfold tell
  rw [point_is h0]
  by_cases h1 : v < least
  · rw [if_pos (by simpa using h1), Option.bind_some, if_pos rfl, if_neg (by omega)]
  · rw [if_neg (by simpa using h1), Option.bind_some, Option.bind_some]
    by_cases h2 : v ≤ 1114111 ∧ ¬ (55296 ≤ v ∧ v < 57344)
    · rw [if_neg (by simp; omega), if_pos (by omega)]
    · rw [if_pos (by simp; omega), if_neg (by omega)]

theorem long1_is {K : Nat} {s : ByteArray} {a : Int} (hK : 10 ≤ K) (h0 : 0 ≤ a) (hs : (s.size : Int) ≤ 1000000000000) (ha : a < s.size) (hc : bt s a < 128) : utf_long K s a 1 128 0 0 = some (bt s a, 1) := by
  obtain ⟨k, rfl⟩ : ∃ k, K = k + 5 := ⟨K - 5, by omega⟩
  have hb := bt_ok (s := s) (i := a)
  unfold utf_long
  rw [w64 (by omega) (by omega), if_neg (by simp; omega), if_pos ⟨h0, ha⟩, not_128 hb.1 hb.2, w32 (by omega) (by omega), long_end (by omega), Option.bind_some]
  simp only [Sum.elim_inr]
  rw [long_tell (by omega)]
  unfold tell
  rw [if_pos (by omega)]
  congr 2
  omega

theorem long2_is {K : Nat} {s : ByteArray} {a : Int} (hK : 10 ≤ K) (h0 : 0 ≤ a) (hs : (s.size : Int) ≤ 1000000000000) (ha : a < s.size) : utf_long K s a 2 224 192 128 =
    some (if 2 ≤ (s.size : Int) - a ∧ cont (bt s (a + 1)) then tell 2 (bt s a % 32 * 64 + bt s (a + 1) % 64) 128 else (0, 0)) := by
  obtain ⟨k, rfl⟩ : ∃ k, K = k + 5 := ⟨K - 5, by omega⟩
  have hb := bt_ok (s := s) (i := a)
  have hb1 := bt_ok (s := s) (i := a + 1)
  unfold utf_long
  rw [w64 (by omega) (by omega)]
  by_cases hn : (s.size : Int) - a < 2
  · rw [if_pos (by simpa using hn), if_neg (by omega)]
  · rw [if_neg (by simpa using hn), if_pos ⟨h0, ha⟩, not_224 hb.1 hb.2, w32 (by omega) (by omega)]
    by_cases c1 : cont (bt s (a + 1))
    · rw [long_go h0 hs (by omega) (by omega) (by omega) c1 (by omega) (by omega), long_end (by omega), Option.bind_some]
      simp only [Sum.elim_inr]
      rw [long_tell (by omega), if_pos ⟨by omega, c1⟩]
    · rw [long_bad h0 hs (by omega) (by omega) (by omega) c1, Option.bind_some, if_neg (fun h => c1 h.2)]
      rfl

theorem long3_is {K : Nat} {s : ByteArray} {a : Int} (hK : 10 ≤ K) (h0 : 0 ≤ a) (hs : (s.size : Int) ≤ 1000000000000) (ha : a < s.size) : utf_long K s a 3 240 224 2048 =
    some (if 3 ≤ (s.size : Int) - a ∧ cont (bt s (a + 1)) ∧ cont (bt s (a + 2)) then tell 3 ((bt s a % 16 * 64 + bt s (a + 1) % 64) * 64 + bt s (a + 2) % 64) 2048 else (0, 0)) := by
  obtain ⟨k, rfl⟩ : ∃ k, K = k + 5 := ⟨K - 5, by omega⟩
  have hb := bt_ok (s := s) (i := a)
  have hb1 := bt_ok (s := s) (i := a + 1)
  have hb2 := bt_ok (s := s) (i := a + 2)
  unfold utf_long
  rw [w64 (by omega) (by omega)]
  by_cases hn : (s.size : Int) - a < 3
  · rw [if_pos (by simpa using hn), if_neg (by omega)]
  · rw [if_neg (by simpa using hn), if_pos ⟨h0, ha⟩, not_240 hb.1 hb.2, w32 (by omega) (by omega)]
    by_cases c1 : cont (bt s (a + 1))
    · rw [long_go h0 hs (by omega) (by omega) (by omega) c1 (by omega) (by omega)]
      by_cases c2 : cont (bt s (a + 2))
      · rw [show (1 : Int) + 1 = 2 from rfl, long_go h0 hs (by omega) (by omega) (by omega) c2 (by omega) (by omega), long_end (by omega), Option.bind_some]
        simp only [Sum.elim_inr]
        rw [long_tell (by omega), if_pos ⟨by omega, c1, c2⟩]
      · rw [show (1 : Int) + 1 = 2 from rfl, long_bad h0 hs (by omega) (by omega) (by omega) c2, Option.bind_some, if_neg (fun h => c2 h.2.2)]
        rfl
    · rw [long_bad h0 hs (by omega) (by omega) (by omega) c1, Option.bind_some, if_neg (fun h => c1 h.2.1)]
      rfl

theorem long4_go {K k : Nat} {s : ByteArray} {a : Int} (h0 : 0 ≤ a) (hs : (s.size : Int) ≤ 1000000000000) (hn : ¬ (s.size : Int) - a < 4) : utf_long.l0 K 4 a s (k + 4) (bt s a % 8) 1 =
    some (if cont (bt s (a + 1)) ∧ cont (bt s (a + 2)) ∧ cont (bt s (a + 3)) then .inr (((bt s a % 8 * 64 + bt s (a + 1) % 64) * 64 + bt s (a + 2) % 64) * 64 + bt s (a + 3) % 64) else .inl (0, 0)) := by
  have hb := bt_ok (s := s) (i := a)
  have hb1 := bt_ok (s := s) (i := a + 1)
  have hb2 := bt_ok (s := s) (i := a + 2)
  have hb3 := bt_ok (s := s) (i := a + 3)
  have r1 : 0 ≤ bt s a % 8 ∧ bt s a % 8 < 8 := by omega
  have r2 : 0 ≤ bt s (a + 1) % 64 ∧ bt s (a + 1) % 64 < 64 := by omega
  have r3 : 0 ≤ bt s (a + 2) % 64 ∧ bt s (a + 2) % 64 < 64 := by omega
  by_cases c1 : cont (bt s (a + 1))
  · have g1 := long_go (K := K) h0 hs (n := 4) (r := bt s a % 8) (i := 1) (k := k + 3) (by omega) (by omega) (by omega) c1 (by omega) (by omega)
    rw [g1, show (1 : Int) + 1 = 2 from rfl]
    by_cases c2 : cont (bt s (a + 2))
    · have g2 := long_go (K := K) h0 hs (n := 4) (r := bt s a % 8 * 64 + bt s (a + 1) % 64) (i := 2) (k := k + 2) (by omega) (by omega) (by omega) c2 (by omega) (by omega)
      rw [g2, show (2 : Int) + 1 = 3 from rfl]
      by_cases c3 : cont (bt s (a + 3))
      · have g3 := long_go (K := K) h0 hs (n := 4) (r := (bt s a % 8 * 64 + bt s (a + 1) % 64) * 64 + bt s (a + 2) % 64) (i := 3) (k := k + 1) (by omega) (by omega) (by omega) c3 (by omega) (by omega)
        rw [g3, long_end (by omega), if_pos ⟨c1, c2, c3⟩]
      · have g3 := long_bad (K := K) h0 hs (n := 4) (r := (bt s a % 8 * 64 + bt s (a + 1) % 64) * 64 + bt s (a + 2) % 64) (i := 3) (k := k + 1) (by omega) (by omega) (by omega) c3
        rw [g3, if_neg (fun h => c3 h.2.2)]
    · have g2 := long_bad (K := K) h0 hs (n := 4) (r := bt s a % 8 * 64 + bt s (a + 1) % 64) (i := 2) (k := k + 2) (by omega) (by omega) (by omega) c2
      rw [g2, if_neg (fun h => c2 h.2.1)]
  · have g1 := long_bad (K := K) h0 hs (n := 4) (r := bt s a % 8) (i := 1) (k := k + 3) (by omega) (by omega) (by omega) c1
    rw [g1, if_neg (fun h => c1 h.1)]

theorem long4_is {K : Nat} {s : ByteArray} {a least : Int} (hK : 10 ≤ K) (h0 : 0 ≤ a) (hs : (s.size : Int) ≤ 1000000000000) (ha : a < s.size) : utf_long K s a 4 248 240 least =
    some (if 4 ≤ (s.size : Int) - a ∧ cont (bt s (a + 1)) ∧ cont (bt s (a + 2)) ∧ cont (bt s (a + 3)) then tell 4 (((bt s a % 8 * 64 + bt s (a + 1) % 64) * 64 + bt s (a + 2) % 64) * 64 + bt s (a + 3) % 64) least else (0, 0)) := by
  obtain ⟨k, rfl⟩ : ∃ k, K = k + 4 := ⟨K - 4, by omega⟩
  have hb := bt_ok (s := s) (i := a)
  have r0 : 0 ≤ bt s a % 8 ∧ bt s a % 8 < 8 := by omega
  have r1 : 0 ≤ bt s (a + 1) % 64 := by omega
  have r2 : 0 ≤ bt s (a + 2) % 64 := by omega
  have r3 : 0 ≤ bt s (a + 3) % 64 := by omega
  unfold utf_long
  rw [w64 (n := (s.size : Int) - a) (by omega) (by omega)]
  by_cases hn : (s.size : Int) - a < 4
  · rw [if_pos (by simpa using hn), if_neg (by omega)]
  · rw [if_neg (by simpa using hn), if_pos ⟨h0, ha⟩, not_248 hb.1 hb.2, w32 (n := bt s a % 8) (by omega) (by omega), long4_go h0 hs hn]
    by_cases c : cont (bt s (a + 1)) ∧ cont (bt s (a + 2)) ∧ cont (bt s (a + 3))
    · rw [if_pos c, Option.bind_some, if_pos ⟨by omega, c⟩]
      simp only [Sum.elim_inr]
      generalize bt s a % 8 = x0 at *
      generalize bt s (a + 1) % 64 = x1 at *
      generalize bt s (a + 2) % 64 = x2 at *
      generalize bt s (a + 3) % 64 = x3 at *
      rw [long_tell (by omega)]
    · rw [if_neg c, Option.bind_some, if_neg (fun h => c h.2)]
      simp only [Sum.elim_inl]

/-- The code point at a place, and its bytes. -/
def upt (s : ByteArray) (a : Int) : Int × Int :=
  if a < 0 ∨ a ≥ s.size then (0, 0)
  else if bt s a < 128 then (bt s a, 1)
  else if 192 ≤ bt s a ∧ bt s a < 224 then (if 2 ≤ (s.size : Int) - a ∧ cont (bt s (a + 1)) then tell 2 (bt s a % 32 * 64 + bt s (a + 1) % 64) 128 else (0, 0))
  else if 224 ≤ bt s a ∧ bt s a < 240 then (if 3 ≤ (s.size : Int) - a ∧ cont (bt s (a + 1)) ∧ cont (bt s (a + 2)) then tell 3 ((bt s a % 16 * 64 + bt s (a + 1) % 64) * 64 + bt s (a + 2) % 64) 2048 else (0, 0))
  else if 240 ≤ bt s a ∧ bt s a < 248 then (if 4 ≤ (s.size : Int) - a ∧ cont (bt s (a + 1)) ∧ cont (bt s (a + 2)) ∧ cont (bt s (a + 3)) then tell 4 (((bt s a % 8 * 64 + bt s (a + 1) % 64) * 64 + bt s (a + 2) % 64) * 64 + bt s (a + 3) % 64) 65536 else (0, 0))
  else (0, 0)

theorem tell_snd {n v least : Int} : (tell n v least).2 = if least ≤ v ∧ v ≤ 1114111 ∧ ¬ (55296 ≤ v ∧ v < 57344) then n else 0 := by
  unfold tell; split <;> rfl

theorem upt_snd {s : ByteArray} {a : Int} : (upt s a).2 = usz s a := by
  unfold upt usz uszB
  have hb := bt_ok (s := s) (i := a)
  have hb1 := bt_ok (s := s) (i := a + 1)
  have hb2 := bt_ok (s := s) (i := a + 2)
  have hb3 := bt_ok (s := s) (i := a + 3)
  by_cases h : a < 0 ∨ a ≥ s.size
  · rw [if_pos h, if_pos h]
  · rw [if_neg h, if_neg h]
    by_cases h1 : bt s a < 128
    · rw [if_pos h1, if_pos h1]
    · rw [if_neg h1, if_neg h1]
      by_cases h2 : 192 ≤ bt s a ∧ bt s a < 224
      · rw [if_pos h2, if_pos h2]
        by_cases c : 2 ≤ (s.size : Int) - a ∧ cont (bt s (a + 1))
        · rw [if_pos c, tell_snd]
          congr 1
          apply propext
          constructor
          · intro h; exact ⟨c.1, c.2, h.1⟩
          · intro h; exact ⟨h.2.2, by omega, by omega⟩
        · rw [if_neg c, if_neg (fun h => c ⟨h.1, h.2.1⟩)]
      · rw [if_neg h2, if_neg h2]
        by_cases h3 : 224 ≤ bt s a ∧ bt s a < 240
        · rw [if_pos h3, if_pos h3]
          by_cases c : 3 ≤ (s.size : Int) - a ∧ cont (bt s (a + 1)) ∧ cont (bt s (a + 2))
          · rw [if_pos c, tell_snd]
            congr 1
            apply propext
            constructor
            · intro h; exact ⟨c.1, c.2.1, c.2.2, h.1, h.2.2⟩
            · intro h; exact ⟨h.2.2.2.1, by omega, h.2.2.2.2⟩
          · rw [if_neg c, if_neg (fun h => c ⟨h.1, h.2.1, h.2.2.1⟩)]
        · rw [if_neg h3, if_neg h3]
          by_cases h4 : 240 ≤ bt s a ∧ bt s a < 248
          · rw [if_pos h4, if_pos h4]
            by_cases c : 4 ≤ (s.size : Int) - a ∧ cont (bt s (a + 1)) ∧ cont (bt s (a + 2)) ∧ cont (bt s (a + 3))
            · rw [if_pos c, tell_snd]
              congr 1
              apply propext
              constructor
              · intro h; exact ⟨c.1, c.2.1, c.2.2.1, c.2.2.2, h.1, h.2.1⟩
              · intro h; exact ⟨h.2.2.2.2.1, h.2.2.2.2.2, by omega⟩
            · rw [if_neg c, if_neg (fun h => c ⟨h.1, h.2.1, h.2.2.1, h.2.2.2.1⟩)]
          · rw [if_neg h4, if_neg h4]

theorem upt_is {K : Nat} {s : ByteArray} {a : Int} (hK : 10 ≤ K) (hs : (s.size : Int) ≤ 1000000000000) : utf_point K s a = some (upt s a) := by
  obtain ⟨k, hk⟩ : ∃ k, K = k + 5 := ⟨K - 5, by omega⟩
  have hb := bt_ok (s := s) (i := a)
  unfold utf_point upt
  by_cases h : a < 0 ∨ a ≥ s.size
  · have : (if decide (a < 0) = true then some true else some (decide (a ≥ ((s.size : Nat) : Int)))) = some true := by
      by_cases h1 : a < 0
      · rw [if_pos (by simpa using h1)]
      · rw [if_neg (by simpa using h1)]; simp; omega
    rw [this, Option.bind_some, if_pos rfl, if_pos h]
  · have : (if decide (a < 0) = true then some true else some (decide (a ≥ ((s.size : Nat) : Int)))) = some false := by
      rw [if_neg (by simp; omega)]; simp; omega
    rw [this, Option.bind_some, if_neg (by simp), if_neg h]
    unfold utf_forms
    rw [Option.bind_some]
    have hin : 0 ≤ a ∧ a < ((s.size : Nat) : Int) := ⟨by omega, by omega⟩
    have hw0 : IntKind.wrap .i64 ((0 : Int) + 1) = 1 := by decide
    have hw1 : IntKind.wrap .i64 ((1 : Int) + 1) = 2 := by decide
    have hw2 : IntKind.wrap .i64 ((2 : Int) + 1) = 3 := by decide
    have hw3 : IntKind.wrap .i64 ((3 : Int) + 1) = 4 := by decide
    rw [hk]
    simp only [utf_point.l0, if_pos hin, hw0, hw1, hw2, hw3]
    simp only [show ((0 : Int)).toNat = 0 from rfl, show ((1 : Int)).toNat = 1 from rfl, show ((2 : Int)).toNat = 2 from rfl, show ((3 : Int)).toNat = 3 from rfl, List.getD_cons_zero, List.getD_cons_succ, is_128 hb.1 hb.2, is_224 hb.1 hb.2, is_240 hb.1 hb.2, is_248 hb.1 hb.2]
    rw [← hk]
    simp only [decide_eq_true_eq]
    by_cases h1 : bt s a < 128
    · rw [if_pos (by omega), if_pos (by omega), if_pos h1, if_pos h1, long1_is hK (by omega) hs (by omega) h1]; rfl
    · rw [if_pos (by omega), if_pos (by omega), if_neg h1, if_neg h1, if_pos (by omega), if_pos (by omega)]
      by_cases h2 : 192 ≤ bt s a ∧ bt s a < 224
      · rw [if_pos h2, if_pos h2, long2_is hK (by omega) hs (by omega)]; rfl
      · rw [if_neg h2, if_neg h2, if_pos (by omega), if_pos (by omega)]
        by_cases h3 : 224 ≤ bt s a ∧ bt s a < 240
        · rw [if_pos h3, if_pos h3, long3_is hK (by omega) hs (by omega)]; rfl
        · rw [if_neg h3, if_neg h3, if_pos (by omega), if_pos (by omega)]
          by_cases h4 : 240 ≤ bt s a ∧ bt s a < 248
          · rw [if_pos h4, if_pos h4, long4_is hK (by omega) hs (by omega)]; rfl
          · rw [if_neg h4, if_neg h4, if_neg (by omega)]

theorem usize_is {K : Nat} {s : ByteArray} {a : Int} (hK : 10 ≤ K) (hs : (s.size : Int) ≤ 1000000000000) : utf_Size K s a = some (usz s a) := by
  unfold utf_Size
  rw [upt_is hK hs, Option.bind_some, upt_snd]

theorem size1_tell {n v least : Int} : ((if decide (v < least) = true then some true else if decide (v > 1114111) = true then some true else if decide (v ≥ 55296) = true then some (decide (v < 57344)) else some false).bind fun z_76 => if z_76 = true then some (0 : Int) else some n) = some (tell n v least).2 := by
  rw [tell_snd]
  by_cases h1 : v < least
  · rw [if_pos (by simpa using h1), Option.bind_some, if_pos rfl, if_neg (by omega)]
  · rw [if_neg (by simpa using h1)]
    by_cases h2 : v > 1114111
    · rw [if_pos (by simpa using h2), Option.bind_some, if_pos rfl, if_neg (by omega)]
    · rw [if_neg (by simpa using h2)]
      by_cases h3 : v ≥ 55296
      · rw [if_pos (by simpa using h3), Option.bind_some]
        by_cases h4 : v < 57344
        · rw [if_pos (by simpa using h4), if_neg (by omega)]
        · rw [if_neg (by simpa using h4), if_pos (by omega)]
      · rw [if_neg (by simpa using h3), Option.bind_some, if_neg (by simp), if_pos (by omega)]

theorem s2_go {K k : Nat} {s : ByteArray} {a r : Int} (h0 : 0 ≤ a) (hs : (s.size : Int) ≤ 1000000000000) (hn : ¬ (s.size : Int) - a < 2) (hr : 0 ≤ r ∧ r < 64) : palinoderef1_Size.l0 K 2 a s (k + 4) r 1 =
    some (if cont (bt s (a + 1)) then .inr (r * 64 + bt s (a + 1) % 64) else .inl 0) := by
  by_cases c1 : cont (bt s (a + 1))
  · have g1 := size1_go (K := K) h0 hs (n := 2) (r := r) (i := 1) (k := k + 3) (by omega) (by omega) (by omega) c1 (by omega) (by omega)
    rw [g1, size1_end (by omega), if_pos c1]
  · have g1 := size1_bad (K := K) h0 hs (n := 2) (r := r) (i := 1) (k := k + 3) (by omega) (by omega) (by omega) c1
    rw [g1, if_neg c1]

theorem s3_go {K k : Nat} {s : ByteArray} {a r : Int} (h0 : 0 ≤ a) (hs : (s.size : Int) ≤ 1000000000000) (hn : ¬ (s.size : Int) - a < 3) (hr : 0 ≤ r ∧ r < 64) : palinoderef1_Size.l0 K 3 a s (k + 4) r 1 =
    some (if cont (bt s (a + 1)) ∧ cont (bt s (a + 2)) then .inr ((r * 64 + bt s (a + 1) % 64) * 64 + bt s (a + 2) % 64) else .inl 0) := by
  have r2 : 0 ≤ bt s (a + 1) % 64 ∧ bt s (a + 1) % 64 < 64 := by omega
  by_cases c1 : cont (bt s (a + 1))
  · have g1 := size1_go (K := K) h0 hs (n := 3) (r := r) (i := 1) (k := k + 3) (by omega) (by omega) (by omega) c1 (by omega) (by omega)
    rw [g1, show (1 : Int) + 1 = 2 from rfl]
    by_cases c2 : cont (bt s (a + 2))
    · have g2 := size1_go (K := K) h0 hs (n := 3) (r := r * 64 + bt s (a + 1) % 64) (i := 2) (k := k + 2) (by omega) (by omega) (by omega) c2 (by omega) (by omega)
      rw [g2, size1_end (by omega), if_pos ⟨c1, c2⟩]
    · have g2 := size1_bad (K := K) h0 hs (n := 3) (r := r * 64 + bt s (a + 1) % 64) (i := 2) (k := k + 2) (by omega) (by omega) (by omega) c2
      rw [g2, if_neg (fun h => c2 h.2)]
  · have g1 := size1_bad (K := K) h0 hs (n := 3) (r := r) (i := 1) (k := k + 3) (by omega) (by omega) (by omega) c1
    rw [g1, if_neg (fun h => c1 h.1)]

theorem s4_go {K k : Nat} {s : ByteArray} {a r : Int} (h0 : 0 ≤ a) (hs : (s.size : Int) ≤ 1000000000000) (hn : ¬ (s.size : Int) - a < 4) (hr : 0 ≤ r ∧ r < 64) : palinoderef1_Size.l0 K 4 a s (k + 4) r 1 =
    some (if cont (bt s (a + 1)) ∧ cont (bt s (a + 2)) ∧ cont (bt s (a + 3)) then .inr (((r * 64 + bt s (a + 1) % 64) * 64 + bt s (a + 2) % 64) * 64 + bt s (a + 3) % 64) else .inl 0) := by
  have r2 : 0 ≤ bt s (a + 1) % 64 ∧ bt s (a + 1) % 64 < 64 := by omega
  have r3 : 0 ≤ bt s (a + 2) % 64 ∧ bt s (a + 2) % 64 < 64 := by omega
  by_cases c1 : cont (bt s (a + 1))
  · have g1 := size1_go (K := K) h0 hs (n := 4) (r := r) (i := 1) (k := k + 3) (by omega) (by omega) (by omega) c1 (by omega) (by omega)
    rw [g1, show (1 : Int) + 1 = 2 from rfl]
    by_cases c2 : cont (bt s (a + 2))
    · have g2 := size1_go (K := K) h0 hs (n := 4) (r := r * 64 + bt s (a + 1) % 64) (i := 2) (k := k + 2) (by omega) (by omega) (by omega) c2 (by omega) (by omega)
      rw [g2, show (2 : Int) + 1 = 3 from rfl]
      by_cases c3 : cont (bt s (a + 3))
      · have g3 := size1_go (K := K) h0 hs (n := 4) (r := (r * 64 + bt s (a + 1) % 64) * 64 + bt s (a + 2) % 64) (i := 3) (k := k + 1) (by omega) (by omega) (by omega) c3 (by omega) (by omega)
        rw [g3, size1_end (by omega), if_pos ⟨c1, c2, c3⟩]
      · have g3 := size1_bad (K := K) h0 hs (n := 4) (r := (r * 64 + bt s (a + 1) % 64) * 64 + bt s (a + 2) % 64) (i := 3) (k := k + 1) (by omega) (by omega) (by omega) c3
        rw [g3, if_neg (fun h => c3 h.2.2)]
    · have g2 := size1_bad (K := K) h0 hs (n := 4) (r := r * 64 + bt s (a + 1) % 64) (i := 2) (k := k + 2) (by omega) (by omega) (by omega) c2
      rw [g2, if_neg (fun h => c2 h.2.1)]
  · have g1 := size1_bad (K := K) h0 hs (n := 4) (r := r) (i := 1) (k := k + 3) (by omega) (by omega) (by omega) c1
    rw [g1, if_neg (fun h => c1 h.1)]

/-- A code point of more than one byte, read. -/
theorem size1_many {n r least : Int} {K : Nat} {s : ByteArray} {a : Int} {C : Prop} [Decidable C] {v : Int} (hw : IntKind.wrap .i64 ((s.size : Int) - a) = (s.size : Int) - a) (hg : ¬ (s.size : Int) - a < n → palinoderef1_Size.l0 K n a s K r 1 = some (if C then .inr v else .inl 0)) :
    (if decide (IntKind.wrap .i64 ((((ByteArray.size s) : Nat) : Int) - a) < n) = true then some (0 : Int) else (palinoderef1_Size.l0 K n a s K r 1).bind (Sum.elim (fun z_74 => some z_74) (fun z_75 => (if (decide (z_75 < least)) = true then some true else if (decide (z_75 > (1114111 : Int))) = true then some true else if (decide (z_75 ≥ (55296 : Int))) = true then some (decide (z_75 < (57344 : Int))) else some false).bind (fun z_76 => if z_76 = true then some (0 : Int) else some n)))) =
      some (if n ≤ (s.size : Int) - a ∧ C then tell n v least else (0, 0)).2 := by
  rw [hw]
  by_cases h : (s.size : Int) - a < n
  · rw [if_pos (by simpa using h), if_neg (fun h' => by omega)]
  · rw [if_neg (by simpa using h), hg h]
    by_cases c : C
    · rw [if_pos c, Option.bind_some, if_pos ⟨by omega, c⟩]
      simp only [Sum.elim_inr]
      rw [size1_tell]
    · rw [if_neg c, Option.bind_some, if_neg (fun h' => c h'.2)]
      simp only [Sum.elim_inl]

theorem rsize_is {K : Nat} {s : ByteArray} {a : Int} (hK : 10 ≤ K) (hs : (s.size : Int) ≤ 1000000000000) : palinoderef1_Size K s a = some (usz s a) := by
  obtain ⟨k, hk⟩ : ∃ k, K = k + 4 := ⟨K - 4, by omega⟩
  have hb := bt_ok (s := s) (i := a)
  rw [← upt_snd]
  unfold palinoderef1_Size upt
  by_cases h : a < 0 ∨ a ≥ s.size
  · have : (if decide (a < 0) = true then some true else some (decide (a ≥ ((s.size : Nat) : Int)))) = some true := by
      by_cases h1 : a < 0
      · rw [if_pos (by simpa using h1)]
      · rw [if_neg (by simpa using h1)]; simp; omega
    rw [this, Option.bind_some, if_pos rfl, if_pos h]
  · have : (if decide (a < 0) = true then some true else some (decide (a ≥ ((s.size : Nat) : Int)))) = some false := by
      rw [if_neg (by simp; omega)]; simp; omega
    have hw : IntKind.wrap .i64 ((s.size : Int) - a) = (s.size : Int) - a := w64 (by omega) (by omega)
    have e2 := size1_many (least := 128) (K := K) (s := s) (a := a) (n := 2) (r := bt s a % 32) hw (fun hn => by rw [hk]; exact s2_go (by omega) hs hn (by omega))
    have e3 := size1_many (least := 2048) (K := K) (s := s) (a := a) (n := 3) (r := bt s a % 16) hw (fun hn => by rw [hk]; exact s3_go (by omega) hs hn (by omega))
    have e4 := size1_many (least := 65536) (K := K) (s := s) (a := a) (n := 4) (r := bt s a % 8) hw (fun hn => by rw [hk]; exact s4_go (by omega) hs hn (by omega))
    rw [this, Option.bind_some, if_neg (by simp), if_neg h, if_pos ⟨by omega, by omega⟩, w64 (n := bt s a) (by omega) (by omega), and_31 hb.1 hb.2, and_15 hb.1 hb.2, and_7 hb.1 hb.2]
    by_cases h1 : bt s a < 128
    · rw [if_pos (by simpa using h1), if_pos h1]
    · rw [if_neg (by simpa using h1), if_neg h1]
      by_cases h2 : 192 ≤ bt s a ∧ bt s a < 224
      · rw [if_pos (by simp; omega), Option.bind_some, if_pos (by simp; omega), Option.bind_some, if_pos h2]
        simp only [Sum.elim_inr]
        exact e2
      · have c2 : (if decide (bt s a ≥ 192) = true then some (decide (bt s a < 224)) else some false) = some false := by
          by_cases g : bt s a ≥ 192
          · rw [if_pos (by simpa using g)]; simp; omega
          · rw [if_neg (by simpa using g)]
        rw [c2, Option.bind_some, if_neg (by simp), if_neg h2]
        by_cases h3 : 224 ≤ bt s a ∧ bt s a < 240
        · rw [if_pos (by simp; omega), Option.bind_some, if_pos (by simp; omega), Option.bind_some, if_pos h3]
          simp only [Sum.elim_inr]
          exact e3
        · have c3 : (if decide (bt s a ≥ 224) = true then some (decide (bt s a < 240)) else some false) = some false := by
            by_cases g : bt s a ≥ 224
            · rw [if_pos (by simpa using g)]; simp; omega
            · rw [if_neg (by simpa using g)]
          rw [c3, Option.bind_some, if_neg (by simp), if_neg h3]
          by_cases h4 : 240 ≤ bt s a ∧ bt s a < 248
          · rw [if_pos (by simp; omega), Option.bind_some, if_pos (by simp; omega), Option.bind_some, if_pos h4]
            simp only [Sum.elim_inr]
            exact e4
          · have c4 : (if decide (bt s a ≥ 240) = true then some (decide (bt s a < 248)) else some false) = some false := by
              by_cases g : bt s a ≥ 240
              · rw [if_pos (by simpa using g)]; simp; omega
              · rw [if_neg (by simpa using g)]
            rw [c4, Option.bind_some, if_neg (by simp), if_neg h4, Option.bind_some]
            simp only [Sum.elim_inl]

/-- Whether from a place on there are code points, one behind the other. -/
def uval (s : ByteArray) : Nat → Int → Bool
  | 0, _ => true
  | m + 1, a => if a < s.size then (if usz s a = 0 then false else uval s m (a + usz s a)) else true

def uvalid (s : ByteArray) : Bool := uval s s.size 0

theorem uvalid_loop {K : Nat} {s : ByteArray} (hK : 10 ≤ K) (hs : (s.size : Int) ≤ 1000000000000) : ∀ (d k m : Nat) (a : Int), 0 ≤ a → (s.size : Int) - a ≤ d → a ≤ s.size → d < k → d ≤ m → utf_Valid.l0 K s k a = some (uval s m a) := by
  intro d
  induction d with
  | zero =>
    intro k m a h0 h1 h2 hk hm
    obtain ⟨k, rfl⟩ : ∃ l, k = l + 1 := ⟨k - 1, by omega⟩
    rw [utf_Valid.l0, if_neg (by simp; omega)]
    cases m with
    | zero => rfl
    | succ m => rw [uval, if_neg (by omega)]
  | succ d ih =>
    intro k m a h0 h1 h2 hk hm
    obtain ⟨k, rfl⟩ : ∃ l, k = l + 1 := ⟨k - 1, by omega⟩
    obtain ⟨m, rfl⟩ : ∃ l, m = l + 1 := ⟨m - 1, by omega⟩
    have hu := usz_ok (s := s) (a := a)
    rw [utf_Valid.l0, uval]
    by_cases h : a < s.size
    · have hu3 := hu.2.2 h0 h
      rw [if_pos (by simpa using h), if_pos h, usize_is hK hs, Option.bind_some]
      by_cases hz : usz s a = 0
      · rw [if_pos (by simpa using hz), if_pos hz]
      · rw [if_neg (by simpa using hz), if_neg hz, w64 (by omega) (by omega)]
        exact ih k m _ (by omega) (by omega) (by omega) (by omega) (by omega)
    · rw [if_neg (by simpa using h), if_neg h]

theorem uvalid_is {K : Nat} {s : ByteArray} (hK : s.size + 10 ≤ K) (hs : (s.size : Int) ≤ 1000000000000) : utf_Valid K s = some (uvalid s) := by
  unfold utf_Valid uvalid
  exact uvalid_loop (by omega) hs s.size K s.size 0 (by omega) (by omega) (by omega) (by omega) (by omega)

theorem rvalid_loop {K : Nat} {s : ByteArray} (hK : 10 ≤ K) (hs : (s.size : Int) ≤ 1000000000000) : ∀ (d k m : Nat) (a : Int), 0 ≤ a → (s.size : Int) - a ≤ d → a ≤ s.size → d < k → d ≤ m → palinoderef1_Valid.l0 K s k a = some (uval s m a) := by
  intro d
  induction d with
  | zero =>
    intro k m a h0 h1 h2 hk hm
    obtain ⟨k, rfl⟩ : ∃ l, k = l + 1 := ⟨k - 1, by omega⟩
    rw [palinoderef1_Valid.l0, if_neg (by simp; omega)]
    cases m with
    | zero => rfl
    | succ m => rw [uval, if_neg (by omega)]
  | succ d ih =>
    intro k m a h0 h1 h2 hk hm
    obtain ⟨k, rfl⟩ : ∃ l, k = l + 1 := ⟨k - 1, by omega⟩
    obtain ⟨m, rfl⟩ : ∃ l, m = l + 1 := ⟨m - 1, by omega⟩
    have hu := usz_ok (s := s) (a := a)
    rw [palinoderef1_Valid.l0, uval]
    by_cases h : a < s.size
    · have hu3 := hu.2.2 h0 h
      rw [if_pos (by simpa using h), if_pos h, rsize_is hK hs, Option.bind_some]
      by_cases hz : usz s a = 0
      · rw [if_pos (by simpa using hz), if_pos hz]
      · rw [if_neg (by simpa using hz), if_neg hz, w64 (by omega) (by omega)]
        exact ih k m _ (by omega) (by omega) (by omega) (by omega) (by omega)
    · rw [if_neg (by simpa using h), if_neg h]

theorem rvalid_is {K : Nat} {s : ByteArray} (hK : s.size + 10 ≤ K) (hs : (s.size : Int) ≤ 1000000000000) : palinoderef1_Valid K s = some (uvalid s) := by
  unfold palinoderef1_Valid uvalid
  exact rvalid_loop (by omega) hs s.size K s.size 0 (by omega) (by omega) (by omega) (by omega) (by omega)

theorem toList_loop (s : ByteArray) : ∀ (d i : Nat) (r : List UInt8), s.size - i = d → ByteArray.toList.loop s i r = r.reverse ++ s.data.toList.drop i := by
  intro d
  induction d with
  | zero =>
    intro i r h
    unfold ByteArray.toList.loop
    rw [if_neg (by omega), List.drop_eq_nil_of_le (by have : s.data.toList.length = s.size := by simp
                                                      omega)]
    simp
  | succ d ih =>
    intro i r h
    unfold ByteArray.toList.loop
    have hl : s.data.toList.length = s.size := by simp
    have hi : i < s.data.toList.length := by omega
    rw [if_pos (by omega), ih (i + 1) _ (by omega), List.drop_eq_getElem_cons hi]
    have : s.get! i = s.data.toList[i] := by
      have h2 : i < s.data.size := by simpa using hi
      show s.data[i]! = _
      rw [getElem!_pos s.data i h2]
      simp
    rw [this]
    simp

theorem toList_eq (s : ByteArray) : ByteArray.toList s = s.data.toList := by
  unfold ByteArray.toList
  rw [toList_loop s s.size 0 [] rfl]
  simp

theorem str_beq {a b : ByteArray} : (ByteArray.toList a == ByteArray.toList b) = decide (a = b) := by
  rw [toList_eq, toList_eq]
  by_cases h : a = b
  · subst h; simp
  · have : a.data.toList ≠ b.data.toList := fun h' => h (by have := Array.toList_inj.1 h'; cases a; cases b; simp only at this; rw [this])
    rw [beq_eq_false_iff_ne.2 this]; simp [h]

theorem size_zero {a : ByteArray} : a = ⟨#[]⟩ ↔ a.size = 0 := by
  constructor
  · rintro rfl; rfl
  · intro h
    rw [← ofBytes_txt (s := a)]
    have : txt a = [] := List.eq_nil_of_length_eq_zero (by rw [txt_len]; exact h)
    rw [this]; rfl

theorem str_nil {a : ByteArray} : (ByteArray.toList a == ByteArray.toList (ByteArray.mk #[])) = decide (a.size = 0) := by
  rw [str_beq]
  exact decide_eq_decide.2 size_zero

abbrev El := Int × (Int × ByteArray)

theorem isCopy_is {K : Nat} {x1 x2 : Int} {x3 : ByteArray} : delta_IsCopy K x1 x2 x3 = some (decide (x3.size = 0)) := by
  unfold delta_IsCopy
  rw [str_nil]

theorem elem_is {K : Nat} {x1 x2 base to : Int} {x3 : ByteArray} {ahead copied : Bool} (hK : 30000 ≤ K) : delta_elem K x1 x2 x3 base to ahead copied =
    some (if x3.size = 0 then decide (to ≤ x1 ∧ (to < x1 ∨ copied = false) ∧ x1 < x2 ∧ x2 ≤ base) else decide (x1 = 0 ∧ x2 = 0 ∧ (ahead = false ∨ copied = true) ∧ x3.size ≤ 20000) && uvalid x3) := by
  unfold delta_elem
  rw [isCopy_is, Option.bind_some]
  by_cases h : x3.size = 0
  · rw [if_pos (by simpa using h), if_pos h]
    by_cases h1 : x1 ≥ to
    · rw [if_pos (by simpa using h1)]
      by_cases h2 : x1 > to
      · rw [if_pos (by simpa using h2)]
        by_cases h3 : x1 < x2
        · rw [if_pos (by simpa using h3)]
          congr 1; rw [decide_eq_decide]; omega
        · rw [if_neg (by simpa using h3)]
          congr 1; symm; rw [decide_eq_false_iff_not]; omega
      · rw [if_neg (by simpa using h2)]
        cases copied with
        | true => rw [if_neg (by simp)]; congr 1; symm; rw [decide_eq_false_iff_not]; simp; omega
        | false =>
          rw [if_pos (by simp)]
          by_cases h3 : x1 < x2
          · rw [if_pos (by simpa using h3)]
            congr 1; rw [decide_eq_decide]; simp; omega
          · rw [if_neg (by simpa using h3)]
            congr 1; symm; rw [decide_eq_false_iff_not]; omega
    · rw [if_neg (by simpa using h1)]
      congr 1; symm; rw [decide_eq_false_iff_not]; omega
  · rw [if_neg (by simpa using h), if_neg h]
    by_cases h1 : x1 = 0 ∧ x2 = 0
    · rw [if_pos (by simp [h1])]
      by_cases h2 : x3.size ≤ 20000
      · have hv : utf_Valid K x3 = some (uvalid x3) := uvalid_is (by omega) (by omega)
        cases ahead with
        | false => rw [if_pos (by simp), if_pos (by simp; omega), hv, Option.bind_some]; simp [h1, h2]
        | true =>
          rw [if_neg (by simp)]
          cases copied with
          | true => rw [if_pos rfl, if_pos (by simp; omega), hv, Option.bind_some]; simp [h1, h2]
          | false => rw [if_neg (by simp)]; simp
      · cases ahead with
        | false => rw [if_pos (by simp), if_neg (by simp; omega)]; simp [h2]
        | true =>
          rw [if_neg (by simp)]
          cases copied with
          | true => rw [if_pos rfl, if_neg (by simp; omega)]; simp [h2]
          | false => rw [if_neg (by simp)]; simp
    · rw [if_neg (by simp; omega)]
      congr 1; symm
      rw [Bool.and_eq_false_iff, decide_eq_false_iff_not]
      left
      exact fun h' => h1 ⟨h'.1, h'.2.1⟩

/-- Elements that may come behind others. -/
def isL (base : Int) : Int → Int → Option Bool → List El → Bool
  | _, _, _, [] => true
  | size, to, pre, x :: r =>
    if x.2.2.size = 0 then
      decide (to ≤ x.1 ∧ (to < x.1 ∨ pre ≠ some true) ∧ x.1 < x.2.1 ∧ x.2.1 ≤ base ∧ size + (x.2.1 - x.1) ≤ 20000) && isL base (size + (x.2.1 - x.1)) x.2.1 (some true) r
    else
      (decide (x.1 = 0 ∧ x.2.1 = 0 ∧ pre ≠ some false ∧ size + x.2.2.size ≤ 20000) && uvalid x.2.2) && isL base (size + x.2.2.size) to (some false) r

/-- Whether elements are a delta. -/
def isD (base : Int) (l : List El) : Bool := decide (0 ≤ base ∧ base ≤ 20000 ∧ l.length ≤ 60) && isL base 0 0 none l

def preOf (d : List El) (j : Nat) : Option Bool := if j = 0 then none else some (decide ((d.getD (j - 1) ((0 : Int), ((0 : Int), ByteArray.empty))).2.2.size = 0))

theorem preOf_succ {d : List El} {j : Nat} {x : El} (h : d.getD j ((0 : Int), ((0 : Int), ByteArray.empty)) = x) : preOf d (j + 1) = some (decide (x.2.2.size = 0)) := by
  unfold preOf
  rw [if_neg (by omega), Nat.add_sub_cancel, h]

theorem is_loop {K : Nat} {d : List El} {base : Int} (hK : 30000 ≤ K) (hb : base ≤ 20000) (hl : d.length ≤ 60) : ∀ (rest : List El) (j k : Nat) (size to : Int), d.drop j = rest → rest.length < k → 0 ≤ size → size ≤ 20000 → 0 ≤ to → to ≤ 20000 →
    delta_Is.l0 K d base k size to (j : Int) = some (isL base size to (preOf d j) rest)
  | [], j, k, size, to, hd, hk, h0, h1, h2, h3 => by
    obtain ⟨k, rfl⟩ : ∃ m, k = m + 1 := ⟨k - 1, by simp at hk; omega⟩
    have := drop_nil hd
    rw [delta_Is.l0, if_neg (by simp; omega)]
    rfl
  | x :: rest, j, k, size, to, hd, hk, h0, h1, h2, h3 => by
    obtain ⟨k, rfl⟩ : ∃ m, k = m + 1 := ⟨k - 1, by simp at hk; omega⟩
    obtain ⟨hj, hgd, hd'⟩ := drop_cons hd ((0 : Int), ((0 : Int), ByteArray.empty))
    have hk' : rest.length < k := by simp at hk; omega
    have hw : IntKind.wrap .i64 ((j : Int) + 1) = ((j + 1 : Nat) : Int) := by rw [w64 (by omega) (by omega)]; omega
    have hw1 : IntKind.wrap .i64 ((j : Int) - 1) = (j : Int) - 1 := w64 (by omega) (by omega)
    have hps := preOf_succ hgd
    have hnext := fun (size' to' : Int) (a0 : 0 ≤ size') (a1 : size' ≤ 20000) (a2 : 0 ≤ to') (a3 : to' ≤ 20000) => is_loop (K := K) hK hb hl rest (j + 1) k size' to' hd' hk' a0 a1 a2 a3
    rw [hps] at hnext
    have hcp : (if decide ((j : Int) > 0) = true then (delta_IsCopy K (d.getD ((j : Int) - 1).toNat ((0 : Int), ((0 : Int), ByteArray.empty))).1 (d.getD ((j : Int) - 1).toNat ((0 : Int), ((0 : Int), ByteArray.empty))).2.1 (d.getD ((j : Int) - 1).toNat ((0 : Int), ((0 : Int), ByteArray.empty))).2.2).bind fun r_22 => if 0 ≤ (j : Int) - 1 ∧ (j : Int) - 1 < ((d.length : Nat) : Int) then some r_22 else none else some false) = some (preOf d j == some true) := by
      unfold preOf
      by_cases hj0 : j = 0
      · subst hj0; simp
      · rw [if_pos (by simp; omega), isCopy_is, Option.bind_some, if_pos ⟨by omega, by omega⟩, if_neg hj0, show ((j : Int) - 1).toNat = j - 1 by omega]
        simp
    have hah : ∀ b : Bool, (decide ((j : Int) > 0) = false ∨ b = true) ↔ (preOf d j = none ∨ b = true) := by
      intro b
      unfold preOf
      by_cases hj0 : j = 0
      · subst hj0; simp
      · simp [hj0]
    rw [delta_Is.l0]
    simp only [Int.toNat_natCast, hgd, hw, hw1]
    rw [if_pos (by simpa using hj), if_pos ⟨by omega, by omega⟩, hcp, Option.bind_some, elem_is hK, Option.bind_some, isCopy_is, isL]
    by_cases hz : x.2.2.size = 0
    · rw [if_pos hz, if_pos hz, hz]
      by_cases hc : to ≤ x.1 ∧ (to < x.1 ∨ (preOf d j == some true) = false) ∧ x.1 < x.2.1 ∧ x.2.1 ≤ base
      · rw [show decide (to ≤ x.1 ∧ (to < x.1 ∨ (preOf d j == some true) = false) ∧ x.1 < x.2.1 ∧ x.2.1 ≤ base) = true from decide_eq_true hc, if_neg (by simp), Option.bind_some, if_pos (by simp), Option.bind_some]
        simp only [Int.natCast_zero, Int.add_zero]
        rw [w64 (n := x.2.1 - x.1) (by omega) (by omega), w64 (n := x.2.1 - x.1) (by omega) (by omega), w64 (n := size + (x.2.1 - x.1)) (by omega) (by omega)]
        have hp : (preOf d j == some true) = false ↔ preOf d j ≠ some true := by simp
        by_cases hs : size + (x.2.1 - x.1) ≤ 20000
        · rw [if_neg (by simpa using hs), hnext _ _ (by omega) hs (by omega) (by omega), hz]
          have : decide (to ≤ x.1 ∧ (to < x.1 ∨ preOf d j ≠ some true) ∧ x.1 < x.2.1 ∧ x.2.1 ≤ base ∧ size + (x.2.1 - x.1) ≤ 20000) = true := by
            rw [decide_eq_true_eq]
            rw [hp] at hc
            exact ⟨hc.1, hc.2.1, hc.2.2.1, hc.2.2.2, hs⟩
          rw [this]; simp
        · rw [if_pos (by simp; omega)]
          have : decide (to ≤ x.1 ∧ (to < x.1 ∨ preOf d j ≠ some true) ∧ x.1 < x.2.1 ∧ x.2.1 ≤ base ∧ size + (x.2.1 - x.1) ≤ 20000) = false := by
            rw [decide_eq_false_iff_not]
            exact fun h => hs h.2.2.2.2
          rw [this]; rfl
      · rw [show decide (to ≤ x.1 ∧ (to < x.1 ∨ (preOf d j == some true) = false) ∧ x.1 < x.2.1 ∧ x.2.1 ≤ base) = false from decide_eq_false hc, if_pos (by simp)]
        have hp : (preOf d j == some true) = false ↔ preOf d j ≠ some true := by simp
        have : decide (to ≤ x.1 ∧ (to < x.1 ∨ preOf d j ≠ some true) ∧ x.1 < x.2.1 ∧ x.2.1 ≤ base ∧ size + (x.2.1 - x.1) ≤ 20000) = false := by
          rw [decide_eq_false_iff_not]
          rw [hp] at hc
          exact fun h => hc ⟨h.1, h.2.1, h.2.2.1, h.2.2.2.1⟩
        rw [this]; rfl
    · rw [if_neg hz, if_neg hz]
      have hpre : (decide ((j : Int) > 0) = false ∨ (preOf d j == some true) = true) ↔ preOf d j ≠ some false := by
        rw [hah]
        cases preOf d j with
        | none => simp
        | some b => cases b <;> simp
      by_cases hc : x.1 = 0 ∧ x.2.1 = 0 ∧ (decide ((j : Int) > 0) = false ∨ (preOf d j == some true) = true) ∧ x.2.2.size ≤ 20000
      · rw [show decide (x.1 = 0 ∧ x.2.1 = 0 ∧ (decide ((j : Int) > 0) = false ∨ (preOf d j == some true) = true) ∧ x.2.2.size ≤ 20000) = true from by rw [decide_eq_true_eq]; exact hc]
        cases hv : uvalid x.2.2 with
        | false => rw [if_pos (by simp)]; simp
        | true =>
          rw [if_neg (by simp), Option.bind_some, if_neg (by simpa using hz), Option.bind_some]
          rw [hc.1, hc.2.1, Int.sub_zero, w64 (n := 0) (by omega) (by omega), Int.zero_add, w64 (n := (x.2.2.size : Int)) (by omega) (by omega), w64 (n := size + (x.2.2.size : Int)) (by omega) (by omega)]
          by_cases hs : size + (x.2.2.size : Int) ≤ 20000
          · rw [if_neg (by simpa using hs), hnext _ _ (by omega) hs (by omega) (by omega)]
            have : decide ((0 : Int) = 0 ∧ (0 : Int) = 0 ∧ preOf d j ≠ some false ∧ size + (x.2.2.size : Int) ≤ 20000) = true := by
              rw [decide_eq_true_eq]
              exact ⟨rfl, rfl, hpre.1 hc.2.2.1, hs⟩
            rw [this]
            simp [hz]
          · rw [if_pos (by simp; omega)]
            have : decide ((0 : Int) = 0 ∧ (0 : Int) = 0 ∧ preOf d j ≠ some false ∧ size + (x.2.2.size : Int) ≤ 20000) = false := by
              rw [decide_eq_false_iff_not]
              exact fun h => hs h.2.2.2
            rw [this]; rfl
      · rw [show decide (x.1 = 0 ∧ x.2.1 = 0 ∧ (decide ((j : Int) > 0) = false ∨ (preOf d j == some true) = true) ∧ x.2.2.size ≤ 20000) = false from by rw [decide_eq_false_iff_not]; exact hc]
        rw [if_pos (by simp)]
        have : decide (x.1 = 0 ∧ x.2.1 = 0 ∧ preOf d j ≠ some false ∧ size + (x.2.2.size : Int) ≤ 20000) = false := by
          rw [decide_eq_false_iff_not]
          exact fun h => hc ⟨h.1, h.2.1, hpre.2 h.2.2.1, by omega⟩
        rw [this]; rfl

theorem is_is {K : Nat} {d : List El} {base : Int} (hK : 30000 ≤ K) : delta_Is K base d = some (isD base d) := by
  unfold delta_Is isD
  by_cases h1 : base < 0
  · rw [if_pos (by simpa using h1), Option.bind_some, if_pos rfl]
    congr 1; symm; rw [Bool.and_eq_false_iff, decide_eq_false_iff_not]; left; omega
  · rw [if_neg (by simpa using h1)]
    by_cases h2 : base > 20000
    · rw [if_pos (by simpa using h2), Option.bind_some, if_pos rfl]
      congr 1; symm; rw [Bool.and_eq_false_iff, decide_eq_false_iff_not]; left; omega
    · rw [if_neg (by simpa using h2), Option.bind_some]
      by_cases h3 : d.length > 60
      · rw [if_pos (by simp; omega)]
        congr 1; symm; rw [Bool.and_eq_false_iff, decide_eq_false_iff_not]; left; omega
      · have h := is_loop (K := K) (d := d) (base := base) hK (by omega) (by omega) d 0 K 0 0 rfl (by omega) (by omega) (by omega) (by omega) (by omega)
        rw [Int.natCast_zero] at h
        rw [if_neg (by simp; omega), h]
        have : decide (0 ≤ base ∧ base ≤ 20000 ∧ d.length ≤ 60) = true := by rw [decide_eq_true_eq]; omega
        rw [this]
        rfl

abbrev el0 : El := ((0 : Int), ((0 : Int), ByteArray.empty))

def lastIs (b : Bool) (l : List El) : Prop := l ≠ [] ∧ decide ((l.getD (l.length - 1) el0).2.2.size = 0) = b

instance (b : Bool) (l : List El) : Decidable (lastIs b l) := inferInstanceAs (Decidable (_ ∧ _))

/-- Bytes kept, behind elements. -/
def mkCopy (l : List El) (f t : Int) : List El :=
  if f = t then l else if lastIs true l ∧ (l.getD (l.length - 1) el0).2.1 = f then l.set (l.length - 1) ((l.getD (l.length - 1) el0).1, (t, (l.getD (l.length - 1) el0).2.2)) else l ++ [(f, (t, ByteArray.empty))]

/-- A text put in, behind elements. -/
def mkPut (l : List El) (s : ByteArray) : List El :=
  if s.size = 0 then l else if lastIs false l then l.set (l.length - 1) ((l.getD (l.length - 1) el0).1, ((l.getD (l.length - 1) el0).2.1, (l.getD (l.length - 1) el0).2.2 ++ s)) else l ++ [(0, (0, s))]

def sumT : List El → Nat
  | [] => 0
  | x :: r => x.2.2.size + sumT r

def sumK : List El → Int
  | [] => 0
  | x :: r => (x.2.1 - x.1) + sumK r

theorem sumT_app : ∀ {l r : List El}, sumT (l ++ r) = sumT l + sumT r
  | [], r => by simp [sumT]
  | x :: l, r => by simp only [List.cons_append, sumT, sumT_app]; omega

theorem le_sumT : ∀ {l : List El} {x : El}, x ∈ l → x.2.2.size ≤ sumT l
  | y :: l, x, h => by
    rw [sumT]
    rcases List.mem_cons.1 h with rfl | h
    · omega
    · have := le_sumT h; omega

theorem empty_size : ByteArray.empty.size = 0 := rfl

theorem getD_last {l : List El} {p : El} : (l ++ [p]).getD ((l ++ [p]).length - 1) el0 = p := by
  simp [List.getD]

theorem set_last {α : Type} {l : List α} {p q : α} : (l ++ [p]).set ((l ++ [p]).length - 1) q = l ++ [q] := by
  have : (l ++ [p]).length - 1 = l.length := by simp
  rw [this, List.set_append_right _ _ (Nat.le_refl _), Nat.sub_self, List.set_cons_zero]

theorem mkCopy_nil {f t : Int} : mkCopy [] f t = if f = t then [] else [(f, (t, ByteArray.empty))] := by
  unfold mkCopy
  split
  · rfl
  · rw [if_neg (fun h => h.1.1 rfl)]; rfl

theorem lastIs_app {b : Bool} {l : List El} {p : El} : lastIs b (l ++ [p]) ↔ decide (p.2.2.size = 0) = b := by
  unfold lastIs
  rw [getD_last]
  exact ⟨fun h => h.2, fun h => ⟨by simp, h⟩⟩

theorem mkCopy_app {l : List El} {p : El} {f t : Int} : mkCopy (l ++ [p]) f t = if f = t then l ++ [p] else if p.2.2.size = 0 ∧ p.2.1 = f then l ++ [(p.1, (t, p.2.2))] else l ++ [p] ++ [(f, (t, ByteArray.empty))] := by
  unfold mkCopy
  rw [getD_last, set_last]
  by_cases h : f = t
  · rw [if_pos h, if_pos h]
  · rw [if_neg h, if_neg h]
    by_cases h2 : p.2.2.size = 0 ∧ p.2.1 = f
    · rw [if_pos ⟨lastIs_app.2 (decide_eq_true h2.1), h2.2⟩, if_pos h2]
    · rw [if_neg (fun h' => h2 ⟨of_decide_eq_true (lastIs_app.1 h'.1), h'.2⟩), if_neg h2]

theorem mkPut_nil {s : ByteArray} : mkPut [] s = if s.size = 0 then [] else [(0, (0, s))] := by
  unfold mkPut
  split
  · rfl
  · rw [if_neg (fun h => h.1 rfl)]; rfl

theorem mkPut_app {l : List El} {p : El} {s : ByteArray} : mkPut (l ++ [p]) s = if s.size = 0 then l ++ [p] else if p.2.2.size = 0 then l ++ [p] ++ [(0, (0, s))] else l ++ [(p.1, (p.2.1, p.2.2 ++ s))] := by
  unfold mkPut
  rw [getD_last, set_last]
  by_cases h : s.size = 0
  · rw [if_pos h, if_pos h]
  · rw [if_neg h, if_neg h]
    by_cases h2 : p.2.2.size = 0
    · rw [if_neg (fun h' => by have := lastIs_app.1 h'; simp [h2] at this), if_pos h2]
    · rw [if_pos (lastIs_app.2 (decide_eq_false h2)), if_neg h2]

theorem bsize_app {a b : ByteArray} : (a ++ b).size = a.size + b.size := ByteArray.size_append

theorem mkCopy_len {l : List El} {f t : Int} : (mkCopy l f t).length ≤ l.length + 1 := by
  unfold mkCopy
  split
  · omega
  · split <;> simp

theorem mkPut_len {l : List El} {s : ByteArray} : (mkPut l s).length ≤ l.length + 1 := by
  unfold mkPut
  split
  · omega
  · split <;> simp

theorem mkCopy_sumT {l : List El} {f t : Int} : sumT (mkCopy l f t) = sumT l := by
  by_cases h : l = []
  · subst h; rw [mkCopy_nil]; split <;> simp [sumT, empty_size]
  · obtain ⟨m, p, rfl⟩ := split_last h
    rw [mkCopy_app]
    split
    · rfl
    · split
      · simp [sumT_app, sumT]
      · simp [sumT_app, sumT, empty_size]

theorem mkPut_sumT {l : List El} {s : ByteArray} : sumT (mkPut l s) = sumT l + s.size := by
  by_cases h : l = []
  · subst h; rw [mkPut_nil]; split
    · simp [sumT]; omega
    · simp [sumT]
  · obtain ⟨m, p, rfl⟩ := split_last h
    rw [mkPut_app]
    split
    · omega
    · split
      · simp [sumT_app, sumT] <;> omega
      · simp [sumT_app, sumT, bsize_app] <;> omega

theorem copy_is {K : Nat} {m f t : Int} {l : List El} (hl : l.length ≤ 1000000000) : delta_Maker_Copy_bgg_11dec K m l f t = some (mkCopy l f t) := by
  unfold delta_Maker_Copy_bgg_11dec mkCopy
  have hw : IntKind.wrap .i64 ((l.length : Int) - 1) = (l.length : Int) - 1 := w64 (by omega) (by omega)
  rw [hw]
  by_cases h : f = t
  · rw [if_pos (by simpa using h), if_pos h]
  · rw [if_neg (by simpa using h), if_neg h]
    by_cases he : l = []
    · subst he
      rw [if_neg (by simp), Option.bind_some, if_neg (by simp), if_pos (by simp), if_neg (fun h => h.1.1 rfl)]
    · have hp : 0 < l.length := List.length_pos_iff.2 he
      have hn : ((l.length : Int) - 1).toNat = l.length - 1 := by omega
      rw [if_pos (by simp; omega), hn, isCopy_is, Option.bind_some]
      by_cases hz : (l.getD (l.length - 1) el0).2.2.size = 0
      · rw [if_pos (decide_eq_true hz), if_pos ⟨by omega, by omega⟩, Option.bind_some]
        by_cases hq : (l.getD (l.length - 1) el0).2.1 = f
        · rw [if_pos (by simpa using hq), if_pos ⟨by omega, by omega⟩, if_pos ⟨⟨he, decide_eq_true hz⟩, hq⟩]
        · rw [if_neg (by simpa using hq), if_pos (by simp; omega), if_neg (fun h => hq h.2)]
      · rw [if_neg (by simpa using hz), if_pos ⟨by omega, by omega⟩, Option.bind_some, if_neg (by simp), if_pos (by simp; omega), if_neg (fun h => hz (of_decide_eq_true h.1.2))]

theorem copy0_is {K : Nat} {m f t : Int} : delta_Maker_Copy_bgg_48161 K m f t = some (mkCopy [] f t) := by
  unfold delta_Maker_Copy_bgg_48161
  rw [mkCopy_nil]
  by_cases h : f = t
  · rw [if_pos (by simpa using h), if_pos h]
  · rw [if_neg (by simpa using h), if_neg h, Option.bind_some, if_pos (by simp)]

theorem putm_is {K : Nat} {m : Int} {l : List El} {s : ByteArray} (hl : l.length ≤ 1000000000) (ht : sumT l + s.size ≤ 9223372036854775807) : delta_Maker_Put_bg_92925 K m l s = some (mkPut l s) := by
  unfold delta_Maker_Put_bg_92925 mkPut
  have hw : IntKind.wrap .i64 ((l.length : Int) - 1) = (l.length : Int) - 1 := w64 (by omega) (by omega)
  rw [hw, str_nil]
  by_cases h : s.size = 0
  · rw [if_pos (by simpa using h), if_pos h]
  · rw [if_neg (by simpa using h), if_neg h]
    by_cases he : l = []
    · subst he
      rw [if_neg (by simp), Option.bind_some, if_neg (by simp), if_pos (by simp), if_neg (fun h => h.1 rfl)]
    · have hp : 0 < l.length := List.length_pos_iff.2 he
      have hn : ((l.length : Int) - 1).toNat = l.length - 1 := by omega
      have hm : l.getD (l.length - 1) el0 ∈ l := by
        rw [List.getD, List.getElem?_eq_getElem (by omega)]
        simp
      have hs := le_sumT hm
      rw [if_pos (by simp; omega), hn, isCopy_is, Option.bind_some, if_pos ⟨by omega, by omega⟩, Option.bind_some]
      by_cases hz : (l.getD (l.length - 1) el0).2.2.size = 0
      · rw [show decide ((l.getD (l.length - 1) ((0 : Int), ((0 : Int), ByteArray.empty))).2.2.size = 0) = true from decide_eq_true hz, if_neg (by simp), if_pos (by simp; omega), if_neg (fun h => by have := h.2; rw [decide_eq_true hz] at this; cases this)]
      · have h3 : (l.getD (l.length - 1) ((0 : Int), ((0 : Int), ByteArray.empty))).2.2.size ≤ sumT l := hs
        rw [show decide ((l.getD (l.length - 1) ((0 : Int), ((0 : Int), ByteArray.empty))).2.2.size = 0) = false from decide_eq_false hz, if_pos (by simp), if_pos ⟨by omega, by omega, by omega⟩, if_pos ⟨he, decide_eq_false hz⟩]

/-- Changes, one behind the other. -/
def bld : List El → Int → List El → List El × Int
  | acc, a, [] => (acc, a)
  | acc, a, c :: r => bld (mkPut (mkCopy acc a c.1) c.2.2) c.2.1 r

theorem bld_len : ∀ {l acc : List El} {a : Int}, (bld acc a l).1.length ≤ acc.length + 2 * l.length
  | [], acc, a => by simp [bld]
  | c :: r, acc, a => by
    rw [bld]
    have h1 := bld_len (l := r) (acc := mkPut (mkCopy acc a c.1) c.2.2) (a := c.2.1)
    have h2 := mkPut_len (l := mkCopy acc a c.1) (s := c.2.2)
    have h3 := mkCopy_len (l := acc) (f := a) (t := c.1)
    simp only [List.length_cons]; omega

theorem build_loop {K : Nat} {l : List El} {base : Int} : ∀ (rest : List El) (j k : Nat) (acc : List El) (a : Int), l.drop j = rest → rest.length < k → l.length ≤ 1000000 → acc.length ≤ 2 * j → sumT acc + sumT rest ≤ 9000000000000000000 →
    delta_Build_gr.l0 K l base k acc a (j : Int) = some (bld acc a rest)
  | [], j, k, acc, a, hd, hk, hl, ha, ht => by
    obtain ⟨k, rfl⟩ : ∃ m, k = m + 1 := ⟨k - 1, by simp at hk; omega⟩
    have := drop_nil hd
    rw [delta_Build_gr.l0, if_neg (by simp; omega)]
    rfl
  | c :: rest, j, k, acc, a, hd, hk, hl, ha, ht => by
    obtain ⟨k, rfl⟩ : ∃ m, k = m + 1 := ⟨k - 1, by simp at hk; omega⟩
    obtain ⟨hj, hgd, hd'⟩ := drop_cons hd el0
    have hk' : rest.length < k := by simp at hk; omega
    have hw : IntKind.wrap .i64 ((j : Int) + 1) = ((j + 1 : Nat) : Int) := by rw [w64 (by omega) (by omega)]; omega
    have h2 := mkPut_len (l := mkCopy acc a c.1) (s := c.2.2)
    have h3 := mkCopy_len (l := acc) (f := a) (t := c.1)
    have s1 := mkCopy_sumT (l := acc) (f := a) (t := c.1)
    have s2 := mkPut_sumT (l := mkCopy acc a c.1) (s := c.2.2)
    simp only [sumT] at ht
    rw [delta_Build_gr.l0]
    simp only [Int.toNat_natCast, hgd, hw]
    rw [if_pos (by simpa using hj), if_pos ⟨by omega, by omega⟩, copy_is (by omega), Option.bind_some, putm_is (by omega) (by omega), Option.bind_some, build_loop rest (j + 1) k _ _ hd' hk' hl (by omega) (by omega)]
    rfl

def rngL (base : Int) (l : List El) : Bool := l.all fun c => decide (0 ≤ c.1 ∧ c.1 ≤ c.2.1 ∧ c.2.1 ≤ base)

def ordL : Option El → List El → Bool
  | _, [] => true
  | none, b :: r => ordL (some b) r
  | some a, b :: r => !decide (b.1 < a.2.1 ∨ a.1 = b.1 ∧ a.2.1 = b.1) && ordL (some b) r

def valL (l : List El) : Bool := l.all fun c => uvalid c.2.2

def lngL : Int → List El → Int
  | _, [] => 0
  | left, c :: r => if c.2.2.size > left then 13 else lngL (left - c.2.2.size) r

theorem rng_loop {K : Nat} {l : List El} {base : Int} (hl : l.length ≤ 1000000000) : ∀ (rest : List El) (j k : Nat), l.drop j = rest → rest.length < k →
    delta_check_gr.l0 K l base k (j : Int) = some (if rngL base rest = true then .inr () else .inl 10)
  | [], j, k, hd, hk => by
    obtain ⟨k, rfl⟩ : ∃ m, k = m + 1 := ⟨k - 1, by simp at hk; omega⟩
    have := drop_nil hd
    rw [delta_check_gr.l0, if_neg (by simp; omega)]
    rfl
  | c :: rest, j, k, hd, hk => by
    obtain ⟨k, rfl⟩ : ∃ m, k = m + 1 := ⟨k - 1, by simp at hk; omega⟩
    obtain ⟨hj, hgd, hd'⟩ := drop_cons hd el0
    have hk' : rest.length < k := by simp at hk; omega
    have hw : IntKind.wrap .i64 ((j : Int) + 1) = ((j + 1 : Nat) : Int) := by rw [w64 (by omega) (by omega)]; omega
    rw [delta_check_gr.l0]
    simp only [Int.toNat_natCast, hgd, hw]
    rw [if_pos (by simpa using hj), if_pos ⟨by omega, by omega⟩, rng_loop hl rest (j + 1) k hd' hk', show rngL base (c :: rest) = (decide (0 ≤ c.1 ∧ c.1 ≤ c.2.1 ∧ c.2.1 ≤ base) && rngL base rest) from rfl]
    by_cases h1 : c.1 < 0
    · rw [if_pos (by simpa using h1), Option.bind_some, if_pos rfl, decide_eq_false (by omega)]; rfl
    · rw [if_neg (by simpa using h1)]
      by_cases h2 : c.1 > c.2.1
      · rw [if_pos (by simpa using h2), Option.bind_some, if_pos rfl, decide_eq_false (by omega)]; rfl
      · rw [if_neg (by simpa using h2), Option.bind_some]
        by_cases h3 : c.2.1 > base
        · rw [if_pos (by simpa using h3), decide_eq_false (by omega)]; rfl
        · rw [if_neg (by simpa using h3), decide_eq_true (by omega)]; rfl

theorem ord_loop {K : Nat} {l : List El} (hl : l.length ≤ 1000000000) : ∀ (rest : List El) (j k : Nat), l.drop j = rest → rest.length < k → 1 ≤ j →
    delta_Ordered_r.l0 K l k (j : Int) = some (ordL (some (l.getD (j - 1) el0)) rest)
  | [], j, k, hd, hk, h1 => by
    obtain ⟨k, rfl⟩ : ∃ m, k = m + 1 := ⟨k - 1, by simp at hk; omega⟩
    have := drop_nil hd
    rw [delta_Ordered_r.l0, if_neg (by simp; omega)]
    rfl
  | c :: rest, j, k, hd, hk, h1 => by
    obtain ⟨k, rfl⟩ : ∃ m, k = m + 1 := ⟨k - 1, by simp at hk; omega⟩
    obtain ⟨hj, hgd, hd'⟩ := drop_cons hd el0
    have hk' : rest.length < k := by simp at hk; omega
    have hw : IntKind.wrap .i64 ((j : Int) + 1) = ((j + 1 : Nat) : Int) := by rw [w64 (by omega) (by omega)]; omega
    have hw1 : IntKind.wrap .i64 ((j : Int) - 1) = (j : Int) - 1 := w64 (by omega) (by omega)
    have hn : ((j : Int) - 1).toNat = j - 1 := by omega
    have hr := ord_loop (K := K) hl rest (j + 1) k hd' hk' (by omega)
    rw [Nat.add_sub_cancel, hgd] at hr
    rw [delta_Ordered_r.l0]
    simp only [Int.toNat_natCast, hgd, hw, hw1, hn]
    rw [if_pos (by simpa using hj), if_pos ⟨by omega, by omega, by omega, by omega⟩, hr, ordL]
    by_cases a1 : c.1 < (l.getD (j - 1) el0).2.1
    · rw [if_pos (by simpa using a1), Option.bind_some, if_pos rfl, decide_eq_true (.inl a1)]; rfl
    · rw [if_neg (by simpa using a1)]
      by_cases a2 : (l.getD (j - 1) el0).1 = c.1
      · rw [if_pos (by simpa using a2), Option.bind_some]
        by_cases a3 : (l.getD (j - 1) el0).2.1 = c.1
        · rw [if_pos (by simpa using a3), decide_eq_true (.inr ⟨a2, a3⟩)]; rfl
        · rw [if_neg (by simpa using a3), decide_eq_false (by omega)]; rfl
      · rw [if_neg (by simpa using a2), Option.bind_some, if_neg (by simp), decide_eq_false (by omega)]; rfl

theorem ord_is {K : Nat} {l : List El} (hl : l.length ≤ 1000000000) (hK : l.length < K) : delta_Ordered_r K l = some (ordL none l) := by
  unfold delta_Ordered_r
  cases l with
  | nil =>
    obtain ⟨k, rfl⟩ : ∃ m, K = m + 1 := ⟨K - 1, by simp at hK; omega⟩
    rw [delta_Ordered_r.l0, if_neg (by simp)]; rfl
  | cons c r =>
    have h := ord_loop (K := K) hl r 1 K rfl (by simp at hK; omega) (by omega)
    rw [show ((1 : Nat) : Int) = 1 from rfl] at h
    rw [h]; rfl

theorem val_loop {K : Nat} {l : List El} (hl : l.length ≤ 1000000000) (ht : ∀ x ∈ l, x.2.2.size + 10 ≤ K ∧ x.2.2.size ≤ 1000000000000) : ∀ (rest : List El) (j k : Nat), l.drop j = rest → rest.length < k →
    delta_check_gr.l1 K l k (j : Int) = some (if valL rest = true then .inr () else .inl 12)
  | [], j, k, hd, hk => by
    obtain ⟨k, rfl⟩ : ∃ m, k = m + 1 := ⟨k - 1, by simp at hk; omega⟩
    have := drop_nil hd
    rw [delta_check_gr.l1, if_neg (by simp; omega)]
    rfl
  | c :: rest, j, k, hd, hk => by
    obtain ⟨k, rfl⟩ : ∃ m, k = m + 1 := ⟨k - 1, by simp at hk; omega⟩
    obtain ⟨hj, hgd, hd'⟩ := drop_cons hd el0
    have hk' : rest.length < k := by simp at hk; omega
    have hw : IntKind.wrap .i64 ((j : Int) + 1) = ((j + 1 : Nat) : Int) := by rw [w64 (by omega) (by omega)]; omega
    have hc : c ∈ l := by rw [← hgd]; simp [List.getD, hj]
    have hcs := ht c hc
    rw [delta_check_gr.l1]
    simp only [Int.toNat_natCast, hgd, hw]
    rw [if_pos (by simpa using hj), if_pos ⟨by omega, by omega⟩, uvalid_is (by omega) (by omega), Option.bind_some, val_loop hl ht rest (j + 1) k hd' hk', show valL (c :: rest) = (uvalid c.2.2 && valL rest) from rfl]
    cases uvalid c.2.2 <;> simp

theorem lng_loop {K : Nat} {l : List El} (hl : l.length ≤ 1000000000) : ∀ (rest : List El) (j k : Nat) (left : Int), l.drop j = rest → rest.length < k → 0 ≤ left → left ≤ 1000000000000 →
    delta_long_gr.l1 K l k left (j : Int) = some (lngL left rest)
  | [], j, k, left, hd, hk, h0, h1 => by
    obtain ⟨k, rfl⟩ : ∃ m, k = m + 1 := ⟨k - 1, by simp at hk; omega⟩
    have := drop_nil hd
    rw [delta_long_gr.l1, if_neg (by simp; omega)]
    rfl
  | c :: rest, j, k, left, hd, hk, h0, h1 => by
    obtain ⟨k, rfl⟩ : ∃ m, k = m + 1 := ⟨k - 1, by simp at hk; omega⟩
    obtain ⟨hj, hgd, hd'⟩ := drop_cons hd el0
    have hk' : rest.length < k := by simp at hk; omega
    have hw : IntKind.wrap .i64 ((j : Int) + 1) = ((j + 1 : Nat) : Int) := by rw [w64 (by omega) (by omega)]; omega
    rw [delta_long_gr.l1]
    simp only [Int.toNat_natCast, hgd, hw]
    rw [if_pos (by simpa using hj), if_pos ⟨by omega, by omega⟩, lngL]
    by_cases h : c.2.2.size > left
    · rw [if_pos (by simpa using h), if_pos h]
    · rw [if_neg (by simpa using h), if_neg h, w64 (by omega) (by omega), lng_loop hl rest (j + 1) k _ hd' hk' (by omega) (by omega)]

theorem gap_loop {K : Nat} {l : List El} (hl : l.length ≤ 1000000) (hr : rngL 20000 l = true) : ∀ (rest : List El) (j k : Nat) (left : Int), l.drop j = rest → rest.length < k → j ≤ l.length → 0 ≤ left → left ≤ 20000 + 20000 * j →
    delta_long_gr.l0 K l k left (j : Int) = some (left + sumK rest) ∧ 0 ≤ left + sumK rest ∧ left + sumK rest ≤ 20000 + 20000 * l.length
  | [], j, k, left, hd, hk, hj, h0, h1 => by
    obtain ⟨k, rfl⟩ : ∃ m, k = m + 1 := ⟨k - 1, by simp at hk; omega⟩
    have := drop_nil hd
    rw [delta_long_gr.l0, if_neg (by simp; omega)]
    simp only [sumK, Int.add_zero]
    exact ⟨trivial, h0, by omega⟩
  | c :: rest, j, k, left, hd, hk, hjl, h0, h1 => by
    obtain ⟨k, rfl⟩ : ∃ m, k = m + 1 := ⟨k - 1, by simp at hk; omega⟩
    obtain ⟨hj, hgd, hd'⟩ := drop_cons hd el0
    have hk' : rest.length < k := by simp at hk; omega
    have hw : IntKind.wrap .i64 ((j : Int) + 1) = ((j + 1 : Nat) : Int) := by rw [w64 (by omega) (by omega)]; omega
    have hc : c ∈ l := by rw [← hgd]; simp [List.getD, hj]
    have hcr := of_decide_eq_true (List.all_eq_true.1 hr c hc)
    rw [delta_long_gr.l0]
    simp only [Int.toNat_natCast, hgd, hw]
    rw [if_pos (by simpa using hj), if_pos ⟨by omega, by omega⟩, w64 (n := c.2.1 - c.1) (by omega) (by omega), w64 (n := left + (c.2.1 - c.1)) (by omega) (by omega)]
    obtain ⟨e1, e2, e3⟩ := gap_loop (K := K) hl hr rest (j + 1) k (left + (c.2.1 - c.1)) hd' hk' (by omega) (by omega) (by omega)
    simp only [sumK]
    rw [e1]
    exact ⟨by congr 1; omega, by omega, by omega⟩

theorem rngL_mono {b c : Int} (h : b ≤ c) {l : List El} (hr : rngL b l = true) : rngL c l = true := by
  unfold rngL at *
  rw [List.all_eq_true] at *
  intro x hx
  have := of_decide_eq_true (hr x hx)
  exact decide_eq_true (by omega)

/-- The first error of changes, by kind. -/
def chk (base : Int) (l : List El) : Int :=
  if base < 0 ∨ base > 20000 then 10 else if rngL base l = false then 10 else if ordL none l = false then 180 else if valL l = false then 12 else lngL (20000 - base + sumK l) l

theorem check_is {K : Nat} {l : List El} {base : Int} (hl : l.length ≤ 1000000) (hK : l.length < K) (ht : ∀ x ∈ l, x.2.2.size + 10 ≤ K ∧ x.2.2.size ≤ 1000000000000) : delta_check_gr K base l = some (chk base l) := by
  unfold delta_check_gr chk
  by_cases h1 : base < 0
  · rw [if_pos (by simpa using h1), Option.bind_some, if_pos rfl, if_pos (.inl h1)]
  · rw [if_neg (by simpa using h1), Option.bind_some]
    by_cases h2 : base > 20000
    · rw [if_pos (by simpa using h2), if_pos (.inr h2)]
    · rw [if_neg (by simpa using h2), if_neg (by omega)]
      have e0 := rng_loop (K := K) (base := base) (l := l) (by omega) l 0 K rfl (by omega)
      rw [Int.natCast_zero] at e0
      rw [e0, Option.bind_some]
      cases hr : rngL base l with
      | false => simp
      | true =>
        simp only [if_true, Sum.elim_inr, Bool.true_eq_false, if_false]
        rw [ord_is (by omega) hK, Option.bind_some]
        cases ho : ordL none l with
        | false => simp
        | true =>
          have e1 := val_loop (K := K) (l := l) (by omega) ht l 0 K rfl (by omega)
          rw [Int.natCast_zero] at e1
          rw [if_neg (by simp), e1, Option.bind_some]
          cases hv : valL l with
          | false => simp
          | true =>
            simp only [if_true, Sum.elim_inr, Bool.true_eq_false, if_false]
            unfold delta_long_gr
            obtain ⟨e2, e3, e4⟩ := gap_loop (K := K) (l := l) hl (rngL_mono (by omega) hr) l 0 K (20000 - base) rfl (by omega) (by omega) (by omega) (by omega)
            have e5 := lng_loop (K := K) (l := l) (by omega) l 0 K (20000 - base + sumK l) rfl (by omega) (by omega) (by omega)
            rw [Int.natCast_zero] at e2 e5
            rw [w64 (n := 20000 - base) (by omega) (by omega), e2, Option.bind_some, e5]
            rfl

/-- What is built. -/
def bldD (base : Int) (l : List El) : Int × (List El × Int) :=
  if chk base l ≠ 0 then (0, ([], chk base l)) else if (mkCopy (bld [] 0 l).1 (bld [] 0 l).2 base).length > 60 then (0, ([], 70)) else (base, (mkCopy (bld [] 0 l).1 (bld [] 0 l).2 base, 0))

theorem build_is {K : Nat} {l : List El} {base : Int} (hl : l.length ≤ 1000000) (hK : l.length < K) (ht : ∀ x ∈ l, x.2.2.size + 10 ≤ K ∧ x.2.2.size ≤ 1000000000000) : delta_Build_gr K base l = some (bldD base l) := by
  unfold delta_Build_gr bldD
  rw [check_is hl hK ht, Option.bind_some]
  by_cases h : chk base l = 0
  · have hs : sumT l ≤ 1000000000000 * l.length := by
      have : ∀ (r : List El), (∀ x ∈ r, x.2.2.size ≤ 1000000000000) → sumT r ≤ 1000000000000 * r.length := by
        intro r
        induction r with
        | nil => intro _; simp [sumT]
        | cons x r ih =>
          intro hx
          have h1 := hx x (by simp)
          have h2 := ih fun y hy => hx y (by simp [hy])
          simp only [sumT, List.length_cons]; omega
      exact this l fun x hx => (ht x hx).2
    have e := build_loop (K := K) (l := l) (base := base) l 0 K [] 0 rfl hK hl (by simp) (by simp only [sumT]; omega)
    rw [Int.natCast_zero] at e
    have hbl := bld_len (l := l) (acc := []) (a := 0)
    simp only [List.length_nil] at hbl
    rw [if_neg (by simpa using h), if_neg (by simpa using h)]
    unfold delta_NewMaker
    rw [Option.bind_some, e, Option.bind_some, copy_is (by omega), Option.bind_some]
    unfold delta_Maker_Delta_b_ee1c6
    by_cases h6 : (mkCopy (bld [] 0 l).1 (bld [] 0 l).2 base).length > 60
    · rw [if_pos (by simp; omega), if_pos h6]; rfl
    · rw [if_neg (by simp; omega), if_neg h6]; rfl
  · rw [if_pos (by simpa using h), if_pos h]

theorem keep_is {K : Nat} {base : Int} : delta_Keep K base = some (max 0 (min base 20000), mkCopy [] 0 (max 0 (min base 20000))) := by
  unfold delta_Keep delta_NewMaker
  rw [mn2_eq, mx2_eq, Option.bind_some, copy0_is, Option.bind_some, show min (max base 0) 20000 = max 0 (min base 20000) by omega]

/-- An element of a delta. -/
def okE (base : Int) (x : El) : Prop := 0 ≤ x.1 ∧ x.1 ≤ x.2.1 ∧ x.2.1 ≤ base ∧ (x.2.2.size = 0 ∨ x.1 = 0 ∧ x.2.1 = 0)

theorem isL_ok {base : Int} (hb : 0 ≤ base) : ∀ {l : List El} {size to : Int} {pre : Option Bool}, isL base size to pre l = true → 0 ≤ to → size ≤ 20000 → (∀ x ∈ l, okE base x) ∧ size + sumK l + sumT l ≤ 20000
  | [], size, to, pre, h, h0, h1 => ⟨by simp, by simp [sumK, sumT]; omega⟩
  | x :: r, size, to, pre, h, h0, h1 => by
    rw [isL] at h
    split at h
    · rename_i hz
      rw [Bool.and_eq_true, decide_eq_true_eq] at h
      obtain ⟨⟨c1, c2, c3, c4, c5⟩, hr⟩ := h
      obtain ⟨e1, e2⟩ := isL_ok hb hr (by omega) c5
      refine ⟨fun y hy => ?_, by simp only [sumK, sumT, hz]; omega⟩
      rcases List.mem_cons.1 hy with rfl | hy
      · exact ⟨by omega, by omega, c4, .inl hz⟩
      · exact e1 y hy
    · rw [Bool.and_eq_true, Bool.and_eq_true, decide_eq_true_eq] at h
      obtain ⟨⟨⟨c1, c2, c3, c4⟩, hv⟩, hr⟩ := h
      obtain ⟨e1, e2⟩ := isL_ok hb hr h0 c4
      refine ⟨fun y hy => ?_, by simp only [sumK, sumT]; omega⟩
      rcases List.mem_cons.1 hy with rfl | hy
      · exact ⟨by omega, by omega, by omega, .inr ⟨c1, c2⟩⟩
      · exact e1 y hy

theorem isD_ok {base : Int} {l : List El} (h : isD base l = true) : 0 ≤ base ∧ base ≤ 20000 ∧ l.length ≤ 60 ∧ (∀ x ∈ l, okE base x) ∧ sumK l + sumT l ≤ 20000 := by
  unfold isD at h
  rw [Bool.and_eq_true, decide_eq_true_eq] at h
  obtain ⟨⟨h1, h2, h3⟩, h4⟩ := h
  obtain ⟨e1, e2⟩ := isL_ok h1 h4 (by omega) (by omega)
  exact ⟨h1, h2, h3, e1, by omega⟩

theorem sumK_nonneg {base : Int} : ∀ {l : List El}, (∀ x ∈ l, okE base x) → 0 ≤ sumK l
  | [], _ => by simp [sumK]
  | x :: r, h => by
    have h1 := h x (by simp)
    have h2 := sumK_nonneg (l := r) fun y hy => h y (by simp [hy])
    have := h1.2.1
    simp only [sumK]; omega

theorem sums_loop11 {K : Nat} {d : List El} {base : Int} (hb : base ≤ 20000) (hl : d.length ≤ 1000) : ∀ (rest : List El) (j k : Nat) (kept put : Int), d.drop j = rest → rest.length < k → (∀ x ∈ rest, okE base x) → 0 ≤ kept → 0 ≤ put → kept + sumK rest ≤ 1000000 → put + sumT rest ≤ 1000000 →
    delta_sums.l0 K d k kept put (j : Int) = some (kept + sumK rest, put + sumT rest)
  | [], j, k, kept, put, hd, hk, hx, h0, h1, h2, h3 => by
    obtain ⟨k, rfl⟩ : ∃ m, k = m + 1 := ⟨k - 1, by simp at hk; omega⟩
    have := drop_nil hd
    rw [delta_sums.l0, if_neg (by simp; omega)]
    simp [sumK, sumT]
  | x :: rest, j, k, kept, put, hd, hk, hx, h0, h1, h2, h3 => by
    obtain ⟨k, rfl⟩ : ∃ m, k = m + 1 := ⟨k - 1, by simp at hk; omega⟩
    obtain ⟨hj, hgd, hd'⟩ := drop_cons hd el0
    have hk' : rest.length < k := by simp at hk; omega
    have hw : IntKind.wrap .i64 ((j : Int) + 1) = ((j + 1 : Nat) : Int) := by rw [w64 (by omega) (by omega)]; omega
    obtain ⟨o1, o2, o3, o4⟩ := hx x (by simp)
    have hr : ∀ y ∈ rest, okE base y := fun y hy => hx y (by simp [hy])
    have hn := sumK_nonneg hr
    simp only [sumK, sumT] at h2 h3
    rw [delta_sums.l0]
    simp only [Int.toNat_natCast, hgd, hw]
    rw [if_pos (by simpa using hj), if_pos ⟨by omega, by omega⟩, w64 (n := x.2.1 - x.1) (by omega) (by omega), w64 (n := kept + (x.2.1 - x.1)) (by omega) (by omega), w64 (n := put + (x.2.2.size : Int)) (by omega) (by omega),
      sums_loop11 hb hl rest (j + 1) k _ _ hd' hk' hr (by omega) (by omega) (by omega) (by omega)]
    simp only [sumK, sumT]
    congr 2 <;> omega

theorem sums_is {K : Nat} {d : List El} {base : Int} (hK : 30000 ≤ K) : delta_sums K base d = some (if isD base d = true then (sumK d, (sumT d : Int)) else (0, 0)) := by
  unfold delta_sums
  rw [is_is hK, Option.bind_some]
  cases h : isD base d with
  | false => simp
  | true =>
    obtain ⟨h1, h2, h3, h4, h5⟩ := isD_ok h
    have hn := sumK_nonneg h4
    have e := sums_loop11 (K := K) h2 (by omega) d 0 K 0 0 rfl (by omega) h4 (by omega) (by omega) (by omega) (by omega)
    rw [Int.natCast_zero] at e
    rw [if_neg (by simp), e]
    simp

theorem dsize_is {K : Nat} {d : List El} {base : Int} (hK : 30000 ≤ K) : delta_Size K base d = some (if isD base d = true then sumK d + sumT d else 0) := by
  unfold delta_Size
  rw [sums_is hK, Option.bind_some]
  by_cases h : isD base d = true
  · obtain ⟨h1, h2, h3, h4, h5⟩ := isD_ok h
    have hn := sumK_nonneg h4
    rw [if_pos h, if_pos h, w64 (by simp only; omega) (by simp only; omega)]
  · rw [if_neg h, if_neg h]; rfl

theorem adds_is {K : Nat} {d : List El} {base : Int} (hK : 30000 ≤ K) : delta_Adds K base d = some (if isD base d = true then (sumT d : Int) else 0) := by
  unfold delta_Adds
  rw [sums_is hK, Option.bind_some]
  by_cases h : isD base d = true
  · rw [if_pos h, if_pos h]
  · rw [if_neg h, if_neg h]

theorem drops_is {K : Nat} {d : List El} {base : Int} (hK : 30000 ≤ K) : delta_Drops K base d = some (if isD base d = true then base - sumK d else 0) := by
  unfold delta_Drops
  rw [is_is hK, Option.bind_some]
  by_cases h : isD base d = true
  · obtain ⟨h1, h2, h3, h4, h5⟩ := isD_ok h
    have hn := sumK_nonneg h4
    rw [h, if_neg (by simp), if_pos rfl, sums_is hK, if_pos h, Option.bind_some, w64 (by simp only; omega) (by simp only; omega)]
  · rw [if_pos (by simpa using h), if_neg h]

/-- What elements make of a text's bytes. -/
def apS (s : List Int) : List El → List Int
  | [] => []
  | x :: r => ((s.drop x.1.toNat).take (x.2.1 - x.1).toNat ++ txt x.2.2) ++ apS s r

theorem apply_loop {K : Nat} {d : List El} {s : ByteArray} (hs : s.size ≤ 20000) (hl : d.length ≤ 1000) : ∀ (rest : List El) (j k : Nat) (out W : List Int) (n : Nat), d.drop j = rest → rest.length < k → (∀ x ∈ rest, okE s.size x) → out.take n = W → (n : Int) + sumK rest + sumT rest = out.length → out.length ≤ 1000000 →
    delta_Apply.l0 K d s k out (n : Int) (j : Int) = some (ofBytes (W ++ apS (txt s) rest), 0)
  | [], j, k, out, W, n, hd, hk, hx, hW, hn, ho => by
    obtain ⟨k, rfl⟩ : ∃ m, k = m + 1 := ⟨k - 1, by simp at hk; omega⟩
    have := drop_nil hd
    simp only [sumK, sumT] at hn
    rw [delta_Apply.l0, if_neg (by simp; omega), ← hW, List.take_of_length_le (by omega)]
    simp [apS]
  | x :: rest, j, k, out, W, n, hd, hk, hx, hW, hn, ho => by
    obtain ⟨k, rfl⟩ : ∃ m, k = m + 1 := ⟨k - 1, by simp at hk; omega⟩
    obtain ⟨hj, hgd, hd'⟩ := drop_cons hd el0
    have hk' : rest.length < k := by simp at hk; omega
    have hw : IntKind.wrap .i64 ((j : Int) + 1) = ((j + 1 : Nat) : Int) := by rw [w64 (by omega) (by omega)]; omega
    obtain ⟨o1, o2, o3, o4⟩ := hx x (by simp)
    have hr : ∀ y ∈ rest, okE s.size y := fun y hy => hx y (by simp [hy])
    have hnn := sumK_nonneg hr
    simp only [sumK, sumT] at hn
    have htl := txt_len (s := s)
    have ht2 := txt_len (s := x.2.2)
    obtain ⟨f, hf⟩ : ∃ f : Nat, x.1 = f := ⟨x.1.toNat, by omega⟩
    obtain ⟨m, hm⟩ : ∃ m : Nat, x.2.1 - x.1 = m := ⟨(x.2.1 - x.1).toNat, by omega⟩
    have hft : x.2.1 = ((f + m : Nat) : Int) := by omega
    have hq : List.map (fun b => (UInt8.toNat b : Int)) (Array.toList (ByteArray.data (ByteArray.extract s f (f + m)))) = ((txt s).drop f).take m := by
      have := txt_extract (s := s) (i := f) (j := f + m)
      rw [show f + m - f = m by omega] at this
      exact this
    have hql : (((txt s).drop f).take m).length = m := by simp; omega
    have htk : List.take (out.length - n) (((txt s).drop f).take m) = ((txt s).drop f).take m := List.take_of_length_le (by omega)
    have hp1 := putAt_len (out := out) (l := ((txt s).drop f).take m) (n := n) (by omega)
    have hwn : IntKind.wrap .i64 ((n : Int) + (m : Int)) = ((n + m : Nat) : Int) := by rw [w64 (by omega) (by omega)]; omega
    have htt : List.map (fun b => (UInt8.toNat b : Int)) (Array.toList (ByteArray.data x.2.2)) = txt x.2.2 := rfl
    have htk2 : List.take (out.length - (n + m)) (txt x.2.2) = txt x.2.2 := List.take_of_length_le (by omega)
    have hwn2 : IntKind.wrap .i64 (((n + m : Nat) : Int) + (x.2.2.size : Int)) = ((n + m + x.2.2.size : Nat) : Int) := by rw [w64 (by omega) (by omega)]; omega
    have t1 := putAt_take (out := out) (l := ((txt s).drop f).take m) (n := n) (by omega)
    rw [hql] at t1
    have t2 := putAt_take (out := putAt out (((txt s).drop f).take m) n) (l := txt x.2.2) (n := n + m) (by omega)
    rw [t1, ht2, hW] at t2
    have hp2 := putAt_len (out := putAt out (((txt s).drop f).take m) n) (l := txt x.2.2) (n := n + m) (by omega)
    rw [delta_Apply.l0]
    simp only [Int.toNat_natCast, hgd, hw, hf, hft, hq, htk, hql, hwn, hp1, htt, htk2, ht2, hwn2]
    rw [if_pos (by simpa using hj), if_pos ⟨by omega, by omega⟩, if_pos ⟨by omega, by omega, by omega, by omega, by omega⟩, if_pos ⟨by omega, by omega⟩,
      apply_loop hs hl rest (j + 1) k _ _ (n + m + x.2.2.size) hd' hk' hr t2 (by rw [hp2, hp1]; omega) (by omega), apS, hf, hft, show (((f + m : Nat) : Int) - (f : Int)).toNat = m by omega, Int.toNat_natCast]
    simp only [List.append_assoc]

theorem dapply_is {K : Nat} {d : List El} {base : Int} {s : ByteArray} (hK : 30000 ≤ K) (hsz : s.size ≤ 1000000000000) : delta_Apply K base d s = some (if isD base d = true then (if (s.size : Int) = base then (ofBytes (apS (txt s) d), 0) else (⟨#[]⟩, 80)) else (⟨#[]⟩, 12)) := by
  unfold delta_Apply
  rw [is_is hK, Option.bind_some]
  by_cases h : isD base d = true
  · obtain ⟨h1, h2, h3, h4, h5⟩ := isD_ok h
    have hn := sumK_nonneg h4
    rw [h, if_neg (by simp), if_pos rfl]
    by_cases hs : (s.size : Int) = base
    · subst hs
      rw [if_neg (by simp), if_pos rfl, dsize_is hK, if_pos h, Option.bind_some, if_pos ⟨by omega, by omega, by omega, by omega⟩]
      have e := apply_loop (K := K) (d := d) (s := s) (by omega) (by omega) d 0 K (List.replicate (sumK d + sumT d).toNat 0) [] 0 rfl (by omega) h4 rfl (by simp; omega) (by simp; omega)
      rw [Int.natCast_zero] at e
      rw [e]; rfl
    · rw [if_pos (by simpa using hs), if_neg hs]
  · rw [if_pos (by simpa using h), if_neg h]

theorem el_beq {a b : El} : ((a.1 == b.1) && ((a.2.1 == b.2.1) && (ByteArray.toList a.2.2 == ByteArray.toList b.2.2))) = decide (a = b) := by
  rw [str_beq]
  obtain ⟨a1, a2, a3⟩ := a
  obtain ⟨b1, b2, b3⟩ := b
  by_cases h1 : a1 = b1 <;> by_cases h2 : a2 = b2 <;> by_cases h3 : a3 = b3 <;> simp [h1, h2, h3]

theorem dequal_loop {K : Nat} {a b : List El} (hl : a.length = b.length) (hs : a.length < 1000000000000) : ∀ (d j k : Nat), j + d = a.length → d < k →
    slices_Equal.l0 K a b k (j : Int) = some (decide (a.drop j = b.drop j)) := by
  intro d
  induction d with
  | zero =>
    intro j k hj hk
    obtain ⟨k, rfl⟩ : ∃ m, k = m + 1 := ⟨k - 1, by omega⟩
    rw [slices_Equal.l0, if_neg (by simp; omega), List.drop_eq_nil_of_le (by omega), List.drop_eq_nil_of_le (by omega)]
    simp
  | succ d ih =>
    intro j k hj hk
    obtain ⟨k, rfl⟩ : ∃ m, k = m + 1 := ⟨k - 1, by omega⟩
    have hw : IntKind.wrap .i64 ((j : Int) + 1) = ((j + 1 : Nat) : Int) := by rw [w64 (by omega) (by omega)]; omega
    have ha : j < a.length := by omega
    have hb : j < b.length := by omega
    have ga : a.getD j el0 = a[j] := by simp [List.getD, ha]
    have gb : b.getD j el0 = b[j] := by simp [List.getD, hb]
    rw [slices_Equal.l0, if_pos (by simp; omega), if_pos ⟨by omega, by omega, by omega⟩]
    simp only [Int.toNat_natCast, hw, ga, gb, el_beq]
    rw [ih (j + 1) k (by omega) (by omega), List.drop_eq_getElem_cons ha, List.drop_eq_getElem_cons hb]
    by_cases h : a[j] = b[j]
    · rw [if_neg (by simp [h])]
      congr 1
      rw [decide_eq_decide, h]
      exact ⟨fun e => by rw [e], fun e => (List.cons.inj e).2⟩
    · rw [if_pos (by simpa using h)]
      congr 1
      symm
      rw [decide_eq_false_iff_not]
      exact fun h' => h (List.cons.inj h').1

theorem dsame_is {K : Nat} {a b : List El} {p q : Int} (hs : a.length < 1000000000000) (hb : b.length < 1000000000000) (hK : a.length < K) : delta_Same K p a q b = some (decide (p = q ∧ a = b)) := by
  unfold delta_Same slices_Equal
  by_cases h : p = q
  · rw [if_pos (by simpa using h)]
    by_cases hl : a.length = b.length
    · have e := dequal_loop (K := K) hl hs a.length 0 K (by omega) hK
      rw [Int.natCast_zero] at e
      rw [if_neg (by simp; omega), e]
      simp [h]
    · rw [if_pos (by simp; omega)]
      have : a ≠ b := fun e => hl (by rw [e])
      simp [this]
  · rw [if_neg (by simpa using h)]
    simp [h]

theorem known11 {K : Nat} (hK : 30000 ≤ K) : palinodelaw11_known K = some true := by
  have b1 : bldD 3 [((1 : Int), ((2 : Int), (ByteArray.mk #[120])))] = (3, ([(0, (1, ByteArray.empty)), (0, (0, ByteArray.mk #[120])), (2, (3, ByteArray.empty))], 0)) := by decide +kernel
  have b2 : bldD 3 [((2 : Int), ((3 : Int), ByteArray.empty)), ((1 : Int), ((2 : Int), ByteArray.empty))] = (0, ([], 180)) := by decide +kernel
  have e1 : delta_Build_gr K 3 [((1 : Int), ((2 : Int), (ByteArray.mk #[120])))] = some (3, ([(0, (1, ByteArray.empty)), (0, (0, ByteArray.mk #[120])), (2, (3, ByteArray.empty))], 0)) := by
    rw [build_is (by simp) (by simp; omega) (by intro x hx; simp only [List.mem_singleton] at hx; subst hx; show 1 + 10 ≤ K ∧ 1 ≤ 1000000000000; omega), b1]
  have e2 : delta_Build_gr K 3 [((2 : Int), ((3 : Int), ByteArray.empty)), ((1 : Int), ((2 : Int), ByteArray.empty))] = some (0, ([], 180)) := by
    rw [build_is (by simp) (by simp; omega) (by
      intro x hx
      simp only [List.mem_cons, List.not_mem_nil, or_false] at hx
      rcases hx with rfl | rfl <;> (show 0 + 10 ≤ K ∧ 0 ≤ 1000000000000; omega)), b2]
  have d1 : isD 3 [(0, (1, ByteArray.empty)), (0, (0, ByteArray.mk #[120])), (2, (3, ByteArray.empty))] = true := by decide +kernel
  have a1 : ofBytes (apS (txt (ByteArray.mk #[97, 98, 99])) [(0, (1, ByteArray.empty)), (0, (0, ByteArray.mk #[120])), (2, (3, ByteArray.empty))]) = ByteArray.mk #[97, 120, 99] := by decide +kernel
  unfold palinodelaw11_known
  rw [e1, Option.bind_some]
  simp only [dapply_is (K := K) (s := ByteArray.mk #[97, 98, 99]) hK (by show 3 ≤ _; omega), dapply_is (K := K) (s := ByteArray.mk #[97, 98]) hK (by show 2 ≤ _; omega), d1, if_true, a1, Option.bind_some, e2, is_is hK, dsize_is hK, adds_is hK, drops_is hK, keep_is,
    dsame_is (K := K) (a := [(0, (1, ByteArray.empty)), (0, (0, ByteArray.mk #[120])), (2, (3, ByteArray.empty))]) (b := [(0, (1, ByteArray.empty)), (0, (0, ByteArray.mk #[120])), (2, (3, ByteArray.empty))]) (p := 3) (q := 3) (by simp) (by simp) (by simp; omega), str_beq]
  decide +kernel

abbrev Ce := Int × Int

theorem txt_app {a b : ByteArray} : txt (a ++ b) = txt a ++ txt b := by
  unfold txt
  rw [ByteArray.data_append]
  simp

theorem bt_left {a b : ByteArray} {i : Nat} (h : i < a.size) : bt (a ++ b) (i : Int) = bt a (i : Int) := by
  have h1 : i < (txt a).length := by rw [txt_len]; exact h
  have h2 : i < (txt (a ++ b)).length := by rw [txt_len, bsize_app]; omega
  rw [bt_is h1, bt_is h2]
  have : ∀ (l : List Int) (hl : i < l.length), l = txt a ++ txt b → l[i] = (txt a)[i] := by
    intro l hl e; subst e; rw [List.getElem_append_left]
  exact this _ h2 txt_app

theorem bt_right {a b : ByteArray} {i : Nat} : bt (a ++ b) ((a.size + i : Nat) : Int) = bt b (i : Int) := by
  by_cases h : i < b.size
  · have h1 : i < (txt b).length := by rw [txt_len]; exact h
    have h2 : a.size + i < (txt (a ++ b)).length := by rw [txt_len, bsize_app]; omega
    rw [bt_is h1, bt_is h2]
    have : ∀ (l : List Int) (hl : a.size + i < l.length), l = txt a ++ txt b → l[a.size + i] = (txt b)[i] := by
      intro l hl e
      subst e
      rw [List.getElem_append_right (by rw [txt_len]; omega)]
      congr 1
      rw [txt_len]; omega
    exact this _ h2 txt_app
  · have h1 : ¬ i < b.size := h
    have h2 : ¬ a.size + i < (a ++ b).size := by rw [bsize_app]; omega
    unfold bt
    rw [Int.toNat_natCast, Int.toNat_natCast]
    simp [h1, h2]

theorem uszB_mono {n n' c d e f d' e' f' : Int} (hn : n ≤ n') (hd : 2 ≤ n → d' = d) (he : 3 ≤ n → e' = e) (hf : 4 ≤ n → f' = f) (h : uszB n c d e f ≠ 0) : uszB n' c d' e' f' = uszB n c d e f := by
  unfold uszB at *
  split
  · rfl
  · rename_i h1
    rw [if_neg h1] at h
    split
    · rename_i h2
      rw [if_pos h2] at h
      by_cases c2 : 2 ≤ n ∧ cont d ∧ 128 ≤ c % 32 * 64 + d % 64
      · rw [hd c2.1, if_pos c2, if_pos ⟨by omega, c2.2⟩]
      · rw [if_neg c2] at h; exact absurd rfl h
    · rename_i h2
      rw [if_neg h2] at h
      split
      · rename_i h3
        rw [if_pos h3] at h
        by_cases c3 : 3 ≤ n ∧ cont d ∧ cont e ∧ 2048 ≤ (c % 16 * 64 + d % 64) * 64 + e % 64 ∧ ¬ (55296 ≤ (c % 16 * 64 + d % 64) * 64 + e % 64 ∧ (c % 16 * 64 + d % 64) * 64 + e % 64 < 57344)
        · rw [hd (by omega), he c3.1, if_pos c3, if_pos ⟨by omega, c3.2⟩]
        · rw [if_neg c3] at h; exact absurd rfl h
      · rename_i h3
        rw [if_neg h3] at h
        split
        · rename_i h4
          rw [if_pos h4] at h
          by_cases c4 : 4 ≤ n ∧ cont d ∧ cont e ∧ cont f ∧ 65536 ≤ ((c % 8 * 64 + d % 64) * 64 + e % 64) * 64 + f % 64 ∧ ((c % 8 * 64 + d % 64) * 64 + e % 64) * 64 + f % 64 ≤ 1114111
          · rw [hd (by omega), he (by omega), hf c4.1, if_pos c4, if_pos ⟨by omega, c4.2⟩]
          · rw [if_neg c4] at h; exact absurd rfl h
        · first
          | rfl
          | (rename_i h4
             rw [if_neg h4] at h
             exact absurd rfl h)

theorem usz_left {a b : ByteArray} {i : Nat} (h : usz a (i : Int) ≠ 0) : usz (a ++ b) (i : Int) = usz a (i : Int) := by
  unfold usz at *
  by_cases h1 : (i : Int) < 0 ∨ (i : Int) ≥ a.size
  · rw [if_pos h1] at h; exact absurd rfl h
  · have hb := bsize_app (a := a) (b := b)
    rw [if_neg h1] at h ⊢
    rw [if_neg (by omega), bt_left (by omega)]
    refine uszB_mono (by omega) (fun hh => ?_) (fun hh => ?_) (fun hh => ?_) h
    · have e : (i : Int) + 1 = ((i + 1 : Nat) : Int) := by omega
      rw [e, bt_left (by omega)]
    · have e : (i : Int) + 2 = ((i + 2 : Nat) : Int) := by omega
      rw [e, bt_left (by omega)]
    · have e : (i : Int) + 3 = ((i + 3 : Nat) : Int) := by omega
      rw [e, bt_left (by omega)]

theorem usz_right {a b : ByteArray} {i : Nat} : usz (a ++ b) ((a.size + i : Nat) : Int) = usz b (i : Int) := by
  unfold usz
  have hb := bsize_app (a := a) (b := b)
  by_cases h1 : (i : Int) < 0 ∨ (i : Int) ≥ b.size
  · rw [if_pos h1, if_pos (by omega)]
  · rw [if_neg h1, if_neg (by omega), bt_right]
    have e1 : ((a.size + i : Nat) : Int) + 1 = ((a.size + (i + 1) : Nat) : Int) := by omega
    have e2 : ((a.size + i : Nat) : Int) + 2 = ((a.size + (i + 2) : Nat) : Int) := by omega
    have e3 : ((a.size + i : Nat) : Int) + 3 = ((a.size + (i + 3) : Nat) : Int) := by omega
    rw [e1, e2, e3, bt_right, bt_right, bt_right, show ((a ++ b).size : Int) - ((a.size + i : Nat) : Int) = (b.size : Int) - i by omega]
    rfl

theorem uval_fuel {s : ByteArray} : ∀ (d m m' : Nat) (a : Nat), s.size - a ≤ d → d ≤ m → d ≤ m' → uval s m (a : Int) = uval s m' (a : Int) := by
  intro d
  induction d with
  | zero =>
    intro m m' a h hm hm'
    cases m with
    | zero => cases m' with
      | zero => rfl
      | succ m' => rw [uval, uval, if_neg (by omega)]
    | succ m => cases m' with
      | zero => rw [uval, uval, if_neg (by omega)]
      | succ m' => rw [uval, uval, if_neg (by omega), if_neg (by omega)]
  | succ d ih =>
    intro m m' a h hm hm'
    obtain ⟨m, rfl⟩ : ∃ l, m = l + 1 := ⟨m - 1, by omega⟩
    obtain ⟨m', rfl⟩ : ∃ l, m' = l + 1 := ⟨m' - 1, by omega⟩
    have hu := usz_ok (s := s) (a := a)
    rw [uval, uval]
    split
    · split
      · rfl
      · obtain ⟨n, hn⟩ : ∃ n : Nat, (a : Int) + usz s a = n := ⟨((a : Int) + usz s a).toNat, by omega⟩
        rw [hn]
        exact ih m m' n (by omega) (by omega) (by omega)
    · rfl

theorem uval_app {a b : ByteArray} (hb : uvalid b = true) : ∀ (d i m : Nat), a.size - i = d → i ≤ a.size → d + b.size ≤ m → uval a d (i : Int) = true → uval (a ++ b) m (i : Int) = true := by
  have hsz := bsize_app (a := a) (b := b)
  have right : ∀ (e j m : Nat), b.size - j ≤ e → j ≤ b.size → e ≤ m → uval b e (j : Int) = true → uval (a ++ b) m ((a.size + j : Nat) : Int) = true := by
    intro e
    induction e with
    | zero =>
      intro j m h1 h2 h3 h4
      cases m with
      | zero => rfl
      | succ m => rw [uval, if_neg (by omega)]
    | succ e ih =>
      intro j m h1 h2 h3 h4
      obtain ⟨m, rfl⟩ : ∃ l, m = l + 1 := ⟨m - 1, by omega⟩
      have hu := usz_ok (s := b) (a := j)
      rw [uval] at h4 ⊢
      by_cases hj : (j : Int) < b.size
      · have hu3 := hu.2.2 (by omega) hj
        rw [if_pos hj] at h4
        rw [if_pos (by omega), usz_right]
        by_cases hz : usz b j = 0
        · rw [if_pos hz] at h4; cases h4
        · rw [if_neg hz] at h4 ⊢
          obtain ⟨n, hn⟩ : ∃ n : Nat, usz b j = n := ⟨(usz b j).toNat, by omega⟩
          rw [hn] at h4 hu3 hz ⊢
          have e1 : ((a.size + j : Nat) : Int) + (n : Int) = ((a.size + (j + n) : Nat) : Int) := by omega
          have e2 : (j : Int) + (n : Int) = ((j + n : Nat) : Int) := by omega
          rw [e1]
          rw [e2] at h4
          exact ih (j + n) m (by omega) (by omega) (by omega) h4
      · rw [if_neg (by omega)]
  intro d
  induction d using Nat.strongRecOn with
  | _ d ih =>
    intro i m h1 h2 h3 h4
    by_cases hi : i = a.size
    · subst hi
      have := right b.size 0 m (by omega) (by omega) (by omega) hb
      simpa using this
    · obtain ⟨d, rfl⟩ : ∃ l, d = l + 1 := ⟨d - 1, by omega⟩
      obtain ⟨m, rfl⟩ : ∃ l, m = l + 1 := ⟨m - 1, by omega⟩
      have hu := usz_ok (s := a) (a := i)
      have hu3 := hu.2.2 (by omega) (by omega)
      rw [uval, if_pos (by omega)] at h4
      rw [uval, if_pos (by omega)]
      by_cases hz : usz a i = 0
      · rw [if_pos hz] at h4; cases h4
      · rw [if_neg hz] at h4
        rw [usz_left hz, if_neg hz]
        obtain ⟨n, hn⟩ : ∃ n : Nat, usz a i = n := ⟨(usz a i).toNat, by omega⟩
        rw [hn] at h4 hu3 hz ⊢
        have e2 : (i : Int) + (n : Int) = ((i + n : Nat) : Int) := by omega
        rw [e2] at h4 ⊢
        refine ih (a.size - (i + n)) (by omega) (i + n) m rfl (by omega) (by omega) ?_
        rw [uval_fuel (a.size - (i + n)) (a.size - (i + n)) d (i + n) (by omega) (by omega) (by omega)]
        exact h4

theorem uvalid_app {a b : ByteArray} (ha : uvalid a = true) (hb : uvalid b = true) : uvalid (a ++ b) = true := by
  unfold uvalid
  have h := uval_app hb a.size 0 (a ++ b).size (by omega) (by omega) (by rw [bsize_app]; omega) ha
  exact h

/-- How many at the head are put in. -/
def runT : List Ce → Nat
  | [] => 0
  | c :: r => if c.1 < 0 then runT r + 1 else 0

/-- How many at the head go on from a place. -/
def runC : Int → List Ce → Nat
  | _, [] => 0
  | a, c :: r => if c.1 = a + 1 then runC c.1 r + 1 else 0

/-- Cells, told. -/
def told : Nat → List Ce → List El
  | 0, _ => []
  | _, [] => []
  | m + 1, c :: r =>
    if c.1 < 0 then (0, (0, ofBytes (c.2 :: (r.take (runT r)).map (·.2)))) :: told m (r.drop (runT r))
    else (c.1, (c.1 + runC c.1 r + 1, ByteArray.empty)) :: told m (r.drop (runC c.1 r))

def longL : Nat → Nat → List El
  | _, 0 => []
  | i, d + 1 => (2 * i + 1, (2 * i + 1, ByteArray.mk #[120])) :: longL (i + 1) d

theorem long_loop {K : Nat} {n : Int} {m : Nat} (hm : IntKind.wrap .i64 (Int.tmod n 50) = m) (h5 : m ≤ 50) : ∀ (d i k : Nat) (acc : List El), i + d = m → d < k → acc.length ≤ i → palinodelaw11_DeltaLong.l0 K n k acc (i : Int) = some (acc ++ longL i d) := by
  intro d
  induction d with
  | zero =>
    intro i k acc hi hk ha
    obtain ⟨k, rfl⟩ : ∃ m, k = m + 1 := ⟨k - 1, by omega⟩
    rw [palinodelaw11_DeltaLong.l0, hm, if_neg (by simp; omega)]
    simp [longL]
  | succ d ih =>
    intro i k acc hi hk ha
    obtain ⟨k, rfl⟩ : ∃ m, k = m + 1 := ⟨k - 1, by omega⟩
    have hw : IntKind.wrap .i64 ((i : Int) + 1) = ((i + 1 : Nat) : Int) := by rw [w64 (by omega) (by omega)]; omega
    rw [palinodelaw11_DeltaLong.l0, hm, w64 (n := 2 * (i : Int)) (by omega) (by omega), w64 (n := 2 * (i : Int) + 1) (by omega) (by omega), hw, if_pos (by simp; omega), if_pos (by simp; omega), ih (i + 1) k _ (by omega) (by omega) (by simp; omega)]
    simp [longL]

def longB (m : Nat) : Bool := let r := bldD 200 (longL 0 m)
  if 2 * m + 1 ≤ 60 then decide (r.2.2 = 0) && decide (r.2.1.length = 2 * m + 1) else decide (r.2.2 = 70)

theorem longB_all : ∀ m : Fin 50, longB m.val = true := by decide +kernel

theorem longL_x : ∀ {d i : Nat}, (longL i d).length = d ∧ ∀ x ∈ longL i d, x.2.2.size = 1
  | 0, _ => ⟨rfl, by simp [longL]⟩
  | d + 1, i => by
    obtain ⟨h1, h2⟩ := longL_x (d := d) (i := i + 1)
    refine ⟨by simp [longL, h1], fun x hx => ?_⟩
    rw [longL] at hx
    rcases List.mem_cons.1 hx with rfl | hx
    · rfl
    · exact h2 x hx

theorem uval_low {s : ByteArray} (h : ∀ i : Int, bt s i < 128) : ∀ (m : Nat) (a : Int), 0 ≤ a → uval s m a = true := by
  intro m
  induction m with
  | zero => intro a _; rfl
  | succ m ih =>
    intro a h0
    rw [uval]
    split
    · rename_i ha
      have : usz s a = 1 := by
        unfold usz uszB
        rw [if_neg (by omega), if_pos (h a)]
      rw [this, if_neg (by omega)]
      exact ih _ (by omega)
    · rfl

def zeros (n : Nat) : ByteArray := ofBytes (List.replicate n 0)

theorem zeros_txt {n : Nat} : txt (zeros n) = List.replicate n 0 := by
  unfold zeros ofBytes txt
  simp

theorem zeros_size {n : Nat} : (zeros n).size = n := by rw [← txt_len, zeros_txt]; simp

theorem zeros_valid {n : Nat} : uvalid (zeros n) = true := by
  refine uval_low (fun i => ?_) _ 0 (by omega)
  by_cases h : i.toNat < (txt (zeros n)).length
  · have h2 := h
    rw [zeros_txt, List.length_replicate] at h2
    have e : bt (zeros n) i = bt (zeros n) ((i.toNat : Nat) : Int) := by unfold bt; rw [Int.toNat_natCast]
    rw [e, bt_is h]
    have : ∀ (l : List Int) (hl : i.toNat < l.length), l = List.replicate n 0 → l[i.toNat] = 0 := by
      intro l hl e; subst e; rw [List.getElem_replicate]
    rw [this _ h zeros_txt]
    omega
  · have h2 : ¬ i.toNat < (zeros n).size := by rw [← txt_len]; exact h
    unfold bt
    simp [h2]

theorem valid_xx : uvalid (ByteArray.mk #[120, 120]) = true := by decide +kernel

theorem chk_one {t : ByteArray} (hv : uvalid t = true) : chk 100 [(5, (5, t))] = if (t.size : Int) > 19900 then 13 else 0 := by
  unfold chk
  rw [if_neg (by omega)]
  have r1 : rngL 100 [(5, (5, t))] = true := by simp [rngL]
  have r2 : ordL none [(5, (5, t))] = true := rfl
  have r3 : valL [(5, (5, t))] = true := by simp [valL, hv]
  rw [r1, r2, r3, if_neg (by simp), if_neg (by simp), if_neg (by simp)]
  simp only [lngL, sumK]
  rfl

theorem bld_one {t : ByteArray} (hv : uvalid t = true) : (bldD 100 [(5, (5, t))]).2.2 = if (t.size : Int) > 19900 then 13 else 0 := by
  unfold bldD
  rw [chk_one hv]
  by_cases h : (t.size : Int) > 19900
  · rw [if_pos h, if_pos (by omega)]
  · have l1 := mkCopy_len (l := []) (f := 0) (t := 5)
    have l2 := mkPut_len (l := mkCopy [] 0 5) (s := t)
    have l3 := mkCopy_len (l := mkPut (mkCopy [] 0 5) t) (f := 5) (t := 100)
    simp only [List.length_nil] at l1
    have hb : bld [] 0 [(5, (5, t))] = (mkPut (mkCopy [] 0 5) t, 5) := rfl
    rw [if_neg h, if_neg (by omega), hb]
    simp only
    rw [if_neg (by omega)]

theorem DeltaLong_pure (n m : Int) (on : Kd.ok (.int .u8) n) (om : Kd.ok (.int .u8) m) : ∃ K, palinodelaw11_DeltaLong K n m = some true := by
  refine ⟨200000, ?_⟩
  have hn := tmod_u8 (m := 50) (bounds_u8 on).1 (by omega)
  have hm := tmod_u8 (m := 2) (bounds_u8 om).1 (by omega)
  obtain ⟨k, hk⟩ : ∃ k : Nat, Int.tmod n 50 = k := ⟨(Int.tmod n 50).toNat, by omega⟩
  have hwk : IntKind.wrap .i64 (Int.tmod n 50) = k := by rw [w64 (by omega) (by omega)]; exact hk
  have hl := long_loop (K := 200000) hwk (by omega) k 0 200000 [] (by omega) (by omega) (by simp)
  rw [Int.natCast_zero, List.nil_append] at hl
  obtain ⟨x1, x2⟩ := longL_x (i := 0) (d := k)
  have hall := longB_all ⟨k, by omega⟩
  unfold longB at hall
  unfold palinodelaw11_DeltaLong
  rw [known11 (by omega), Option.bind_some, if_neg (by simp), hl, Option.bind_some, build_is (by omega) (by omega) (fun x hx => by have := x2 x hx; omega), Option.bind_some]
  rw [w64 (n := Int.tmod m 2) (by omega) (by omega), w64 (n := 19900 - Int.tmod m 2) (by omega) (by omega), hwk, w64 (n := 2 * (k : Int)) (by omega) (by omega), w64 (n := 2 * (k : Int) + 1) (by omega) (by omega)]
  obtain ⟨z, hz⟩ : ∃ z : Nat, 19900 - Int.tmod m 2 = z := ⟨(19900 - Int.tmod m 2).toNat, by omega⟩
  rw [hz, Int.toNat_natCast]
  have zs := zeros_size (n := z)
  have zv := zeros_valid (n := z)
  have hxx := uvalid_app zv valid_xx
  have zxs : (zeros z ++ ByteArray.mk #[120, 120]).size = z + 2 := by rw [bsize_app, zs]; rfl
  have b1 := bld_one zv
  have b2 := bld_one hxx
  rw [zs, if_neg (by omega)] at b1
  rw [zxs, if_pos (by omega)] at b2
  rw [show ofBytes (List.replicate z (0 : Int)) = zeros z from rfl]
  rw [if_pos ⟨by omega, by omega, by omega, by omega⟩, build_is (by simp) (by simp) (by
    intro x hx
    simp only [List.mem_singleton] at hx
    subst hx
    show (zeros z).size + 10 ≤ 200000 ∧ (zeros z).size ≤ 1000000000000
    omega), Option.bind_some, build_is (by simp) (by simp) (by
    intro x hx
    simp only [List.mem_singleton] at hx
    subst hx
    show (zeros z ++ ByteArray.mk #[120, 120]).size + 10 ≤ 200000 ∧ (zeros z ++ ByteArray.mk #[120, 120]).size ≤ 1000000000000
    omega), Option.bind_some, if_pos (by rw [zs]; show z + 2 ≤ _; omega), b1, b2, rvalid_is (by omega) (by omega), zv]
  by_cases hf : 2 * k + 1 ≤ 60
  · rw [if_pos hf, Bool.and_eq_true, decide_eq_true_eq, decide_eq_true_eq] at hall
    have hf' : 2 * (k : Int) + 1 ≤ 60 := by omega
    rw [hall.1, hall.2]
    simp [hf']
  · rw [if_neg hf, decide_eq_true_eq] at hall
    have hf' : ¬ 2 * (k : Int) + 1 ≤ 60 := by omega
    rw [hall]
    simp [hf']

end Go.Pal
