/- Whatever regions: what is made lies apart, in order, and has just the bytes that were asked for. -/
import Derived.Test.YtpepjcjcohagaaaFunRegionApart
namespace Go.Pal
open Go
set_option linter.unusedVariables false
set_option linter.unusedSimpArgs false
set_option linter.unnecessarySimpa false
theorem w64 {n : Int} (h1 : -9223372036854775808 ≤ n) (h2 : n < 9223372036854775808) : IntKind.wrap .i64 n = n := by
  simp only [IntKind.wrap, IntKind.bits, IntKind.signed]
  simp
  omega

theorem drop_cons {α : Type} {l : List α} {j : Nat} {g : α} {r : List α} (h : l.drop j = g :: r) (d : α) : j < l.length ∧ l.getD j d = g ∧ l.drop (j + 1) = r := by
  have hj : j < l.length := by
    rcases Nat.lt_or_ge j l.length with h' | h'
    · exact h'
    · rw [List.drop_eq_nil_of_le h'] at h; cases h
  rw [List.drop_eq_getElem_cons hj] at h
  obtain ⟨h1, h2⟩ := List.cons.inj h
  exact ⟨hj, by simp [List.getD, hj, h1], h2⟩

theorem drop_nil {α : Type} {l : List α} {j : Nat} (h : l.drop j = []) : l.length ≤ j := List.drop_eq_nil_iff.1 h

theorem split_last {α : Type} : ∀ {l : List α}, l ≠ [] → ∃ m x, l = m ++ [x] := by
  intro l h
  exact ⟨l.dropLast, l.getLast h, (List.dropLast_concat_getLast h).symm⟩

theorem mx2_eq (a b : Int) : mx2 a b = max a b := by unfold mx2; split <;> omega

theorem mn2_eq (a b : Int) : mn2 a b = min a b := by unfold mn2; split <;> omega

/-- The counts of e, those from f to t told anew. -/
def put (e : List Int) (f t c : Int) : List Int := e.take f.toNat ++ List.replicate (t - f).toNat c ++ e.drop t.toNat

/-- A text's bytes. -/
def txt (s : ByteArray) : List Int := s.data.toList.map fun b => (b.toNat : Int)

theorem txt_len {s : ByteArray} : (txt s).length = s.size := by simp [txt]

theorem ofBytes_txt {s : ByteArray} : ofBytes (txt s) = s := by
  cases s with
  | mk d =>
    unfold ofBytes txt
    rw [List.map_map]
    have : ((fun n : Int => UInt8.ofNat n.toNat) ∘ fun b : UInt8 => (b.toNat : Int)) = id := by
      funext b; simp
    rw [this]; simp

theorem byte_all {P : Int → Prop} (h : ∀ m : Fin 256, P ((m.val : Nat) : Int)) {c : Int} (h0 : 0 ≤ c) (h1 : c ≤ 255) : P c := by
  have := h ⟨c.toNat, by omega⟩
  simpa [Int.toNat_of_nonneg h0] using this

theorem bt_ok {s : ByteArray} {i : Int} : 0 ≤ bt s i ∧ bt s i ≤ 255 := by
  unfold bt
  have := (s[i.toNat]?.getD 0).toNat_lt
  omega

/-- A byte that goes on. -/
def cont (b : Int) : Prop := 128 ≤ b ∧ b < 192

instance (b : Int) : Decidable (cont b) := inferInstanceAs (Decidable (_ ∧ _))

theorem and_192 {b : Int} (h0 : 0 ≤ b) (h1 : b ≤ 255) : (IntKind.wrap .u8 (BitVec.toNat (BitVec.ofInt (IntKind.bits .u8) b &&& BitVec.ofInt (IntKind.bits .u8) (192 : Int))) != (128 : Int)) = !decide (cont b) :=
  byte_all (P := fun b => (IntKind.wrap .u8 (BitVec.toNat (BitVec.ofInt (IntKind.bits .u8) b &&& BitVec.ofInt (IntKind.bits .u8) (192 : Int))) != (128 : Int)) = !decide (cont b)) (by decide +kernel) h0 h1

theorem not_192 {b : Int} (h0 : 0 ≤ b) (h1 : b ≤ 255) : IntKind.wrap .u8 (BitVec.toNat (BitVec.ofInt (IntKind.bits .u8) b &&& ~~~BitVec.ofInt (IntKind.bits .u8) (192 : Int))) = b % 64 :=
  byte_all (P := fun b => IntKind.wrap .u8 (BitVec.toNat (BitVec.ofInt (IntKind.bits .u8) b &&& ~~~BitVec.ofInt (IntKind.bits .u8) (192 : Int))) = b % 64) (by decide +kernel) h0 h1

theorem not_128 {b : Int} (h0 : 0 ≤ b) (h1 : b ≤ 255) : IntKind.wrap .u8 (BitVec.toNat (BitVec.ofInt (IntKind.bits .u8) b &&& ~~~BitVec.ofInt (IntKind.bits .u8) (128 : Int))) = b % 128 :=
  byte_all (P := fun b => IntKind.wrap .u8 (BitVec.toNat (BitVec.ofInt (IntKind.bits .u8) b &&& ~~~BitVec.ofInt (IntKind.bits .u8) (128 : Int))) = b % 128) (by decide +kernel) h0 h1

theorem not_224 {b : Int} (h0 : 0 ≤ b) (h1 : b ≤ 255) : IntKind.wrap .u8 (BitVec.toNat (BitVec.ofInt (IntKind.bits .u8) b &&& ~~~BitVec.ofInt (IntKind.bits .u8) (224 : Int))) = b % 32 :=
  byte_all (P := fun b => IntKind.wrap .u8 (BitVec.toNat (BitVec.ofInt (IntKind.bits .u8) b &&& ~~~BitVec.ofInt (IntKind.bits .u8) (224 : Int))) = b % 32) (by decide +kernel) h0 h1

theorem not_240 {b : Int} (h0 : 0 ≤ b) (h1 : b ≤ 255) : IntKind.wrap .u8 (BitVec.toNat (BitVec.ofInt (IntKind.bits .u8) b &&& ~~~BitVec.ofInt (IntKind.bits .u8) (240 : Int))) = b % 16 :=
  byte_all (P := fun b => IntKind.wrap .u8 (BitVec.toNat (BitVec.ofInt (IntKind.bits .u8) b &&& ~~~BitVec.ofInt (IntKind.bits .u8) (240 : Int))) = b % 16) (by decide +kernel) h0 h1

theorem not_248 {b : Int} (h0 : 0 ≤ b) (h1 : b ≤ 255) : IntKind.wrap .u8 (BitVec.toNat (BitVec.ofInt (IntKind.bits .u8) b &&& ~~~BitVec.ofInt (IntKind.bits .u8) (248 : Int))) = b % 8 :=
  byte_all (P := fun b => IntKind.wrap .u8 (BitVec.toNat (BitVec.ofInt (IntKind.bits .u8) b &&& ~~~BitVec.ofInt (IntKind.bits .u8) (248 : Int))) = b % 8) (by decide +kernel) h0 h1

theorem is_128 {b : Int} (h0 : 0 ≤ b) (h1 : b ≤ 255) : (IntKind.wrap .u8 (BitVec.toNat (BitVec.ofInt (IntKind.bits .u8) b &&& BitVec.ofInt (IntKind.bits .u8) (128 : Int))) == (0 : Int)) = decide (b < 128) :=
  byte_all (P := fun b => (IntKind.wrap .u8 (BitVec.toNat (BitVec.ofInt (IntKind.bits .u8) b &&& BitVec.ofInt (IntKind.bits .u8) (128 : Int))) == (0 : Int)) = decide (b < 128)) (by decide +kernel) h0 h1

theorem is_224 {b : Int} (h0 : 0 ≤ b) (h1 : b ≤ 255) : (IntKind.wrap .u8 (BitVec.toNat (BitVec.ofInt (IntKind.bits .u8) b &&& BitVec.ofInt (IntKind.bits .u8) (224 : Int))) == (192 : Int)) = decide (192 ≤ b ∧ b < 224) :=
  byte_all (P := fun b => (IntKind.wrap .u8 (BitVec.toNat (BitVec.ofInt (IntKind.bits .u8) b &&& BitVec.ofInt (IntKind.bits .u8) (224 : Int))) == (192 : Int)) = decide (192 ≤ b ∧ b < 224)) (by decide +kernel) h0 h1

theorem is_240 {b : Int} (h0 : 0 ≤ b) (h1 : b ≤ 255) : (IntKind.wrap .u8 (BitVec.toNat (BitVec.ofInt (IntKind.bits .u8) b &&& BitVec.ofInt (IntKind.bits .u8) (240 : Int))) == (224 : Int)) = decide (224 ≤ b ∧ b < 240) :=
  byte_all (P := fun b => (IntKind.wrap .u8 (BitVec.toNat (BitVec.ofInt (IntKind.bits .u8) b &&& BitVec.ofInt (IntKind.bits .u8) (240 : Int))) == (224 : Int)) = decide (224 ≤ b ∧ b < 240)) (by decide +kernel) h0 h1

theorem is_248 {b : Int} (h0 : 0 ≤ b) (h1 : b ≤ 255) : (IntKind.wrap .u8 (BitVec.toNat (BitVec.ofInt (IntKind.bits .u8) b &&& BitVec.ofInt (IntKind.bits .u8) (248 : Int))) == (240 : Int)) = decide (240 ≤ b ∧ b < 248) :=
  byte_all (P := fun b => (IntKind.wrap .u8 (BitVec.toNat (BitVec.ofInt (IntKind.bits .u8) b &&& BitVec.ofInt (IntKind.bits .u8) (248 : Int))) == (240 : Int)) = decide (240 ≤ b ∧ b < 248)) (by decide +kernel) h0 h1

theorem or_lo {r x : Nat} (hx : x < 64) : (r * 64) ||| x = r * 64 + x := by
  have := Nat.two_pow_add_eq_or_of_lt (i := 6) hx r
  rw [Nat.mul_comm] at this
  exact this.symm

theorem w32 {n : Int} (h1 : -2147483648 ≤ n) (h2 : n < 2147483648) : IntKind.wrap .i32 n = n := by
  simp only [IntKind.wrap, IntKind.bits, IntKind.signed]
  simp
  omega

theorem or_32 {r x : Int} (h0 : 0 ≤ r) (h1 : r < 1048576) (h2 : 0 ≤ x) (h3 : x < 64) : IntKind.wrap .i32 (BitVec.toNat (BitVec.ofInt (IntKind.bits .i32) (IntKind.wrap .i32 (r * (64 : Int))) ||| BitVec.ofInt (IntKind.bits .i32) (IntKind.wrap .i32 x))) = r * 64 + x := by
  rw [w32 (n := r * 64) (by omega) (by omega), w32 (n := x) (by omega) (by omega)]
  obtain ⟨a, rfl⟩ : ∃ a : Nat, r = a := ⟨r.toNat, by omega⟩
  obtain ⟨b, rfl⟩ : ∃ b : Nat, x = b := ⟨x.toNat, by omega⟩
  have e1 : (BitVec.ofInt (IntKind.bits .i32) ((a : Int) * 64) ||| BitVec.ofInt (IntKind.bits .i32) (b : Int)).toNat = a * 64 + b := by
    rw [BitVec.toNat_or, BitVec.toNat_ofInt, BitVec.toNat_ofInt]
    have h4 : ((a : Int) * 64 % ((2 ^ IntKind.bits .i32 : Nat) : Int)).toNat = a * 64 := by
      have : IntKind.bits .i32 = 32 := rfl
      rw [this]; omega
    have h5 : ((b : Int) % ((2 ^ IntKind.bits .i32 : Nat) : Int)).toNat = b := by
      have : IntKind.bits .i32 = 32 := rfl
      rw [this]; omega
    rw [h4, h5, or_lo (by omega)]
  rw [e1, w32 (by omega) (by omega)]
  omega

/-- How many bytes a code point has that begins with these, of so many; 0: there is none. -/
def uszB (n c d e f : Int) : Int :=
  if c < 128 then 1
  else if 192 ≤ c ∧ c < 224 then (if 2 ≤ n ∧ cont d ∧ 128 ≤ c % 32 * 64 + d % 64 then 2 else 0)
  else if 224 ≤ c ∧ c < 240 then (if 3 ≤ n ∧ cont d ∧ cont e ∧ 2048 ≤ (c % 16 * 64 + d % 64) * 64 + e % 64 ∧ ¬ (55296 ≤ (c % 16 * 64 + d % 64) * 64 + e % 64 ∧ (c % 16 * 64 + d % 64) * 64 + e % 64 < 57344) then 3 else 0)
  else if 240 ≤ c ∧ c < 248 then (if 4 ≤ n ∧ cont d ∧ cont e ∧ cont f ∧ 65536 ≤ ((c % 8 * 64 + d % 64) * 64 + e % 64) * 64 + f % 64 ∧ ((c % 8 * 64 + d % 64) * 64 + e % 64) * 64 + f % 64 ≤ 1114111 then 4 else 0)
  else 0

theorem long_end {K : Nat} {s : ByteArray} {a : Int} {n r i : Int} {k : Nat} (h : ¬ i < n) : utf_long.l0 K n a s (k + 1) r i = some (.inr r) := by
  rw [utf_long.l0, if_neg (by simpa using h)]

theorem long_bad {K : Nat} {s : ByteArray} {a : Int} (h0 : 0 ≤ a) (hs : (s.size : Int) ≤ 1000000000000) {n r i : Int} {k : Nat} (h : i < n) (hi : 0 ≤ i) (hr : a + i < s.size) (hc : ¬ cont (bt s (a + i))) : utf_long.l0 K n a s (k + 1) r i = some (.inl (0, 0)) := by
  rw [utf_long.l0, w64 (n := a + i) (by omega) (by omega), if_pos (by simpa using h), if_pos ⟨by omega, by omega⟩, and_192 bt_ok.1 bt_ok.2, if_pos (by simpa using hc)]

theorem long_go {K : Nat} {s : ByteArray} {a : Int} (h0 : 0 ≤ a) (hs : (s.size : Int) ≤ 1000000000000) {n r i : Int} {k : Nat} (h : i < n) (hi : 0 ≤ i) (hr : a + i < s.size) (hc : cont (bt s (a + i))) (r0 : 0 ≤ r) (r1 : r < 1048576) : utf_long.l0 K n a s (k + 1) r i = utf_long.l0 K n a s k (r * 64 + bt s (a + i) % 64) (i + 1) := by
  have hb := bt_ok (s := s) (i := a + i)
  rw [utf_long.l0, w64 (n := a + i) (by omega) (by omega), if_pos (by simpa using h), if_pos ⟨by omega, by omega⟩, and_192 hb.1 hb.2, if_neg (by simpa using hc), not_192 hb.1 hb.2, or_32 r0 r1 (by omega) (by omega), w64 (n := i + 1) (by omega) (by omega)]

/-- How many bytes the code point has that begins at a place. -/
def usz (s : ByteArray) (a : Int) : Int := if a < 0 ∨ a ≥ s.size then 0 else uszB (s.size - a) (bt s a) (bt s (a + 1)) (bt s (a + 2)) (bt s (a + 3))

theorem uszB_ok {n c d e f : Int} (hn : 1 ≤ n) : 0 ≤ uszB n c d e f ∧ uszB n c d e f ≤ 4 ∧ uszB n c d e f ≤ n := by
  unfold uszB
  split
  · omega
  · split
    · split <;> omega
    · split
      · split <;> omega
      · split
        · split <;> omega
        · omega

theorem usz_ok {s : ByteArray} {a : Int} : 0 ≤ usz s a ∧ usz s a ≤ 4 ∧ (0 ≤ a → a < s.size → a + usz s a ≤ s.size) := by
  unfold usz
  split
  · rename_i h; exact ⟨by omega, by omega, fun h1 h2 => by omega⟩
  · have := uszB_ok (n := s.size - a) (c := bt s a) (d := bt s (a + 1)) (e := bt s (a + 2)) (f := bt s (a + 3)) (by omega)
    exact ⟨by omega, by omega, fun h1 h2 => by omega⟩

theorem point_is {K : Nat} {r : Int} (h0 : 0 ≤ r) : utf_isPoint K r = some (decide (r ≤ 1114111 ∧ ¬ (55296 ≤ r ∧ r < 57344))) := by
  unfold utf_isPoint
  rw [if_pos (by simpa using h0)]
  by_cases h1 : r ≤ 1114111
  · rw [if_pos (by simpa using h1)]
    by_cases h2 : r < 55296
    · rw [if_pos (by simpa using h2)]
      congr 1; symm; simp; omega
    · rw [if_neg (by simpa using h2)]
      congr 1
      by_cases h3 : r > 57343
      · simp [h3]; omega
      · simp [h3]; omega
  · rw [if_neg (by simpa using h1)]
    congr 1; symm; simp; omega

/-- What is read: the code point, and its bytes. -/
def tell (n v least : Int) : Int × Int := if least ≤ v ∧ v ≤ 1114111 ∧ ¬ (55296 ≤ v ∧ v < 57344) then (v, n) else (0, 0)

theorem long_tell {K : Nat} {n v least : Int} (h0 : 0 ≤ v) : ((if decide (v < least) = true then some true else (utf_isPoint K v).bind fun r_28 => some (!r_28)).bind fun z_39 => if z_39 = true then some ((0 : Int), (0 : Int)) else some (v, n)) = some (tell n v least) := by
  unfold tell
  rw [point_is h0]
  by_cases h1 : v < least
  · rw [if_pos (by simpa using h1), Option.bind_some, if_pos rfl, if_neg (by omega)]
  · rw [if_neg (by simpa using h1), Option.bind_some, Option.bind_some]
    by_cases h2 : v ≤ 1114111 ∧ ¬ (55296 ≤ v ∧ v < 57344)
    · rw [if_neg (by simp; omega), if_pos (by omega)]
    · rw [if_pos (by simp; omega), if_neg (by omega)]

theorem long1_is {K : Nat} {s : ByteArray} {a : Int} (hK : 10 ≤ K) (h0 : 0 ≤ a) (hs : (s.size : Int) ≤ 1000000000000) (ha : a < s.size) (hc : bt s a < 128) : utf_long K s a 1 128 0 0 = some (bt s a, 1) := by
  obtain ⟨k, rfl⟩ : ∃ k, K = k + 5 := ⟨K - 5, by omega⟩
  have hb := bt_ok (s := s) (i := a)
  unfold utf_long
  rw [w64 (by omega) (by omega), if_neg (by simp; omega), if_pos ⟨h0, ha⟩, not_128 hb.1 hb.2, w32 (by omega) (by omega), long_end (by omega), Option.bind_some]
  simp only [Sum.elim_inr]
  rw [long_tell (by omega)]
  unfold tell
  rw [if_pos (by omega)]
  congr 2
  omega

theorem long2_is {K : Nat} {s : ByteArray} {a : Int} (hK : 10 ≤ K) (h0 : 0 ≤ a) (hs : (s.size : Int) ≤ 1000000000000) (ha : a < s.size) : utf_long K s a 2 224 192 128 =
    some (if 2 ≤ (s.size : Int) - a ∧ cont (bt s (a + 1)) then tell 2 (bt s a % 32 * 64 + bt s (a + 1) % 64) 128 else (0, 0)) := by
  obtain ⟨k, rfl⟩ : ∃ k, K = k + 5 := ⟨K - 5, by omega⟩
  have hb := bt_ok (s := s) (i := a)
  have hb1 := bt_ok (s := s) (i := a + 1)
  unfold utf_long
  rw [w64 (by omega) (by omega)]
  by_cases hn : (s.size : Int) - a < 2
  · rw [if_pos (by simpa using hn), if_neg (by omega)]
  · rw [if_neg (by simpa using hn), if_pos ⟨h0, ha⟩, not_224 hb.1 hb.2, w32 (by omega) (by omega)]
    by_cases c1 : cont (bt s (a + 1))
    · rw [long_go h0 hs (by omega) (by omega) (by omega) c1 (by omega) (by omega), long_end (by omega), Option.bind_some]
      simp only [Sum.elim_inr]
      rw [long_tell (by omega), if_pos ⟨by omega, c1⟩]
    · rw [long_bad h0 hs (by omega) (by omega) (by omega) c1, Option.bind_some, if_neg (fun h => c1 h.2)]
      rfl

theorem long3_is {K : Nat} {s : ByteArray} {a : Int} (hK : 10 ≤ K) (h0 : 0 ≤ a) (hs : (s.size : Int) ≤ 1000000000000) (ha : a < s.size) : utf_long K s a 3 240 224 2048 =
    some (if 3 ≤ (s.size : Int) - a ∧ cont (bt s (a + 1)) ∧ cont (bt s (a + 2)) then tell 3 ((bt s a % 16 * 64 + bt s (a + 1) % 64) * 64 + bt s (a + 2) % 64) 2048 else (0, 0)) := by
  obtain ⟨k, rfl⟩ : ∃ k, K = k + 5 := ⟨K - 5, by omega⟩
  have hb := bt_ok (s := s) (i := a)
  have hb1 := bt_ok (s := s) (i := a + 1)
  have hb2 := bt_ok (s := s) (i := a + 2)
  unfold utf_long
  rw [w64 (by omega) (by omega)]
  by_cases hn : (s.size : Int) - a < 3
  · rw [if_pos (by simpa using hn), if_neg (by omega)]
  · rw [if_neg (by simpa using hn), if_pos ⟨h0, ha⟩, not_240 hb.1 hb.2, w32 (by omega) (by omega)]
    by_cases c1 : cont (bt s (a + 1))
    · rw [long_go h0 hs (by omega) (by omega) (by omega) c1 (by omega) (by omega)]
      by_cases c2 : cont (bt s (a + 2))
      · rw [show (1 : Int) + 1 = 2 from rfl, long_go h0 hs (by omega) (by omega) (by omega) c2 (by omega) (by omega), long_end (by omega), Option.bind_some]
        simp only [Sum.elim_inr]
        rw [long_tell (by omega), if_pos ⟨by omega, c1, c2⟩]
      · rw [show (1 : Int) + 1 = 2 from rfl, long_bad h0 hs (by omega) (by omega) (by omega) c2, Option.bind_some, if_neg (fun h => c2 h.2.2)]
        rfl
    · rw [long_bad h0 hs (by omega) (by omega) (by omega) c1, Option.bind_some, if_neg (fun h => c1 h.2.1)]
      rfl

theorem long4_go {K k : Nat} {s : ByteArray} {a : Int} (h0 : 0 ≤ a) (hs : (s.size : Int) ≤ 1000000000000) (hn : ¬ (s.size : Int) - a < 4) : utf_long.l0 K 4 a s (k + 4) (bt s a % 8) 1 =
    some (if cont (bt s (a + 1)) ∧ cont (bt s (a + 2)) ∧ cont (bt s (a + 3)) then .inr (((bt s a % 8 * 64 + bt s (a + 1) % 64) * 64 + bt s (a + 2) % 64) * 64 + bt s (a + 3) % 64) else .inl (0, 0)) := by
  have hb := bt_ok (s := s) (i := a)
  have hb1 := bt_ok (s := s) (i := a + 1)
  have hb2 := bt_ok (s := s) (i := a + 2)
  have hb3 := bt_ok (s := s) (i := a + 3)
  have r1 : 0 ≤ bt s a % 8 ∧ bt s a % 8 < 8 := by omega
  have r2 : 0 ≤ bt s (a + 1) % 64 ∧ bt s (a + 1) % 64 < 64 := by omega
  have r3 : 0 ≤ bt s (a + 2) % 64 ∧ bt s (a + 2) % 64 < 64 := by omega
  by_cases c1 : cont (bt s (a + 1))
  · have g1 := long_go (K := K) h0 hs (n := 4) (r := bt s a % 8) (i := 1) (k := k + 3) (by omega) (by omega) (by omega) c1 (by omega) (by omega)
    rw [g1, show (1 : Int) + 1 = 2 from rfl]
    by_cases c2 : cont (bt s (a + 2))
    · have g2 := long_go (K := K) h0 hs (n := 4) (r := bt s a % 8 * 64 + bt s (a + 1) % 64) (i := 2) (k := k + 2) (by omega) (by omega) (by omega) c2 (by omega) (by omega)
      rw [g2, show (2 : Int) + 1 = 3 from rfl]
      by_cases c3 : cont (bt s (a + 3))
      · have g3 := long_go (K := K) h0 hs (n := 4) (r := (bt s a % 8 * 64 + bt s (a + 1) % 64) * 64 + bt s (a + 2) % 64) (i := 3) (k := k + 1) (by omega) (by omega) (by omega) c3 (by omega) (by omega)
        rw [g3, long_end (by omega), if_pos ⟨c1, c2, c3⟩]
      · have g3 := long_bad (K := K) h0 hs (n := 4) (r := (bt s a % 8 * 64 + bt s (a + 1) % 64) * 64 + bt s (a + 2) % 64) (i := 3) (k := k + 1) (by omega) (by omega) (by omega) c3
        rw [g3, if_neg (fun h => c3 h.2.2)]
    · have g2 := long_bad (K := K) h0 hs (n := 4) (r := bt s a % 8 * 64 + bt s (a + 1) % 64) (i := 2) (k := k + 2) (by omega) (by omega) (by omega) c2
      rw [g2, if_neg (fun h => c2 h.2.1)]
  · have g1 := long_bad (K := K) h0 hs (n := 4) (r := bt s a % 8) (i := 1) (k := k + 3) (by omega) (by omega) (by omega) c1
    rw [g1, if_neg (fun h => c1 h.1)]

theorem long4_is {K : Nat} {s : ByteArray} {a least : Int} (hK : 10 ≤ K) (h0 : 0 ≤ a) (hs : (s.size : Int) ≤ 1000000000000) (ha : a < s.size) : utf_long K s a 4 248 240 least =
    some (if 4 ≤ (s.size : Int) - a ∧ cont (bt s (a + 1)) ∧ cont (bt s (a + 2)) ∧ cont (bt s (a + 3)) then tell 4 (((bt s a % 8 * 64 + bt s (a + 1) % 64) * 64 + bt s (a + 2) % 64) * 64 + bt s (a + 3) % 64) least else (0, 0)) := by
  obtain ⟨k, rfl⟩ : ∃ k, K = k + 4 := ⟨K - 4, by omega⟩
  have hb := bt_ok (s := s) (i := a)
  have r0 : 0 ≤ bt s a % 8 ∧ bt s a % 8 < 8 := by omega
  have r1 : 0 ≤ bt s (a + 1) % 64 := by omega
  have r2 : 0 ≤ bt s (a + 2) % 64 := by omega
  have r3 : 0 ≤ bt s (a + 3) % 64 := by omega
  unfold utf_long
  rw [w64 (n := (s.size : Int) - a) (by omega) (by omega)]
  by_cases hn : (s.size : Int) - a < 4
  · rw [if_pos (by simpa using hn), if_neg (by omega)]
  · rw [if_neg (by simpa using hn), if_pos ⟨h0, ha⟩, not_248 hb.1 hb.2, w32 (n := bt s a % 8) (by omega) (by omega), long4_go h0 hs hn]
    by_cases c : cont (bt s (a + 1)) ∧ cont (bt s (a + 2)) ∧ cont (bt s (a + 3))
    · rw [if_pos c, Option.bind_some, if_pos ⟨by omega, c⟩]
      simp only [Sum.elim_inr]
      generalize bt s a % 8 = x0 at *
      generalize bt s (a + 1) % 64 = x1 at *
      generalize bt s (a + 2) % 64 = x2 at *
      generalize bt s (a + 3) % 64 = x3 at *
      rw [long_tell (by omega)]
    · rw [if_neg c, Option.bind_some, if_neg (fun h => c h.2)]
      simp only [Sum.elim_inl]

/-- The code point at a place, and its bytes. -/
def upt (s : ByteArray) (a : Int) : Int × Int :=
  if a < 0 ∨ a ≥ s.size then (0, 0)
  else if bt s a < 128 then (bt s a, 1)
  else if 192 ≤ bt s a ∧ bt s a < 224 then (if 2 ≤ (s.size : Int) - a ∧ cont (bt s (a + 1)) then tell 2 (bt s a % 32 * 64 + bt s (a + 1) % 64) 128 else (0, 0))
  else if 224 ≤ bt s a ∧ bt s a < 240 then (if 3 ≤ (s.size : Int) - a ∧ cont (bt s (a + 1)) ∧ cont (bt s (a + 2)) then tell 3 ((bt s a % 16 * 64 + bt s (a + 1) % 64) * 64 + bt s (a + 2) % 64) 2048 else (0, 0))
  else if 240 ≤ bt s a ∧ bt s a < 248 then (if 4 ≤ (s.size : Int) - a ∧ cont (bt s (a + 1)) ∧ cont (bt s (a + 2)) ∧ cont (bt s (a + 3)) then tell 4 (((bt s a % 8 * 64 + bt s (a + 1) % 64) * 64 + bt s (a + 2) % 64) * 64 + bt s (a + 3) % 64) 65536 else (0, 0))
  else (0, 0)

theorem tell_snd {n v least : Int} : (tell n v least).2 = if least ≤ v ∧ v ≤ 1114111 ∧ ¬ (55296 ≤ v ∧ v < 57344) then n else 0 := by
  unfold tell; split <;> rfl

theorem upt_snd {s : ByteArray} {a : Int} : (upt s a).2 = usz s a := by
  unfold upt usz uszB
  have hb := bt_ok (s := s) (i := a)
  have hb1 := bt_ok (s := s) (i := a + 1)
  have hb2 := bt_ok (s := s) (i := a + 2)
  have hb3 := bt_ok (s := s) (i := a + 3)
  by_cases h : a < 0 ∨ a ≥ s.size
  · rw [if_pos h, if_pos h]
  · rw [if_neg h, if_neg h]
    by_cases h1 : bt s a < 128
    · rw [if_pos h1, if_pos h1]
    · rw [if_neg h1, if_neg h1]
      by_cases h2 : 192 ≤ bt s a ∧ bt s a < 224
      · rw [if_pos h2, if_pos h2]
        by_cases c : 2 ≤ (s.size : Int) - a ∧ cont (bt s (a + 1))
        · rw [if_pos c, tell_snd]
          congr 1
          apply propext
          constructor
          · intro h; exact ⟨c.1, c.2, h.1⟩
          · intro h; exact ⟨h.2.2, by omega, by omega⟩
        · rw [if_neg c, if_neg (fun h => c ⟨h.1, h.2.1⟩)]
      · rw [if_neg h2, if_neg h2]
        by_cases h3 : 224 ≤ bt s a ∧ bt s a < 240
        · rw [if_pos h3, if_pos h3]
          by_cases c : 3 ≤ (s.size : Int) - a ∧ cont (bt s (a + 1)) ∧ cont (bt s (a + 2))
          · rw [if_pos c, tell_snd]
            congr 1
            apply propext
            constructor
            · intro h; exact ⟨c.1, c.2.1, c.2.2, h.1, h.2.2⟩
            · intro h; exact ⟨h.2.2.2.1, by omega, h.2.2.2.2⟩
          · rw [if_neg c, if_neg (fun h => c ⟨h.1, h.2.1, h.2.2.1⟩)]
        · rw [if_neg h3, if_neg h3]
          by_cases h4 : 240 ≤ bt s a ∧ bt s a < 248
          · rw [if_pos h4, if_pos h4]
            by_cases c : 4 ≤ (s.size : Int) - a ∧ cont (bt s (a + 1)) ∧ cont (bt s (a + 2)) ∧ cont (bt s (a + 3))
            · rw [if_pos c, tell_snd]
              congr 1
              apply propext
              constructor
              · intro h; exact ⟨c.1, c.2.1, c.2.2.1, c.2.2.2, h.1, h.2.1⟩
              · intro h; exact ⟨h.2.2.2.2.1, h.2.2.2.2.2, by omega⟩
            · rw [if_neg c, if_neg (fun h => c ⟨h.1, h.2.1, h.2.2.1, h.2.2.2.1⟩)]
          · rw [if_neg h4, if_neg h4]

theorem upt_is {K : Nat} {s : ByteArray} {a : Int} (hK : 10 ≤ K) (hs : (s.size : Int) ≤ 1000000000000) : utf_point K s a = some (upt s a) := by
  obtain ⟨k, hk⟩ : ∃ k, K = k + 5 := ⟨K - 5, by omega⟩
  have hb := bt_ok (s := s) (i := a)
  unfold utf_point upt
  by_cases h : a < 0 ∨ a ≥ s.size
  · have : (if decide (a < 0) = true then some true else some (decide (a ≥ ((s.size : Nat) : Int)))) = some true := by
      by_cases h1 : a < 0
      · rw [if_pos (by simpa using h1)]
      · rw [if_neg (by simpa using h1)]; simp; omega
    rw [this, Option.bind_some, if_pos rfl, if_pos h]
  · have : (if decide (a < 0) = true then some true else some (decide (a ≥ ((s.size : Nat) : Int)))) = some false := by
      rw [if_neg (by simp; omega)]; simp; omega
    rw [this, Option.bind_some, if_neg (by simp), if_neg h]
    unfold utf_forms
    rw [Option.bind_some]
    have hin : 0 ≤ a ∧ a < ((s.size : Nat) : Int) := ⟨by omega, by omega⟩
    have hw0 : IntKind.wrap .i64 ((0 : Int) + 1) = 1 := by decide
    have hw1 : IntKind.wrap .i64 ((1 : Int) + 1) = 2 := by decide
    have hw2 : IntKind.wrap .i64 ((2 : Int) + 1) = 3 := by decide
    have hw3 : IntKind.wrap .i64 ((3 : Int) + 1) = 4 := by decide
    rw [hk]
    simp only [utf_point.l0, if_pos hin, hw0, hw1, hw2, hw3]
    simp only [show ((0 : Int)).toNat = 0 from rfl, show ((1 : Int)).toNat = 1 from rfl, show ((2 : Int)).toNat = 2 from rfl, show ((3 : Int)).toNat = 3 from rfl, List.getD_cons_zero, List.getD_cons_succ, is_128 hb.1 hb.2, is_224 hb.1 hb.2, is_240 hb.1 hb.2, is_248 hb.1 hb.2]
    rw [← hk]
    simp only [decide_eq_true_eq]
    by_cases h1 : bt s a < 128
    · rw [if_pos (by omega), if_pos (by omega), if_pos h1, if_pos h1, long1_is hK (by omega) hs (by omega) h1]; rfl
    · rw [if_pos (by omega), if_pos (by omega), if_neg h1, if_neg h1, if_pos (by omega), if_pos (by omega)]
      by_cases h2 : 192 ≤ bt s a ∧ bt s a < 224
      · rw [if_pos h2, if_pos h2, long2_is hK (by omega) hs (by omega)]; rfl
      · rw [if_neg h2, if_neg h2, if_pos (by omega), if_pos (by omega)]
        by_cases h3 : 224 ≤ bt s a ∧ bt s a < 240
        · rw [if_pos h3, if_pos h3, long3_is hK (by omega) hs (by omega)]; rfl
        · rw [if_neg h3, if_neg h3, if_pos (by omega), if_pos (by omega)]
          by_cases h4 : 240 ≤ bt s a ∧ bt s a < 248
          · rw [if_pos h4, if_pos h4, long4_is hK (by omega) hs (by omega)]; rfl
          · rw [if_neg h4, if_neg h4, if_neg (by omega)]

theorem usize_is {K : Nat} {s : ByteArray} {a : Int} (hK : 10 ≤ K) (hs : (s.size : Int) ≤ 1000000000000) : utf_Size K s a = some (usz s a) := by
  unfold utf_Size
  rw [upt_is hK hs, Option.bind_some, upt_snd]

/-- Whether from a place on there are code points, one behind the other. -/
def uval (s : ByteArray) : Nat → Int → Bool
  | 0, _ => true
  | m + 1, a => if a < s.size then (if usz s a = 0 then false else uval s m (a + usz s a)) else true

def uvalid (s : ByteArray) : Bool := uval s s.size 0

theorem uvalid_loop {K : Nat} {s : ByteArray} (hK : 10 ≤ K) (hs : (s.size : Int) ≤ 1000000000000) : ∀ (d k m : Nat) (a : Int), 0 ≤ a → (s.size : Int) - a ≤ d → a ≤ s.size → d < k → d ≤ m → utf_Valid.l0 K s k a = some (uval s m a) := by
  intro d
  induction d with
  | zero =>
    intro k m a h0 h1 h2 hk hm
    obtain ⟨k, rfl⟩ : ∃ l, k = l + 1 := ⟨k - 1, by omega⟩
    rw [utf_Valid.l0, if_neg (by simp; omega)]
    cases m with
    | zero => rfl
    | succ m => rw [uval, if_neg (by omega)]
  | succ d ih =>
    intro k m a h0 h1 h2 hk hm
    obtain ⟨k, rfl⟩ : ∃ l, k = l + 1 := ⟨k - 1, by omega⟩
    obtain ⟨m, rfl⟩ : ∃ l, m = l + 1 := ⟨m - 1, by omega⟩
    have hu := usz_ok (s := s) (a := a)
    rw [utf_Valid.l0, uval]
    by_cases h : a < s.size
    · have hu3 := hu.2.2 h0 h
      rw [if_pos (by simpa using h), if_pos h, usize_is hK hs, Option.bind_some]
      by_cases hz : usz s a = 0
      · rw [if_pos (by simpa using hz), if_pos hz]
      · rw [if_neg (by simpa using hz), if_neg hz, w64 (by omega) (by omega)]
        exact ih k m _ (by omega) (by omega) (by omega) (by omega) (by omega)
    · rw [if_neg (by simpa using h), if_neg h]

theorem uvalid_is {K : Nat} {s : ByteArray} (hK : s.size + 10 ≤ K) (hs : (s.size : Int) ≤ 1000000000000) : utf_Valid K s = some (uvalid s) := by
  unfold utf_Valid uvalid
  exact uvalid_loop (by omega) hs s.size K s.size 0 (by omega) (by omega) (by omega) (by omega) (by omega)

theorem toList_loop (s : ByteArray) : ∀ (d i : Nat) (r : List UInt8), s.size - i = d → ByteArray.toList.loop s i r = r.reverse ++ s.data.toList.drop i := by
  intro d
  induction d with
  | zero =>
    intro i r h
    unfold ByteArray.toList.loop
    rw [if_neg (by omega), List.drop_eq_nil_of_le (by have : s.data.toList.length = s.size := by simp
                                                      omega)]
    simp
  | succ d ih =>
    intro i r h
    unfold ByteArray.toList.loop
    have hl : s.data.toList.length = s.size := by simp
    have hi : i < s.data.toList.length := by omega
    rw [if_pos (by omega), ih (i + 1) _ (by omega), List.drop_eq_getElem_cons hi]
    have : s.get! i = s.data.toList[i] := by
      have h2 : i < s.data.size := by simpa using hi
      show s.data[i]! = _
      rw [getElem!_pos s.data i h2]
      simp
    rw [this]
    simp

theorem toList_eq (s : ByteArray) : ByteArray.toList s = s.data.toList := by
  unfold ByteArray.toList
  rw [toList_loop s s.size 0 [] rfl]
  simp

theorem str_beq {a b : ByteArray} : (ByteArray.toList a == ByteArray.toList b) = decide (a = b) := by
  rw [toList_eq, toList_eq]
  by_cases h : a = b
  · subst h; simp
  · have : a.data.toList ≠ b.data.toList := fun h' => h (by have := Array.toList_inj.1 h'; cases a; cases b; simp only at this; rw [this])
    rw [beq_eq_false_iff_ne.2 this]; simp [h]

theorem size_zero {a : ByteArray} : a = ⟨#[]⟩ ↔ a.size = 0 := by
  constructor
  · rintro rfl; rfl
  · intro h
    rw [← ofBytes_txt (s := a)]
    have : txt a = [] := List.eq_nil_of_length_eq_zero (by rw [txt_len]; exact h)
    rw [this]; rfl

theorem str_nil {a : ByteArray} : (ByteArray.toList a == ByteArray.toList (ByteArray.mk #[])) = decide (a.size = 0) := by
  rw [str_beq]
  exact decide_eq_decide.2 size_zero

abbrev El := Int × (Int × ByteArray)

theorem isCopy_is {K : Nat} {x1 x2 : Int} {x3 : ByteArray} : delta_IsCopy K x1 x2 x3 = some (decide (x3.size = 0)) := by
  unfold delta_IsCopy
  rw [str_nil]

theorem elem_is {K : Nat} {x1 x2 base to : Int} {x3 : ByteArray} {ahead copied : Bool} (hK : 30000 ≤ K) : delta_elem K x1 x2 x3 base to ahead copied =
    some (if x3.size = 0 then decide (to ≤ x1 ∧ (to < x1 ∨ copied = false) ∧ x1 < x2 ∧ x2 ≤ base) else decide (x1 = 0 ∧ x2 = 0 ∧ (ahead = false ∨ copied = true) ∧ x3.size ≤ 20000) && uvalid x3) := by
  unfold delta_elem
  rw [isCopy_is, Option.bind_some]
  by_cases h : x3.size = 0
  · rw [if_pos (by simpa using h), if_pos h]
    by_cases h1 : x1 ≥ to
    · rw [if_pos (by simpa using h1)]
      by_cases h2 : x1 > to
      · rw [if_pos (by simpa using h2)]
        by_cases h3 : x1 < x2
        · rw [if_pos (by simpa using h3)]
          congr 1; rw [decide_eq_decide]; omega
        · rw [if_neg (by simpa using h3)]
          congr 1; symm; rw [decide_eq_false_iff_not]; omega
      · rw [if_neg (by simpa using h2)]
        cases copied with
        | true => rw [if_neg (by simp)]; congr 1; symm; rw [decide_eq_false_iff_not]; simp; omega
        | false =>
          rw [if_pos (by simp)]
          by_cases h3 : x1 < x2
          · rw [if_pos (by simpa using h3)]
            congr 1; rw [decide_eq_decide]; simp; omega
          · rw [if_neg (by simpa using h3)]
            congr 1; symm; rw [decide_eq_false_iff_not]; omega
    · rw [if_neg (by simpa using h1)]
      congr 1; symm; rw [decide_eq_false_iff_not]; omega
  · rw [if_neg (by simpa using h), if_neg h]
    by_cases h1 : x1 = 0 ∧ x2 = 0
    · rw [if_pos (by simp [h1])]
      by_cases h2 : x3.size ≤ 20000
      · have hv : utf_Valid K x3 = some (uvalid x3) := uvalid_is (by omega) (by omega)
        cases ahead with
        | false => rw [if_pos (by simp), if_pos (by simp; omega), hv, Option.bind_some]; simp [h1, h2]
        | true =>
          rw [if_neg (by simp)]
          cases copied with
          | true => rw [if_pos rfl, if_pos (by simp; omega), hv, Option.bind_some]; simp [h1, h2]
          | false => rw [if_neg (by simp)]; simp
      · cases ahead with
        | false => rw [if_pos (by simp), if_neg (by simp; omega)]; simp [h2]
        | true =>
          rw [if_neg (by simp)]
          cases copied with
          | true => rw [if_pos rfl, if_neg (by simp; omega)]; simp [h2]
          | false => rw [if_neg (by simp)]; simp
    · rw [if_neg (by simp; omega)]
      congr 1; symm
      rw [Bool.and_eq_false_iff, decide_eq_false_iff_not]
      left
      exact fun h' => h1 ⟨h'.1, h'.2.1⟩

/-- Elements that may come behind others. -/
def isL (base : Int) : Int → Int → Option Bool → List El → Bool
  | _, _, _, [] => true
  | size, to, pre, x :: r =>
    if x.2.2.size = 0 then
      decide (to ≤ x.1 ∧ (to < x.1 ∨ pre ≠ some true) ∧ x.1 < x.2.1 ∧ x.2.1 ≤ base ∧ size + (x.2.1 - x.1) ≤ 20000) && isL base (size + (x.2.1 - x.1)) x.2.1 (some true) r
    else
      (decide (x.1 = 0 ∧ x.2.1 = 0 ∧ pre ≠ some false ∧ size + x.2.2.size ≤ 20000) && uvalid x.2.2) && isL base (size + x.2.2.size) to (some false) r

/-- Whether elements are a delta. -/
def isD (base : Int) (l : List El) : Bool := decide (0 ≤ base ∧ base ≤ 20000 ∧ l.length ≤ 60) && isL base 0 0 none l

def preOf (d : List El) (j : Nat) : Option Bool := if j = 0 then none else some (decide ((d.getD (j - 1) ((0 : Int), ((0 : Int), ByteArray.empty))).2.2.size = 0))

theorem preOf_succ {d : List El} {j : Nat} {x : El} (h : d.getD j ((0 : Int), ((0 : Int), ByteArray.empty)) = x) : preOf d (j + 1) = some (decide (x.2.2.size = 0)) := by
  unfold preOf
  rw [if_neg (by omega), Nat.add_sub_cancel, h]

theorem is_loop {K : Nat} {d : List El} {base : Int} (hK : 30000 ≤ K) (hb : base ≤ 20000) (hl : d.length ≤ 60) : ∀ (rest : List El) (j k : Nat) (size to : Int), d.drop j = rest → rest.length < k → 0 ≤ size → size ≤ 20000 → 0 ≤ to → to ≤ 20000 →
    delta_Is.l0 K d base k size to (j : Int) = some (isL base size to (preOf d j) rest)
  | [], j, k, size, to, hd, hk, h0, h1, h2, h3 => by
    obtain ⟨k, rfl⟩ : ∃ m, k = m + 1 := ⟨k - 1, by simp at hk; omega⟩
    have := drop_nil hd
    rw [delta_Is.l0, if_neg (by simp; omega)]
    rfl
  | x :: rest, j, k, size, to, hd, hk, h0, h1, h2, h3 => by
    obtain ⟨k, rfl⟩ : ∃ m, k = m + 1 := ⟨k - 1, by simp at hk; omega⟩
    obtain ⟨hj, hgd, hd'⟩ := drop_cons hd ((0 : Int), ((0 : Int), ByteArray.empty))
    have hk' : rest.length < k := by simp at hk; omega
    have hw : IntKind.wrap .i64 ((j : Int) + 1) = ((j + 1 : Nat) : Int) := by rw [w64 (by omega) (by omega)]; omega
    have hw1 : IntKind.wrap .i64 ((j : Int) - 1) = (j : Int) - 1 := w64 (by omega) (by omega)
    have hps := preOf_succ hgd
    have hnext := fun (size' to' : Int) (a0 : 0 ≤ size') (a1 : size' ≤ 20000) (a2 : 0 ≤ to') (a3 : to' ≤ 20000) => is_loop (K := K) hK hb hl rest (j + 1) k size' to' hd' hk' a0 a1 a2 a3
    rw [hps] at hnext
    have hcp : (if decide ((j : Int) > 0) = true then (delta_IsCopy K (d.getD ((j : Int) - 1).toNat ((0 : Int), ((0 : Int), ByteArray.empty))).1 (d.getD ((j : Int) - 1).toNat ((0 : Int), ((0 : Int), ByteArray.empty))).2.1 (d.getD ((j : Int) - 1).toNat ((0 : Int), ((0 : Int), ByteArray.empty))).2.2).bind fun r_22 => if 0 ≤ (j : Int) - 1 ∧ (j : Int) - 1 < ((d.length : Nat) : Int) then some r_22 else none else some false) = some (preOf d j == some true) := by
      unfold preOf
      by_cases hj0 : j = 0
      · subst hj0; simp
      · rw [if_pos (by simp; omega), isCopy_is, Option.bind_some, if_pos ⟨by omega, by omega⟩, if_neg hj0, show ((j : Int) - 1).toNat = j - 1 by omega]
        simp
    have hah : ∀ b : Bool, (decide ((j : Int) > 0) = false ∨ b = true) ↔ (preOf d j = none ∨ b = true) := by
      intro b
      unfold preOf
      by_cases hj0 : j = 0
      · subst hj0; simp
      · simp [hj0]
    rw [delta_Is.l0]
    simp only [Int.toNat_natCast, hgd, hw, hw1]
    rw [if_pos (by simpa using hj), if_pos ⟨by omega, by omega⟩, hcp, Option.bind_some, elem_is hK, Option.bind_some, isCopy_is, isL]
    by_cases hz : x.2.2.size = 0
    · rw [if_pos hz, if_pos hz, hz]
      by_cases hc : to ≤ x.1 ∧ (to < x.1 ∨ (preOf d j == some true) = false) ∧ x.1 < x.2.1 ∧ x.2.1 ≤ base
      · rw [show decide (to ≤ x.1 ∧ (to < x.1 ∨ (preOf d j == some true) = false) ∧ x.1 < x.2.1 ∧ x.2.1 ≤ base) = true from decide_eq_true hc, if_neg (by simp), Option.bind_some, if_pos (by simp), Option.bind_some]
        simp only [Int.natCast_zero, Int.add_zero]
        rw [w64 (n := x.2.1 - x.1) (by omega) (by omega), w64 (n := x.2.1 - x.1) (by omega) (by omega), w64 (n := size + (x.2.1 - x.1)) (by omega) (by omega)]
        have hp : (preOf d j == some true) = false ↔ preOf d j ≠ some true := by simp
        by_cases hs : size + (x.2.1 - x.1) ≤ 20000
        · rw [if_neg (by simpa using hs), hnext _ _ (by omega) hs (by omega) (by omega), hz]
          have : decide (to ≤ x.1 ∧ (to < x.1 ∨ preOf d j ≠ some true) ∧ x.1 < x.2.1 ∧ x.2.1 ≤ base ∧ size + (x.2.1 - x.1) ≤ 20000) = true := by
            rw [decide_eq_true_eq]
            rw [hp] at hc
            exact ⟨hc.1, hc.2.1, hc.2.2.1, hc.2.2.2, hs⟩
          rw [this]; simp
        · rw [if_pos (by simp; omega)]
          have : decide (to ≤ x.1 ∧ (to < x.1 ∨ preOf d j ≠ some true) ∧ x.1 < x.2.1 ∧ x.2.1 ≤ base ∧ size + (x.2.1 - x.1) ≤ 20000) = false := by
            rw [decide_eq_false_iff_not]
            exact fun h => hs h.2.2.2.2
          rw [this]; rfl
      · rw [show decide (to ≤ x.1 ∧ (to < x.1 ∨ (preOf d j == some true) = false) ∧ x.1 < x.2.1 ∧ x.2.1 ≤ base) = false from decide_eq_false hc, if_pos (by simp)]
        have hp : (preOf d j == some true) = false ↔ preOf d j ≠ some true := by simp
        have : decide (to ≤ x.1 ∧ (to < x.1 ∨ preOf d j ≠ some true) ∧ x.1 < x.2.1 ∧ x.2.1 ≤ base ∧ size + (x.2.1 - x.1) ≤ 20000) = false := by
          rw [decide_eq_false_iff_not]
          rw [hp] at hc
          exact fun h => hc ⟨h.1, h.2.1, h.2.2.1, h.2.2.2.1⟩
        rw [this]; rfl
    · rw [if_neg hz, if_neg hz]
      have hpre : (decide ((j : Int) > 0) = false ∨ (preOf d j == some true) = true) ↔ preOf d j ≠ some false := by
        rw [hah]
        cases preOf d j with
        | none => simp
        | some b => cases b <;> simp
      by_cases hc : x.1 = 0 ∧ x.2.1 = 0 ∧ (decide ((j : Int) > 0) = false ∨ (preOf d j == some true) = true) ∧ x.2.2.size ≤ 20000
      · rw [show decide (x.1 = 0 ∧ x.2.1 = 0 ∧ (decide ((j : Int) > 0) = false ∨ (preOf d j == some true) = true) ∧ x.2.2.size ≤ 20000) = true from by rw [decide_eq_true_eq]; exact hc]
        cases hv : uvalid x.2.2 with
        | false => rw [if_pos (by simp)]; simp
        | true =>
          rw [if_neg (by simp), Option.bind_some, if_neg (by simpa using hz), Option.bind_some]
          rw [hc.1, hc.2.1, Int.sub_zero, w64 (n := 0) (by omega) (by omega), Int.zero_add, w64 (n := (x.2.2.size : Int)) (by omega) (by omega), w64 (n := size + (x.2.2.size : Int)) (by omega) (by omega)]
          by_cases hs : size + (x.2.2.size : Int) ≤ 20000
          · rw [if_neg (by simpa using hs), hnext _ _ (by omega) hs (by omega) (by omega)]
            have : decide ((0 : Int) = 0 ∧ (0 : Int) = 0 ∧ preOf d j ≠ some false ∧ size + (x.2.2.size : Int) ≤ 20000) = true := by
              rw [decide_eq_true_eq]
              exact ⟨rfl, rfl, hpre.1 hc.2.2.1, hs⟩
            rw [this]
            simp [hz]
          · rw [if_pos (by simp; omega)]
            have : decide ((0 : Int) = 0 ∧ (0 : Int) = 0 ∧ preOf d j ≠ some false ∧ size + (x.2.2.size : Int) ≤ 20000) = false := by
              rw [decide_eq_false_iff_not]
              exact fun h => hs h.2.2.2
            rw [this]; rfl
      · rw [show decide (x.1 = 0 ∧ x.2.1 = 0 ∧ (decide ((j : Int) > 0) = false ∨ (preOf d j == some true) = true) ∧ x.2.2.size ≤ 20000) = false from by rw [decide_eq_false_iff_not]; exact hc]
        rw [if_pos (by simp)]
        have : decide (x.1 = 0 ∧ x.2.1 = 0 ∧ preOf d j ≠ some false ∧ size + (x.2.2.size : Int) ≤ 20000) = false := by
          rw [decide_eq_false_iff_not]
          exact fun h => hc ⟨h.1, h.2.1, hpre.2 h.2.2.1, by omega⟩
        rw [this]; rfl

theorem is_is {K : Nat} {d : List El} {base : Int} (hK : 30000 ≤ K) : delta_Is K base d = some (isD base d) := by
  unfold delta_Is isD
  by_cases h1 : base < 0
  · rw [if_pos (by simpa using h1), Option.bind_some, if_pos rfl]
    congr 1; symm; rw [Bool.and_eq_false_iff, decide_eq_false_iff_not]; left; omega
  · rw [if_neg (by simpa using h1)]
    by_cases h2 : base > 20000
    · rw [if_pos (by simpa using h2), Option.bind_some, if_pos rfl]
      congr 1; symm; rw [Bool.and_eq_false_iff, decide_eq_false_iff_not]; left; omega
    · rw [if_neg (by simpa using h2), Option.bind_some]
      by_cases h3 : d.length > 60
      · rw [if_pos (by simp; omega)]
        congr 1; symm; rw [Bool.and_eq_false_iff, decide_eq_false_iff_not]; left; omega
      · have h := is_loop (K := K) (d := d) (base := base) hK (by omega) (by omega) d 0 K 0 0 rfl (by omega) (by omega) (by omega) (by omega) (by omega)
        rw [Int.natCast_zero] at h
        rw [if_neg (by simp; omega), h]
        have : decide (0 ≤ base ∧ base ≤ 20000 ∧ d.length ≤ 60) = true := by rw [decide_eq_true_eq]; omega
        rw [this]
        rfl

abbrev el0 : El := ((0 : Int), ((0 : Int), ByteArray.empty))

def lastIs (b : Bool) (l : List El) : Prop := l ≠ [] ∧ decide ((l.getD (l.length - 1) el0).2.2.size = 0) = b

instance (b : Bool) (l : List El) : Decidable (lastIs b l) := inferInstanceAs (Decidable (_ ∧ _))

/-- Bytes kept, behind elements. -/
def mkCopy (l : List El) (f t : Int) : List El :=
  if f = t then l else if lastIs true l ∧ (l.getD (l.length - 1) el0).2.1 = f then l.set (l.length - 1) ((l.getD (l.length - 1) el0).1, (t, (l.getD (l.length - 1) el0).2.2)) else l ++ [(f, (t, ByteArray.empty))]

/-- A text put in, behind elements. -/
def mkPut (l : List El) (s : ByteArray) : List El :=
  if s.size = 0 then l else if lastIs false l then l.set (l.length - 1) ((l.getD (l.length - 1) el0).1, ((l.getD (l.length - 1) el0).2.1, (l.getD (l.length - 1) el0).2.2 ++ s)) else l ++ [(0, (0, s))]

def sumT : List El → Nat
  | [] => 0
  | x :: r => x.2.2.size + sumT r

def sumK : List El → Int
  | [] => 0
  | x :: r => (x.2.1 - x.1) + sumK r

theorem sumT_app : ∀ {l r : List El}, sumT (l ++ r) = sumT l + sumT r
  | [], r => by simp [sumT]
  | x :: l, r => by simp only [List.cons_append, sumT, sumT_app]; omega

theorem le_sumT : ∀ {l : List El} {x : El}, x ∈ l → x.2.2.size ≤ sumT l
  | y :: l, x, h => by
    rw [sumT]
    rcases List.mem_cons.1 h with rfl | h
    · omega
    · have := le_sumT h; omega

theorem empty_size : ByteArray.empty.size = 0 := rfl

theorem getD_last {l : List El} {p : El} : (l ++ [p]).getD ((l ++ [p]).length - 1) el0 = p := by
  simp [List.getD]

theorem set_last {α : Type} {l : List α} {p q : α} : (l ++ [p]).set ((l ++ [p]).length - 1) q = l ++ [q] := by
  have : (l ++ [p]).length - 1 = l.length := by simp
  rw [this, List.set_append_right _ _ (Nat.le_refl _), Nat.sub_self, List.set_cons_zero]

theorem mkCopy_nil {f t : Int} : mkCopy [] f t = if f = t then [] else [(f, (t, ByteArray.empty))] := by
  unfold mkCopy
  split
  · rfl
  · rw [if_neg (fun h => h.1.1 rfl)]; rfl

theorem lastIs_app {b : Bool} {l : List El} {p : El} : lastIs b (l ++ [p]) ↔ decide (p.2.2.size = 0) = b := by
  unfold lastIs
  rw [getD_last]
  exact ⟨fun h => h.2, fun h => ⟨by simp, h⟩⟩

theorem mkCopy_app {l : List El} {p : El} {f t : Int} : mkCopy (l ++ [p]) f t = if f = t then l ++ [p] else if p.2.2.size = 0 ∧ p.2.1 = f then l ++ [(p.1, (t, p.2.2))] else l ++ [p] ++ [(f, (t, ByteArray.empty))] := by
  unfold mkCopy
  rw [getD_last, set_last]
  by_cases h : f = t
  · rw [if_pos h, if_pos h]
  · rw [if_neg h, if_neg h]
    by_cases h2 : p.2.2.size = 0 ∧ p.2.1 = f
    · rw [if_pos ⟨lastIs_app.2 (decide_eq_true h2.1), h2.2⟩, if_pos h2]
    · rw [if_neg (fun h' => h2 ⟨of_decide_eq_true (lastIs_app.1 h'.1), h'.2⟩), if_neg h2]

theorem mkPut_nil {s : ByteArray} : mkPut [] s = if s.size = 0 then [] else [(0, (0, s))] := by
  unfold mkPut
  split
  · rfl
  · rw [if_neg (fun h => h.1 rfl)]; rfl

theorem mkPut_app {l : List El} {p : El} {s : ByteArray} : mkPut (l ++ [p]) s = if s.size = 0 then l ++ [p] else if p.2.2.size = 0 then l ++ [p] ++ [(0, (0, s))] else l ++ [(p.1, (p.2.1, p.2.2 ++ s))] := by
  unfold mkPut
  rw [getD_last, set_last]
  by_cases h : s.size = 0
  · rw [if_pos h, if_pos h]
  · rw [if_neg h, if_neg h]
    by_cases h2 : p.2.2.size = 0
    · rw [if_neg (fun h' => by have := lastIs_app.1 h'; simp [h2] at this), if_pos h2]
    · rw [if_pos (lastIs_app.2 (decide_eq_false h2)), if_neg h2]

theorem bsize_app {a b : ByteArray} : (a ++ b).size = a.size + b.size := ByteArray.size_append

theorem mkCopy_len {l : List El} {f t : Int} : (mkCopy l f t).length ≤ l.length + 1 := by
  unfold mkCopy
  split
  · omega
  · split <;> simp

theorem mkPut_len {l : List El} {s : ByteArray} : (mkPut l s).length ≤ l.length + 1 := by
  unfold mkPut
  split
  · omega
  · split <;> simp

theorem mkCopy_sumT {l : List El} {f t : Int} : sumT (mkCopy l f t) = sumT l := by
  by_cases h : l = []
  · subst h; rw [mkCopy_nil]; split <;> simp [sumT, empty_size]
  · obtain ⟨m, p, rfl⟩ := split_last h
    rw [mkCopy_app]
    split
    · rfl
    · split
      · simp [sumT_app, sumT]
      · simp [sumT_app, sumT, empty_size]

theorem mkPut_sumT {l : List El} {s : ByteArray} : sumT (mkPut l s) = sumT l + s.size := by
  by_cases h : l = []
  · subst h; rw [mkPut_nil]; split
    · simp [sumT]; omega
    · simp [sumT]
  · obtain ⟨m, p, rfl⟩ := split_last h
    rw [mkPut_app]
    split
    · omega
    · split
      · simp [sumT_app, sumT] <;> omega
      · simp [sumT_app, sumT, bsize_app] <;> omega

theorem copy_is {K : Nat} {m f t : Int} {l : List El} (hl : l.length ≤ 1000000000) : delta_Maker_Copy_bgg_11dec K m l f t = some (mkCopy l f t) := by
  unfold delta_Maker_Copy_bgg_11dec mkCopy
  have hw : IntKind.wrap .i64 ((l.length : Int) - 1) = (l.length : Int) - 1 := w64 (by omega) (by omega)
  rw [hw]
  by_cases h : f = t
  · rw [if_pos (by simpa using h), if_pos h]
  · rw [if_neg (by simpa using h), if_neg h]
    by_cases he : l = []
    · subst he
      rw [if_neg (by simp), Option.bind_some, if_neg (by simp), if_pos (by simp), if_neg (fun h => h.1.1 rfl)]
    · have hp : 0 < l.length := List.length_pos_iff.2 he
      have hn : ((l.length : Int) - 1).toNat = l.length - 1 := by omega
      rw [if_pos (by simp; omega), hn, isCopy_is, Option.bind_some]
      by_cases hz : (l.getD (l.length - 1) el0).2.2.size = 0
      · rw [if_pos (decide_eq_true hz), if_pos ⟨by omega, by omega⟩, Option.bind_some]
        by_cases hq : (l.getD (l.length - 1) el0).2.1 = f
        · rw [if_pos (by simpa using hq), if_pos ⟨by omega, by omega⟩, if_pos ⟨⟨he, decide_eq_true hz⟩, hq⟩]
        · rw [if_neg (by simpa using hq), if_pos (by simp; omega), if_neg (fun h => hq h.2)]
      · rw [if_neg (by simpa using hz), if_pos ⟨by omega, by omega⟩, Option.bind_some, if_neg (by simp), if_pos (by simp; omega), if_neg (fun h => hz (of_decide_eq_true h.1.2))]

theorem putm_is {K : Nat} {m : Int} {l : List El} {s : ByteArray} (hl : l.length ≤ 1000000000) (ht : sumT l + s.size ≤ 9223372036854775807) : delta_Maker_Put_bg_92925 K m l s = some (mkPut l s) := by
  unfold delta_Maker_Put_bg_92925 mkPut
  have hw : IntKind.wrap .i64 ((l.length : Int) - 1) = (l.length : Int) - 1 := w64 (by omega) (by omega)
  rw [hw, str_nil]
  by_cases h : s.size = 0
  · rw [if_pos (by simpa using h), if_pos h]
  · rw [if_neg (by simpa using h), if_neg h]
    by_cases he : l = []
    · subst he
      rw [if_neg (by simp), Option.bind_some, if_neg (by simp), if_pos (by simp), if_neg (fun h => h.1 rfl)]
    · have hp : 0 < l.length := List.length_pos_iff.2 he
      have hn : ((l.length : Int) - 1).toNat = l.length - 1 := by omega
      have hm : l.getD (l.length - 1) el0 ∈ l := by
        rw [List.getD, List.getElem?_eq_getElem (by omega)]
        simp
      have hs := le_sumT hm
      rw [if_pos (by simp; omega), hn, isCopy_is, Option.bind_some, if_pos ⟨by omega, by omega⟩, Option.bind_some]
      by_cases hz : (l.getD (l.length - 1) el0).2.2.size = 0
      · rw [show decide ((l.getD (l.length - 1) ((0 : Int), ((0 : Int), ByteArray.empty))).2.2.size = 0) = true from decide_eq_true hz, if_neg (by simp), if_pos (by simp; omega), if_neg (fun h => by have := h.2; rw [decide_eq_true hz] at this; cases this)]
      · have h3 : (l.getD (l.length - 1) ((0 : Int), ((0 : Int), ByteArray.empty))).2.2.size ≤ sumT l := hs
        rw [show decide ((l.getD (l.length - 1) ((0 : Int), ((0 : Int), ByteArray.empty))).2.2.size = 0) = false from decide_eq_false hz, if_pos (by simp), if_pos ⟨by omega, by omega, by omega⟩, if_pos ⟨he, decide_eq_false hz⟩]

/-- Changes, one behind the other. -/
def bld : List El → Int → List El → List El × Int
  | acc, a, [] => (acc, a)
  | acc, a, c :: r => bld (mkPut (mkCopy acc a c.1) c.2.2) c.2.1 r

theorem bld_len : ∀ {l acc : List El} {a : Int}, (bld acc a l).1.length ≤ acc.length + 2 * l.length
  | [], acc, a => by simp [bld]
  | c :: r, acc, a => by
    rw [bld]
    have h1 := bld_len (l := r) (acc := mkPut (mkCopy acc a c.1) c.2.2) (a := c.2.1)
    have h2 := mkPut_len (l := mkCopy acc a c.1) (s := c.2.2)
    have h3 := mkCopy_len (l := acc) (f := a) (t := c.1)
    simp only [List.length_cons]; omega

theorem build_loop {K : Nat} {l : List El} {base : Int} : ∀ (rest : List El) (j k : Nat) (acc : List El) (a : Int), l.drop j = rest → rest.length < k → l.length ≤ 1000000 → acc.length ≤ 2 * j → sumT acc + sumT rest ≤ 9000000000000000000 →
    delta_Build_gr.l0 K l base k acc a (j : Int) = some (bld acc a rest)
  | [], j, k, acc, a, hd, hk, hl, ha, ht => by
    obtain ⟨k, rfl⟩ : ∃ m, k = m + 1 := ⟨k - 1, by simp at hk; omega⟩
    have := drop_nil hd
    rw [delta_Build_gr.l0, if_neg (by simp; omega)]
    rfl
  | c :: rest, j, k, acc, a, hd, hk, hl, ha, ht => by
    obtain ⟨k, rfl⟩ : ∃ m, k = m + 1 := ⟨k - 1, by simp at hk; omega⟩
    obtain ⟨hj, hgd, hd'⟩ := drop_cons hd el0
    have hk' : rest.length < k := by simp at hk; omega
    have hw : IntKind.wrap .i64 ((j : Int) + 1) = ((j + 1 : Nat) : Int) := by rw [w64 (by omega) (by omega)]; omega
    have h2 := mkPut_len (l := mkCopy acc a c.1) (s := c.2.2)
    have h3 := mkCopy_len (l := acc) (f := a) (t := c.1)
    have s1 := mkCopy_sumT (l := acc) (f := a) (t := c.1)
    have s2 := mkPut_sumT (l := mkCopy acc a c.1) (s := c.2.2)
    simp only [sumT] at ht
    rw [delta_Build_gr.l0]
    simp only [Int.toNat_natCast, hgd, hw]
    rw [if_pos (by simpa using hj), if_pos ⟨by omega, by omega⟩, copy_is (by omega), Option.bind_some, putm_is (by omega) (by omega), Option.bind_some, build_loop rest (j + 1) k _ _ hd' hk' hl (by omega) (by omega)]
    rfl

def rngL (base : Int) (l : List El) : Bool := l.all fun c => decide (0 ≤ c.1 ∧ c.1 ≤ c.2.1 ∧ c.2.1 ≤ base)

def ordL : Option El → List El → Bool
  | _, [] => true
  | none, b :: r => ordL (some b) r
  | some a, b :: r => !decide (b.1 < a.2.1 ∨ a.1 = b.1 ∧ a.2.1 = b.1) && ordL (some b) r

def valL (l : List El) : Bool := l.all fun c => uvalid c.2.2

def lngL : Int → List El → Int
  | _, [] => 0
  | left, c :: r => if c.2.2.size > left then 13 else lngL (left - c.2.2.size) r

theorem rng_loop {K : Nat} {l : List El} {base : Int} (hl : l.length ≤ 1000000000) : ∀ (rest : List El) (j k : Nat), l.drop j = rest → rest.length < k →
    delta_check_gr.l0 K l base k (j : Int) = some (if rngL base rest = true then .inr () else .inl 10)
  | [], j, k, hd, hk => by
    obtain ⟨k, rfl⟩ : ∃ m, k = m + 1 := ⟨k - 1, by simp at hk; omega⟩
    have := drop_nil hd
    rw [delta_check_gr.l0, if_neg (by simp; omega)]
    rfl
  | c :: rest, j, k, hd, hk => by
    obtain ⟨k, rfl⟩ : ∃ m, k = m + 1 := ⟨k - 1, by simp at hk; omega⟩
    obtain ⟨hj, hgd, hd'⟩ := drop_cons hd el0
    have hk' : rest.length < k := by simp at hk; omega
    have hw : IntKind.wrap .i64 ((j : Int) + 1) = ((j + 1 : Nat) : Int) := by rw [w64 (by omega) (by omega)]; omega
    rw [delta_check_gr.l0]
    simp only [Int.toNat_natCast, hgd, hw]
    rw [if_pos (by simpa using hj), if_pos ⟨by omega, by omega⟩, rng_loop hl rest (j + 1) k hd' hk', show rngL base (c :: rest) = (decide (0 ≤ c.1 ∧ c.1 ≤ c.2.1 ∧ c.2.1 ≤ base) && rngL base rest) from rfl]
    by_cases h1 : c.1 < 0
    · rw [if_pos (by simpa using h1), Option.bind_some, if_pos rfl, decide_eq_false (by omega)]; rfl
    · rw [if_neg (by simpa using h1)]
      by_cases h2 : c.1 > c.2.1
      · rw [if_pos (by simpa using h2), Option.bind_some, if_pos rfl, decide_eq_false (by omega)]; rfl
      · rw [if_neg (by simpa using h2), Option.bind_some]
        by_cases h3 : c.2.1 > base
        · rw [if_pos (by simpa using h3), decide_eq_false (by omega)]; rfl
        · rw [if_neg (by simpa using h3), decide_eq_true (by omega)]; rfl

theorem ord_loop {K : Nat} {l : List El} (hl : l.length ≤ 1000000000) : ∀ (rest : List El) (j k : Nat), l.drop j = rest → rest.length < k → 1 ≤ j →
    delta_Ordered_r.l0 K l k (j : Int) = some (ordL (some (l.getD (j - 1) el0)) rest)
  | [], j, k, hd, hk, h1 => by
    obtain ⟨k, rfl⟩ : ∃ m, k = m + 1 := ⟨k - 1, by simp at hk; omega⟩
    have := drop_nil hd
    rw [delta_Ordered_r.l0, if_neg (by simp; omega)]
    rfl
  | c :: rest, j, k, hd, hk, h1 => by
    obtain ⟨k, rfl⟩ : ∃ m, k = m + 1 := ⟨k - 1, by simp at hk; omega⟩
    obtain ⟨hj, hgd, hd'⟩ := drop_cons hd el0
    have hk' : rest.length < k := by simp at hk; omega
    have hw : IntKind.wrap .i64 ((j : Int) + 1) = ((j + 1 : Nat) : Int) := by rw [w64 (by omega) (by omega)]; omega
    have hw1 : IntKind.wrap .i64 ((j : Int) - 1) = (j : Int) - 1 := w64 (by omega) (by omega)
    have hn : ((j : Int) - 1).toNat = j - 1 := by omega
    have hr := ord_loop (K := K) hl rest (j + 1) k hd' hk' (by omega)
    rw [Nat.add_sub_cancel, hgd] at hr
    rw [delta_Ordered_r.l0]
    simp only [Int.toNat_natCast, hgd, hw, hw1, hn]
    rw [if_pos (by simpa using hj), if_pos ⟨by omega, by omega, by omega, by omega⟩, hr, ordL]
    by_cases a1 : c.1 < (l.getD (j - 1) el0).2.1
    · rw [if_pos (by simpa using a1), Option.bind_some, if_pos rfl, decide_eq_true (.inl a1)]; rfl
    · rw [if_neg (by simpa using a1)]
      by_cases a2 : (l.getD (j - 1) el0).1 = c.1
      · rw [if_pos (by simpa using a2), Option.bind_some]
        by_cases a3 : (l.getD (j - 1) el0).2.1 = c.1
        · rw [if_pos (by simpa using a3), decide_eq_true (.inr ⟨a2, a3⟩)]; rfl
        · rw [if_neg (by simpa using a3), decide_eq_false (by omega)]; rfl
      · rw [if_neg (by simpa using a2), Option.bind_some, if_neg (by simp), decide_eq_false (by omega)]; rfl

theorem ord_is {K : Nat} {l : List El} (hl : l.length ≤ 1000000000) (hK : l.length < K) : delta_Ordered_r K l = some (ordL none l) := by
  unfold delta_Ordered_r
  cases l with
  | nil =>
    obtain ⟨k, rfl⟩ : ∃ m, K = m + 1 := ⟨K - 1, by simp at hK; omega⟩
    rw [delta_Ordered_r.l0, if_neg (by simp)]; rfl
  | cons c r =>
    have h := ord_loop (K := K) hl r 1 K rfl (by simp at hK; omega) (by omega)
    rw [show ((1 : Nat) : Int) = 1 from rfl] at h
    rw [h]; rfl

theorem val_loop {K : Nat} {l : List El} (hl : l.length ≤ 1000000000) (ht : ∀ x ∈ l, x.2.2.size + 10 ≤ K ∧ x.2.2.size ≤ 1000000000000) : ∀ (rest : List El) (j k : Nat), l.drop j = rest → rest.length < k →
    delta_check_gr.l1 K l k (j : Int) = some (if valL rest = true then .inr () else .inl 12)
  | [], j, k, hd, hk => by
    obtain ⟨k, rfl⟩ : ∃ m, k = m + 1 := ⟨k - 1, by simp at hk; omega⟩
    have := drop_nil hd
    rw [delta_check_gr.l1, if_neg (by simp; omega)]
    rfl
  | c :: rest, j, k, hd, hk => by
    obtain ⟨k, rfl⟩ : ∃ m, k = m + 1 := ⟨k - 1, by simp at hk; omega⟩
    obtain ⟨hj, hgd, hd'⟩ := drop_cons hd el0
    have hk' : rest.length < k := by simp at hk; omega
    have hw : IntKind.wrap .i64 ((j : Int) + 1) = ((j + 1 : Nat) : Int) := by rw [w64 (by omega) (by omega)]; omega
    have hc : c ∈ l := by rw [← hgd]; simp [List.getD, hj]
    have hcs := ht c hc
    rw [delta_check_gr.l1]
    simp only [Int.toNat_natCast, hgd, hw]
    rw [if_pos (by simpa using hj), if_pos ⟨by omega, by omega⟩, uvalid_is (by omega) (by omega), Option.bind_some, val_loop hl ht rest (j + 1) k hd' hk', show valL (c :: rest) = (uvalid c.2.2 && valL rest) from rfl]
    cases uvalid c.2.2 <;> simp

theorem lng_loop {K : Nat} {l : List El} (hl : l.length ≤ 1000000000) : ∀ (rest : List El) (j k : Nat) (left : Int), l.drop j = rest → rest.length < k → 0 ≤ left → left ≤ 1000000000000 →
    delta_long_gr.l1 K l k left (j : Int) = some (lngL left rest)
  | [], j, k, left, hd, hk, h0, h1 => by
    obtain ⟨k, rfl⟩ : ∃ m, k = m + 1 := ⟨k - 1, by simp at hk; omega⟩
    have := drop_nil hd
    rw [delta_long_gr.l1, if_neg (by simp; omega)]
    rfl
  | c :: rest, j, k, left, hd, hk, h0, h1 => by
    obtain ⟨k, rfl⟩ : ∃ m, k = m + 1 := ⟨k - 1, by simp at hk; omega⟩
    obtain ⟨hj, hgd, hd'⟩ := drop_cons hd el0
    have hk' : rest.length < k := by simp at hk; omega
    have hw : IntKind.wrap .i64 ((j : Int) + 1) = ((j + 1 : Nat) : Int) := by rw [w64 (by omega) (by omega)]; omega
    rw [delta_long_gr.l1]
    simp only [Int.toNat_natCast, hgd, hw]
    rw [if_pos (by simpa using hj), if_pos ⟨by omega, by omega⟩, lngL]
    by_cases h : c.2.2.size > left
    · rw [if_pos (by simpa using h), if_pos h]
    · rw [if_neg (by simpa using h), if_neg h, w64 (by omega) (by omega), lng_loop hl rest (j + 1) k _ hd' hk' (by omega) (by omega)]

theorem gap_loop {K : Nat} {l : List El} (hl : l.length ≤ 1000000) (hr : rngL 20000 l = true) : ∀ (rest : List El) (j k : Nat) (left : Int), l.drop j = rest → rest.length < k → j ≤ l.length → 0 ≤ left → left ≤ 20000 + 20000 * j →
    delta_long_gr.l0 K l k left (j : Int) = some (left + sumK rest) ∧ 0 ≤ left + sumK rest ∧ left + sumK rest ≤ 20000 + 20000 * l.length
  | [], j, k, left, hd, hk, hj, h0, h1 => by
    obtain ⟨k, rfl⟩ : ∃ m, k = m + 1 := ⟨k - 1, by simp at hk; omega⟩
    have := drop_nil hd
    rw [delta_long_gr.l0, if_neg (by simp; omega)]
    simp only [sumK, Int.add_zero]
    exact ⟨trivial, h0, by omega⟩
  | c :: rest, j, k, left, hd, hk, hjl, h0, h1 => by
    obtain ⟨k, rfl⟩ : ∃ m, k = m + 1 := ⟨k - 1, by simp at hk; omega⟩
    obtain ⟨hj, hgd, hd'⟩ := drop_cons hd el0
    have hk' : rest.length < k := by simp at hk; omega
    have hw : IntKind.wrap .i64 ((j : Int) + 1) = ((j + 1 : Nat) : Int) := by rw [w64 (by omega) (by omega)]; omega
    have hc : c ∈ l := by rw [← hgd]; simp [List.getD, hj]
    have hcr := of_decide_eq_true (List.all_eq_true.1 hr c hc)
    rw [delta_long_gr.l0]
    simp only [Int.toNat_natCast, hgd, hw]
    rw [if_pos (by simpa using hj), if_pos ⟨by omega, by omega⟩, w64 (n := c.2.1 - c.1) (by omega) (by omega), w64 (n := left + (c.2.1 - c.1)) (by omega) (by omega)]
    obtain ⟨e1, e2, e3⟩ := gap_loop (K := K) hl hr rest (j + 1) k (left + (c.2.1 - c.1)) hd' hk' (by omega) (by omega) (by omega)
    simp only [sumK]
    rw [e1]
    exact ⟨by congr 1; omega, by omega, by omega⟩

theorem rngL_mono {b c : Int} (h : b ≤ c) {l : List El} (hr : rngL b l = true) : rngL c l = true := by
  unfold rngL at *
  rw [List.all_eq_true] at *
  intro x hx
  have := of_decide_eq_true (hr x hx)
  exact decide_eq_true (by omega)

/-- The first error of changes, by kind. -/
def chk (base : Int) (l : List El) : Int :=
  if base < 0 ∨ base > 20000 then 10 else if rngL base l = false then 10 else if ordL none l = false then 180 else if valL l = false then 12 else lngL (20000 - base + sumK l) l

theorem check_is {K : Nat} {l : List El} {base : Int} (hl : l.length ≤ 1000000) (hK : l.length < K) (ht : ∀ x ∈ l, x.2.2.size + 10 ≤ K ∧ x.2.2.size ≤ 1000000000000) : delta_check_gr K base l = some (chk base l) := by
  unfold delta_check_gr chk
  by_cases h1 : base < 0
  · rw [if_pos (by simpa using h1), Option.bind_some, if_pos rfl, if_pos (.inl h1)]
  · rw [if_neg (by simpa using h1), Option.bind_some]
    by_cases h2 : base > 20000
    · rw [if_pos (by simpa using h2), if_pos (.inr h2)]
    · rw [if_neg (by simpa using h2), if_neg (by omega)]
      have e0 := rng_loop (K := K) (base := base) (l := l) (by omega) l 0 K rfl (by omega)
      rw [Int.natCast_zero] at e0
      rw [e0, Option.bind_some]
      cases hr : rngL base l with
      | false => simp
      | true =>
        simp only [if_true, Sum.elim_inr, Bool.true_eq_false, if_false]
        rw [ord_is (by omega) hK, Option.bind_some]
        cases ho : ordL none l with
        | false => simp
        | true =>
          have e1 := val_loop (K := K) (l := l) (by omega) ht l 0 K rfl (by omega)
          rw [Int.natCast_zero] at e1
          rw [if_neg (by simp), e1, Option.bind_some]
          cases hv : valL l with
          | false => simp
          | true =>
            simp only [if_true, Sum.elim_inr, Bool.true_eq_false, if_false]
            unfold delta_long_gr
            obtain ⟨e2, e3, e4⟩ := gap_loop (K := K) (l := l) hl (rngL_mono (by omega) hr) l 0 K (20000 - base) rfl (by omega) (by omega) (by omega) (by omega)
            have e5 := lng_loop (K := K) (l := l) (by omega) l 0 K (20000 - base + sumK l) rfl (by omega) (by omega) (by omega)
            rw [Int.natCast_zero] at e2 e5
            rw [w64 (n := 20000 - base) (by omega) (by omega), e2, Option.bind_some, e5]
            rfl

/-- What is built. -/
def bldD (base : Int) (l : List El) : Int × (List El × Int) :=
  if chk base l ≠ 0 then (0, ([], chk base l)) else if (mkCopy (bld [] 0 l).1 (bld [] 0 l).2 base).length > 60 then (0, ([], 70)) else (base, (mkCopy (bld [] 0 l).1 (bld [] 0 l).2 base, 0))

theorem build_is {K : Nat} {l : List El} {base : Int} (hl : l.length ≤ 1000000) (hK : l.length < K) (ht : ∀ x ∈ l, x.2.2.size + 10 ≤ K ∧ x.2.2.size ≤ 1000000000000) : delta_Build_gr K base l = some (bldD base l) := by
  unfold delta_Build_gr bldD
  rw [check_is hl hK ht, Option.bind_some]
  by_cases h : chk base l = 0
  · have hs : sumT l ≤ 1000000000000 * l.length := by
      have : ∀ (r : List El), (∀ x ∈ r, x.2.2.size ≤ 1000000000000) → sumT r ≤ 1000000000000 * r.length := by
        intro r
        induction r with
        | nil => intro _; simp [sumT]
        | cons x r ih =>
          intro hx
          have h1 := hx x (by simp)
          have h2 := ih fun y hy => hx y (by simp [hy])
          simp only [sumT, List.length_cons]; omega
      exact this l fun x hx => (ht x hx).2
    have e := build_loop (K := K) (l := l) (base := base) l 0 K [] 0 rfl hK hl (by simp) (by simp only [sumT]; omega)
    rw [Int.natCast_zero] at e
    have hbl := bld_len (l := l) (acc := []) (a := 0)
    simp only [List.length_nil] at hbl
    rw [if_neg (by simpa using h), if_neg (by simpa using h)]
    unfold delta_NewMaker
    rw [Option.bind_some, e, Option.bind_some, copy_is (by omega), Option.bind_some]
    unfold delta_Maker_Delta_b_ee1c6
    by_cases h6 : (mkCopy (bld [] 0 l).1 (bld [] 0 l).2 base).length > 60
    · rw [if_pos (by simp; omega), if_pos h6]; rfl
    · rw [if_neg (by simp; omega), if_neg h6]; rfl
  · rw [if_pos (by simpa using h), if_pos h]

/-- An element of a delta. -/
def okE (base : Int) (x : El) : Prop := 0 ≤ x.1 ∧ x.1 ≤ x.2.1 ∧ x.2.1 ≤ base ∧ (x.2.2.size = 0 ∨ x.1 = 0 ∧ x.2.1 = 0)

theorem isL_ok {base : Int} (hb : 0 ≤ base) : ∀ {l : List El} {size to : Int} {pre : Option Bool}, isL base size to pre l = true → 0 ≤ to → size ≤ 20000 → (∀ x ∈ l, okE base x) ∧ size + sumK l + sumT l ≤ 20000
  | [], size, to, pre, h, h0, h1 => ⟨by simp, by simp [sumK, sumT]; omega⟩
  | x :: r, size, to, pre, h, h0, h1 => by
    rw [isL] at h
    split at h
    · rename_i hz
      rw [Bool.and_eq_true, decide_eq_true_eq] at h
      obtain ⟨⟨c1, c2, c3, c4, c5⟩, hr⟩ := h
      obtain ⟨e1, e2⟩ := isL_ok hb hr (by omega) c5
      refine ⟨fun y hy => ?_, by simp only [sumK, sumT, hz]; omega⟩
      rcases List.mem_cons.1 hy with rfl | hy
      · exact ⟨by omega, by omega, c4, .inl hz⟩
      · exact e1 y hy
    · rw [Bool.and_eq_true, Bool.and_eq_true, decide_eq_true_eq] at h
      obtain ⟨⟨⟨c1, c2, c3, c4⟩, hv⟩, hr⟩ := h
      obtain ⟨e1, e2⟩ := isL_ok hb hr h0 c4
      refine ⟨fun y hy => ?_, by simp only [sumK, sumT]; omega⟩
      rcases List.mem_cons.1 hy with rfl | hy
      · exact ⟨by omega, by omega, by omega, .inr ⟨c1, c2⟩⟩
      · exact e1 y hy

theorem isD_ok {base : Int} {l : List El} (h : isD base l = true) : 0 ≤ base ∧ base ≤ 20000 ∧ l.length ≤ 60 ∧ (∀ x ∈ l, okE base x) ∧ sumK l + sumT l ≤ 20000 := by
  unfold isD at h
  rw [Bool.and_eq_true, decide_eq_true_eq] at h
  obtain ⟨⟨h1, h2, h3⟩, h4⟩ := h
  obtain ⟨e1, e2⟩ := isL_ok h1 h4 (by omega) (by omega)
  exact ⟨h1, h2, h3, e1, by omega⟩

theorem sumK_nonneg {base : Int} : ∀ {l : List El}, (∀ x ∈ l, okE base x) → 0 ≤ sumK l
  | [], _ => by simp [sumK]
  | x :: r, h => by
    have h1 := h x (by simp)
    have h2 := sumK_nonneg (l := r) fun y hy => h y (by simp [hy])
    have := h1.2.1
    simp only [sumK]; omega

abbrev Ce := Int × Int

/-- How many at the head are put in. -/
def runT : List Ce → Nat
  | [] => 0
  | c :: r => if c.1 < 0 then runT r + 1 else 0

/-- How many at the head go on from a place. -/
def runC : Int → List Ce → Nat
  | _, [] => 0
  | a, c :: r => if c.1 = a + 1 then runC c.1 r + 1 else 0

/-- Cells, told. -/
def told : Nat → List Ce → List El
  | 0, _ => []
  | _, [] => []
  | m + 1, c :: r =>
    if c.1 < 0 then (0, (0, ofBytes (c.2 :: (r.take (runT r)).map (·.2)))) :: told m (r.drop (runT r))
    else (c.1, (c.1 + runC c.1 r + 1, ByteArray.empty)) :: told m (r.drop (runC c.1 r))

def mvE (p : Int) : Int → Int → List El → Int × Int
  | n, w, [] => (n, w)
  | n, w, x :: r => if x.2.2.size = 0 then (if x.1 ≥ p then (n, w) else if x.2.1 > p then (n + (w + min x.2.1 p - x.1), 0) else mvE p (n + (w + min x.2.1 p - x.1)) 0 r) else mvE p n (w + x.2.2.size) r

theorem move_loop {K : Nat} {d : List El} {a base p : Int} (hp : mn2 (mx2 a 0) base = p) (hb : base ≤ 20000) (hl : d.length ≤ 1000) : ∀ (rest : List El) (j k : Nat) (n w : Int), d.drop j = rest → rest.length < k → (∀ x ∈ rest, okE base x) → 0 ≤ n → 0 ≤ w → n + w + sumK rest + sumT rest ≤ 1000000 →
    offset_Move.l0 K d a base k n w (j : Int) = some (mvE p n w rest)
  | [], j, k, n, w, hd, hk, hx, h0, h1, h2 => by
    obtain ⟨k, rfl⟩ : ∃ m, k = m + 1 := ⟨k - 1, by simp at hk; omega⟩
    have := drop_nil hd
    rw [offset_Move.l0, if_neg (by simp; omega)]
    rfl
  | x :: rest, j, k, n, w, hd, hk, hx, h0, h1, h2 => by
    obtain ⟨k, rfl⟩ : ∃ m, k = m + 1 := ⟨k - 1, by simp at hk; omega⟩
    obtain ⟨hj, hgd, hd'⟩ := drop_cons hd el0
    have hk' : rest.length < k := by simp at hk; omega
    have hw : IntKind.wrap .i64 ((j : Int) + 1) = ((j + 1 : Nat) : Int) := by rw [w64 (by omega) (by omega)]; omega
    obtain ⟨o1, o2, o3, o4⟩ := hx x (by simp)
    have hr : ∀ y ∈ rest, okE base y := fun y hy => hx y (by simp [hy])
    have hnn := sumK_nonneg hr
    simp only [sumK, sumT] at h2
    rw [offset_Move.l0]
    simp only [Int.toNat_natCast, hgd, hw, hp, mn2_eq]
    rw [if_pos (by simpa using hj), if_pos ⟨by omega, by omega⟩, isCopy_is, Option.bind_some, mvE]
    by_cases hz : x.2.2.size = 0
    · rw [decide_eq_true hz, if_neg (by simp), if_pos hz]
      by_cases c1 : x.1 ≥ p
      · rw [if_pos (by simpa using c1), if_pos c1]
      · rw [if_neg (by simpa using c1), if_neg c1, w64 (n := w + min x.2.1 p) (by omega) (by omega), w64 (n := w + min x.2.1 p - x.1) (by omega) (by omega), w64 (n := n + (w + min x.2.1 p - x.1)) (by omega) (by omega)]
        by_cases c2 : x.2.1 > p
        · rw [if_pos (by simpa using c2), if_pos c2]
        · rw [if_neg (by simpa using c2), if_neg c2, move_loop hp hb hl rest (j + 1) k _ _ hd' hk' hr (by omega) (by omega) (by omega)]
    · rw [decide_eq_false hz, if_pos (by simp), if_neg hz, w64 (n := w + (x.2.2.size : Int)) (by omega) (by omega), move_loop hp hb hl rest (j + 1) k _ _ hd' hk' hr (by omega) (by omega) (by omega)]

theorem mvE_ok {base p : Int} (hp : 0 ≤ p) : ∀ {l : List El} {n w : Int}, (∀ x ∈ l, okE base x) → 0 ≤ n → 0 ≤ w → n ≤ (mvE p n w l).1 ∧ 0 ≤ (mvE p n w l).2 ∧ (mvE p n w l).1 + (mvE p n w l).2 ≤ n + w + sumK l + sumT l
  | [], n, w, _, h0, h1 => by simp only [mvE, sumK, sumT]; omega
  | x :: r, n, w, hx, h0, h1 => by
    obtain ⟨o1, o2, o3, o4⟩ := hx x (by simp)
    have hr : ∀ y ∈ r, okE base y := fun y hy => hx y (by simp [hy])
    have hnn := sumK_nonneg hr
    rw [mvE]
    simp only [sumK, sumT]
    split
    · split
      · simp only; omega
      · split
        · simp only; omega
        · have := mvE_ok hp (l := r) (n := n + (w + min x.2.1 p - x.1)) (w := 0) hr (by omega) (by omega)
          omega
    · have := mvE_ok hp (l := r) (n := n) (w := w + x.2.2.size) hr h0 (by omega)
      omega

/-- Where a place goes. -/
def mv (base : Int) (d : List El) (a : Int) (after : Bool) : Int := if isD base d = true then (if after = true then (mvE (min (max a 0) base) 0 0 d).1 + (mvE (min (max a 0) base) 0 0 d).2 else (mvE (min (max a 0) base) 0 0 d).1) else 0

theorem move_is {K : Nat} {d : List El} {base a : Int} {after : Bool} (hK : 30000 ≤ K) : offset_Move K base d a after = some (mv base d a after) := by
  unfold offset_Move mv
  rw [is_is hK, Option.bind_some]
  by_cases h : isD base d = true
  · obtain ⟨h1, h2, h3, h4, h5⟩ := isD_ok h
    have hn := sumK_nonneg h4
    have e := move_loop (K := K) (d := d) (a := a) (base := base) rfl h2 (by omega) d 0 K 0 0 rfl (by omega) h4 (by omega) (by omega) (by omega)
    rw [Int.natCast_zero, mn2_eq, mx2_eq] at e
    obtain ⟨m1, m2, m3⟩ := mvE_ok (base := base) (p := min (max a 0) base) (by omega) (l := d) (n := 0) (w := 0) h4 (by omega) (by omega)
    rw [h, if_neg (by simp), if_pos rfl, e, Option.bind_some]
    cases after with
    | false => rfl
    | true => rw [if_pos rfl, if_pos rfl, w64 (by omega) (by omega)]
  · rw [if_pos (by simpa using h), if_neg h]

theorem ofBytes_size (xs : List Int) : (ofBytes xs).size = xs.length := by
  unfold ofBytes
  rw [ByteArray.size]
  rw [List.size_toArray, List.length_map]

/-- Whether a place is an edge, by the document's own look. -/
def isE (s : ByteArray) (p : Int) : Bool := decide (0 ≤ p ∧ p ≤ s.size) && (uvalid s && (decide (p = s.size) || !decide (cont (bt s p))))

/-- Ones ahead of a place, then noughts. -/
def f1 (x : Int) : Int → Nat → List Int
  | _, 0 => []
  | a, n + 1 => (if a < x then 1 else 0) :: f1 x (a + 1) n

theorem get_mid {α : Type} {A R : List α} {x d : α} {n : Nat} (h : n = A.length) : (A ++ x :: R).getD n d = x := by
  subst h
  rw [List.getD_eq_getElem?_getD, List.getElem?_append_right (Nat.le_refl _), Nat.sub_self]; rfl

theorem set_mid {α : Type} {A R : List α} {x v : α} {n : Nat} (h : n = A.length) : (A ++ x :: R).set n v = A ++ v :: R := by
  subst h
  rw [List.set_append_right _ _ (Nat.le_refl _), Nat.sub_self, List.set_cons_zero]

theorem swp_a {α : Type} {P Q : List α} {z x : α} {n m : Nat} (hn : n = P.length) (hm : m = P.length + 1) : ((P ++ z :: x :: Q).set m z).set n x = P ++ x :: z :: Q := by
  have e : P ++ z :: x :: Q = (P ++ [z]) ++ x :: Q := by simp
  rw [e, set_mid (by simp [hm]), show (P ++ [z]) ++ z :: Q = P ++ z :: z :: Q by simp, set_mid hn]

theorem get_two {α : Type} {P Q : List α} {z x d : α} {m : Nat} (hm : m = P.length + 1) : (P ++ z :: x :: Q).getD m d = x := by
  rw [show P ++ z :: x :: Q = (P ++ [z]) ++ x :: Q by simp, get_mid (by simp [hm])]

theorem mn2_is {a b : Int} : mn2 a b = min a b := by unfold mn2; split <;> omega

theorem mx2_is {a b : Int} : mx2 a b = max a b := by unfold mx2; split <;> omega

abbrev Rg := Int × Int

abbrev rg0 : Rg := ((0 : Int), (0 : Int))

def loR (x : Rg) : Int := min x.1 x.2

def hiR (x : Rg) : Int := max x.1 x.2

def ltR (a b : Rg) : Bool := decide (loR a < loR b ∨ (loR a = loR b ∧ hiR a < hiR b))

theorem lo_hi (x : Rg) : loR x ≤ hiR x := by unfold loR hiR; omega

theorem spanR_is {K : Nat} {x : Rg} : region_Span K x.1 x.2 = some (loR x, hiR x) := by
  unfold region_Span; rw [mn2_is, mx2_is]; rfl

theorem compare_is {K : Nat} {a b : Int} : cmp_Compare K a b = some (if a < b then -1 else if a > b then 1 else 0) := by
  unfold cmp_Compare cmp_isNaN
  rw [Option.bind_some, Option.bind_some, bne_self_eq_false, if_neg (by simp), bne_self_eq_false, if_neg (by simp)]
  by_cases h : a < b
  · rw [if_pos (by simpa using h), if_pos h]
  · rw [if_neg (by simpa using h), if_neg h]
    by_cases h2 : a > b
    · rw [if_pos (by simpa using h2), if_pos h2]
    · rw [if_neg (by simpa using h2), if_neg h2]

theorem cmpR_is {K : Nat} (hK : 10 ≤ K) {a b : Rg} : ∃ c, region_apart_1 K a.1 a.2 b.1 b.2 = some c ∧ decide (c < 0) = ltR a b := by
  obtain ⟨k, rfl⟩ : ∃ k, K = k + 1 + 1 + 1 := ⟨K - 3, by omega⟩
  unfold region_apart_1 cmp_Or_r
  rw [spanR_is, Option.bind_some, spanR_is, Option.bind_some]
  simp only
  rw [compare_is, Option.bind_some, compare_is, Option.bind_some, cmp_Or_r.l0, if_pos (by simp), if_pos (by simp)]
  simp only [show Int.toNat 0 = 0 from rfl, List.getD_cons_zero]
  unfold ltR
  by_cases h1 : loR a < loR b
  · rw [if_pos h1, if_pos (by decide), Option.bind_some]
    exact ⟨_, rfl, by rw [decide_eq_decide]; omega⟩
  · rw [if_neg h1]
    by_cases h2 : loR a > loR b
    · rw [if_pos h2, if_pos (by decide), Option.bind_some]
      exact ⟨_, rfl, by rw [decide_eq_decide]; omega⟩
    · rw [if_neg h2, if_neg (by decide), show IntKind.wrap .i64 ((0 : Int) + 1) = 1 by decide, cmp_Or_r.l0, if_pos (by simp), if_pos (by simp)]
      simp only [show Int.toNat 1 = 1 from rfl, List.getD_cons_succ, List.getD_cons_zero]
      by_cases h3 : hiR a < hiR b
      · rw [if_pos h3, if_pos (by decide), Option.bind_some]
        exact ⟨_, rfl, by rw [decide_eq_decide]; omega⟩
      · rw [if_neg h3]
        by_cases h4 : hiR a > hiR b
        · rw [if_pos h4, if_pos (by decide), Option.bind_some]
          exact ⟨_, rfl, by rw [decide_eq_decide]; omega⟩
        · rw [if_neg h4, if_neg (by decide), show IntKind.wrap .i64 ((1 : Int) + 1) = 2 by decide, cmp_Or_r.l0, if_neg (by simp), Option.bind_some]
          exact ⟨_, rfl, by rw [decide_eq_decide]; omega⟩

/-- Put in from the right. -/
def insV (x : Rg) : List Rg → List Rg
  | [] => [x]
  | z :: l => if ltR x z = true then z :: insV x l else x :: z :: l

def insR (x : Rg) (S : List Rg) : List Rg := (insV x S.reverse).reverse

theorem insR_snoc (x z : Rg) (S : List Rg) : insR x (S ++ [z]) = if ltR x z = true then insR x S ++ [z] else S ++ [z] ++ [x] := by
  unfold insR
  rw [List.reverse_append, List.reverse_singleton, List.singleton_append, insV]
  split <;> simp

theorem insV_perm (x : Rg) : ∀ S : List Rg, (insV x S).Perm (x :: S)
  | [] => List.Perm.refl _
  | z :: l => by
    rw [insV]
    split
    · exact ((insV_perm x l).cons z).trans (List.Perm.swap x z l)
    · exact List.Perm.refl _

theorem insR_perm (x : Rg) (S : List Rg) : (insR x S).Perm (x :: S) := by
  unfold insR
  refine (List.reverse_perm _).trans ((insV_perm x S.reverse).trans ?_)
  exact (List.reverse_perm S).cons x

theorem insR_len (x : Rg) (S : List Rg) : (insR x S).length = S.length + 1 := by rw [(insR_perm x S).length_eq]; rfl

def srtR (X S : List Rg) : List Rg := X.foldl (fun S x => insR x S) S

theorem srtR_perm : ∀ {X S : List Rg}, (srtR X S).Perm (X ++ S)
  | [], S => List.Perm.refl _
  | x :: X, S => by
    show (srtR X (insR x S)).Perm _
    refine srtR_perm.trans ?_
    refine ((insR_perm x S).append_left X).trans ?_
    rw [List.cons_append]
    exact List.perm_middle

theorem insL_loop {K : Nat} {x : Rg} (hK : 10 ≤ K) : ∀ (n : Nat) (S2 T S : List Rg) (k : Nat), S.length = n → n < k → S.length + S2.length + T.length ≤ 100000 →
    slices_insertionSortCmpFunc_rggcregionapart1.l1 K 0 k (S ++ x :: (S2 ++ T)) (S.length : Int) = some (insR x S ++ (S2 ++ T))
  | 0, S2, T, S, k, hn, hk, hl => by
    obtain ⟨k, rfl⟩ : ∃ m, k = m + 1 := ⟨k - 1, by omega⟩
    have : S = [] := List.eq_nil_of_length_eq_zero hn
    subst this
    rw [slices_insertionSortCmpFunc_rggcregionapart1.l1, if_neg (by simp), Option.bind_some, if_neg (by simp)]
    rfl
  | n + 1, S2, T, S, k, hn, hk, hl => by
    obtain ⟨k, rfl⟩ : ∃ m, k = m + 1 := ⟨k - 1, by omega⟩
    obtain ⟨S', z, rfl⟩ := split_last (l := S) (by intro e; rw [e] at hn; simp at hn)
    rw [List.length_append, List.length_singleton] at hn hl
    have eD : (S' ++ [z]) ++ x :: (S2 ++ T) = S' ++ z :: x :: (S2 ++ T) := by simp
    have g1 : (S' ++ z :: x :: (S2 ++ T)).getD (S'.length + 1) rg0 = x := get_two rfl
    have g2 : (S' ++ z :: x :: (S2 ++ T)).getD S'.length rg0 = z := get_mid rfl
    have hw : IntKind.wrap .i64 (((S'.length + 1 : Nat) : Int) - 1) = (S'.length : Int) := by rw [w64 (by omega) (by omega)]; omega
    have hDl : (S' ++ z :: x :: (S2 ++ T)).length = S'.length + 2 + S2.length + T.length := by simp only [List.length_append, List.length_cons]; omega
    obtain ⟨c, hc1, hc2⟩ := cmpR_is (K := K) hK (a := x) (b := z)
    rw [List.length_append, List.length_singleton, slices_insertionSortCmpFunc_rggcregionapart1.l1, eD]
    simp only [hw, Int.toNat_natCast, g1, g2]
    rw [if_pos (by rw [decide_eq_true_eq]; omega), hc1, Option.bind_some, if_pos ⟨by omega, by omega, by omega, by omega⟩, hc2, Option.bind_some, insR_snoc]
    cases hlt : ltR x z with
    | true =>
      rw [if_pos rfl, if_pos ⟨by omega, by omega, by omega, by omega, by rw [List.length_set]; omega⟩, if_pos rfl]
      have e := insL_loop (K := K) (x := x) hK n (z :: S2) T S' k (by omega) (by omega) (by simp only [List.length_cons]; omega)
      rw [show ((S' ++ z :: x :: (S2 ++ T)).set (S'.length + 1) (z.1, z.2)).set S'.length (x.1, x.2) = S' ++ x :: z :: (S2 ++ T) from swp_a rfl rfl]
      rw [List.cons_append] at e
      rw [e]
      simp
    | false =>
      rw [if_neg (by simp), if_neg (by simp)]
      simp

theorem ins0R_loop {K : Nat} (hK : 100000 ≤ K) : ∀ (X S : List Rg) (k : Nat), X.length < k → S.length + X.length ≤ 90000 →
    slices_insertionSortCmpFunc_rggcregionapart1.l0 K ((S.length + X.length : Nat) : Int) 0 k (S ++ X) (S.length : Int) = some (srtR X S)
  | [], S, k, hk, hl => by
    obtain ⟨k, rfl⟩ : ∃ m, k = m + 1 := ⟨k - 1, by omega⟩
    rw [slices_insertionSortCmpFunc_rggcregionapart1.l0, if_neg (by simp), List.append_nil]; rfl
  | x :: X, S, k, hk, hl => by
    obtain ⟨k, rfl⟩ : ∃ m, k = m + 1 := ⟨k - 1, by omega⟩
    rw [List.length_cons] at hk hl
    have hw : IntKind.wrap .i64 (((S.length : Nat) : Int) + 1) = ((S.length + 1 : Nat) : Int) := by rw [w64 (by omega) (by omega)]; omega
    have e := insL_loop (K := K) (x := x) (by omega) S.length [] X S K rfl (by omega) (by simp only [List.length_nil]; omega)
    rw [List.nil_append] at e
    have e2 := ins0R_loop hK X (insR x S) k (by omega) (by rw [insR_len]; omega)
    rw [insR_len] at e2
    rw [slices_insertionSortCmpFunc_rggcregionapart1.l0, if_pos (by simp; omega), e, Option.bind_some, hw, List.length_cons, show S.length + (X.length + 1) = S.length + 1 + X.length by omega, e2]
    rfl

/-- No more than nineteen, sorted. -/
theorem sortR_is {K : Nat} {X : List Rg} (hK : 100000 ≤ K) (hl : X.length < 20) : slices_SortStableFunc_rcregionapart1 K X = some (srtR X []) := by
  obtain ⟨k, rfl⟩ : ∃ m, K = m + 1 := ⟨K - 1, by omega⟩
  unfold slices_SortStableFunc_rcregionapart1 slices_stableCmpFunc_rgcregionapart1 slices_insertionSortCmpFunc_rggcregionapart1
  rw [slices_stableCmpFunc_rgcregionapart1.l0, if_neg (by simp; omega), Option.bind_some]
  simp only [show IntKind.wrap .i64 ((0 : Int) + 1) = 1 by decide]
  cases X with
  | nil =>
    rw [slices_insertionSortCmpFunc_rggcregionapart1.l0, if_neg (by simp), Option.bind_some, slices_stableCmpFunc_rgcregionapart1.l1, if_neg (by simp), Option.bind_some]
    rfl
  | cons x X =>
    rw [List.length_cons] at hl
    have e := ins0R_loop (K := k + 1) hK X [x] (k + 1) (by omega) (by simp only [List.length_singleton]; omega)
    simp only [List.length_singleton, List.singleton_append] at e
    rw [show ((1 + X.length : Nat) : Int) = (((x :: X).length : Nat) : Int) by rw [List.length_cons]; omega, show ((1 : Nat) : Int) = 1 from rfl] at e
    rw [e, Option.bind_some, slices_stableCmpFunc_rgcregionapart1.l1, if_neg (by simp; omega), Option.bind_some]
    rfl

/-! ### In order -/

def leR (a b : Rg) : Prop := ltR b a = false

theorem leR_trans {a b c : Rg} (h1 : leR a b) (h2 : leR b c) : leR a c := by
  unfold leR ltR at *
  rw [decide_eq_false_iff_not] at *
  omega

theorem ltR_le {a b : Rg} (h : ltR a b = true) : leR a b := by
  unfold leR ltR at *
  rw [decide_eq_true_eq] at h
  rw [decide_eq_false_iff_not]
  omega

theorem leR_lo {a b : Rg} (h : leR a b) : loR a ≤ loR b := by
  unfold leR ltR at h
  rw [decide_eq_false_iff_not] at h
  omega

theorem insR_srt {x : Rg} : ∀ (n : Nat) (S : List Rg), S.length = n → S.Pairwise leR → (insR x S).Pairwise leR
  | 0, S, hn, hs => by
    have : S = [] := List.eq_nil_of_length_eq_zero hn
    subst this
    exact List.pairwise_singleton _ _
  | n + 1, S, hn, hs => by
    obtain ⟨S', z, rfl⟩ := split_last (l := S) (by intro e; rw [e] at hn; simp at hn)
    rw [List.length_append, List.length_singleton] at hn
    have hs' := List.pairwise_append.1 hs
    rw [insR_snoc]
    cases hlt : ltR x z with
    | true =>
      rw [if_pos rfl]
      refine List.pairwise_append.2 ⟨insR_srt n S' (by omega) hs'.1, List.pairwise_singleton _ _, fun a ha b hb => ?_⟩
      rw [List.mem_singleton.1 hb]
      rcases List.mem_cons.1 ((insR_perm x S').mem_iff.1 ha) with rfl | ha
      · exact ltR_le hlt
      · exact hs'.2.2 a ha z (by simp)
    | false =>
      rw [if_neg (by simp)]
      refine List.pairwise_append.2 ⟨hs, List.pairwise_singleton _ _, fun a ha b hb => ?_⟩
      rw [List.mem_singleton.1 hb]
      rcases List.mem_append.1 ha with ha | ha
      · exact leR_trans (hs'.2.2 a ha z (by simp)) hlt
      · rw [List.mem_singleton.1 ha]; exact hlt

theorem srtR_srt : ∀ {X S : List Rg}, S.Pairwise leR → (srtR X S).Pairwise leR
  | [], S, h => h
  | x :: X, S, h => srtR_srt (X := X) (insR_srt S.length S rfl h)

/-- Two that touch, as one. -/
def mgR (c x : Rg) : Rg := if c.2 < c.1 then (max (hiR x) (hiR c), loR c) else (loR c, max (hiR x) (hiR c))

def jn : Rg → List Rg → List Rg
  | c, [] => [c]
  | c, x :: l => if loR x > hiR c then c :: jn x l else jn (mgR c x) l

def jnR : List Rg → List Rg
  | [] => []
  | x :: l => jn x l

theorem mg_lo {c x : Rg} : loR (mgR c x) = loR c := by
  have := lo_hi c
  unfold mgR
  split <;> (unfold loR hiR at *; simp only; omega)

theorem mg_hi {c x : Rg} : hiR (mgR c x) = max (hiR x) (hiR c) := by
  have := lo_hi c
  unfold mgR
  split <;> (unfold loR hiR at *; simp only; omega)

theorem touchR_is {K : Nat} {c x : Rg} : region_apart_2 K c.1 c.2 x.1 x.2 = some (decide (hiR c ≥ loR x ∧ hiR x ≥ loR c)) := by
  unfold region_apart_2 interval_Touch
  rw [spanR_is, Option.bind_some, spanR_is, Option.bind_some]
  simp only
  by_cases h : hiR c ≥ loR x
  · rw [if_pos (by simpa using h), Option.bind_some]; congr 1; rw [decide_eq_decide]; omega
  · rw [if_neg (by simpa using h), Option.bind_some]; congr 1; symm; rw [decide_eq_false_iff_not]; omega

theorem mergeR_is {K : Nat} {c x : Rg} (h : loR c ≤ loR x) : region_joined K c.1 c.2 x.1 x.2 = some (mgR c x) := by
  unfold region_joined interval_Join mgR
  rw [spanR_is, Option.bind_some, spanR_is, Option.bind_some]
  simp only [mn2_is, mx2_is, Option.bind_some, decide_eq_true_eq]
  rw [show min (loR c) (loR x) = loR c by omega, Int.max_comm]
  split <;> rfl

theorem fold_loop {K : Nat} {l : List Rg} (hl : l.length ≤ 10000) : ∀ (rest : List Rg) (j k : Nat) (O : List Rg) (c : Rg), l.drop j = rest → rest.length < k → O.length + 1 ≤ j → (∀ x ∈ rest, loR c ≤ loR x) → rest.Pairwise (fun a b => loR a ≤ loR b) →
    interval_Folded_rcregionapart2cregionjoined.l0 K l k (O ++ [c]) (j : Int) = some (O ++ jn c rest)
  | [], j, k, O, c, hd, hk, hO, _, _ => by
    obtain ⟨k, rfl⟩ : ∃ m, k = m + 1 := ⟨k - 1, by omega⟩
    have := drop_nil hd
    rw [interval_Folded_rcregionapart2cregionjoined.l0, if_neg (by simp; omega)]; rfl
  | x :: rest, j, k, O, c, hd, hk, hO, hc1, hc2 => by
    obtain ⟨k, rfl⟩ : ∃ m, k = m + 1 := ⟨k - 1, by omega⟩
    obtain ⟨hj, hx, hd'⟩ := drop_cons hd rg0
    rw [List.length_cons] at hk
    rw [List.pairwise_cons] at hc2
    have hcx := hc1 x (by simp)
    have hlx := lo_hi x
    have hw : IntKind.wrap .i64 ((j : Int) + 1) = ((j + 1 : Nat) : Int) := by rw [w64 (by omega) (by omega)]; omega
    have hol : (O ++ [c]).length = O.length + 1 := by simp
    have hw2 : IntKind.wrap .i64 ((((O ++ [c]).length : Nat) : Int) - 1) = (O.length : Int) := by rw [w64 (by omega) (by omega)]; omega
    have g : (O ++ [c]).getD O.length rg0 = c := get_mid rfl
    have hc : (0 : Int) ≤ (O.length : Int) ∧ (O.length : Int) < (((O ++ [c]).length : Nat) : Int) := by omega
    have st : ∀ v : Rg, (O ++ [c]).set O.length v = O ++ [v] := fun v => set_mid rfl
    rw [interval_Folded_rcregionapart2cregionjoined.l0, if_pos (by simp; omega)]
    simp only [hw2, Int.toNat_natCast, hx, hw, touchR_is, mergeR_is hcx, Option.bind_some, g, if_pos hc, st]
    rw [if_pos (by omega), if_pos (by rw [decide_eq_true_eq]; omega), Option.bind_some]
    simp only [decide_eq_true_eq]
    rw [jn]
    by_cases h : loR x > hiR c
    · rw [if_neg (by omega), if_pos h, if_pos (by simp only [List.length_singleton]; omega)]
      have e := fold_loop (K := K) hl rest (j + 1) k (O ++ [c]) x hd' (by omega) (by omega) hc2.1 hc2.2
      rw [e]; simp
    · rw [if_pos (by omega), if_neg h]
      exact fold_loop (K := K) hl rest (j + 1) k O (mgR c x) hd' (by omega) (by omega) (fun y hy => by rw [mg_lo]; exact hc1 y (by simp [hy])) hc2.2

theorem apart_is {K : Nat} {l : List Rg} (hK : 100000 ≤ K) (hl : l.length < 20) : region_apart K l = some (jnR (srtR l [])) := by
  unfold region_apart slices_Clone
  rw [if_pos (by simp; omega), Option.bind_some, List.nil_append, sortR_is hK hl, Option.bind_some]
  have hlen : (srtR l []).length = l.length := by rw [srtR_perm.length_eq, List.append_nil]
  have hs : (srtR l []).Pairwise (fun a b => loR a ≤ loR b) := (srtR_srt (X := l) List.Pairwise.nil).imp leR_lo
  unfold interval_Folded_rcregionapart2cregionjoined
  obtain ⟨k, rfl⟩ : ∃ m, K = m + 1 := ⟨K - 1, by omega⟩
  cases hS : srtR l [] with
  | nil => rw [interval_Folded_rcregionapart2cregionjoined.l0, if_neg (by simp)]; rfl
  | cons x S =>
    rw [hS] at hlen hs
    rw [List.length_cons] at hlen
    rw [List.pairwise_cons] at hs
    have e2 := fold_loop (K := k + 1) (l := x :: S) (by rw [List.length_cons]; omega) S 1 k [] x rfl (by omega) (by simp) hs.1 hs.2
    rw [List.nil_append, List.nil_append] at e2
    rw [interval_Folded_rcregionapart2cregionjoined.l0, if_pos (by simp), if_pos (by simp), if_neg (by decide), Option.bind_some, if_neg (by simp)]
    simp only [show Int.toNat 0 = 0 from rfl, List.getD_cons_zero]
    rw [if_pos (by simp), show IntKind.wrap .i64 ((0 : Int) + 1) = ((1 : Nat) : Int) by decide]
    rw [show ([] : List Rg) ++ [(x.1, x.2)] = [x] from rfl, e2]
    rfl

theorem jn_len : ∀ {l : List Rg} {c : Rg}, (jn c l).length ≤ l.length + 1
  | [], c => by simp [jn]
  | x :: l, c => by
    rw [jn]
    have h1 := jn_len (l := l) (c := x)
    have h2 := jn_len (l := l) (c := mgR c x)
    split
    · rw [List.length_cons, List.length_cons]; omega
    · rw [List.length_cons]; omega

theorem jnR_len {l : List Rg} : (jnR l).length ≤ l.length := by
  cases l with
  | nil => exact Nat.le_refl _
  | cons x l => exact jn_len

theorem uedge_is {K : Nat} {s : ByteArray} {p : Int} (hK : s.size + 10 ≤ K) (hs : s.size ≤ 1000000) : utf_IsEdge K s p = some (isE s p) := by
  unfold utf_IsEdge isE
  have hb := bt_ok (s := s) (i := p)
  by_cases h0 : 0 ≤ p
  · rw [if_pos (by simpa using h0)]
    by_cases h1 : p ≤ s.size
    · rw [if_pos (by simpa using h1), decide_eq_true ⟨h0, h1⟩, Bool.true_and, uvalid_is hK (by omega)]
      by_cases h2 : p = s.size
      · rw [if_pos (by simpa using h2), Option.bind_some, decide_eq_true h2, Bool.true_or, Bool.and_true]
      · rw [if_neg (by simpa using h2), and_192 hb.1 hb.2, decide_eq_false h2, Bool.false_or, Option.bind_some]
        have hr : 0 ≤ p ∧ p < (s.size : Int) := ⟨h0, by omega⟩
        simp only [if_pos hr]
        by_cases hc : cont (bt s p)
        · rw [decide_eq_true hc, if_neg (by simp)]; simp
        · rw [decide_eq_false hc, if_pos (by simp)]; simp
    · rw [if_neg (by simpa using h1), decide_eq_false (by omega), Bool.false_and]
  · rw [if_neg (by simpa using h0), decide_eq_false (by omega), Bool.false_and]

/-- Within so many places. -/
def inR (n : Int) (x : Rg) : Bool := decide (0 ≤ loR x ∧ hiR x ≤ n)

/-- At edges of code points. -/
def edR (s : ByteArray) (x : Rg) : Bool := isE s x.1 && isE s x.2

theorem ivIs_is {K : Nat} {x : Rg} {n : Int} : interval_Is K (loR x) (hiR x) n = some (inR n x) := by
  have := lo_hi x
  unfold interval_Is inR
  by_cases h : loR x ≥ 0
  · rw [if_pos (by simpa using h), if_pos (by simpa using this)]; congr 1; rw [decide_eq_decide]; omega
  · rw [if_neg (by simpa using h)]; congr 1; symm; rw [decide_eq_false_iff_not]; omega

theorem evI_one {K : Nat} {x : Rg} {s : ByteArray} : region_every_1_sggb_7e816 K x.1 x.2 s = some (!inR s.size x) := by
  unfold region_every_1_sggb_7e816 region_inside_1_sggb_5389a
  rw [spanR_is, Option.bind_some]
  simp only [ivIs_is, Option.bind_some]

theorem evI_loop {K : Nat} {l : List Rg} {s : ByteArray} (hl : l.length ≤ 1000000) : ∀ (rest : List Rg) (j k : Nat), l.drop j = rest → rest.length < k →
    ∃ r, slices_IndexFunc_rcregionevery1_a4c35.l0 K l s k (j : Int) = some r ∧ decide (r ≥ 0) = !rest.all (inR s.size)
  | [], j, k, hd, hk => by
    obtain ⟨k, rfl⟩ : ∃ m, k = m + 1 := ⟨k - 1, by omega⟩
    have := drop_nil hd
    rw [slices_IndexFunc_rcregionevery1_a4c35.l0, if_neg (by simp; omega)]
    exact ⟨_, rfl, rfl⟩
  | x :: rest, j, k, hd, hk => by
    obtain ⟨k, rfl⟩ : ∃ m, k = m + 1 := ⟨k - 1, by omega⟩
    obtain ⟨hj, hx, hd'⟩ := drop_cons hd rg0
    rw [List.length_cons] at hk
    have hw : IntKind.wrap .i64 ((j : Int) + 1) = ((j + 1 : Nat) : Int) := by rw [w64 (by omega) (by omega)]; omega
    rw [slices_IndexFunc_rcregionevery1_a4c35.l0, if_pos (by simp; omega)]
    simp only [Int.toNat_natCast, hx, hw]
    rw [evI_one , Option.bind_some, if_pos (by omega), List.all_cons]
    cases inR s.size x with
    | true =>
      rw [if_neg (by simp)]
      exact evI_loop  hl rest (j + 1) k hd' (by omega)
    | false =>
      rw [if_pos (show (!false) = true from rfl)]
      exact ⟨_, rfl, by rw [decide_eq_true (by omega)]; rfl⟩

theorem evI_is {K : Nat} {l : List Rg} {s : ByteArray} (hl : l.length ≤ 1000000) (hk : l.length < K) : region_every_rcregioninside1_2e7a3 K l s = some (l.all (inR s.size)) := by
  unfold region_every_rcregioninside1_2e7a3 slices_ContainsFunc_rcregionevery1_a4c35 slices_IndexFunc_rcregionevery1_a4c35
  obtain ⟨r, e1, e2⟩ := evI_loop (K := K) (l := l) (s := s)  hl l 0 K rfl hk
  rw [show ((0 : Nat) : Int) = 0 from rfl] at e1
  rw [e1, Option.bind_some, Option.bind_some, e2, Bool.not_not]

theorem evE_one {K : Nat} {x : Rg} {s : ByteArray} (hK : s.size + 10 ≤ K)  (hs : s.size ≤ 1000000) : region_every_1_sggb_f969f K x.1 x.2 s = some (!edR s x) := by
  unfold region_every_1_sggb_f969f region_edges_1_sggb_5389a
  rw [uedge_is hK hs, Option.bind_some, uedge_is hK hs]
  unfold edR
  cases isE s x.1 <;> rfl

theorem evE_loop {K : Nat} {l : List Rg} {s : ByteArray} (hK : s.size + 10 ≤ K)  (hs : s.size ≤ 1000000) (hl : l.length ≤ 1000000) : ∀ (rest : List Rg) (j k : Nat), l.drop j = rest → rest.length < k →
    ∃ r, slices_IndexFunc_rcregionevery1_79479.l0 K l s k (j : Int) = some r ∧ decide (r ≥ 0) = !rest.all (edR s)
  | [], j, k, hd, hk => by
    obtain ⟨k, rfl⟩ : ∃ m, k = m + 1 := ⟨k - 1, by omega⟩
    have := drop_nil hd
    rw [slices_IndexFunc_rcregionevery1_79479.l0, if_neg (by simp; omega)]
    exact ⟨_, rfl, rfl⟩
  | x :: rest, j, k, hd, hk => by
    obtain ⟨k, rfl⟩ : ∃ m, k = m + 1 := ⟨k - 1, by omega⟩
    obtain ⟨hj, hx, hd'⟩ := drop_cons hd rg0
    rw [List.length_cons] at hk
    have hw : IntKind.wrap .i64 ((j : Int) + 1) = ((j + 1 : Nat) : Int) := by rw [w64 (by omega) (by omega)]; omega
    rw [slices_IndexFunc_rcregionevery1_79479.l0, if_pos (by simp; omega)]
    simp only [Int.toNat_natCast, hx, hw]
    rw [evE_one hK hs, Option.bind_some, if_pos (by omega), List.all_cons]
    cases edR s x with
    | true =>
      rw [if_neg (by simp)]
      exact evE_loop hK hs hl rest (j + 1) k hd' (by omega)
    | false =>
      rw [if_pos (show (!false) = true from rfl)]
      exact ⟨_, rfl, by rw [decide_eq_true (by omega)]; rfl⟩

theorem evE_is {K : Nat} {l : List Rg} {s : ByteArray} (hK : s.size + 10 ≤ K)  (hs : s.size ≤ 1000000) (hl : l.length ≤ 1000000) (hk : l.length < K) : region_every_rcregionedges1_83797 K l s = some (l.all (edR s)) := by
  unfold region_every_rcregionedges1_83797 slices_ContainsFunc_rcregionevery1_79479 slices_IndexFunc_rcregionevery1_79479
  obtain ⟨r, e1, e2⟩ := evE_loop (K := K) (l := l) (s := s) hK hs hl l 0 K rfl hk
  rw [show ((0 : Nat) : Int) = 0 from rfl] at e1
  rw [e1, Option.bind_some, Option.bind_some, e2, Bool.not_not]

theorem evM_one {K : Nat} {x : Rg} {base : Int} {d : List El} : region_every_1_sggb_77714 K x.1 x.2 base d = some (!inR base x) := by
  unfold region_every_1_sggb_77714 region_Move_1_sggb_1a382
  rw [spanR_is, Option.bind_some]
  simp only [ivIs_is, Option.bind_some]

theorem evM_loop {K : Nat} {l : List Rg} {base : Int} {d : List El} (hl : l.length ≤ 1000000) : ∀ (rest : List Rg) (j k : Nat), l.drop j = rest → rest.length < k →
    ∃ r, slices_IndexFunc_rcregionevery1_c23b8.l0 K l base d k (j : Int) = some r ∧ decide (r ≥ 0) = !rest.all (inR base)
  | [], j, k, hd, hk => by
    obtain ⟨k, rfl⟩ : ∃ m, k = m + 1 := ⟨k - 1, by omega⟩
    have := drop_nil hd
    rw [slices_IndexFunc_rcregionevery1_c23b8.l0, if_neg (by simp; omega)]
    exact ⟨_, rfl, rfl⟩
  | x :: rest, j, k, hd, hk => by
    obtain ⟨k, rfl⟩ : ∃ m, k = m + 1 := ⟨k - 1, by omega⟩
    obtain ⟨hj, hx, hd'⟩ := drop_cons hd rg0
    rw [List.length_cons] at hk
    have hw : IntKind.wrap .i64 ((j : Int) + 1) = ((j + 1 : Nat) : Int) := by rw [w64 (by omega) (by omega)]; omega
    rw [slices_IndexFunc_rcregionevery1_c23b8.l0, if_pos (by simp; omega)]
    simp only [Int.toNat_natCast, hx, hw]
    rw [evM_one , Option.bind_some, if_pos (by omega), List.all_cons]
    cases inR base x with
    | true =>
      rw [if_neg (by simp)]
      exact evM_loop  hl rest (j + 1) k hd' (by omega)
    | false =>
      rw [if_pos (show (!false) = true from rfl)]
      exact ⟨_, rfl, by rw [decide_eq_true (by omega)]; rfl⟩

theorem evM_is {K : Nat} {l : List Rg} {base : Int} {d : List El} (hl : l.length ≤ 1000000) (hk : l.length < K) : region_every_rcregionMove1_9db43 K l base d = some (l.all (inR base)) := by
  unfold region_every_rcregionMove1_9db43 slices_ContainsFunc_rcregionevery1_c23b8 slices_IndexFunc_rcregionevery1_c23b8
  obtain ⟨r, e1, e2⟩ := evM_loop (K := K) (l := l) (base := base) (d := d)  hl l 0 K rfl hk
  rw [show ((0 : Nat) : Int) = 0 from rfl] at e1
  rw [e1, Option.bind_some, Option.bind_some, e2, Bool.not_not]

def mkR (s : ByteArray) (l : List Rg) : List Rg × Int :=
  if l.length = 0 then ([], 12) else if l.length > 8 then ([], 70) else if l.all (inR s.size) = false then ([], 10) else if l.all (edR s) = false then ([], 11) else (jnR (srtR l []), 0)

theorem cntR_is {K : Nat} {l : List Rg} : region_count_r K l = some (if l.length = 0 then 12 else if l.length > 8 then 70 else 0) := by
  unfold region_count_r
  by_cases h : l.length = 0
  · rw [if_pos (by rw [beq_iff_eq]; omega), if_pos h]
  · rw [if_neg (by rw [beq_iff_eq]; omega), if_neg h]
    by_cases h2 : l.length > 8
    · rw [if_pos (by rw [decide_eq_true_eq]; omega), if_pos h2]
    · rw [if_neg (by rw [decide_eq_true_eq]; omega), if_neg h2]

theorem makeR_is {K : Nat} {l : List Rg} {s : ByteArray} (hK : 100000 ≤ K) (hs : s.size ≤ 10000) (hl : l.length ≤ 1000) : region_Make_eg K l s = some (mkR s l) := by
  unfold region_Make_eg mkR region_inside region_edges
  rw [cntR_is, Option.bind_some]
  by_cases h : l.length = 0
  · simp only [if_pos h]; rw [if_pos (by decide)]
  · simp only [if_neg h]
    by_cases h2 : l.length > 8
    · simp only [if_pos h2]; rw [if_pos (by decide)]
    · simp only [if_neg h2]
      rw [if_neg (by decide), Option.bind_some, evI_is (by omega) (by omega), Option.bind_some]
      cases h3 : l.all (inR s.size) with
      | false => rfl
      | true =>
        rw [if_neg (by simp), if_neg (by simp), Option.bind_some, evE_is (by omega) (by omega) (by omega) (by omega), Option.bind_some]
        cases h4 : l.all (edR s) with
        | false => rfl
        | true => rw [if_neg (by simp), if_neg (by simp), apart_is hK (by omega), Option.bind_some]

theorem makeRn_is {K : Nat} {s : ByteArray} : region_Make_ng K [] s = some ([], 12) := by
  unfold region_Make_ng
  rw [cntR_is, Option.bind_some]; rfl

def goR (base : Int) (d : List El) (x : Rg) : Rg := (mv base d x.1 true, mv base d x.2 true)

def mvR (base : Int) (d : List El) (l : List Rg) : List Rg × Int :=
  if isD base d = false ∨ l.length = 0 ∨ l.all (inR base) = false then ([], 12) else if l.length > 8 then ([], 70) else (jnR (srtR (l.map (goR base d)) []), 0)

theorem moveR_loop {K : Nat} {l : List Rg} {base : Int} {d : List El} (hK : 30000 ≤ K) (hl : l.length ≤ 10000) : ∀ (rest : List Rg) (j k : Nat) (out : List Rg), l.drop j = rest → rest.length < k → out.length ≤ j →
    region_Move_rsgg.l0 K l base d k out (j : Int) = some (out ++ rest.map (goR base d))
  | [], j, k, out, hd, hk, ho => by
    obtain ⟨k, rfl⟩ : ∃ m, k = m + 1 := ⟨k - 1, by omega⟩
    have := drop_nil hd
    rw [region_Move_rsgg.l0, if_neg (by simp; omega)]; simp
  | x :: rest, j, k, out, hd, hk, ho => by
    obtain ⟨k, rfl⟩ : ∃ m, k = m + 1 := ⟨k - 1, by omega⟩
    obtain ⟨hj, hx, hd'⟩ := drop_cons hd rg0
    rw [List.length_cons] at hk
    have hw : IntKind.wrap .i64 ((j : Int) + 1) = ((j + 1 : Nat) : Int) := by rw [w64 (by omega) (by omega)]; omega
    rw [region_Move_rsgg.l0, if_pos (by simp; omega), if_pos (by omega)]
    simp only [Int.toNat_natCast, hx, hw, move_is hK, Option.bind_some]
    rw [if_pos (by simp only [List.length_singleton]; omega), moveR_loop hK hl rest (j + 1) k _ hd' (by omega) (by simp; omega), List.map_cons]
    simp [goR]

theorem moveR_is {K : Nat} {l : List Rg} {base : Int} {d : List El} (hK : 100000 ≤ K) (hl : l.length ≤ 1000) : region_Move_rsgg K l base d = some (mvR base d l) := by
  unfold region_Move_rsgg mvR
  have e1 := moveR_loop (K := K) (l := l) (base := base) (d := d) (by omega) (by omega) l 0 K [] rfl (by omega) (by simp)
  rw [show ((0 : Nat) : Int) = 0 from rfl, List.nil_append] at e1
  rw [is_is (by omega), Option.bind_some, evM_is (by omega) (by omega), Option.bind_some, cntR_is]
  cases h1 : isD base d with
  | false => rfl
  | true =>
    rw [if_neg (by simp)]
    by_cases h2 : l.length = 0
    · rw [if_pos (by rw [beq_iff_eq]; omega), Option.bind_some, if_pos rfl, if_pos (.inr (.inl h2))]
    · rw [if_neg (by rw [beq_iff_eq]; omega)]
      cases h3 : l.all (inR base) with
      | false => rw [Option.bind_some, if_pos (show (!false) = true from rfl), if_pos (.inr (.inr rfl))]
      | true =>
        rw [Option.bind_some, if_neg (show ¬ (!true) = true by simp), Option.bind_some, if_neg h2, if_neg (show ¬ (true = false ∨ l.length = 0 ∨ true = false) from fun h => by rcases h with h | h | h; cases h; exact h2 h; cases h)]
        by_cases h4 : l.length > 8
        · rw [if_pos h4, if_pos (by decide), if_pos h4]
        · rw [if_neg h4, if_neg (by decide), if_neg h4, e1, Option.bind_some, apart_is hK (by rw [List.length_map]; omega), Option.bind_some]

def chR : Rg → List Rg → Bool
  | _, [] => true
  | p, x :: l => decide (hiR p < loR x) && chR x l

def isR (s : ByteArray) : List Rg → Bool
  | [] => false
  | x :: r => decide ((x :: r).length ≤ 8) && ((x :: r).all (edR s) && chR x r)

theorem edR_inR {s : ByteArray} {x : Rg} (h : edR s x = true) : inR s.size x = true := by
  unfold edR isE at h
  unfold inR loR hiR
  simp only [Bool.and_eq_true, decide_eq_true_eq] at h ⊢
  omega

theorem isR_loop {K : Nat} {l : List Rg} (hl : l.length ≤ 100000) : ∀ (rest : List Rg) (j k : Nat) (p : Rg), l.drop j = rest → rest.length < k → 0 < j → l.getD (j - 1) rg0 = p →
    region_Is_rg.l0 K l k (j : Int) = some (chR p rest)
  | [], j, k, p, hd, hk, h0, hp => by
    obtain ⟨k, rfl⟩ : ∃ m, k = m + 1 := ⟨k - 1, by omega⟩
    have := drop_nil hd
    rw [region_Is_rg.l0, if_neg (by simp; omega)]; rfl
  | x :: rest, j, k, p, hd, hk, h0, hp => by
    obtain ⟨k, rfl⟩ : ∃ m, k = m + 1 := ⟨k - 1, by omega⟩
    obtain ⟨hj, hx, hd'⟩ := drop_cons hd rg0
    rw [List.length_cons] at hk
    have hw : IntKind.wrap .i64 ((j : Int) + 1) = ((j + 1 : Nat) : Int) := by rw [w64 (by omega) (by omega)]; omega
    have hw2 : IntKind.wrap .i64 ((j : Int) - 1) = ((j - 1 : Nat) : Int) := by rw [w64 (by omega) (by omega)]; omega
    rw [region_Is_rg.l0, if_pos (by simp; omega)]
    simp only [hw, hw2, Int.toNat_natCast, hx, hp, spanR_is, Option.bind_some]
    rw [if_pos (by omega), isR_loop hl rest (j + 1) k x hd' (by omega) (by omega) (by rw [Nat.add_sub_cancel]; exact hx), chR]
    by_cases h : loR x ≤ hiR p
    · rw [if_pos (by simpa using h), decide_eq_false (by omega), Bool.false_and]
    · rw [if_neg (by simpa using h), decide_eq_true (by omega), Bool.true_and]

theorem isR_is {K : Nat} {l : List Rg} {s : ByteArray} (hK : 100000 ≤ K) (hs : s.size ≤ 10000) (hl : l.length ≤ 1000) : region_Is_rg K l s = some (isR s l) := by
  unfold region_Is_rg region_inside region_edges
  rw [evI_is (by omega) (by omega), evE_is (by omega) (by omega) (by omega) (by omega)]
  cases l with
  | nil => rfl
  | cons x r =>
    rw [if_neg (by rw [decide_eq_true_eq, List.length_cons]; omega)]
    have e := isR_loop (K := K) (l := x :: r) (by omega) r 1 K x rfl (by rw [List.length_cons] at hl; omega) (by omega) rfl
    rw [show ((1 : Nat) : Int) = 1 from rfl] at e
    rw [isR]
    by_cases h : (x :: r).length > 8
    · rw [if_pos (by rw [decide_eq_true_eq]; omega), Option.bind_some, if_pos rfl, decide_eq_false (by omega), Bool.false_and]
    · rw [if_neg (by rw [decide_eq_true_eq]; omega), Option.bind_some, Option.bind_some, Option.bind_some, Option.bind_some, decide_eq_true (by omega), Bool.true_and, e]
      cases h2 : (x :: r).all (edR s) with
      | true =>
        have h3 : (x :: r).all (inR s.size) = true := List.all_eq_true.2 fun y hy => edR_inR (List.all_eq_true.1 h2 y hy)
        rw [h3]; rfl
      | false =>
        cases (x :: r).all (inR s.size) <;> rfl

theorem same24_loop {K : Nat} {a b : List Rg} (hl : a.length = b.length) (hs : a.length < 1000000000000) : ∀ (d j k : Nat), j + d = a.length → d < k →
    palinodelaw24_same_rg.l0 K a b k (j : Int) = some (decide (a.drop j = b.drop j))
  | 0, j, k, hj, hk => by
    obtain ⟨k, rfl⟩ : ∃ m, k = m + 1 := ⟨k - 1, by omega⟩
    rw [palinodelaw24_same_rg.l0, if_neg (by simp; omega), List.drop_eq_nil_of_le (by omega), List.drop_eq_nil_of_le (by omega)]
    simp
  | d + 1, j, k, hj, hk => by
    obtain ⟨k, rfl⟩ : ∃ m, k = m + 1 := ⟨k - 1, by omega⟩
    have hw : IntKind.wrap .i64 ((j : Int) + 1) = ((j + 1 : Nat) : Int) := by rw [w64 (by omega) (by omega)]; omega
    have ha : a.drop j = a.getD j rg0 :: a.drop (j + 1) := by rw [List.drop_eq_getElem_cons (by omega)]; simp [List.getD, List.getElem?_eq_getElem (show j < a.length by omega)]
    have hb : b.drop j = b.getD j rg0 :: b.drop (j + 1) := by rw [List.drop_eq_getElem_cons (by omega)]; simp [List.getD, List.getElem?_eq_getElem (show j < b.length by omega)]
    rw [palinodelaw24_same_rg.l0, if_pos (by simp; omega), if_pos (by omega)]
    simp only [Int.toNat_natCast, hw, same24_loop hl hs d (j + 1) k (by omega) (by omega), ha, hb, List.cons.injEq]
    generalize a.getD j rg0 = x
    generalize b.getD j rg0 = y
    obtain ⟨x1, x2⟩ := x
    obtain ⟨y1, y2⟩ := y
    simp only [Prod.mk.injEq]
    by_cases h : x1 = y1 ∧ x2 = y2
    · rw [if_neg (by simp [h.1, h.2])]
      congr 1; rw [decide_eq_decide]; exact ⟨fun e => ⟨h, e⟩, fun e => e.2⟩
    · rw [if_pos (by simp only [Bool.not_eq_true', Bool.and_eq_false_iff, beq_eq_false_iff_ne, ne_eq]; exact Decidable.not_and_iff_or_not.1 h)]; congr 1; symm; rw [decide_eq_false_iff_not]; exact fun e => h e.1

theorem same24_is {K : Nat} {a b : List Rg} (hs : a.length < 1000000000000) (hK : a.length < K) : palinodelaw24_same_rg K a b = some (decide (a = b)) := by
  unfold palinodelaw24_same_rg
  by_cases h : a.length = b.length
  · rw [if_neg (by simp [h])]
    have := same24_loop (K := K) h hs a.length 0 K (by omega) hK
    simpa using this
  · rw [if_pos (by simp; omega)]
    congr 1; symm; rw [decide_eq_false_iff_not]
    intro e; exact h (by rw [e])

def txR (s : ByteArray) (x : Rg) : ByteArray := s.extract (loR x).toNat (hiR x).toNat

theorem texts_loop {K : Nat} {l : List Rg} {s : ByteArray} (hl : l.length ≤ 10000) (hi : ∀ x ∈ l, inR s.size x = true) : ∀ (rest : List Rg) (j k : Nat) (out : List ByteArray), l.drop j = rest → rest.length < k → out.length ≤ j →
    region_Texts_rg.l0 K l s k out (j : Int) = some (out ++ rest.map (txR s))
  | [], j, k, out, hd, hk, ho => by
    obtain ⟨k, rfl⟩ : ∃ m, k = m + 1 := ⟨k - 1, by omega⟩
    have := drop_nil hd
    rw [region_Texts_rg.l0, if_neg (by simp; omega)]; simp
  | x :: rest, j, k, out, hd, hk, ho => by
    obtain ⟨k, rfl⟩ : ∃ m, k = m + 1 := ⟨k - 1, by omega⟩
    obtain ⟨hj, hx, hd'⟩ := drop_cons hd rg0
    rw [List.length_cons] at hk
    have hw : IntKind.wrap .i64 ((j : Int) + 1) = ((j + 1 : Nat) : Int) := by rw [w64 (by omega) (by omega)]; omega
    have hxi := hi x (List.mem_of_mem_drop (i := j) (by rw [hd]; simp))
    unfold inR at hxi
    rw [decide_eq_true_eq] at hxi
    have := lo_hi x
    rw [region_Texts_rg.l0, if_pos (by simp; omega), if_pos (by omega)]
    simp only [Int.toNat_natCast, hx, hw, spanR_is, Option.bind_some]
    rw [if_pos (by simp only [List.length_singleton]; omega), texts_loop hl hi rest (j + 1) k _ hd' (by omega) (by simp; omega), List.map_cons]
    simp [txR]

theorem isR_parts {s : ByteArray} {l : List Rg} (h : isR s l = true) : l.length ≤ 8 ∧ l ≠ [] ∧ (∀ x ∈ l, edR s x = true) ∧ ∀ x ∈ l, inR s.size x = true := by
  cases l with
  | nil => cases h
  | cons x r =>
    rw [isR, Bool.and_eq_true, Bool.and_eq_true, decide_eq_true_eq] at h
    have h2 := List.all_eq_true.1 h.2.1
    exact ⟨h.1, by simp, h2, fun y hy => edR_inR (h2 y hy)⟩

theorem texts_is {K : Nat} {l : List Rg} {s : ByteArray} (hK : 100000 ≤ K) (hs : s.size ≤ 10000) (hl : l.length ≤ 1000) : region_Texts_rg K l s = some (if isR s l = true then l.map (txR s) else []) := by
  unfold region_Texts_rg
  rw [isR_is hK hs hl, Option.bind_some]
  cases h : isR s l with
  | false => rfl
  | true =>
    have e := texts_loop (K := K) (l := l) (s := s) (by omega) (isR_parts h).2.2.2 l 0 K [] rfl (by omega) (by simp)
    rw [show ((0 : Nat) : Int) = 0 from rfl, List.nil_append] at e
    rw [if_neg (by simp), if_pos rfl, e]

theorem mkR_len {s : ByteArray} {l : List Rg} : (mkR s l).1.length ≤ l.length := by
  unfold mkR
  split
  · simp
  · split
    · simp
    · split
      · simp
      · split
        · simp
        · simp only
          have h1 := jnR_len (l := srtR l [])
          have h2 : (srtR l []).length = l.length := by rw [srtR_perm.length_eq, List.append_nil]
          omega

theorem known24 {K : Nat} (hK : 100000 < K) : palinodelaw24_known K = some true := by
  unfold palinodelaw24_known
  have s1 : (ByteArray.mk #[97, 98, 99, 100, 101, 102]).size = 6 := rfl
  have s2 : (ByteArray.mk #[97, 98, 99]).size = 3 := rfl
  have s3 : (ByteArray.mk #[195, 169]).size = 2 := rfl
  have s4 : (ByteArray.mk #[120, 120]).size = 2 := rfl
  have a1 : region_Make_eg K [(5, 3), (1, 3)] (ByteArray.mk #[97, 98, 99, 100, 101, 102]) = some ([(1, 5)], 0) := by
    rw [makeR_is (by omega) (by omega) (by simp)]; decide
  have a3 : region_Make_eg K [(1, 0)] (ByteArray.mk #[195, 169]) = some ([], 11) := by
    rw [makeR_is (by omega) (by omega) (by simp)]; decide
  have a4 : delta_Build_gr K 6 [(1, (1, ByteArray.mk #[120, 120]))] = some (bldD 6 [(1, (1, ByteArray.mk #[120, 120]))]) := build_is (by simp) (by simp; omega) (fun x hx => by rw [List.mem_singleton.1 hx]; simp only; omega)
  have a5 : mvR (bldD 6 [(1, (1, ByteArray.mk #[120, 120]))]).1 (bldD 6 [(1, (1, ByteArray.mk #[120, 120]))]).2.1 [(1, 5)] = ([(3, 7)], 0) := by decide
  rw [a1, Option.bind_some, makeRn_is, Option.bind_some, a3, Option.bind_some, a4, Option.bind_some]
  simp only
  rw [moveR_is (by omega) (by simp), a5, Option.bind_some, texts_is (by omega) (by omega) (by simp), Option.bind_some, isR_is (by omega) (by omega) (by simp), isR_is (by omega) (by omega) (by simp)]
  simp only [str_beq]
  decide +kernel

/-- Whether a place is in one of them. -/
def covR (l : List Rg) (k : Int) : Bool := l.any fun x => decide (loR x ≤ k ∧ k < hiR x)

theorem covR_cons {x : Rg} {l : List Rg} {k : Int} : covR (x :: l) k = (decide (loR x ≤ k ∧ k < hiR x) || covR l k) := rfl

theorem covR_perm {l r : List Rg} (h : l.Perm r) (k : Int) : covR l k = covR r k := by
  unfold covR
  rw [Bool.eq_iff_iff, List.any_eq_true, List.any_eq_true]
  exact ⟨fun ⟨x, hx, h2⟩ => ⟨x, h.mem_iff.1 hx, h2⟩, fun ⟨x, hx, h2⟩ => ⟨x, h.mem_iff.2 hx, h2⟩⟩

theorem jn_cov {k : Int} : ∀ {l : List Rg} {c : Rg}, (∀ x ∈ l, loR c ≤ loR x) → l.Pairwise (fun a b => loR a ≤ loR b) → covR (jn c l) k = covR (c :: l) k
  | [], c, _, _ => rfl
  | x :: l, c, h1, h2 => by
    rw [List.pairwise_cons] at h2
    have hx := h1 x (by simp)
    have l1 := lo_hi x
    have l2 := lo_hi c
    rw [jn]
    by_cases h : loR x > hiR c
    · rw [if_pos h, covR_cons, jn_cov h2.1 h2.2]; rfl
    · rw [if_neg h, jn_cov (fun y hy => by rw [mg_lo]; exact h1 y (by simp [hy])) h2.2, covR_cons, covR_cons, covR_cons, mg_lo, mg_hi, ← Bool.or_assoc]
      congr 1
      rw [← Bool.decide_or, decide_eq_decide]; omega

theorem jn_ch : ∀ {l : List Rg} {c p : Rg}, hiR p < loR c → (∀ x ∈ l, loR c ≤ loR x) → l.Pairwise (fun a b => loR a ≤ loR b) → chR p (jn c l) = true
  | [], c, p, h, _, _ => by rw [jn, chR, chR, decide_eq_true h]; rfl
  | x :: l, c, p, h, h1, h2 => by
    rw [List.pairwise_cons] at h2
    rw [jn]
    by_cases hx : loR x > hiR c
    · rw [if_pos hx, chR, decide_eq_true h, Bool.true_and]
      exact jn_ch hx h2.1 h2.2
    · rw [if_neg hx]
      exact jn_ch (by rw [mg_lo]; exact h) (fun y hy => by rw [mg_lo]; exact h1 y (by simp [hy])) h2.2

/-- What holds of all ends holds of all ends of what is made. -/
theorem jn_all {Q : Int → Prop} : ∀ {l : List Rg} {c : Rg}, Q c.1 ∧ Q c.2 → (∀ x ∈ l, Q x.1 ∧ Q x.2) → ∀ x ∈ jn c l, Q x.1 ∧ Q x.2
  | [], c, hc, _, x, hx => by rw [jn, List.mem_singleton] at hx; rw [hx]; exact hc
  | y :: l, c, hc, hl, x, hx => by
    have hy := hl y (by simp)
    rw [jn] at hx
    by_cases h : loR y > hiR c
    · rw [if_pos h] at hx
      rcases List.mem_cons.1 hx with rfl | hx
      · exact hc
      · exact jn_all hy (fun z hz => hl z (by simp [hz])) x hx
    · rw [if_neg h] at hx
      refine jn_all (c := mgR c y) ?_ (fun z hz => hl z (by simp [hz])) x hx
      have hlo : Q (loR c) := by unfold loR; rcases Int.le_total c.1 c.2 with e | e; rw [Int.min_eq_left e]; exact hc.1; rw [Int.min_eq_right e]; exact hc.2
      have hhi : ∀ {z : Rg}, Q z.1 ∧ Q z.2 → Q (hiR z) := fun {z} hz => by unfold hiR; rcases Int.le_total z.1 z.2 with e | e; rw [Int.max_eq_right e]; exact hz.2; rw [Int.max_eq_left e]; exact hz.1
      have hmx : Q (max (hiR y) (hiR c)) := by rcases Int.le_total (hiR y) (hiR c) with e | e; rw [Int.max_eq_right e]; exact hhi hc; rw [Int.max_eq_left e]; exact hhi hy
      unfold mgR
      split
      · exact ⟨hmx, hlo⟩
      · exact ⟨hlo, hmx⟩

/-- Regions in order, none of which touches the next one. -/
def apR : List Rg → Bool
  | [] => true
  | x :: l => chR x l

theorem made_ok {l : List Rg} : apR (jnR (srtR l [])) = true ∧ (∀ k, covR (jnR (srtR l [])) k = covR l k) ∧ (jnR (srtR l [])).length ≤ l.length ∧ (l ≠ [] → jnR (srtR l []) ≠ []) ∧ ∀ {Q : Int → Prop}, (∀ x ∈ l, Q x.1 ∧ Q x.2) → ∀ x ∈ jnR (srtR l []), Q x.1 ∧ Q x.2 := by
  have hp : (srtR l []).Perm l := by have := srtR_perm (X := l) (S := []); rwa [List.append_nil] at this
  have hs : (srtR l []).Pairwise (fun a b => loR a ≤ loR b) := (srtR_srt (X := l) List.Pairwise.nil).imp leR_lo
  have hlen := hp.length_eq
  have hjl := jnR_len (l := srtR l [])
  refine ⟨?_, fun k => ?_, by omega, fun hne e => ?_, fun {Q} hQ x hx => ?_⟩
  · cases hS : srtR l [] with
    | nil => rfl
    | cons x S =>
      rw [hS, List.pairwise_cons] at hs
      have h := jn_ch (l := S) (c := x) (p := (loR x - 1, loR x - 1)) (by unfold hiR; simp only; omega) hs.1 hs.2
      show apR (jn x S) = true
      cases hj : jn x S with
      | nil => rfl
      | cons y T => rw [hj, chR, Bool.and_eq_true] at h; exact h.2
  · rw [← covR_perm hp]
    cases hS : srtR l [] with
    | nil => rfl
    | cons x S =>
      rw [hS, List.pairwise_cons] at hs
      exact jn_cov hs.1 hs.2
  · cases hS : srtR l [] with
    | nil => rw [hS] at hlen; exact hne (List.eq_nil_of_length_eq_zero (by simpa using hlen.symm))
    | cons x S =>
      rw [hS] at e
      have : ∀ (S : List Rg) (x : Rg), jn x S ≠ [] := by
        intro S
        induction S with
        | nil => intro x h; cases h
        | cons y S ih => intro x h; rw [jn] at h; split at h; cases h; exact ih _ h
      exact this S x e
  · have hQ' : ∀ x ∈ srtR l [], Q x.1 ∧ Q x.2 := fun y hy => hQ y (hp.mem_iff.1 hy)
    cases hS : srtR l [] with
    | nil => rw [hS] at hx; cases hx
    | cons y S =>
      rw [hS] at hx hQ'
      exact jn_all (hQ' y (by simp)) (fun z hz => hQ' z (by simp [hz])) x hx

theorem chR_mem : ∀ {l : List Rg} {p : Rg}, chR p l = true → ∀ x ∈ l, hiR p < loR x
  | [], _, _, x, hx => by cases hx
  | y :: l, p, h, x, hx => by
    rw [chR, Bool.and_eq_true, decide_eq_true_eq] at h
    rcases List.mem_cons.1 hx with rfl | hx
    · exact h.1
    · have := chR_mem h.2 x hx
      have := lo_hi y
      omega

theorem chR_ap {l : List Rg} {p : Rg} (h : chR p l = true) : apR l = true := by
  cases l with
  | nil => rfl
  | cons y l => rw [chR, Bool.and_eq_true] at h; exact h.2

/-- What is apart is sorted as it is. -/
theorem srtR_ap : ∀ {l S : List Rg}, apR l = true → (∀ z ∈ S, ∀ x ∈ l, hiR z < loR x) → srtR l S = S ++ l
  | [], S, _, _ => by simp [srtR]
  | x :: l, S, h, hS => by
    have e : insR x S = S ++ [x] := by
      rcases List.eq_nil_or_concat S with rfl | ⟨S', z, rfl⟩
      · rfl
      · rw [List.concat_eq_append, insR_snoc, if_neg]
        have h1 := hS z (by simp) x (by simp)
        have h2 := lo_hi z
        unfold ltR
        rw [decide_eq_true_eq]; omega
    show srtR l (insR x S) = _
    rw [e, srtR_ap (chR_ap h) fun z hz y hy => ?_, List.append_assoc]
    · rfl
    · rcases List.mem_append.1 hz with hz | hz
      · exact hS z hz y (by simp [hy])
      · rw [List.mem_singleton.1 hz]; exact chR_mem h y hy

theorem jn_ap : ∀ {l : List Rg} {c : Rg}, chR c l = true → jn c l = c :: l
  | [], _, _ => rfl
  | x :: l, c, h => by
    rw [chR, Bool.and_eq_true, decide_eq_true_eq] at h
    rw [jn, if_pos (by omega), jn_ap h.2]

theorem made_same {l : List Rg} (h : apR l = true) : jnR (srtR l []) = l := by
  rw [srtR_ap h (fun z hz => by cases hz), List.nil_append]
  cases l with
  | nil => rfl
  | cons x l => exact jn_ap h

theorem isR_of {s : ByteArray} {l : List Rg} (h1 : l ≠ []) (h2 : l.length ≤ 8) (h3 : ∀ x ∈ l, edR s x = true) (h4 : apR l = true) : isR s l = true := by
  cases l with
  | nil => exact (h1 rfl).elim
  | cons x l =>
    rw [isR, decide_eq_true h2, List.all_eq_true.2 h3, Bool.true_and, Bool.true_and]; exact h4

theorem mkR_same {s : ByteArray} {l : List Rg} (h : isR s l = true) : mkR s l = (l, 0) := by
  obtain ⟨h1, h2, h3, h4⟩ := isR_parts h
  unfold mkR
  rw [if_neg (fun e => h2 (List.eq_nil_of_length_eq_zero e)), if_neg (by omega), List.all_eq_true.2 h4, List.all_eq_true.2 h3, if_neg (by simp), if_neg (by simp), made_same]
  cases l with
  | nil => rfl
  | cons x l => rw [isR, Bool.and_eq_true, Bool.and_eq_true] at h; exact h.2.2

theorem mkR_is {s : ByteArray} {l : List Rg} (h : (mkR s l).2 = 0) : (mkR s l).1 = jnR (srtR l []) ∧ isR s (mkR s l).1 = true ∧ l.length ≤ 8 ∧ (∀ x ∈ l, inR s.size x = true) ∧ ∀ x ∈ l, edR s x = true := by
  unfold mkR at h ⊢
  by_cases h1 : l.length = 0
  · rw [if_pos h1] at h; simp at h
  rw [if_neg h1] at h ⊢
  by_cases h2 : l.length > 8
  · rw [if_pos h2] at h; simp at h
  rw [if_neg h2] at h ⊢
  by_cases h3 : l.all (inR s.size) = false
  · rw [if_pos h3] at h; simp at h
  rw [if_neg h3] at h ⊢
  by_cases h4 : l.all (edR s) = false
  · rw [if_pos h4] at h; simp at h
  rw [if_neg h4]
  obtain ⟨m1, m2, m3, m4, m5⟩ := made_ok (l := l)
  have h4' := List.all_eq_true.1 (Bool.of_not_eq_false h4)
  refine ⟨rfl, isR_of (m4 fun e => h1 (by rw [e]; rfl)) (by simp only; omega) (fun x hx => ?_) m1, by omega, List.all_eq_true.1 (Bool.of_not_eq_false h3), h4'⟩
  have := m5 (Q := fun p => isE s p = true) (fun y hy => by have := h4' y hy; unfold edR at this; rw [Bool.and_eq_true] at this; exact this) x hx
  unfold edR
  rw [this.1, this.2]; rfl

theorem getD_setB {l : List Bool} {i j : Nat} {v : Bool} (hj : j < l.length) : (l.set i v).getD j false = if i = j then v else l.getD j false := by
  rw [List.getD_eq_getElem?_getD, List.getElem?_set, List.getD_eq_getElem?_getD]
  by_cases h : i = j
  · subst h; rw [if_pos rfl, if_pos rfl, if_pos hj]; rfl
  · rw [if_neg h, if_neg h]

theorem ap1_loop {K i : Nat} {l : List Rg} {x : Rg} (hx : l.getD i rg0 = x) (h0 : 0 ≤ loR x) (h1 : hiR x ≤ 260) : ∀ (d j k : Nat) (b : List Bool), (j : Int) + d = hiR x → d < k → b.length = 260 →
    ∃ b', palinodelaw24_RegionApart.l1 K l (i : Int) k b (j : Int) = some b' ∧ b'.length = 260 ∧ ∀ v : Nat, v < 260 → b'.getD v false = (decide (j ≤ v ∧ (v : Int) < hiR x) || b.getD v false)
  | 0, j, k, b, hj, hk, hb => by
    obtain ⟨k, rfl⟩ : ∃ m, k = m + 1 := ⟨k - 1, by omega⟩
    rw [palinodelaw24_RegionApart.l1]
    simp only [Int.toNat_natCast, hx, mx2_is]
    rw [if_neg (show ¬ decide ((j : Int) < max x.1 x.2) = true by rw [decide_eq_true_eq]; unfold hiR at hj; omega)]
    exact ⟨b, rfl, hb, fun v hv => by rw [decide_eq_false (by omega), Bool.false_or]⟩
  | d + 1, j, k, b, hj, hk, hb => by
    obtain ⟨k, rfl⟩ : ∃ m, k = m + 1 := ⟨k - 1, by omega⟩
    have hw : IntKind.wrap .i64 ((j : Int) + 1) = ((j + 1 : Nat) : Int) := by rw [w64 (by omega) (by omega)]; omega
    rw [palinodelaw24_RegionApart.l1]
    simp only [Int.toNat_natCast, hx, mx2_is, hw]
    rw [if_pos (show decide ((j : Int) < max x.1 x.2) = true by rw [decide_eq_true_eq]; unfold hiR at hj; omega), if_pos (by omega)]
    obtain ⟨b', e1, e2, e3⟩ := ap1_loop (K := K) hx h0 h1 d (j + 1) k (b.set j true) (by omega) (by omega) (by simp; omega)
    refine ⟨b', e1, e2, fun v hv => ?_⟩
    rw [e3 v hv, getD_setB (by omega)]
    by_cases e : j = v
    · rw [if_pos e, decide_eq_true (show j ≤ v ∧ (v : Int) < hiR x by omega), Bool.or_true, Bool.true_or]
    · rw [if_neg e]; congr 1; rw [decide_eq_decide]; omega

theorem ap0_loop {K : Nat} {l : List Rg} (hK : 1000 ≤ K) (hl : l.length ≤ 100) (hi : ∀ x ∈ l, 0 ≤ loR x ∧ hiR x ≤ 260) : ∀ (rest : List Rg) (j k : Nat) (b : List Bool), l.drop j = rest → rest.length < k → b.length = 260 →
    ∃ b', palinodelaw24_RegionApart.l0 K l k b (j : Int) = some b' ∧ b'.length = 260 ∧ ∀ v : Nat, v < 260 → b'.getD v false = (covR rest v || b.getD v false)
  | [], j, k, b, hd, hk, hb => by
    obtain ⟨k, rfl⟩ : ∃ m, k = m + 1 := ⟨k - 1, by omega⟩
    have := drop_nil hd
    rw [palinodelaw24_RegionApart.l0, if_neg (by simp; omega)]
    exact ⟨b, rfl, hb, fun v hv => rfl⟩
  | x :: rest, j, k, b, hd, hk, hb => by
    obtain ⟨k, rfl⟩ : ∃ m, k = m + 1 := ⟨k - 1, by omega⟩
    obtain ⟨hj, hx, hd'⟩ := drop_cons hd rg0
    rw [List.length_cons] at hk
    have hw : IntKind.wrap .i64 ((j : Int) + 1) = ((j + 1 : Nat) : Int) := by rw [w64 (by omega) (by omega)]; omega
    have hxi := hi x (List.mem_of_mem_drop (i := j) (by rw [hd]; simp))
    have hlh := lo_hi x
    obtain ⟨a, ha⟩ : ∃ a : Nat, loR x = a := ⟨(loR x).toNat, by omega⟩
    obtain ⟨d, hdd⟩ : ∃ d : Nat, (a : Int) + d = hiR x := ⟨(hiR x - a).toNat, by omega⟩
    obtain ⟨b1, e1, e2, e3⟩ := ap1_loop (K := K) hx hxi.1 hxi.2 d a K b hdd (by omega) hb
    obtain ⟨b2, f1, f2, f3⟩ := ap0_loop hK hl hi rest (j + 1) k b1 hd' (by omega) e2
    have hlo : mn2 x.1 x.2 = (a : Int) := by rw [mn2_is]; exact ha
    rw [palinodelaw24_RegionApart.l0, if_pos (by simp; omega), if_pos (by omega)]
    simp only [Int.toNat_natCast, hx, hw, hlo, e1, Option.bind_some]
    refine ⟨b2, f1, f2, fun v hv => ?_⟩
    rw [f3 v hv, e3 v hv, covR_cons, ← Bool.or_assoc, Bool.or_comm (covR rest v)]
    congr 2
    rw [decide_eq_decide]; omega

theorem ap3_loop {K i : Nat} {r : List Rg × Int} {x : Rg} (hx : r.1.getD i rg0 = x) (h0 : 0 ≤ loR x) (h1 : hiR x ≤ 260) : ∀ (d j k : Nat) (b : List Bool), (j : Int) + d = hiR x → d < k → b.length = 260 → (∀ v : Nat, j ≤ v → (v : Int) < hiR x → b.getD v false = true) →
    ∃ b', palinodelaw24_RegionApart.l3 K r (i : Int) k b (j : Int) = some (.inr b') ∧ b'.length = 260 ∧ ∀ v : Nat, v < 260 → b'.getD v false = (!decide (j ≤ v ∧ (v : Int) < hiR x) && b.getD v false)
  | 0, j, k, b, hj, hk, hb, hin => by
    obtain ⟨k, rfl⟩ : ∃ m, k = m + 1 := ⟨k - 1, by omega⟩
    rw [palinodelaw24_RegionApart.l3]
    simp only [Int.toNat_natCast, hx, mx2_is]
    rw [if_neg (show ¬ decide ((j : Int) < max x.1 x.2) = true by rw [decide_eq_true_eq]; unfold hiR at hj; omega)]
    exact ⟨b, rfl, hb, fun v hv => by rw [decide_eq_false (by omega)]; rfl⟩
  | d + 1, j, k, b, hj, hk, hb, hin => by
    obtain ⟨k, rfl⟩ : ∃ m, k = m + 1 := ⟨k - 1, by omega⟩
    have hw : IntKind.wrap .i64 ((j : Int) + 1) = ((j + 1 : Nat) : Int) := by rw [w64 (by omega) (by omega)]; omega
    rw [palinodelaw24_RegionApart.l3]
    simp only [Int.toNat_natCast, hx, mx2_is, hw, hin j (Nat.le_refl j) (by omega)]
    rw [if_pos (show decide ((j : Int) < max x.1 x.2) = true by rw [decide_eq_true_eq]; unfold hiR at hj; omega), if_pos (by omega), if_neg (by simp)]
    obtain ⟨b', e1, e2, e3⟩ := ap3_loop (K := K) hx h0 h1 d (j + 1) k (b.set j false) (by omega) (by omega) (by simp; omega) fun v h2 h3 => by
      rw [getD_setB (by omega), if_neg (by omega)]; exact hin v (by omega) h3
    refine ⟨b', e1, e2, fun v hv => ?_⟩
    rw [e3 v hv, getD_setB (by omega)]
    by_cases e : j = v
    · rw [if_pos e, decide_eq_true (show j ≤ v ∧ (v : Int) < hiR x by omega)]; simp
    · rw [if_neg e]; congr 2; rw [decide_eq_decide]; omega

theorem cov_none {p : Rg} {l : List Rg} {k : Int} (h : chR p l = true) (hk : k ≤ hiR p) : covR l k = false := by
  unfold covR
  rw [List.any_eq_false]
  intro x hx
  have := chR_mem h x hx
  rw [decide_eq_true_eq]; omega

theorem ap2_loop {K : Nat} {r : List Rg × Int} (hK : 1000 ≤ K) (hl : r.1.length ≤ 100) (hi : ∀ x ∈ r.1, 0 ≤ loR x ∧ hiR x ≤ 260) : ∀ (rest : List Rg) (j k : Nat) (b : List Bool) (last : Int), r.1.drop j = rest → rest.length < k → b.length = 260 → (∀ x ∈ rest, last < loR x) → apR rest = true → (∀ v : Nat, v < 260 → b.getD v false = covR rest v) →
    ∃ b', palinodelaw24_RegionApart.l2 K r k b last (j : Int) = some (.inr b') ∧ b'.length = 260 ∧ ∀ v : Nat, v < 260 → b'.getD v false = false
  | [], j, k, b, last, hd, hk, hb, _, _, hc => by
    obtain ⟨k, rfl⟩ : ∃ m, k = m + 1 := ⟨k - 1, by omega⟩
    have := drop_nil hd
    rw [palinodelaw24_RegionApart.l2, if_neg (by simp; omega)]
    exact ⟨b, rfl, hb, hc⟩
  | x :: rest, j, k, b, last, hd, hk, hb, hla, hap, hc => by
    obtain ⟨k, rfl⟩ : ∃ m, k = m + 1 := ⟨k - 1, by omega⟩
    obtain ⟨hj, hx, hd'⟩ := drop_cons hd rg0
    rw [List.length_cons] at hk
    have hw : IntKind.wrap .i64 ((j : Int) + 1) = ((j + 1 : Nat) : Int) := by rw [w64 (by omega) (by omega)]; omega
    have hxi := hi x (List.mem_of_mem_drop (i := j) (by rw [hd]; simp))
    have hlh := lo_hi x
    have hlx := hla x (by simp)
    obtain ⟨a, ha⟩ : ∃ a : Nat, loR x = a := ⟨(loR x).toNat, by omega⟩
    obtain ⟨d, hdd⟩ : ∃ d : Nat, (a : Int) + d = hiR x := ⟨(hiR x - a).toNat, by omega⟩
    have hlo : mn2 x.1 x.2 = (a : Int) := by rw [mn2_is]; exact ha
    have hhi : mx2 x.1 x.2 = hiR x := by rw [mx2_is]; rfl
    obtain ⟨b1, e1, e2, e3⟩ := ap3_loop (K := K) (r := r) hx hxi.1 hxi.2 d a K b hdd (by omega) hb fun v h2 h3 => by
      rw [hc v (by omega), covR_cons, decide_eq_true (by omega), Bool.true_or]
    obtain ⟨b2, f1, f2, f3⟩ := ap2_loop hK hl hi rest (j + 1) k b1 (hiR x) hd' (by omega) e2 (chR_mem hap) (chR_ap hap) fun v hv => by
      rw [e3 v hv, hc v hv, covR_cons]
      by_cases c : (loR x ≤ v ∧ (v : Int) < hiR x)
      · rw [decide_eq_true (show a ≤ v ∧ (v : Int) < hiR x by omega), cov_none hap (by omega)]; rfl
      · rw [decide_eq_false (show ¬ (a ≤ v ∧ (v : Int) < hiR x) by omega), decide_eq_false c]; rfl
    rw [palinodelaw24_RegionApart.l2, if_pos (by simp; omega), if_pos (by omega)]
    simp only [Int.toNat_natCast, hx, hw, hlo, hhi, e1, Option.bind_some]
    rw [if_neg (by rw [decide_eq_true_eq]; omega), Option.bind_some, Sum.elim_inr, f1]
    exact ⟨b2, rfl, f2, f3⟩

theorem ap4_loop {K : Nat} {b : List Bool} (hb : b.length = 260) (h : ∀ v : Nat, v < 260 → b.getD v false = false) : ∀ (d j k : Nat), j + d = 260 → d < k → palinodelaw24_RegionApart.l4 K b k (j : Int) = some (.inr ())
  | 0, j, k, hj, hk => by
    obtain ⟨k, rfl⟩ : ∃ m, k = m + 1 := ⟨k - 1, by omega⟩
    rw [palinodelaw24_RegionApart.l4, if_neg (by simp; omega)]
  | d + 1, j, k, hj, hk => by
    obtain ⟨k, rfl⟩ : ∃ m, k = m + 1 := ⟨k - 1, by omega⟩
    have hw : IntKind.wrap .i64 ((j : Int) + 1) = ((j + 1 : Nat) : Int) := by rw [w64 (by omega) (by omega)]; omega
    rw [palinodelaw24_RegionApart.l4, if_pos (by simp; omega), if_pos (by omega)]
    simp only [Int.toNat_natCast, hw, h j (by omega)]
    rw [if_neg (by simp)]
    exact ap4_loop hb h d (j + 1) k (by omega) (by omega)

theorem mkR_bad {s : ByteArray} {l : List Rg} (h : (mkR s l).2 ≠ 0) : (mkR s l).1 = [] := by
  unfold mkR at *
  split at h <;> rename_i h1
  · rw [if_pos h1]
  · rw [if_neg h1]
    split at h <;> rename_i h2
    · rw [if_pos h2]
    · rw [if_neg h2]
      split at h <;> rename_i h3
      · rw [if_pos h3]
      · rw [if_neg h3]
        split at h <;> rename_i h4
        · rw [if_pos h4]
        · exact (h rfl).elim

theorem RegionApart_pure (l : List Rg) (n : Int) (ol : Kd.ok (.slice (.pair (.int .i64) (.int .i64))) l) (on : Kd.ok (.int .u8) n) : ∃ K, palinodelaw24_RegionApart K l n = some true := by
  refine ⟨200000, ?_⟩
  have bn := bounds_u8 on
  clear ol on
  unfold palinodelaw24_RegionApart
  rw [known24 (by omega), Option.bind_some, if_neg (by simp)]
  by_cases h1 : l.length > 12
  · rw [if_pos (by simp; omega)]
  rw [if_neg (by simp; omega), if_pos (by omega)]
  have hsz : (ofBytes (List.replicate n.toNat 0)).size = n.toNat := by rw [ofBytes_size, List.length_replicate]
  have hml := mkR_len (s := ofBytes (List.replicate n.toNat 0)) (l := l)
  rw [makeR_is (by omega) (by omega) (by omega), Option.bind_some]
  by_cases he : (mkR (ofBytes (List.replicate n.toNat 0)) l).2 = 0
  · obtain ⟨m1, m2, m3, m4, -⟩ := mkR_is he
    obtain ⟨q1, q2, q3, q4, q5⟩ := made_ok (l := l)
    obtain ⟨p1, p2, p3, p4⟩ := isR_parts m2
    have hsame := mkR_same m2
    rw [if_neg (by simp [he])]
    have hin : ∀ x : Rg, inR (ofBytes (List.replicate n.toNat 0)).size x = true → 0 ≤ loR x ∧ hiR x ≤ 260 := fun x hx => by
      unfold inR at hx; rw [decide_eq_true_eq] at hx; omega
    obtain ⟨b1, e1, e2, e3⟩ := ap0_loop (K := 200000) (l := l) (by omega) (by omega) (fun x hx => hin x (m4 x hx)) l 0 200000 (List.replicate 260 false) rfl (by omega) List.length_replicate
    generalize hM : mkR (ofBytes (List.replicate n.toNat 0)) l = M at *
    rw [← m1] at q1 q2
    obtain ⟨b2, f1, f2, f3⟩ := ap2_loop (K := 200000) (r := M) (by omega) (by omega) (fun x hx => hin x (p4 x hx)) M.1 0 200000 b1 (-1) rfl (by omega) e2 (fun x hx => by have := hin x (p4 x hx); omega) q1 fun v hv => by
      rw [e3 v hv, q2, List.getD_eq_getElem?_getD, List.getElem?_replicate, if_pos hv, Option.getD_some, Bool.or_false]
    have f4 := ap4_loop (K := 200000) f2 f3 260 0 200000 (by omega) (by omega)
    rw [show ((0 : Nat) : Int) = 0 from rfl] at e1 f1 f4
    rw [e1, Option.bind_some, f1, Option.bind_some, Sum.elim_inr, f4, Option.bind_some, Sum.elim_inr, makeR_is (by omega) (by omega) (by omega), Option.bind_some, hsame, isR_is (by omega) (by omega) (by omega), Option.bind_some, m2, if_pos rfl, if_pos (by simp; omega), if_pos (by simp), same24_is (by simp only; omega) (by simp only; omega)]
    simp
  · rw [if_pos (by simpa using he), mkR_bad he]; rfl

end Go.Pal
