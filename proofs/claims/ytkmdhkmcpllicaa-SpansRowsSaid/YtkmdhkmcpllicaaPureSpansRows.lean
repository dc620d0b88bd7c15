/- Whatever row of styles put: each byte has the last one that was put upon it; merged upon others the same. -/
import Derived.Test.YtkmdhkmcpllicaaFunSpansRows
namespace Go.Pal
open Go
set_option linter.unusedVariables false
set_option linter.unusedSimpArgs false
set_option linter.unnecessarySimpa false
theorem w64 {n : Int} (h1 : -9223372036854775808 ≤ n) (h2 : n < 9223372036854775808) : IntKind.wrap .i64 n = n := by
  simp only [IntKind.wrap, IntKind.bits, IntKind.signed]
  simp
  omega

theorem drop_cons {α : Type} {l : List α} {j : Nat} {g : α} {r : List α} (h : l.drop j = g :: r) (d : α) : j < l.length ∧ l.getD j d = g ∧ l.drop (j + 1) = r := by
  have hj : j < l.length := by
    rcases Nat.lt_or_ge j l.length with h' | h'
    · exact h'
    · rw [List.drop_eq_nil_of_le h'] at h; cases h
  rw [List.drop_eq_getElem_cons hj] at h
  obtain ⟨h1, h2⟩ := List.cons.inj h
  exact ⟨hj, by simp [List.getD, hj, h1], h2⟩

theorem drop_nil {α : Type} {l : List α} {j : Nat} (h : l.drop j = []) : l.length ≤ j := List.drop_eq_nil_iff.1 h

theorem split_last {α : Type} : ∀ {l : List α}, l ≠ [] → ∃ m x, l = m ++ [x] := by
  intro l h
  exact ⟨l.dropLast, l.getLast h, (List.dropLast_concat_getLast h).symm⟩

/-- The counts of e, those from f to t told anew. -/
def put (e : List Int) (f t c : Int) : List Int := e.take f.toNat ++ List.replicate (t - f).toNat c ++ e.drop t.toNat

/-- Runs without their first places. -/
def less (g : Int × Int) (r : List (Int × Int)) (n : Int) : List (Int × Int) := if g.1 - n = 0 then r else (g.1 - n, g.2) :: r

/-- Place by place through two rows of counts. -/
def thru (G : Int → Int → List Int) : List Int → List Int → List Int
  | c :: a, d :: b => G c d ++ thru G a b
  | _, _ => []

/-- A count for each two. -/
def two (F : Int → Int → Int) (a b : List Int) : List Int := thru (fun c d => [F c d]) a b

/-- A byte that goes on. -/
def cont (b : Int) : Prop := 128 ≤ b ∧ b < 192

instance (b : Int) : Decidable (cont b) := inferInstanceAs (Decidable (_ ∧ _))

abbrev El := Int × (Int × ByteArray)

abbrev el0 : El := ((0 : Int), ((0 : Int), ByteArray.empty))

def lastIs (b : Bool) (l : List El) : Prop := l ≠ [] ∧ decide ((l.getD (l.length - 1) el0).2.2.size = 0) = b

instance (b : Bool) (l : List El) : Decidable (lastIs b l) := inferInstanceAs (Decidable (_ ∧ _))

abbrev Ce := Int × Int

/-- How many at the head are put in. -/
def runT : List Ce → Nat
  | [] => 0
  | c :: r => if c.1 < 0 then runT r + 1 else 0

/-- How many at the head go on from a place. -/
def runC : Int → List Ce → Nat
  | _, [] => 0
  | a, c :: r => if c.1 = a + 1 then runC c.1 r + 1 else 0

/-- Cells, told. -/
def told : Nat → List Ce → List El
  | 0, _ => []
  | _, [] => []
  | m + 1, c :: r =>
    if c.1 < 0 then (0, (0, ofBytes (c.2 :: (r.take (runT r)).map (·.2)))) :: told m (r.drop (runT r))
    else (c.1, (c.1 + runC c.1 r + 1, ByteArray.empty)) :: told m (r.drop (runC c.1 r))

/-- Ones ahead of a place, then noughts. -/
def f1 (x : Int) : Int → Nat → List Int
  | _, 0 => []
  | a, n + 1 => (if a < x then 1 else 0) :: f1 x (a + 1) n

abbrev Sp := Int × (Int × Int)

abbrev sp0 : Sp := ((0 : Int), ((0 : Int), (0 : Int)))

def ltS (a b : Sp) : Bool := decide (a.1 < b.1)

def leS (a b : Sp) : Prop := ltS b a = false

theorem eta3 (x : Sp) : (x.1, (x.2.1, x.2.2)) = x := rfl

theorem leS_trans {a b c : Sp} (h1 : leS a b) (h2 : leS b c) : leS a c := by
  unfold leS ltS at *
  rw [decide_eq_false_iff_not] at *
  omega

theorem ltS_le {a b : Sp} (h : ltS a b = true) : leS a b := by
  unfold leS ltS at *
  rw [decide_eq_true_eq] at h
  rw [decide_eq_false_iff_not]
  omega

theorem cmpS_is {K : Nat} {a b : Sp} : ∃ c, spans_row_sorted_1 K a.1 a.2.1 a.2.2 b.1 b.2.1 b.2.2 = some c ∧ decide (c < 0) = ltS a b := by
  unfold spans_row_sorted_1 cmp_Compare cmp_isNaN ltS
  rw [Option.bind_some, Option.bind_some, bne_self_eq_false, if_neg (by simp), bne_self_eq_false, if_neg (by simp)]
  by_cases h : a.1 < b.1
  · rw [if_pos (by simpa using h), Option.bind_some]
    exact ⟨_, rfl, by rw [decide_eq_true h]; rfl⟩
  · rw [if_neg (by simpa using h)]
    by_cases h2 : a.1 > b.1
    · rw [if_pos (by simpa using h2), Option.bind_some]
      exact ⟨_, rfl, by rw [decide_eq_false h]; rfl⟩
    · rw [if_neg (by simpa using h2), Option.bind_some]
      exact ⟨_, rfl, by rw [decide_eq_false h]; rfl⟩

abbrev Srt (l : List Sp) : Prop := l.Pairwise leS

theorem get_mid {α : Type} {A R : List α} {x d : α} {n : Nat} (h : n = A.length) : (A ++ x :: R).getD n d = x := by
  subst h
  rw [List.getD_eq_getElem?_getD, List.getElem?_append_right (Nat.le_refl _), Nat.sub_self]; rfl

theorem set_mid {α : Type} {A R : List α} {x v : α} {n : Nat} (h : n = A.length) : (A ++ x :: R).set n v = A ++ v :: R := by
  subst h
  rw [List.set_append_right _ _ (Nat.le_refl _), Nat.sub_self, List.set_cons_zero]

theorem swp_a {α : Type} {P Q : List α} {z x : α} {n m : Nat} (hn : n = P.length) (hm : m = P.length + 1) : ((P ++ z :: x :: Q).set m z).set n x = P ++ x :: z :: Q := by
  have e : P ++ z :: x :: Q = (P ++ [z]) ++ x :: Q := by simp
  rw [e, set_mid (by simp [hm]), show (P ++ [z]) ++ z :: Q = P ++ z :: z :: Q by simp, set_mid hn]

theorem get_two {α : Type} {P Q : List α} {z x d : α} {m : Nat} (hm : m = P.length + 1) : (P ++ z :: x :: Q).getD m d = x := by
  rw [show P ++ z :: x :: Q = (P ++ [z]) ++ x :: Q by simp, get_mid (by simp [hm])]

theorem insS_loop {K : Nat} {A : List Sp} {x : Sp} : ∀ (n : Nat) (S2 T S : List Sp) (k : Nat), S.length = n → n < k → A.length + S.length + S2.length + T.length ≤ 100000 → Srt S → (∀ y ∈ S2, ltS x y = true) →
    ∃ S1 S3, slices_insertionSortCmpFunc_rggcspansrowsorted1.l1 K (A.length : Int) k (A ++ (S ++ x :: (S2 ++ T))) ((A.length + S.length : Nat) : Int) = some (A ++ (S1 ++ x :: (S3 ++ T))) ∧ S1 ++ S3 = S ++ S2 ∧ (∀ y ∈ S1, leS y x) ∧ (∀ y ∈ S3, ltS x y = true)
  | 0, S2, T, S, k, hn, hk, hl, hs, h2 => by
    obtain ⟨k, rfl⟩ : ∃ m, k = m + 1 := ⟨k - 1, by omega⟩
    have : S = [] := List.eq_nil_of_length_eq_zero hn
    subst this
    rw [slices_insertionSortCmpFunc_rggcspansrowsorted1.l1, if_neg (by simp), Option.bind_some, if_neg (by simp)]
    exact ⟨[], S2, by simp, rfl, fun y hy => (List.not_mem_nil hy).elim, h2⟩
  | n + 1, S2, T, S, k, hn, hk, hl, hs, h2 => by
    obtain ⟨k, rfl⟩ : ∃ m, k = m + 1 := ⟨k - 1, by omega⟩
    obtain ⟨S', z, rfl⟩ := split_last (l := S) (by intro e; rw [e] at hn; simp at hn)
    rw [List.length_append, List.length_singleton] at hn hl
    have eD : A ++ ((S' ++ [z]) ++ x :: (S2 ++ T)) = (A ++ S') ++ z :: x :: (S2 ++ T) := by simp
    have hpl : (A ++ S').length = A.length + S'.length := List.length_append
    have g1 : ((A ++ S') ++ z :: x :: (S2 ++ T)).getD (A.length + (S'.length + 1)) sp0 = x := get_two (by omega)
    have g2 : ((A ++ S') ++ z :: x :: (S2 ++ T)).getD (A.length + S'.length) sp0 = z := get_mid (by omega)
    have hw : IntKind.wrap .i64 (((A.length + (S'.length + 1) : Nat) : Int) - 1) = ((A.length + S'.length : Nat) : Int) := by rw [w64 (by omega) (by omega)]; omega
    have hDl : ((A ++ S') ++ z :: x :: (S2 ++ T)).length = A.length + S'.length + 2 + S2.length + T.length := by simp only [List.length_append, List.length_cons]; omega
    obtain ⟨c, hc1, hc2⟩ := cmpS_is (K := K) (a := x) (b := z)
    rw [List.length_append, List.length_singleton, slices_insertionSortCmpFunc_rggcspansrowsorted1.l1, eD]
    simp only [hw, Int.toNat_natCast, g1, g2, eta3]
    rw [if_pos (by simp; omega), hc1, Option.bind_some, if_pos ⟨by omega, by omega, by omega, by omega⟩, hc2, Option.bind_some]
    have hs' := List.pairwise_append.1 hs
    cases hlt : ltS x z with
    | true =>
      rw [if_pos rfl, if_pos ⟨by omega, by omega, by omega, by omega, by rw [List.length_set]; omega⟩, swp_a (by omega) (by omega)]
      obtain ⟨S1, S3, e1, e2, e3, e4⟩ := insS_loop (K := K) (A := A) (x := x) n (z :: S2) T S' k (by omega) (by omega) (by simp only [List.length_cons]; omega) hs'.1 (fun y hy => by
        rcases List.mem_cons.1 hy with rfl | hy
        · exact hlt
        · exact h2 y hy)
      refine ⟨S1, S3, ?_, by rw [e2]; simp, e3, e4⟩
      rw [← e1]
      simp
    | false =>
      rw [if_neg (by simp)]
      refine ⟨S' ++ [z], S2, by rw [← eD], rfl, fun y hy => ?_, h2⟩
      rcases List.mem_append.1 hy with hy | hy
      · exact leS_trans (hs'.2.2 y hy z (by simp)) hlt
      · rw [List.mem_singleton.1 hy]; exact hlt

theorem insS0_loop {K : Nat} {A B : List Sp} (hK : 100000 ≤ K) : ∀ (X S : List Sp) (k : Nat), X.length < k → A.length + S.length + X.length + B.length ≤ 90000 → Srt S →
    ∃ Z, slices_insertionSortCmpFunc_rggcspansrowsorted1.l0 K ((A.length + S.length + X.length : Nat) : Int) (A.length : Int) k (A ++ (S ++ (X ++ B))) ((A.length + S.length : Nat) : Int) = some (A ++ (Z ++ B)) ∧ Z.Perm (S ++ X) ∧ Srt Z
  | [], S, k, hk, hl, hs => by
    obtain ⟨k, rfl⟩ : ∃ m, k = m + 1 := ⟨k - 1, by omega⟩
    rw [slices_insertionSortCmpFunc_rggcspansrowsorted1.l0, if_neg (by simp)]
    exact ⟨S, by simp, by simp, hs⟩
  | x :: X, S, k, hk, hl, hs => by
    obtain ⟨k, rfl⟩ : ∃ m, k = m + 1 := ⟨k - 1, by omega⟩
    rw [List.length_cons] at hk hl
    have hw : IntKind.wrap .i64 (((A.length + S.length : Nat) : Int) + 1) = ((A.length + (S.length + 1) : Nat) : Int) := by rw [w64 (by omega) (by omega)]; omega
    obtain ⟨S1, S3, e1, e2, e3, e4⟩ := insS_loop (K := K) (A := A) (x := x) S.length [] (X ++ B) S K rfl (by omega) (by simp only [List.length_append, List.length_nil]; omega) hs (fun y hy => by cases hy)
    rw [List.append_nil] at e2
    rw [List.nil_append] at e1
    rw [slices_insertionSortCmpFunc_rggcspansrowsorted1.l0, if_pos (by simp; omega), List.cons_append, e1, Option.bind_some, hw]
    have hperm : (S1 ++ x :: S3).Perm (S ++ [x]) := by
      rw [← e2]
      exact (List.perm_middle).trans ((List.perm_append_singleton x (S1 ++ S3)).symm)
    have hs3 := List.pairwise_append.1 (e2 ▸ hs)
    have hsrt : Srt (S1 ++ x :: S3) := by
      refine List.pairwise_append.2 ⟨hs3.1, List.pairwise_cons.2 ⟨fun y hy => ltS_le (e4 y hy), hs3.2.1⟩, fun a ha b hb => ?_⟩
      rcases List.mem_cons.1 hb with rfl | hb
      · exact e3 a ha
      · exact hs3.2.2 a ha b hb
    have hlen : (S1 ++ x :: S3).length = S.length + 1 := by rw [hperm.length_eq]; simp
    obtain ⟨Z, f1, f2, f3⟩ := insS0_loop (A := A) (B := B) hK X (S1 ++ x :: S3) k (by omega) (by omega) hsrt
    refine ⟨Z, ?_, ?_, f3⟩
    · rw [← f1, hlen, List.length_cons, show A.length + S.length + (X.length + 1) = A.length + (S.length + 1) + X.length by omega]
      congr 1
      simp
    · refine f2.trans ?_
      have := hperm.append_right X
      simpa using this

theorem insSort_is {K : Nat} {A X B : List Sp} (hK : 100000 ≤ K) (hl : A.length + X.length + B.length ≤ 80000) :
    ∃ Z, slices_insertionSortCmpFunc_rggcspansrowsorted1 K (A ++ (X ++ B)) (A.length : Int) ((A.length + X.length : Nat) : Int) = some (A ++ (Z ++ B)) ∧ Z.Perm X ∧ Srt Z := by
  unfold slices_insertionSortCmpFunc_rggcspansrowsorted1
  have hw : IntKind.wrap .i64 ((A.length : Int) + 1) = ((A.length + 1 : Nat) : Int) := by rw [w64 (by omega) (by omega)]; omega
  rw [hw]
  cases X with
  | nil =>
    obtain ⟨k, rfl⟩ : ∃ m, K = m + 1 := ⟨K - 1, by omega⟩
    rw [slices_insertionSortCmpFunc_rggcspansrowsorted1.l0, if_neg (by simp; omega)]
    exact ⟨[], by simp, List.Perm.refl _, List.Pairwise.nil⟩
  | cons x X =>
    rw [List.length_cons] at hl
    obtain ⟨Z, e1, e2, e3⟩ := insS0_loop (K := K) (A := A) (B := B) hK X [x] K (by omega) (by simp only [List.length_singleton]; omega) (List.pairwise_singleton _ _)
    refine ⟨Z, ?_, by simpa using e2, e3⟩
    rw [← e1]
    congr 1
    · simp only [List.length_cons, List.length_nil]; omega

theorem wu64 {n : Int} (h1 : 0 ≤ n) (h2 : n < 18446744073709551616) : IntKind.wrap .u64 n = n := by
  simp only [IntKind.wrap, IntKind.bits, IntKind.signed]
  simp
  omega

theorem half_is {i j : Nat} (h : i + j < 1000000) : IntKind.wrap .i64 (Int.fdiv (IntKind.wrap .u64 (IntKind.wrap .i64 ((i : Int) + (j : Int)))) 2) = (((i + j) / 2 : Nat) : Int) := by
  rw [w64 (n := (i : Int) + (j : Int)) (by omega) (by omega), wu64 (n := (i : Int) + (j : Int)) (by omega) (by omega), Int.fdiv_eq_ediv_of_nonneg _ (by decide), show ((i : Int) + (j : Int)) / 2 = (((i + j) / 2 : Nat) : Int) by omega, w64 (by omega) (by omega)]

/-- Two places change what they hold. -/
theorem swp_two {α : Type} {P R Q : List α} {x y d : α} {n m : Nat} (hn : n = P.length) (hm : m = P.length + 1 + R.length) :
    (P ++ x :: (R ++ y :: Q)).getD n d = x ∧ (P ++ x :: (R ++ y :: Q)).getD m d = y ∧ ((P ++ x :: (R ++ y :: Q)).set n y).set m x = P ++ y :: (R ++ x :: Q) ∧ ((P ++ x :: (R ++ y :: Q)).set m x).set n y = P ++ y :: (R ++ x :: Q) := by
  have e : ∀ (u v : α), P ++ u :: (R ++ v :: Q) = (P ++ u :: R) ++ v :: Q := fun u v => by simp
  have hl : m = (P ++ x :: R).length := by simp; omega
  have hl2 : m = (P ++ y :: R).length := by simp; omega
  refine ⟨get_mid hn, ?_, ?_, ?_⟩
  · rw [e, get_mid hl]
  · rw [set_mid hn, e, set_mid hl2, ← e]
  · rw [e, set_mid hl, ← e, set_mid hn]

theorem swap_loop {K n a b : Nat} : ∀ (X Y P M Q : List Sp) (i k : Nat), X.length = Y.length → X.length < k → i + X.length = n → a + i = P.length → b + i = P.length + X.length + M.length → P.length + X.length + M.length + Y.length + Q.length ≤ 100000 →
    slices_swapRangeCmpFunc_rgggcspansrowsorted1.l0 K (n : Int) (b : Int) (a : Int) k (P ++ (X ++ (M ++ (Y ++ Q)))) (i : Int) = some (P ++ (Y ++ (M ++ (X ++ Q))))
  | [], Y, P, M, Q, i, k, hxy, hk, hn, ha, hb, hl => by
    obtain ⟨k, rfl⟩ : ∃ m, k = m + 1 := ⟨k - 1, by omega⟩
    have : Y = [] := List.eq_nil_of_length_eq_zero hxy.symm
    subst this
    rw [slices_swapRangeCmpFunc_rgggcspansrowsorted1.l0, if_neg (by simp at hn ⊢; omega)]
  | x :: X, [], P, M, Q, i, k, hxy, hk, hn, ha, hb, hl => by simp at hxy
  | x :: X, y :: Y, P, M, Q, i, k, hxy, hk, hn, ha, hb, hl => by
    obtain ⟨k, rfl⟩ : ∃ m, k = m + 1 := ⟨k - 1, by omega⟩
    simp only [List.length_cons] at hxy hk hn hb hl
    have hwa : IntKind.wrap .i64 ((a : Int) + (i : Int)) = ((a + i : Nat) : Int) := by rw [w64 (by omega) (by omega)]; omega
    have hwb : IntKind.wrap .i64 ((b : Int) + (i : Int)) = ((b + i : Nat) : Int) := by rw [w64 (by omega) (by omega)]; omega
    have hwi : IntKind.wrap .i64 ((i : Int) + 1) = ((i + 1 : Nat) : Int) := by rw [w64 (by omega) (by omega)]; omega
    have eD : P ++ (x :: X ++ (M ++ (y :: Y ++ Q))) = P ++ x :: ((X ++ M) ++ y :: (Y ++ Q)) := by simp
    obtain ⟨g1, g2, g3, -⟩ := swp_two (P := P) (R := X ++ M) (Q := Y ++ Q) (x := x) (y := y) (d := sp0) (n := a + i) (m := b + i) ha (by simp; omega)
    have hDl : (P ++ x :: ((X ++ M) ++ y :: (Y ++ Q))).length = P.length + X.length + M.length + Y.length + Q.length + 2 := by simp; omega
    rw [eD, slices_swapRangeCmpFunc_rgggcspansrowsorted1.l0, if_pos (by simp; omega)]
    simp only [hwa, hwb, hwi, Int.toNat_natCast, g1, g2, eta3, List.length_set]
    rw [if_pos ⟨by omega, by omega, by omega, by omega, by omega⟩, g3]
    have := swap_loop (K := K) (n := n) (a := a) (b := b) X Y (P ++ [y]) (M ++ [x]) Q (i + 1) k (by omega) (by omega) (by omega) (by simp; omega) (by simp; omega) (by simp; omega)
    simp only [List.append_assoc, List.cons_append, List.nil_append] at this ⊢
    exact this

theorem swap_is {K : Nat} {X Y P M Q : List Sp} {n a b : Nat} (hK : 100000 < K) (hxy : X.length = Y.length) (hn : n = X.length) (ha : a = P.length) (hb : b = P.length + X.length + M.length) (hl : P.length + X.length + M.length + Y.length + Q.length ≤ 100000) :
    slices_swapRangeCmpFunc_rgggcspansrowsorted1 K (P ++ (X ++ (M ++ (Y ++ Q)))) (a : Int) (b : Int) (n : Int) = some (P ++ (Y ++ (M ++ (X ++ Q)))) := by
  unfold slices_swapRangeCmpFunc_rgggcspansrowsorted1
  exact swap_loop X Y P M Q 0 K hxy (by omega) (by omega) (by omega) (by omega) hl

theorem rot_loop {K m : Nat} (hK : 100000 < K) : ∀ (s k : Nat) (X Y P Q : List Sp), X.length + Y.length ≤ s → s < k → 0 < X.length → 0 < Y.length → P.length + X.length = m → P.length + X.length + Y.length + Q.length ≤ 100000 →
    ∃ P' X' Y' Q', slices_rotateCmpFunc_rgggcspansrowsorted1.l0 K (m : Int) k (P ++ (X ++ (Y ++ Q))) (X.length : Int) (Y.length : Int) = some (P' ++ (X' ++ (Y' ++ Q')), (X'.length : Int)) ∧ Y'.length = X'.length ∧ P'.length + X'.length = m ∧
      P'.length + X'.length + Y'.length + Q'.length ≤ 100000 ∧ P' ++ (Y' ++ (X' ++ Q')) = P ++ (Y ++ (X ++ Q))
  | 0, k, X, Y, P, Q, hs, hk, hx, hy, hm, hl => by omega
  | s + 1, k, X, Y, P, Q, hs, hk, hx, hy, hm, hl => by
    obtain ⟨k, rfl⟩ : ∃ m, k = m + 1 := ⟨k - 1, by omega⟩
    have hw1 : IntKind.wrap .i64 ((m : Int) - (X.length : Int)) = (P.length : Int) := by rw [w64 (by omega) (by omega)]; omega
    rw [slices_rotateCmpFunc_rgggcspansrowsorted1.l0]
    by_cases h : X.length = Y.length
    · rw [if_neg (by simp [h])]
      exact ⟨P, X, Y, Q, rfl, h.symm, hm, hl, rfl⟩
    · rw [if_pos (by simp; omega)]
      by_cases h2 : X.length > Y.length
      · have hs1 : (X.take Y.length).length = Y.length := by simp; omega
        have hs2 : (X.drop Y.length).length = X.length - Y.length := by simp
        have hsw := swap_is (K := K) (X := X.take Y.length) (Y := Y) (P := P) (M := X.drop Y.length) (Q := Q) (n := Y.length) (a := P.length) (b := m) hK (by omega) (by omega) rfl (by omega) (by omega)
        rw [← List.append_assoc (X.take Y.length) (X.drop Y.length), List.take_append_drop] at hsw
        have hw2 : IntKind.wrap .i64 ((X.length : Int) - (Y.length : Int)) = ((X.drop Y.length).length : Int) := by rw [w64 (by omega) (by omega)]; omega
        rw [if_pos (by simp; omega), hw1, hsw, Option.bind_some, hw2]
        obtain ⟨P', X', Y', Q', e1, e2, e3, e4, e5⟩ := rot_loop (K := K) (m := m) hK s k (X.drop Y.length) (X.take Y.length) (P ++ Y) Q (by omega) (by omega) (by omega) (by omega) (by simp only [List.length_append]; omega) (by simp only [List.length_append]; omega)
        refine ⟨P', X', Y', Q', ?_, e2, e3, e4, ?_⟩
        · rw [← e1, hs1]; simp
        · rw [e5, ← List.append_assoc (X.take Y.length) (X.drop Y.length) Q, List.take_append_drop, List.append_assoc]
      · have hs1 : (Y.take (Y.length - X.length)).length = Y.length - X.length := by simp
        have hs2 : (Y.drop (Y.length - X.length)).length = X.length := by simp; omega
        have hw2 : IntKind.wrap .i64 ((Y.length : Int) - (X.length : Int)) = ((Y.take (Y.length - X.length)).length : Int) := by rw [w64 (by omega) (by omega)]; omega
        have hw3 : IntKind.wrap .i64 (IntKind.wrap .i64 ((m : Int) + (Y.length : Int)) - (X.length : Int)) = ((m + (Y.length - X.length) : Nat) : Int) := by rw [w64 (n := (m : Int) + (Y.length : Int)) (by omega) (by omega), w64 (by omega) (by omega)]; omega
        have hsw := swap_is (K := K) (X := X) (Y := Y.drop (Y.length - X.length)) (P := P) (M := Y.take (Y.length - X.length)) (Q := Q) (n := X.length) (a := P.length) (b := m + (Y.length - X.length)) hK (by omega) rfl rfl (by omega) (by omega)
        rw [← List.append_assoc (Y.take (Y.length - X.length)) (Y.drop (Y.length - X.length)), List.take_append_drop] at hsw
        rw [if_neg (by simp; omega), hw1, hw3, hsw, Option.bind_some, hw2]
        obtain ⟨P', X', Y', Q', e1, e2, e3, e4, e5⟩ := rot_loop (K := K) (m := m) hK s k (Y.drop (Y.length - X.length)) (Y.take (Y.length - X.length)) P (X ++ Q) (by omega) (by omega) (by omega) (by omega) (by omega) (by simp only [List.length_append]; omega)
        refine ⟨P', X', Y', Q', ?_, e2, e3, e4, ?_⟩
        · rw [← e1, hs2]
        · rw [e5, ← List.append_assoc (Y.take _) (Y.drop _), List.take_append_drop]

theorem rot_is {K : Nat} {X Y P Q : List Sp} {a m b : Nat} (hK : 100000 < K) (hx : 0 < X.length) (hy : 0 < Y.length) (ha : a = P.length) (hm : m = P.length + X.length) (hb : b = P.length + X.length + Y.length) (hl : P.length + X.length + Y.length + Q.length ≤ 90000) :
    slices_rotateCmpFunc_rgggcspansrowsorted1 K (P ++ (X ++ (Y ++ Q))) (a : Int) (m : Int) (b : Int) = some (P ++ (Y ++ (X ++ Q))) := by
  subst ha hb
  unfold slices_rotateCmpFunc_rgggcspansrowsorted1
  have hw1 : IntKind.wrap .i64 ((m : Int) - ((P.length : Nat) : Int)) = (X.length : Int) := by rw [w64 (by omega) (by omega)]; omega
  have hw2 : IntKind.wrap .i64 (((P.length + X.length + Y.length : Nat) : Int) - (m : Int)) = (Y.length : Int) := by rw [w64 (by omega) (by omega)]; omega
  obtain ⟨P', X', Y', Q', e1, e2, e3, e4, e5⟩ := rot_loop (K := K) (m := m) hK (X.length + Y.length) K X Y P Q (by omega) (by omega) hx hy hm.symm (by omega)
  rw [hw1, hw2, e1, Option.bind_some]
  simp only
  have hw3 : IntKind.wrap .i64 ((m : Int) - (X'.length : Int)) = (P'.length : Int) := by rw [w64 (by omega) (by omega)]; omega
  have := swap_is (K := K) (X := X') (Y := Y') (P := P') (M := []) (Q := Q') (n := X'.length) (a := P'.length) (b := m) hK e2.symm rfl rfl (by simp; omega) (by simp; omega)
  rw [List.nil_append, List.nil_append] at this
  rw [hw3, this, Option.bind_some, e5]

/-- Searched by halves. -/
def bs (p : Nat → Bool) : Nat → Nat → Nat → Option Nat
  | 0, _, _ => none
  | k + 1, i, j => if i < j then (if p ((i + j) / 2) = true then bs p k ((i + j) / 2 + 1) j else bs p k i ((i + j) / 2)) else some i

theorem bs_is {p : Nat → Bool} : ∀ (k i j : Nat), j - i < k → i ≤ j → ∃ r, bs p k i j = some r ∧ i ≤ r ∧ r ≤ j ∧ (r = i ∨ p (r - 1) = true) ∧ (r = j ∨ p r = false)
  | 0, i, j, h, _ => by omega
  | k + 1, i, j, h, hij => by
    rw [bs]
    by_cases h1 : i < j
    · rw [if_pos h1]
      by_cases h2 : p ((i + j) / 2) = true
      · rw [if_pos h2]
        obtain ⟨r, e1, e2, e3, e4, e5⟩ := bs_is k ((i + j) / 2 + 1) j (by omega) (by omega)
        refine ⟨r, e1, by omega, e3, ?_, e5⟩
        rcases e4 with e4 | e4
        · right; rw [e4]; exact h2
        · right; exact e4
      · rw [if_neg h2]
        obtain ⟨r, e1, e2, e3, e4, e5⟩ := bs_is k i ((i + j) / 2) (by omega) (by omega)
        refine ⟨r, e1, e2, by omega, e4, ?_⟩
        rcases e5 with e5 | e5
        · right; rw [e5]; simpa using h2
        · right; exact e5
    · rw [if_neg h1]
      exact ⟨i, rfl, Nat.le_refl _, hij, .inl rfl, .inl (by omega)⟩

theorem cmp3 {K : Nat} {a b : Sp} {R : Type} {F : Int → Option R} {G : Bool → Option R} (h : ∀ c, F c = G (decide (c < 0))) : (spans_row_sorted_1 K a.1 a.2.1 a.2.2 b.1 b.2.1 b.2.2).bind F = G (ltS a b) := by
  obtain ⟨c, e1, e2⟩ := cmpS_is (K := K) (a := a) (b := b)
  rw [e1, Option.bind_some, h, e2]

theorem sym0_is {K a : Nat} {D : List Sp} (ha : a < D.length) (hD : D.length ≤ 100000) : ∀ (k i j : Nat), i ≤ j → j ≤ D.length → slices_symMergeCmpFunc_rgggcspansrowsorted1.l0 K D (a : Int) k (i : Int) (j : Int) = (bs (fun h => ltS (D.getD h sp0) (D.getD a sp0)) k i j).map (fun n : Nat => (n : Int))
  | 0, i, j, hij, hj => rfl
  | k + 1, i, j, hij, hj => by
    rw [slices_symMergeCmpFunc_rgggcspansrowsorted1.l0, bs]
    by_cases h : i < j
    · have hw : IntKind.wrap .i64 ((((i + j) / 2 : Nat) : Int) + 1) = (((i + j) / 2 + 1 : Nat) : Int) := by rw [w64 (by omega) (by omega)]; omega
      rw [if_pos (by simp; omega), if_pos h]
      simp only [half_is (i := i) (j := j) (by omega), Int.toNat_natCast, hw]
      rw [cmp3 (G := fun b => if b = true then slices_symMergeCmpFunc_rgggcspansrowsorted1.l0 K D (a : Int) k (((i + j) / 2 + 1 : Nat) : Int) (j : Int) else slices_symMergeCmpFunc_rgggcspansrowsorted1.l0 K D (a : Int) k (i : Int) (((i + j) / 2 : Nat) : Int)) (fun c => by rw [if_pos ⟨by omega, by omega, by omega, by omega⟩])]
      rw [sym0_is ha hD k _ _ (by omega) hj, sym0_is ha hD k _ _ (by omega) (by omega)]
      split <;> rfl
    · rw [if_neg (by simp; omega), if_neg h]; rfl

theorem sym2_is {K m : Nat} {D : List Sp} (hm : m < D.length) (hD : D.length ≤ 100000) : ∀ (k i j : Nat), i ≤ j → j ≤ D.length → slices_symMergeCmpFunc_rgggcspansrowsorted1.l2 K D (m : Int) k (i : Int) (j : Int) = (bs (fun h => !ltS (D.getD m sp0) (D.getD h sp0)) k i j).map (fun n : Nat => (n : Int))
  | 0, i, j, hij, hj => rfl
  | k + 1, i, j, hij, hj => by
    rw [slices_symMergeCmpFunc_rgggcspansrowsorted1.l2, bs]
    by_cases h : i < j
    · have hw : IntKind.wrap .i64 ((((i + j) / 2 : Nat) : Int) + 1) = (((i + j) / 2 + 1 : Nat) : Int) := by rw [w64 (by omega) (by omega)]; omega
      rw [if_pos (by simp; omega), if_pos h]
      simp only [half_is (i := i) (j := j) (by omega), Int.toNat_natCast, hw]
      rw [cmp3 (G := fun b => if (!b) = true then slices_symMergeCmpFunc_rgggcspansrowsorted1.l2 K D (m : Int) k (((i + j) / 2 + 1 : Nat) : Int) (j : Int) else slices_symMergeCmpFunc_rgggcspansrowsorted1.l2 K D (m : Int) k (i : Int) (((i + j) / 2 : Nat) : Int)) (fun c => by rw [if_pos ⟨by omega, by omega, by omega, by omega⟩])]
      rw [sym2_is hm hD k _ _ (by omega) hj, sym2_is hm hD k _ _ (by omega) (by omega)]
      split <;> rfl
    · rw [if_neg (by simp; omega), if_neg h]; rfl

theorem sym4_is {K a b m : Nat} {D : List Sp} (hab : a + b < 1000000) (hm : m ≤ 1000000) (hD : D.length ≤ 100000) : ∀ (k i j : Nat), i ≤ j → j ≤ D.length → (∀ c, i ≤ c → c < j → c + 1 ≤ (a + b) / 2 + m ∧ (a + b) / 2 + m - 1 - c < D.length) →
    slices_symMergeCmpFunc_rgggcspansrowsorted1.l4 K D (a : Int) (b : Int) (m : Int) k (i : Int) (j : Int) = (bs (fun h => !ltS (D.getD ((a + b) / 2 + m - 1 - h) sp0) (D.getD h sp0)) k i j).map (fun n : Nat => (n : Int))
  | 0, i, j, hij, hj, hc => rfl
  | k + 1, i, j, hij, hj, hc => by
    rw [slices_symMergeCmpFunc_rgggcspansrowsorted1.l4, bs]
    by_cases h : i < j
    · have hw : IntKind.wrap .i64 ((((i + j) / 2 : Nat) : Int) + 1) = (((i + j) / 2 + 1 : Nat) : Int) := by rw [w64 (by omega) (by omega)]; omega
      have hc1 := hc ((i + j) / 2) (by omega) (by omega)
      have hw2 : IntKind.wrap .i64 (IntKind.wrap .i64 (IntKind.wrap .i64 ((((a + b) / 2 : Nat) : Int) + (m : Int)) - 1) - (((i + j) / 2 : Nat) : Int)) = (((a + b) / 2 + m - 1 - (i + j) / 2 : Nat) : Int) := by
        rw [w64 (n := (((a + b) / 2 : Nat) : Int) + (m : Int)) (by omega) (by omega), w64 (n := (((a + b) / 2 : Nat) : Int) + (m : Int) - 1) (by omega) (by omega), w64 (by omega) (by omega)]
        omega
      rw [if_pos (by simp; omega), if_pos h]
      simp only [half_is (i := i) (j := j) (by omega), half_is (i := a) (j := b) hab, Int.toNat_natCast, hw, hw2]
      rw [cmp3 (G := fun q => if (!q) = true then slices_symMergeCmpFunc_rgggcspansrowsorted1.l4 K D (a : Int) (b : Int) (m : Int) k (((i + j) / 2 + 1 : Nat) : Int) (j : Int) else slices_symMergeCmpFunc_rgggcspansrowsorted1.l4 K D (a : Int) (b : Int) (m : Int) k (i : Int) (((i + j) / 2 : Nat) : Int)) (fun c => by rw [if_pos ⟨by omega, by omega, by omega, by omega⟩])]
      rw [sym4_is hab hm hD k _ _ (by omega) hj (fun c h1 h2 => hc c (by omega) h2), sym4_is hab hm hD k _ _ (by omega) (by omega) (fun c h1 h2 => hc c h1 (by omega))]
      split <;> rfl
    · rw [if_neg (by simp; omega), if_neg h]; rfl

theorem sym1_is {K i : Nat} {x : Sp} : ∀ (B P R : List Sp) (k : Nat), B.length < k → i = P.length + 1 + B.length → P.length + B.length + R.length ≤ 90000 →
    slices_symMergeCmpFunc_rgggcspansrowsorted1.l1 K (i : Int) k (P ++ x :: (B ++ R)) (P.length : Int) = some (P ++ (B ++ x :: R))
  | [], P, R, k, hk, hi, hl => by
    obtain ⟨k, rfl⟩ : ∃ m, k = m + 1 := ⟨k - 1, by omega⟩
    have hw : IntKind.wrap .i64 ((i : Int) - 1) = (P.length : Int) := by simp at hi; rw [w64 (by omega) (by omega)]; omega
    rw [slices_symMergeCmpFunc_rgggcspansrowsorted1.l1, hw, if_neg (by simp)]
    rfl
  | y :: B, P, R, k, hk, hi, hl => by
    obtain ⟨k, rfl⟩ : ∃ m, k = m + 1 := ⟨k - 1, by omega⟩
    simp only [List.length_cons] at hk hi hl
    have hw : IntKind.wrap .i64 ((i : Int) - 1) = ((P.length + 1 + B.length : Nat) : Int) := by rw [w64 (by omega) (by omega)]; omega
    have hw2 : IntKind.wrap .i64 ((P.length : Int) + 1) = ((P.length + 1 : Nat) : Int) := by rw [w64 (by omega) (by omega)]; omega
    obtain ⟨g1, g2, g3, -⟩ := swp_two (P := P) (R := []) (Q := B ++ R) (x := x) (y := y) (d := sp0) (n := P.length) (m := P.length + 1) rfl (by simp)
    simp only [List.nil_append] at g1 g2 g3
    have hDl : (P ++ x :: y :: (B ++ R)).length = P.length + B.length + R.length + 2 := by simp; omega
    rw [List.cons_append, slices_symMergeCmpFunc_rgggcspansrowsorted1.l1, hw, if_pos (by simp; omega)]
    simp only [hw2, Int.toNat_natCast, g1, g2, eta3, List.length_set]
    rw [if_pos ⟨by omega, by omega, by omega, by omega, by omega⟩, g3]
    have := sym1_is (K := K) (i := i) (x := x) B (P ++ [y]) R k (by omega) (by simp; omega) (by simp; omega)
    simp only [List.append_assoc, List.cons_append, List.nil_append, List.length_append, List.length_singleton] at this ⊢
    exact this

theorem sym3_is {K i : Nat} {x : Sp} {P : List Sp} (hi : i = P.length) : ∀ (n : Nat) (A R : List Sp) (k : Nat), A.length = n → n < k → P.length + A.length + R.length ≤ 90000 →
    slices_symMergeCmpFunc_rgggcspansrowsorted1.l3 K (i : Int) k (P ++ (A ++ x :: R)) ((P.length + A.length : Nat) : Int) = some (P ++ x :: (A ++ R))
  | 0, A, R, k, hn, hk, hl => by
    obtain ⟨k, rfl⟩ : ∃ m, k = m + 1 := ⟨k - 1, by omega⟩
    have : A = [] := List.eq_nil_of_length_eq_zero hn
    subst this
    rw [slices_symMergeCmpFunc_rgggcspansrowsorted1.l3, if_neg (by simp; omega)]
    rfl
  | n + 1, A, R, k, hn, hk, hl => by
    obtain ⟨k, rfl⟩ : ∃ m, k = m + 1 := ⟨k - 1, by omega⟩
    obtain ⟨A', y, rfl⟩ := split_last (l := A) (by intro e; rw [e] at hn; simp at hn)
    rw [List.length_append, List.length_singleton] at hn hl
    have hw2 : IntKind.wrap .i64 (((P.length + (A'.length + 1) : Nat) : Int) - 1) = ((P.length + A'.length : Nat) : Int) := by rw [w64 (by omega) (by omega)]; omega
    have eD : P ++ ((A' ++ [y]) ++ x :: R) = (P ++ A') ++ y :: x :: R := by simp
    obtain ⟨g1, g2, -, g3⟩ := swp_two (P := P ++ A') (R := []) (Q := R) (x := y) (y := x) (d := sp0) (n := P.length + A'.length) (m := P.length + (A'.length + 1)) (by simp) (by simp; omega)
    simp only [List.nil_append] at g1 g2 g3
    have hDl : ((P ++ A') ++ y :: x :: R).length = P.length + A'.length + R.length + 2 := by simp; omega
    rw [List.length_append, List.length_singleton, eD, slices_symMergeCmpFunc_rgggcspansrowsorted1.l3, if_pos (by simp; omega)]
    simp only [hw2, Int.toNat_natCast, g1, g2, eta3, List.length_set]
    rw [if_pos ⟨by omega, by omega, by omega, by omega, by omega⟩, g3]
    have := sym3_is (K := K) (i := i) (x := x) (P := P) hi n A' (y :: R) k (by omega) (by omega) (by simp; omega)
    simp only [List.append_assoc, List.cons_append, List.nil_append] at this ⊢
    exact this

theorem getD_app2 {α : Type} {P A R : List α} {d : α} {n i : Nat} (h1 : n = P.length + i) (h2 : i < A.length) : (P ++ (A ++ R)).getD n d = A.getD i d := by
  subst h1
  rw [List.getD_eq_getElem?_getD, List.getElem?_append_right (by omega), show P.length + i - P.length = i by omega, List.getElem?_append_left h2, ← List.getD_eq_getElem?_getD]

theorem srt_get {l : List Sp} (h : Srt l) {i j : Nat} (hij : i < j) (hj : j < l.length) : leS (l.getD i sp0) (l.getD j sp0) := by
  have := List.pairwise_iff_getElem.1 h i j (by omega) hj hij
  simpa [List.getD, List.getElem?_eq_getElem hj, List.getElem?_eq_getElem (show i < l.length by omega)] using this

theorem leS_refl (a : Sp) : leS a a := by unfold leS ltS; simp

theorem mem_take_get {l : List Sp} {n : Nat} {x : Sp} (h : x ∈ l.take n) : ∃ i, i < n ∧ i < l.length ∧ l.getD i sp0 = x := by
  obtain ⟨i, hi, rfl⟩ := List.mem_iff_getElem.1 h
  rw [List.length_take] at hi
  exact ⟨i, by omega, by omega, by rw [List.getElem_take]; simp [List.getD, List.getElem?_eq_getElem (show i < l.length by omega)]⟩

theorem mem_drop_get {l : List Sp} {n : Nat} {x : Sp} (h : x ∈ l.drop n) : ∃ i, n ≤ i ∧ i < l.length ∧ l.getD i sp0 = x := by
  obtain ⟨i, hi, rfl⟩ := List.mem_iff_getElem.1 h
  rw [List.length_drop] at hi
  exact ⟨n + i, by omega, by omega, by rw [List.getElem_drop]; simp [List.getD, List.getElem?_eq_getElem (show n + i < l.length by omega)]⟩

theorem srt_take {l : List Sp} (h : Srt l) (n : Nat) : Srt (l.take n) := h.sublist (List.take_sublist _ _)

theorem srt_drop {l : List Sp} (h : Srt l) (n : Nat) : Srt (l.drop n) := h.sublist (List.drop_sublist _ _)

theorem ltS_leS {a b c : Sp} (h1 : ltS a b = true) (h2 : leS b c) : ltS a c = true := by
  unfold leS ltS at *
  rw [decide_eq_false_iff_not] at h2
  rw [decide_eq_true_eq] at h1 ⊢
  omega

theorem leS_ltS {a b c : Sp} (h1 : leS a b) (h2 : ltS b c = true) : ltS a c = true := by
  unfold leS ltS at *
  rw [decide_eq_false_iff_not] at h1
  rw [decide_eq_true_eq] at h2 ⊢
  omega

theorem perm_ins {α : Type} {x : α} {A B : List α} : (A ++ x :: B).Perm (x :: (A ++ B)) := List.perm_middle

theorem srt_ins {x : Sp} {A B : List Sp} (h : Srt (A ++ B)) (h1 : ∀ y ∈ A, leS y x) (h2 : ∀ y ∈ B, leS x y) : Srt (A ++ x :: B) := by
  have h' := List.pairwise_append.1 h
  refine List.pairwise_append.2 ⟨h'.1, List.pairwise_cons.2 ⟨h2, h'.2.1⟩, fun a ha b hb => ?_⟩
  rcases List.mem_cons.1 hb with rfl | hb
  · exact h1 a ha
  · exact h'.2.2 a ha b hb

/-- One ahead of a sorted part. -/
theorem one_ahead {K k : Nat} {x : Sp} {B P Q : List Sp} (hK : 100000 < K) (hB : 0 < B.length) (hl : P.length + 1 + B.length + Q.length ≤ 80000) (hs : Srt B) :
    ∃ Z, slices_symMergeCmpFunc_rgggcspansrowsorted1.f K (k + 1) (P ++ (([x] : List Sp) ++ (B ++ Q))) (P.length : Int) ((P.length + 1 : Nat) : Int) ((P.length + 1 + B.length : Nat) : Int) = some (P ++ (Z ++ Q)) ∧ Z.Perm ([x] ++ B) ∧ Srt Z := by
  have hw : IntKind.wrap .i64 (((P.length + 1 : Nat) : Int) - ((P.length : Nat) : Int)) = 1 := by rw [w64 (by omega) (by omega)]; omega
  have hDl : (P ++ (([x] : List Sp) ++ (B ++ Q))).length = P.length + 1 + B.length + Q.length := by simp; omega
  rw [slices_symMergeCmpFunc_rgggcspansrowsorted1.f, hw, if_pos (by simp), sym0_is (by omega) (by omega) K (P.length + 1) (P.length + 1 + B.length) (by omega) (by omega)]
  obtain ⟨r, e1, e2, e3, e4, e5⟩ := bs_is (p := fun h => ltS ((P ++ (([x] : List Sp) ++ (B ++ Q))).getD h sp0) ((P ++ (([x] : List Sp) ++ (B ++ Q))).getD P.length sp0)) K (P.length + 1) (P.length + 1 + B.length) (by omega) (by omega)
  have gx : (P ++ (([x] : List Sp) ++ (B ++ Q))).getD P.length sp0 = x := get_mid rfl
  have gb : ∀ i, i < B.length → (P ++ (([x] : List Sp) ++ (B ++ Q))).getD (P.length + 1 + i) sp0 = B.getD i sp0 := fun i hi => by
    have : P ++ (([x] : List Sp) ++ (B ++ Q)) = (P ++ [x]) ++ (B ++ Q) := by simp
    rw [this]; exact getD_app2 (by simp) hi
  rw [e1, Option.map_some, Option.bind_some]
  have h1 : ∀ y ∈ B.take (r - (P.length + 1)), leS y x := by
    intro y hy
    obtain ⟨i, i1, i2, rfl⟩ := mem_take_get hy
    rcases e4 with e4 | e4
    · omega
    · simp only [gx] at e4
      rw [show r - 1 = P.length + 1 + (r - (P.length + 1) - 1) by omega, gb _ (by omega)] at e4
      refine ltS_le ?_
      rcases Nat.lt_or_ge i (r - (P.length + 1) - 1) with h | h
      · exact leS_ltS (srt_get hs h (by omega)) e4
      · rw [show i = r - (P.length + 1) - 1 by omega]; exact e4
  have h2 : ∀ y ∈ B.drop (r - (P.length + 1)), leS x y := by
    intro y hy
    obtain ⟨i, i1, i2, rfl⟩ := mem_drop_get hy
    rcases e5 with e5 | e5
    · omega
    · simp only [gx] at e5
      rw [show r = P.length + 1 + (r - (P.length + 1)) by omega, gb _ (by omega)] at e5
      rcases Nat.lt_or_ge (r - (P.length + 1)) i with h | h
      · exact leS_trans e5 (srt_get hs h (by omega))
      · rw [show i = r - (P.length + 1) by omega]; exact e5
  refine ⟨B.take (r - (P.length + 1)) ++ x :: B.drop (r - (P.length + 1)), ?_, ?_, srt_ins (by rw [List.take_append_drop]; exact hs) h1 h2⟩
  · have hm := sym1_is (K := K) (i := r) (x := x) (B.take (r - (P.length + 1))) P (B.drop (r - (P.length + 1)) ++ Q) K (by rw [List.length_take]; omega) (by rw [List.length_take]; omega) (by simp only [List.length_append, List.length_take, List.length_drop]; omega)
    rw [← List.append_assoc (B.take _) (B.drop _) Q, List.take_append_drop] at hm
    rw [List.cons_append, List.nil_append, hm]
    simp
  · refine perm_ins.trans ?_
    rw [List.take_append_drop]; exact List.Perm.refl _

/-- One behind a sorted part. -/
theorem one_behind {K k : Nat} {x : Sp} {A P Q : List Sp} (hK : 100000 < K) (hA : 1 < A.length) (hl : P.length + A.length + 1 + Q.length ≤ 80000) (hs : Srt A) :
    ∃ Z, slices_symMergeCmpFunc_rgggcspansrowsorted1.f K (k + 1) (P ++ (A ++ (([x] : List Sp) ++ Q))) (P.length : Int) ((P.length + A.length : Nat) : Int) ((P.length + A.length + 1 : Nat) : Int) = some (P ++ (Z ++ Q)) ∧ Z.Perm (A ++ [x]) ∧ Srt Z := by
  have hw : IntKind.wrap .i64 (((P.length + A.length : Nat) : Int) - ((P.length : Nat) : Int)) = (A.length : Int) := by rw [w64 (by omega) (by omega)]; omega
  have hw2 : IntKind.wrap .i64 (((P.length + A.length + 1 : Nat) : Int) - ((P.length + A.length : Nat) : Int)) = 1 := by rw [w64 (by omega) (by omega)]; omega
  have hDl : (P ++ (A ++ (([x] : List Sp) ++ Q))).length = P.length + A.length + 1 + Q.length := by simp; omega
  rw [slices_symMergeCmpFunc_rgggcspansrowsorted1.f, hw, if_neg (by simp; omega), hw2, if_pos (by simp), sym2_is (by omega) (by omega) K P.length (P.length + A.length) (by omega) (by omega)]
  obtain ⟨r, e1, e2, e3, e4, e5⟩ := bs_is (p := fun h => !ltS ((P ++ (A ++ (([x] : List Sp) ++ Q))).getD (P.length + A.length) sp0) ((P ++ (A ++ (([x] : List Sp) ++ Q))).getD h sp0)) K P.length (P.length + A.length) (by omega) (by omega)
  have gx : (P ++ (A ++ (([x] : List Sp) ++ Q))).getD (P.length + A.length) sp0 = x := by
    rw [← List.append_assoc]; exact get_mid (by simp)
  have ga : ∀ i, i < A.length → (P ++ (A ++ (([x] : List Sp) ++ Q))).getD (P.length + i) sp0 = A.getD i sp0 := fun i hi => getD_app2 rfl hi
  rw [e1, Option.map_some, Option.bind_some]
  have h1 : ∀ y ∈ A.take (r - P.length), leS y x := by
    intro y hy
    obtain ⟨i, i1, i2, rfl⟩ := mem_take_get hy
    rcases e4 with e4 | e4
    · omega
    · simp only [gx] at e4
      rw [show r - 1 = P.length + (r - P.length - 1) by omega, ga _ (by omega), Bool.not_eq_true'] at e4
      rcases Nat.lt_or_ge i (r - P.length - 1) with h | h
      · exact leS_trans (srt_get hs h (by omega)) e4
      · rw [show i = r - P.length - 1 by omega]; exact e4
  have h2 : ∀ y ∈ A.drop (r - P.length), leS x y := by
    intro y hy
    obtain ⟨i, i1, i2, rfl⟩ := mem_drop_get hy
    rcases e5 with e5 | e5
    · omega
    · simp only [gx] at e5
      rw [show r = P.length + (r - P.length) by omega, ga _ (by omega), Bool.not_eq_false'] at e5
      refine ltS_le ?_
      rcases Nat.lt_or_ge (r - P.length) i with h | h
      · exact ltS_leS e5 (srt_get hs h (by omega))
      · rw [show i = r - P.length by omega]; exact e5
  refine ⟨A.take (r - P.length) ++ x :: A.drop (r - P.length), ?_, ?_, srt_ins (by rw [List.take_append_drop]; exact hs) h1 h2⟩
  · have hm := sym3_is (K := K) (i := r) (x := x) (P := P ++ A.take (r - P.length)) (by simp only [List.length_append, List.length_take]; omega) _ (A.drop (r - P.length)) Q K rfl (by rw [List.length_drop]; omega) (by simp only [List.length_append, List.length_take, List.length_drop]; omega)
    rw [show (P ++ A.take (r - P.length)).length + (A.drop (r - P.length)).length = P.length + A.length by simp only [List.length_append, List.length_take, List.length_drop]; omega] at hm
    simp only [List.append_assoc] at hm
    rw [← List.append_assoc (A.take _) (A.drop _) (x :: Q), List.take_append_drop] at hm
    rw [List.cons_append, List.nil_append, hm]
    simp
  · refine perm_ins.trans ?_
    rw [List.take_append_drop]
    exact (List.perm_append_singleton x A).symm

theorem srt_app {A B : List Sp} (h1 : Srt A) (h2 : Srt B) (h : ∀ x ∈ A, ∀ y ∈ B, leS x y) : Srt (A ++ B) := List.pairwise_append.2 ⟨h1, h2, h⟩

/-- Where two sorted parts are parted, so that what is less comes ahead. -/
theorem sym_search {K mid : Nat} (hK : 100000 < K) {A B P Q : List Sp} (hmid : mid = (P.length + (P.length + A.length + B.length)) / 2) (hA : 0 < A.length) (hB : 0 < B.length) (hl : P.length + A.length + B.length + Q.length ≤ 80000) (sA : Srt A) (sB : Srt B) :
    ∃ lo hi r : Nat, (if (decide (((P.length + A.length : Nat) : Int) > (mid : Int))) = true then some (IntKind.wrap .i64 (((mid + (P.length + A.length) : Nat) : Int) - ((P.length + A.length + B.length : Nat) : Int)), (mid : Int)) else some ((P.length : Int), ((P.length + A.length : Nat) : Int))) = some ((lo : Int), (hi : Int)) ∧
      slices_symMergeCmpFunc_rgggcspansrowsorted1.l4 K (P ++ (A ++ (B ++ Q))) (P.length : Int) ((P.length + A.length + B.length : Nat) : Int) ((P.length + A.length : Nat) : Int) K (lo : Int) (hi : Int) = some (r : Int) ∧
      P.length ≤ r ∧ r ≤ P.length + A.length ∧ r ≤ mid ∧ mid + (P.length + A.length) ≤ r + (P.length + A.length + B.length) ∧
      (∀ x ∈ A.take (r - P.length), ∀ y ∈ B.drop (mid - r), leS x y) ∧ (∀ y ∈ B.take (mid - r), ∀ x ∈ A.drop (r - P.length), leS y x) := by
  have hDl : (P ++ (A ++ (B ++ Q))).length = P.length + A.length + B.length + Q.length := by simp; omega
  obtain ⟨lo, hi, hlh, hlo1, hhi1, hlo2, hhi2, hlo3, hhi3⟩ : ∃ lo hi : Nat, (if (decide (((P.length + A.length : Nat) : Int) > (mid : Int))) = true then some (IntKind.wrap .i64 (((mid + (P.length + A.length) : Nat) : Int) - ((P.length + A.length + B.length : Nat) : Int)), (mid : Int)) else some ((P.length : Int), ((P.length + A.length : Nat) : Int))) = some ((lo : Int), (hi : Int)) ∧
      P.length ≤ lo ∧ hi ≤ P.length + A.length ∧ mid + (P.length + A.length) ≤ lo + (P.length + A.length + B.length) ∧ hi ≤ mid ∧ (lo = P.length ∨ mid + (P.length + A.length) = lo + (P.length + A.length + B.length)) ∧ (hi = P.length + A.length ∨ hi = mid) := by
    by_cases h : P.length + A.length > mid
    · rw [if_pos (by simp; omega)]
      refine ⟨mid + (P.length + A.length) - (P.length + A.length + B.length), mid, ?_, by omega, by omega, by omega, by omega, .inr (by omega), .inr rfl⟩
      rw [w64 (by omega) (by omega)]
      congr 2; omega
    · rw [if_neg (by simp; omega)]
      exact ⟨P.length, P.length + A.length, rfl, by omega, by omega, by omega, by omega, .inl rfl, .inl rfl⟩
  have hlehi : lo ≤ hi := by omega
  have e0 := sym4_is (K := K) (a := P.length) (b := P.length + A.length + B.length) (m := P.length + A.length) (D := P ++ (A ++ (B ++ Q))) (by omega) (by omega) (by omega) K lo hi hlehi (by omega) (fun c h1 h2 => by omega)
  obtain ⟨r, e1, e2, e3, e4, e5⟩ := bs_is (p := fun h => !ltS ((P ++ (A ++ (B ++ Q))).getD ((P.length + (P.length + A.length + B.length)) / 2 + (P.length + A.length) - 1 - h) sp0) ((P ++ (A ++ (B ++ Q))).getD h sp0)) K lo hi (by omega) hlehi
  rw [e1, Option.map_some] at e0
  rw [← hmid] at e4 e5
  have ga : ∀ i, i < A.length → (P ++ (A ++ (B ++ Q))).getD (P.length + i) sp0 = A.getD i sp0 := fun i hi => getD_app2 rfl hi
  have gb : ∀ i, i < B.length → (P ++ (A ++ (B ++ Q))).getD (P.length + A.length + i) sp0 = B.getD i sp0 := fun i hi => by
    rw [← List.append_assoc]; exact getD_app2 (by simp) hi
  refine ⟨lo, hi, r, hlh, e0, by omega, by omega, by omega, by omega, ?_, ?_⟩
  · intro x hx y hy
    obtain ⟨i, i1, i2, rfl⟩ := mem_take_get hx
    obtain ⟨j, j1, j2, rfl⟩ := mem_drop_get hy
    rcases e4 with e4 | e4
    · omega
    · rw [show mid + (P.length + A.length) - 1 - (r - 1) = P.length + A.length + (mid - r) by omega, gb (mid - r) (by omega), show r - 1 = P.length + (r - P.length - 1) by omega, ga _ (by omega), Bool.not_eq_true'] at e4
      have h1 : leS (A.getD i sp0) (A.getD (r - P.length - 1) sp0) := by
        rcases Nat.lt_or_ge i (r - P.length - 1) with h | h
        · exact srt_get sA h (by omega)
        · rw [show i = r - P.length - 1 by omega]; exact leS_refl _
      have h2 : leS (B.getD (mid - r) sp0) (B.getD j sp0) := by
        rcases Nat.lt_or_ge (mid - r) j with h | h
        · exact srt_get sB h (by omega)
        · rw [show j = mid - r by omega]; exact leS_refl _
      exact leS_trans h1 (leS_trans e4 h2)
  · intro y hy x hx
    obtain ⟨i, i1, i2, rfl⟩ := mem_drop_get hx
    obtain ⟨j, j1, j2, rfl⟩ := mem_take_get hy
    rcases e5 with e5 | e5
    · omega
    · rw [show mid + (P.length + A.length) - 1 - r = P.length + A.length + (mid - r - 1) by omega, gb (mid - r - 1) (by omega), show r = P.length + (r - P.length) by omega, ga _ (by omega), Bool.not_eq_false'] at e5
      have h1 : leS (A.getD (r - P.length) sp0) (A.getD i sp0) := by
        rcases Nat.lt_or_ge (r - P.length) i with h | h
        · exact srt_get sA h (by omega)
        · rw [show i = r - P.length by omega]; exact leS_refl _
      have h2 : leS (B.getD j sp0) (B.getD (mid - r - 1) sp0) := by
        rcases Nat.lt_or_ge j (mid - r - 1) with h | h
        · exact srt_get sB h (by omega)
        · rw [show j = mid - r - 1 by omega]; exact leS_refl _
      refine leS_trans h2 (leS_trans (ltS_le ?_) h1)
      rw [show P.length + (r - P.length) = r by omega] at e5
      exact e5

theorem if_both {p q : Prop} [Decidable p] [Decidable q] : (if (decide p) = true then some (decide q) else some false) = some (decide (p ∧ q)) := by
  by_cases h : p
  · rw [if_pos (by simpa using h)]; simp [h]
  · rw [if_neg (by simpa using h)]; simp [h]

/-- The part between is turned. -/
theorem sym_turn {K : Nat} (hK : 100000 < K) {P A B Q : List Sp} {a m b : Nat} (ha : a = P.length) (hm : m = P.length + A.length) (hb : b = P.length + A.length + B.length) (hl : P.length + A.length + B.length + Q.length ≤ 90000) {D : List Sp} (hD : D = P ++ (A ++ (B ++ Q))) :
    ((if (decide ((a : Int) < (m : Int))) = true then some (decide ((m : Int) < (b : Int))) else some false).bind fun z => if z = true then (slices_rotateCmpFunc_rgggcspansrowsorted1 K D (a : Int) (m : Int) (b : Int)).bind (fun r_96 => some r_96) else some D) = some (P ++ (B ++ (A ++ Q))) := by
  subst hD
  rw [if_both, Option.bind_some]
  by_cases h : 0 < A.length ∧ 0 < B.length
  · rw [if_pos (by rw [decide_eq_true_eq]; omega), rot_is hK h.1 h.2 ha hm hb hl, Option.bind_some]
  · rw [if_neg (by rw [decide_eq_true_eq]; omega)]
    have : A = [] ∨ B = [] := by
      rcases Nat.eq_zero_or_pos A.length with h' | h'
      · exact .inl (List.eq_nil_of_length_eq_zero h')
      · exact .inr (List.eq_nil_of_length_eq_zero (by omega))
    rcases this with h' | h' <;> subst h' <;> simp

def MergesAt (K k : Nat) : Prop := ∀ (A B P Q : List Sp), 0 < A.length → 0 < B.length → A.length + B.length < k → P.length + A.length + B.length + Q.length ≤ 80000 → Srt A → Srt B →
    ∃ Z, slices_symMergeCmpFunc_rgggcspansrowsorted1.f K k (P ++ (A ++ (B ++ Q))) (P.length : Int) ((P.length + A.length : Nat) : Int) ((P.length + A.length + B.length : Nat) : Int) = some (P ++ (Z ++ Q)) ∧ Z.Perm (A ++ B) ∧ Srt Z

/-- A part is merged, if there is something to be. -/
theorem sym_part {K k : Nat} (ih : MergesAt K k) {P A B Q : List Sp} {a m b : Nat} (ha : a = P.length) (hm : m = P.length + A.length) (hb : b = P.length + A.length + B.length) (hk : A.length + B.length < k) (hl : P.length + A.length + B.length + Q.length ≤ 80000) (sA : Srt A) (sB : Srt B) {D : List Sp} (hD : D = P ++ (A ++ (B ++ Q))) :
    ∃ Z, ((if (decide ((a : Int) < (m : Int))) = true then some (decide ((m : Int) < (b : Int))) else some false).bind fun z => if z = true then (slices_symMergeCmpFunc_rgggcspansrowsorted1.f K k D (a : Int) (m : Int) (b : Int)).bind (fun r => some r) else some D) = some (P ++ (Z ++ Q)) ∧ Z.Perm (A ++ B) ∧ Srt Z := by
  subst hD
  rw [if_both, Option.bind_some]
  by_cases h : 0 < A.length ∧ 0 < B.length
  · obtain ⟨Z, z1, z2, z3⟩ := ih A B P Q h.1 h.2 hk hl sA sB
    rw [if_pos (by rw [decide_eq_true_eq]; omega), ha, hm, hb, z1, Option.bind_some]
    exact ⟨Z, rfl, z2, z3⟩
  · rw [if_neg (by rw [decide_eq_true_eq]; omega)]
    have : A = [] ∨ B = [] := by
      rcases Nat.eq_zero_or_pos A.length with h' | h'
      · exact .inl (List.eq_nil_of_length_eq_zero h')
      · exact .inr (List.eq_nil_of_length_eq_zero (by omega))
    refine ⟨A ++ B, by simp, List.Perm.refl _, ?_⟩
    rcases this with h' | h' <;> subst h'
    · exact sB
    · rw [List.append_nil]; exact sA

theorem bind_asc {α β γ : Type} (c : Option α) (F : α → Option β) (G : β → Option γ) : (c.bind fun z => (F z).bind G) = (c.bind F).bind G := by cases c <;> rfl

/-- Two sorted parts, one behind the other, merged in place. -/
theorem sym_step {K k : Nat} (hK : 100000 < K) (ih : MergesAt K k) : MergesAt K (k + 1) := by
  intro A B P Q hA hB hk hl sA sB
  by_cases ha1 : A.length = 1
  · obtain ⟨x, rfl⟩ := List.length_eq_one_iff.1 ha1
    exact one_ahead hK hB (by simp at hl; omega) sB
  by_cases hb1 : B.length = 1
  · obtain ⟨x, rfl⟩ := List.length_eq_one_iff.1 hb1
    exact one_behind hK (by omega) (by simp at hl; omega) sA
  have hw1 : IntKind.wrap .i64 (((P.length + A.length : Nat) : Int) - ((P.length : Nat) : Int)) = (A.length : Int) := by rw [w64 (by omega) (by omega)]; omega
  have hw2 : IntKind.wrap .i64 (((P.length + A.length + B.length : Nat) : Int) - ((P.length + A.length : Nat) : Int)) = (B.length : Int) := by rw [w64 (by omega) (by omega)]; omega
  obtain ⟨mid, hmid⟩ : ∃ mid, mid = (P.length + (P.length + A.length + B.length)) / 2 := ⟨_, rfl⟩
  have hh := half_is (i := P.length) (j := P.length + A.length + B.length) (by omega)
  rw [← hmid] at hh
  have hn : IntKind.wrap .i64 ((mid : Int) + ((P.length + A.length : Nat) : Int)) = ((mid + (P.length + A.length) : Nat) : Int) := by rw [w64 (by omega) (by omega)]; omega
  obtain ⟨lo, hi, r, e1, e2, r1, r2, r3, r4, f1, f2⟩ := sym_search (Q := Q) hK hmid hA hB hl sA sB
  have hend : IntKind.wrap .i64 (((mid + (P.length + A.length) : Nat) : Int) - (r : Int)) = ((mid + (P.length + A.length) - r : Nat) : Int) := by rw [w64 (by omega) (by omega)]; omega
  rw [slices_symMergeCmpFunc_rgggcspansrowsorted1.f, hw1, if_neg (by simp; omega), hw2, if_neg (by simp; omega)]
  simp only [hh, hn]
  rw [e1, Option.bind_some]
  simp only
  rw [e2, Option.bind_some]
  simp only [hend]
  obtain ⟨s, hs⟩ : ∃ s, s = r - P.length := ⟨_, rfl⟩
  obtain ⟨t, ht⟩ : ∃ t, t = mid - r := ⟨_, rfl⟩
  rw [← hs, ← ht] at f1 f2
  have eA : A.take s ++ A.drop s = A := List.take_append_drop _ _
  have eB : B.take t ++ B.drop t = B := List.take_append_drop _ _
  have lA1 : (A.take s).length = s := by rw [List.length_take]; omega
  have lA2 : (A.drop s).length = A.length - s := List.length_drop
  have lB1 : (B.take t).length = t := by rw [List.length_take]; omega
  have lB2 : (B.drop t).length = B.length - t := List.length_drop
  have hturn := sym_turn (K := K) hK (P := P ++ A.take s) (A := A.drop s) (B := B.take t) (Q := B.drop t ++ Q) (a := r) (m := P.length + A.length) (b := mid + (P.length + A.length) - r) (by rw [List.length_append]; omega) (by rw [List.length_append]; omega) (by rw [List.length_append]; omega) (by simp only [List.length_append]; omega) (D := P ++ (A ++ (B ++ Q))) (by
    rw [← List.append_assoc (B.take t), eB, List.append_assoc, ← List.append_assoc (A.take s), eA])
  rw [List.append_assoc] at hturn
  obtain ⟨Z1, z1, z2, z3⟩ := sym_part ih (P := P) (A := A.take s) (B := B.take t) (Q := A.drop s ++ (B.drop t ++ Q)) (a := P.length) (m := r) (b := mid) rfl (by omega) (by omega) (by omega) (by simp only [List.length_append]; omega) (srt_take sA s) (srt_take sB t) rfl
  have hz1 : Z1.length = s + t := by rw [z2.length_eq, List.length_append]; omega
  obtain ⟨Z2, y1, y2, y3⟩ := sym_part ih (P := P ++ Z1) (A := A.drop s) (B := B.drop t) (Q := Q) (a := mid) (m := mid + (P.length + A.length) - r) (b := P.length + A.length + B.length) (by rw [List.length_append]; omega) (by rw [List.length_append]; omega) (by rw [List.length_append]; omega) (by omega) (by simp only [List.length_append]; omega) (srt_drop sA s) (srt_drop sB t) (D := P ++ (Z1 ++ (A.drop s ++ (B.drop t ++ Q)))) (by simp)
  refine ⟨Z1 ++ Z2, ?_, ?_, srt_app z3 y3 fun x hx y hy => ?_⟩
  · rw [bind_asc, hturn, Option.bind_some, bind_asc, z1, Option.bind_some, y1]
    simp
  · refine (z2.append y2).trans ?_
    rw [List.append_assoc]
    refine ((List.perm_append_comm_assoc (B.take t) (A.drop s) (B.drop t)).append_left (A.take s)).trans ?_
    rw [eB, ← List.append_assoc, eA]
  · have sAB : ∀ x ∈ A.take s, ∀ y ∈ A.drop s, leS x y := (List.pairwise_append.1 (show (A.take s ++ A.drop s).Pairwise leS by rw [eA]; exact sA)).2.2
    have sBB : ∀ x ∈ B.take t, ∀ y ∈ B.drop t, leS x y := (List.pairwise_append.1 (show (B.take t ++ B.drop t).Pairwise leS by rw [eB]; exact sB)).2.2
    rcases List.mem_append.1 (z2.mem_iff.1 hx) with hx | hx <;> rcases List.mem_append.1 (y2.mem_iff.1 hy) with hy | hy
    · exact sAB x hx y hy
    · exact f1 x hx y hy
    · exact f2 x hx y hy
    · exact sBB x hx y hy

theorem sym_is {K : Nat} (hK : 100000 < K) : ∀ k, MergesAt K k
  | 0 => fun _ _ _ _ _ _ h => by omega
  | k + 1 => sym_step hK (sym_is hK k)

theorem symm_is {K : Nat} (hK : 100000 < K) {A B P Q : List Sp} {a m b : Nat} (hA : 0 < A.length) (hB : 0 < B.length) (hl : P.length + A.length + B.length + Q.length ≤ 80000) (sA : Srt A) (sB : Srt B) (ha : a = P.length) (hm : m = P.length + A.length) (hb : b = P.length + A.length + B.length) :
    ∃ Z, slices_symMergeCmpFunc_rgggcspansrowsorted1 K (P ++ (A ++ (B ++ Q))) (a : Int) (m : Int) (b : Int) = some (P ++ (Z ++ Q)) ∧ Z.Perm (A ++ B) ∧ Srt Z := by
  subst ha hm hb
  unfold slices_symMergeCmpFunc_rgggcspansrowsorted1
  exact sym_is hK K A B P Q hA hB (by omega) hl sA sB

/-- Parts that are sorted, each of s. -/
def Chs (s : Nat) (cs : List (List Sp)) : Prop := ∀ c ∈ cs, c.length = s ∧ Srt c

theorem chs_len {s : Nat} : ∀ {cs : List (List Sp)}, Chs s cs → cs.flatten.length = cs.length * s
  | [], _ => by simp
  | c :: cs, h => by
    have h1 := (h c (by simp)).1
    have h2 := chs_len (cs := cs) fun d hd => h d (by simp [hd])
    rw [List.flatten_cons, List.length_append, h1, h2, List.length_cons, Nat.succ_mul]
    omega

theorem stab0_loop {K : Nat} (hK : 100000 < K) : ∀ (n : Nat) (cs : List (List Sp)) (X : List Sp) (k : Nat), X.length ≤ n → n < k → Chs 20 cs → cs.flatten.length + X.length ≤ 60000 →
    ∃ cs' L, slices_stableCmpFunc_rgcspansrowsorted1.l0 K ((cs.flatten.length + X.length : Nat) : Int) k (cs.flatten ++ X) (cs.flatten.length : Int) ((cs.flatten.length + 20 : Nat) : Int) = some (cs'.flatten ++ L, (cs'.flatten.length : Int)) ∧ Chs 20 cs' ∧ L.length < 20 ∧ (cs'.flatten ++ L).Perm (cs.flatten ++ X)
  | n, cs, X, k, hn, hk, hc, hl => by
    obtain ⟨k, rfl⟩ : ∃ m, k = m + 1 := ⟨k - 1, by omega⟩
    rw [slices_stableCmpFunc_rgcspansrowsorted1.l0]
    by_cases h : 20 ≤ X.length
    · obtain ⟨n, rfl⟩ : ∃ m, n = m + 1 := ⟨n - 1, by omega⟩
      have h1 : (X.take 20).length = 20 := by rw [List.length_take]; omega
      have h2 : (X.drop 20).length = X.length - 20 := List.length_drop
      obtain ⟨Z, e1, e2, e3⟩ := insSort_is (K := K) (A := cs.flatten) (X := X.take 20) (B := X.drop 20) (by omega) (by omega)
      rw [List.take_append_drop, h1] at e1
      have hw : IntKind.wrap .i64 (((cs.flatten.length + 20 : Nat) : Int) + 20) = ((cs.flatten.length + 20 + 20 : Nat) : Int) := by rw [w64 (by omega) (by omega)]; omega
      rw [if_pos (by simp [-List.length_flatten]; omega), e1, Option.bind_some, hw]
      have hZ : Z.length = 20 := by rw [e2.length_eq, h1]
      have hf : (cs ++ [Z]).flatten = cs.flatten ++ Z := by simp
      obtain ⟨cs', L, f1, f2, f3, f4⟩ := stab0_loop (K := K) hK n (cs ++ [Z]) (X.drop 20) k (by omega) (by omega) (fun c hc' => by
        rcases List.mem_append.1 hc' with h' | h'
        · exact hc c h'
        · rw [List.mem_singleton.1 h']; exact ⟨hZ, e3⟩) (by rw [hf, List.length_append]; omega)
      rw [hf, List.length_append, hZ, h2, List.append_assoc] at f1
      refine ⟨cs', L, ?_, f2, f3, f4.trans ?_⟩
      · rw [← f1]; congr 1; omega
      · rw [hf, List.append_assoc]
        refine List.Perm.append_left _ ?_
        refine (e2.append_right _).trans ?_
        rw [List.take_append_drop]
    · rw [if_neg (by simp [-List.length_flatten]; omega)]
      exact ⟨cs, X, rfl, hc, by omega, List.Perm.refl _⟩

theorem stab2_loop {K s : Nat} (hK : 100000 < K) (hs : 0 < s) (hs2 : s ≤ 60000) {L : List Sp} (hL : L.length < s) : ∀ (m : Nat) (cs ds : List (List Sp)) (k : Nat), cs.length ≤ m → m < k → Chs s cs → Chs (2 * s) ds → ds.flatten.length + cs.flatten.length + L.length ≤ 60000 →
    ∃ cs' ds', slices_stableCmpFunc_rgcspansrowsorted1.l2 K ((ds.flatten.length + cs.flatten.length + L.length : Nat) : Int) (s : Int) k (ds.flatten ++ (cs.flatten ++ L)) (ds.flatten.length : Int) ((ds.flatten.length + 2 * s : Nat) : Int) = some (ds'.flatten ++ (cs'.flatten ++ L), (ds'.flatten.length : Int)) ∧
      cs'.length ≤ 1 ∧ Chs s cs' ∧ Chs (2 * s) ds' ∧ (ds'.flatten ++ (cs'.flatten ++ L)).Perm (ds.flatten ++ (cs.flatten ++ L))
  | m, [], ds, k, hm, hk, hc, hd, hl => by
    obtain ⟨k, rfl⟩ : ∃ m, k = m + 1 := ⟨k - 1, by omega⟩
    rw [slices_stableCmpFunc_rgcspansrowsorted1.l2, if_neg (by simp [-List.length_flatten]; omega)]
    exact ⟨[], ds, rfl, by simp, hc, hd, List.Perm.refl _⟩
  | m, [c], ds, k, hm, hk, hc, hd, hl => by
    obtain ⟨k, rfl⟩ : ∃ m, k = m + 1 := ⟨k - 1, by omega⟩
    have h1 := (hc c (by simp)).1
    rw [slices_stableCmpFunc_rgcspansrowsorted1.l2, if_neg (by simp [-List.length_flatten]; omega)]
    exact ⟨[c], ds, rfl, by simp, hc, hd, List.Perm.refl _⟩
  | 0, c :: d :: cs, ds, k, hm, hk, hc, hd, hl => by simp at hm
  | m + 1, c :: d :: cs, ds, k, hm, hk, hc, hd, hl => by
    obtain ⟨k, rfl⟩ : ∃ m, k = m + 1 := ⟨k - 1, by omega⟩
    obtain ⟨h1, h2⟩ := hc c (by simp)
    obtain ⟨h3, h4⟩ := hc d (by simp)
    simp only [List.flatten_cons, List.length_append, List.length_cons] at hl hm
    have hw1 : IntKind.wrap .i64 ((ds.flatten.length : Int) + (s : Int)) = ((ds.flatten.length + s : Nat) : Int) := by rw [w64 (by omega) (by omega)]; omega
    have hw2 : IntKind.wrap .i64 (2 * (s : Int)) = ((2 * s : Nat) : Int) := by rw [w64 (by omega) (by omega)]; omega
    have hw3 : IntKind.wrap .i64 (((ds.flatten.length + 2 * s : Nat) : Int) + ((2 * s : Nat) : Int)) = ((ds.flatten.length + 2 * s + 2 * s : Nat) : Int) := by rw [w64 (by omega) (by omega)]; omega
    obtain ⟨Z, e1, e2, e3⟩ := symm_is (K := K) hK (A := c) (B := d) (P := ds.flatten) (Q := cs.flatten ++ L) (a := ds.flatten.length) (m := ds.flatten.length + s) (b := ds.flatten.length + 2 * s) (by omega) (by omega) (by rw [List.length_append]; omega) h2 h4 rfl (by omega) (by omega)
    have eD : ds.flatten ++ ((c :: d :: cs).flatten ++ L) = ds.flatten ++ (c ++ (d ++ (cs.flatten ++ L))) := by simp
    have hZ : Z.length = 2 * s := by rw [e2.length_eq, List.length_append]; omega
    have hf : (ds ++ [Z]).flatten = ds.flatten ++ Z := by simp
    rw [eD, slices_stableCmpFunc_rgcspansrowsorted1.l2, if_pos (by simp only [List.flatten_cons, List.length_append, decide_eq_true_eq]; omega), hw1, e1, Option.bind_some, hw2, hw3]
    obtain ⟨cs', ds', f1, f2, f3, f4, f5⟩ := stab2_loop (K := K) hK hs hs2 hL m cs (ds ++ [Z]) k (by omega) (by omega) (fun x hx => hc x (by simp [hx])) (fun x hx => by
      rcases List.mem_append.1 hx with h' | h'
      · exact hd x h'
      · rw [List.mem_singleton.1 h']; exact ⟨hZ, e3⟩) (by rw [hf, List.length_append]; omega)
    rw [hf, List.length_append, hZ, List.append_assoc] at f1
    refine ⟨cs', ds', ?_, f2, f3, f4, f5.trans ?_⟩
    · rw [← f1]; congr 1
      simp only [List.flatten_cons, List.length_append]; omega
    · rw [hf, List.append_assoc]
      refine List.Perm.append_left _ ((e2.append_right _).trans ?_)
      rw [List.append_assoc]

theorem stab1_loop {K : Nat} (hK : 100000 < K) : ∀ (j s k : Nat) (cs : List (List Sp)) (L : List Sp), cs.flatten.length + L.length ≤ s + j → j < k → 0 < s → s ≤ 120000 → Chs s cs → L.length < s → Srt L → cs.flatten.length + L.length ≤ 30000 →
    ∃ Z, slices_stableCmpFunc_rgcspansrowsorted1.l1 K ((cs.flatten.length + L.length : Nat) : Int) k (cs.flatten ++ L) (s : Int) = some Z ∧ Z.Perm (cs.flatten ++ L) ∧ Srt Z
  | j, s, k, cs, L, hj, hk, hs, hs2, hc, hL, sL, hl => by
    obtain ⟨k, rfl⟩ : ∃ m, k = m + 1 := ⟨k - 1, by omega⟩
    rw [slices_stableCmpFunc_rgcspansrowsorted1.l1]
    have hcl := chs_len hc
    by_cases h : s < cs.flatten.length + L.length
    · obtain ⟨j, rfl⟩ : ∃ m, j = m + 1 := ⟨j - 1, by omega⟩
      have hw2 : IntKind.wrap .i64 (2 * (s : Int)) = ((2 * s : Nat) : Int) := by rw [w64 (by omega) (by omega)]; omega
      have hw4 : IntKind.wrap .i64 ((s : Int) * 2) = ((2 * s : Nat) : Int) := by rw [w64 (by omega) (by omega)]; omega
      have hcs : cs.length < K := by
        have : cs.length * 1 ≤ cs.length * s := Nat.mul_le_mul_left _ hs
        omega
      obtain ⟨cs', ds', f1, f2, f3, f4, f5⟩ := stab2_loop (K := K) hK hs (by omega) hL cs.length cs [] K (Nat.le_refl _) hcs hc (fun c hc' => by cases hc') (by simp [-List.length_flatten]; omega)
      simp only [List.flatten_nil, List.nil_append, List.length_nil, Nat.zero_add, Int.natCast_zero] at f1 f5
      have hlen : ds'.flatten.length + cs'.flatten.length + L.length = cs.flatten.length + L.length := by
        have := f5.length_eq
        simp only [List.length_append] at this; omega
      have hcl' := chs_len f3
      have hw1 : IntKind.wrap .i64 ((ds'.flatten.length : Int) + (s : Int)) = ((ds'.flatten.length + s : Nat) : Int) := by rw [w64 (by omega) (by omega)]; omega
      rw [if_pos (by simp [-List.length_flatten]; omega), hw2, f1, Option.bind_some]
      simp only [hw1, hw4]
      suffices hN : ∃ L', (if decide (((ds'.flatten.length + s : Nat) : Int) < ((cs.flatten.length + L.length : Nat) : Int)) = true then (slices_symMergeCmpFunc_rgggcspansrowsorted1 K (ds'.flatten ++ (cs'.flatten ++ L)) (ds'.flatten.length : Int) ((ds'.flatten.length + s : Nat) : Int) ((cs.flatten.length + L.length : Nat) : Int)).bind (fun r_99 => some r_99) else some (ds'.flatten ++ (cs'.flatten ++ L))) = some (ds'.flatten ++ L') ∧ L'.Perm (cs'.flatten ++ L) ∧ Srt L' ∧ L'.length < 2 * s by
        obtain ⟨L', g1, g2, g3, g4⟩ := hN
        rw [g1, Option.bind_some]
        have hll : ds'.flatten.length + L'.length = cs.flatten.length + L.length := by
          have := g2.length_eq
          rw [List.length_append] at this; omega
        obtain ⟨Z, z1, z2, z3⟩ := stab1_loop (K := K) hK j (2 * s) k ds' L' (by omega) (by omega) (by omega) (by omega) f4 g4 g3 (by omega)
        rw [hll] at z1
        exact ⟨Z, z1, z2.trans ((g2.append_left _).trans f5), z3⟩
      match cs', f2, f3, hcl', hlen with
      | [], _, _, _, hlen =>
        simp only [List.flatten_nil, List.length_nil] at hlen
        rw [if_neg (by simp [-List.length_flatten]; omega)]
        exact ⟨L, by simp, by simp, sL, by omega⟩
      | [c], _, f3, hcl', hlen =>
        obtain ⟨h1, h2⟩ := f3 c (by simp)
        simp only [List.flatten_cons, List.flatten_nil, List.append_nil] at hlen ⊢
        by_cases hL0 : 0 < L.length
        · obtain ⟨Z, e1, e2, e3⟩ := symm_is (K := K) hK (A := c) (B := L) (P := ds'.flatten) (Q := []) (a := ds'.flatten.length) (m := ds'.flatten.length + s) (b := cs.flatten.length + L.length) (by omega) hL0 (by simp [-List.length_flatten]; omega) h2 sL rfl (by omega) (by omega)
          rw [List.append_nil, List.append_nil] at e1
          rw [if_pos (by simp [-List.length_flatten]; omega), e1, Option.bind_some]
          exact ⟨Z, rfl, e2, e3, by rw [e2.length_eq, List.length_append]; omega⟩
        · have : L = [] := List.eq_nil_of_length_eq_zero (by omega)
          subst this
          rw [if_neg (by simp [-List.length_flatten] at hlen ⊢; omega), List.append_nil]
          exact ⟨c, rfl, List.Perm.refl _, h2, by omega⟩
      | _ :: _ :: _, f2, _, _, _ => simp at f2
    · rw [if_neg (by simp [-List.length_flatten]; omega)]
      match cs, hc, hcl, h with
      | [], _, _, _ => exact ⟨L, by simp, by simp, sL⟩
      | [c], hc, hcl, h =>
        obtain ⟨h1, h2⟩ := hc c (by simp)
        simp only [List.flatten_cons, List.flatten_nil, List.append_nil] at h ⊢
        have : L = [] := List.eq_nil_of_length_eq_zero (by omega)
        subst this
        rw [List.append_nil]
        exact ⟨c, rfl, List.Perm.refl _, h2⟩
      | c :: d :: cs, hc, hcl, h =>
        have h1 := (hc c (by simp)).1
        have h3 := (hc d (by simp)).1
        simp only [List.flatten_cons, List.length_append] at h
        omega

/-- Any row comes out in order. -/
theorem stable_is {K : Nat} {X : List Sp} (hK : 100000 < K) (hl : X.length ≤ 30000) : ∃ Z, slices_SortStableFunc_rcspansrowsorted1 K X = some Z ∧ Z.Perm X ∧ Srt Z := by
  unfold slices_SortStableFunc_rcspansrowsorted1 slices_stableCmpFunc_rgcspansrowsorted1
  obtain ⟨cs, L, f1, f2, f3, f4⟩ := stab0_loop (K := K) hK X.length [] X K (Nat.le_refl _) (by omega) (fun c hc => by cases hc) (by simp [-List.length_flatten]; omega)
  simp only [List.flatten_nil, List.nil_append, List.length_nil, Nat.zero_add, Int.natCast_zero] at f1 f4
  rw [show ((20 : Nat) : Int) = 20 from rfl] at f1
  rw [f1, Option.bind_some]
  simp only
  have hlen : cs.flatten.length + L.length = X.length := by rw [← f4.length_eq, List.length_append]
  obtain ⟨Z, e1, e2, e3⟩ := insSort_is (K := K) (A := cs.flatten) (X := L) (B := []) (by omega) (by simp [-List.length_flatten]; omega)
  rw [List.append_nil, List.append_nil, hlen] at e1
  rw [e1, Option.bind_some]
  have hZ : Z.length = L.length := e2.length_eq
  obtain ⟨W, w1, w2, w3⟩ := stab1_loop (K := K) hK X.length 20 K cs Z (by omega) (by omega) (by omega) (by omega) f2 (by omega) e3 (by omega)
  rw [show cs.flatten.length + Z.length = X.length by omega, show ((20 : Nat) : Int) = 20 from rfl] at w1
  rw [w1, Option.bind_some]
  exact ⟨W, rfl, w2.trans ((e2.append_left _).trans f4), w3⟩

/-- In order, in the fewest spans, behind 'to' (which has style st). -/
def okS (n : Int) : Int → Int → List Sp → Bool
  | _, _, [] => true
  | to, st, x :: l => decide (1 ≤ x.2.2 ∧ x.2.2 ≤ 100 ∧ to ≤ x.1 ∧ x.1 < x.2.1 ∧ x.2.1 ≤ n ∧ ¬ (x.1 = to ∧ x.2.2 = st)) && okS n x.2.1 x.2.2 l

def isS15 (n : Int) (l : List Sp) : Bool := decide (l.length ≤ 60) && okS (min n 20000) 0 0 l

def atS : List Sp → Int → Int
  | [], _ => 0
  | x :: l, k => if x.1 ≤ k ∧ k < x.2.1 then x.2.2 else atS l k

def Fn (n : Int) (x : Sp) : Prop := 0 ≤ x.1 ∧ x.1 < x.2.1 ∧ x.2.1 ≤ n ∧ 1 ≤ x.2.2 ∧ x.2.2 ≤ 100

def Dj (x y : Sp) : Prop := x.2.1 ≤ y.1 ∨ y.2.1 ≤ x.1

def Od (x y : Sp) : Prop := x.2.1 ≤ y.1

theorem okS_cons {n to st : Int} {x : Sp} {l : List Sp} : okS n to st (x :: l) = true ↔ (1 ≤ x.2.2 ∧ x.2.2 ≤ 100 ∧ to ≤ x.1 ∧ x.1 < x.2.1 ∧ x.2.1 ≤ n ∧ ¬ (x.1 = to ∧ x.2.2 = st)) ∧ okS n x.2.1 x.2.2 l = true := by
  rw [okS, Bool.and_eq_true, decide_eq_true_eq]

theorem okS_mem {n : Int} : ∀ {l : List Sp} {to st : Int}, okS n to st l = true → 0 ≤ to → ∀ x ∈ l, Fn n x ∧ to ≤ x.1
  | [], _, _, _, _, x, hx => by cases hx
  | y :: l, to, st, h, h0, x, hx => by
    rw [okS_cons] at h
    obtain ⟨⟨h1, h2, h3, h4, h5, h6⟩, h7⟩ := h
    rcases List.mem_cons.1 hx with rfl | hx
    · exact ⟨⟨by omega, h4, h5, h1, h2⟩, h3⟩
    · have := okS_mem h7 (by omega) x hx
      exact ⟨this.1, by omega⟩

theorem okS_ord {n : Int} : ∀ {l : List Sp} {to st : Int}, okS n to st l = true → 0 ≤ to → l.Pairwise Od
  | [], _, _, _, _ => List.Pairwise.nil
  | x :: l, to, st, h, h0 => by
    rw [okS_cons] at h
    obtain ⟨⟨h1, h2, h3, h4, h5, h6⟩, h7⟩ := h
    exact List.pairwise_cons.2 ⟨fun y hy => (okS_mem h7 (by omega) y hy).2, okS_ord h7 (by omega)⟩

theorem od_dj {l : List Sp} (h : l.Pairwise Od) : l.Pairwise Dj := h.imp fun h => .inl h

theorem okS_mono {n m : Int} (hnm : n ≤ m) : ∀ {l : List Sp} {to st : Int}, okS n to st l = true → okS m to st l = true
  | [], _, _, _ => rfl
  | x :: l, to, st, h => by
    rw [okS_cons] at h ⊢
    exact ⟨⟨h.1.1, h.1.2.1, h.1.2.2.1, h.1.2.2.2.1, by have := h.1.2.2.2.2.1; omega, h.1.2.2.2.2.2⟩, okS_mono hnm h.2⟩

theorem atS_none : ∀ {l : List Sp} {k : Int}, (∀ x ∈ l, ¬ (x.1 ≤ k ∧ k < x.2.1)) → atS l k = 0
  | [], _, _ => rfl
  | x :: l, k, h => by rw [atS, if_neg (h x (by simp)), atS_none fun y hy => h y (by simp [hy])]

theorem atS_iff {n : Int} : ∀ {l : List Sp} {k v : Int}, l.Pairwise Dj → (∀ x ∈ l, Fn n x) → v ≠ 0 → (atS l k = v ↔ ∃ x ∈ l, x.1 ≤ k ∧ k < x.2.1 ∧ x.2.2 = v)
  | [], k, v, _, _, hv => by simp [atS]; omega
  | x :: l, k, v, hd, hf, hv => by
    rw [List.pairwise_cons] at hd
    rw [atS]
    have ih := atS_iff (l := l) (k := k) hd.2 (fun y hy => hf y (by simp [hy])) hv
    by_cases h : x.1 ≤ k ∧ k < x.2.1
    · rw [if_pos h]
      constructor
      · intro e; exact ⟨x, by simp, h.1, h.2, e⟩
      · rintro ⟨y, hy, h1, h2, h3⟩
        rcases List.mem_cons.1 hy with rfl | hy
        · exact h3
        · rcases hd.1 y hy with h' | h' <;> omega
    · rw [if_neg h, ih]
      constructor
      · rintro ⟨y, hy, h'⟩; exact ⟨y, by simp [hy], h'⟩
      · rintro ⟨y, hy, h1, h2, h3⟩
        rcases List.mem_cons.1 hy with rfl | hy
        · exact (h ⟨h1, h2⟩).elim
        · exact ⟨y, hy, h1, h2, h3⟩

theorem eq_of_vals {f g : Int} (h : ∀ v, v ≠ 0 → (f = v ↔ g = v)) : f = g := by
  by_cases hf : f = 0
  · by_cases hg : g = 0
    · rw [hf, hg]
    · exact (h g hg).2 rfl
  · exact ((h f hf).1 rfl).symm

theorem atS_app : ∀ {l r : List Sp} {k : Int}, (∀ x ∈ l, 1 ≤ x.2.2) → atS (l ++ r) k = if atS l k = 0 then atS r k else atS l k
  | [], r, k, _ => by simp [atS]
  | x :: l, r, k, h => by
    have hx := h x (by simp)
    rw [List.cons_append, atS, atS, atS_app fun y hy => h y (by simp [hy])]
    by_cases h1 : x.1 ≤ k ∧ k < x.2.1
    · rw [if_pos h1, if_pos h1, if_neg (by omega)]
    · rw [if_neg h1, if_neg h1]

theorem atS_lt {n : Int} {l : List Sp} {to st k : Int} (h : okS n to st l = true) (h0 : 0 ≤ to) (hk : k < to) : atS l k = 0 :=
  atS_none fun x hx => by have := (okS_mem h h0 x hx).2; omega

theorem okS_head {n m : Int} {x y : Sp} {l r : List Sp} {t1 s1 t2 s2 : Int} (h1 : okS n t1 s1 (x :: l) = true) (h2 : okS m t2 s2 (y :: r) = true) (p1 : 0 ≤ t1) (p2 : 0 ≤ t2) (h : ∀ k, atS (x :: l) k = atS (y :: r) k) : x.1 = y.1 ∧ x.2.2 = y.2.2 ∨ y.1 < x.1 := by
  rw [okS_cons] at h1 h2
  rcases Int.lt_or_le y.1 x.1 with h' | h'
  · exact .inr h'
  · left
    have e := h x.1
    rw [atS, if_pos (by omega), atS] at e
    by_cases hy : y.1 ≤ x.1 ∧ x.1 < y.2.1
    · rw [if_pos hy] at e; exact ⟨by omega, e⟩
    · rw [if_neg hy, atS_lt h2.2 (by omega) (by omega)] at e
      omega

/-- A row in the fewest spans is told by its styles alone. -/
theorem okS_unique {n m : Int} : ∀ {l r : List Sp} {t1 s1 t2 s2 : Int}, okS n t1 s1 l = true → okS m t2 s2 r = true → 0 ≤ t1 → 0 ≤ t2 → (∀ k, atS l k = atS r k) → l = r
  | [], [], _, _, _, _, _, _, _, _, _ => rfl
  | [], y :: r, _, _, _, _, _, h2, _, p2, h => by
    rw [okS_cons] at h2
    have := h y.1
    rw [atS, atS, if_pos (by omega)] at this
    omega
  | x :: l, [], _, _, _, _, h1, _, p1, _, h => by
    rw [okS_cons] at h1
    have := h x.1
    rw [show atS [] x.1 = 0 from rfl, atS, if_pos (by omega)] at this
    omega
  | x :: l, y :: r, t1, s1, t2, s2, h1, h2, p1, p2, h => by
    have e1 : x.1 = y.1 ∧ x.2.2 = y.2.2 := by
      have a := okS_head h1 h2 p1 p2 h
      have b := okS_head h2 h1 p2 p1 fun k => (h k).symm
      omega
    rw [okS_cons] at h1 h2
    have ends : ∀ {a b : Sp} {q w : List Sp} {n m : Int}, (1 ≤ a.2.2 ∧ a.1 < a.2.1) → okS n a.2.1 a.2.2 q = true → (0 ≤ a.1) → a.1 = b.1 → a.2.2 = b.2.2 → (∀ k, atS (a :: q) k = atS (b :: w) k) → ¬ a.2.1 < b.2.1 := by
      intro a b q w n m ha hq h0 e1 e2 h hlt
      have e := h a.2.1
      rw [atS, if_neg (by omega), atS, if_pos (by omega)] at e
      cases q with
      | nil => rw [atS] at e; omega
      | cons z q =>
        rw [okS_cons] at hq
        rw [atS] at e
        by_cases hz : z.1 ≤ a.2.1 ∧ a.2.1 < z.2.1
        · rw [if_pos hz] at e
          omega
        · rw [if_neg hz, atS_lt hq.2 (by omega) (by omega)] at e
          omega
    have e2 : x.2.1 = y.2.1 := by
      have a := ends (n := n) (m := m) (by omega) h1.2 (by omega) e1.1 e1.2 h
      have b := ends (n := m) (m := n) (by omega) h2.2 (by omega) e1.1.symm e1.2.symm fun k => (h k).symm
      omega
    have e3 : x = y := Prod.ext e1.1 (Prod.ext e2 e1.2)
    subst e3
    rw [okS_unique h1.2 h2.2 (by omega) (by omega) fun k => ?_]
    have e := h k
    rw [atS, atS] at e
    by_cases hk : x.1 ≤ k ∧ k < x.2.1
    · rw [atS_lt h1.2 (by omega) hk.2, atS_lt h2.2 (by omega) hk.2]
    · rw [if_neg hk, if_neg hk] at e; exact e

/-- One span more behind a row. -/
def stepS (out : List Sp) (x : Sp) : List Sp :=
  if out ≠ [] ∧ (out.getD (out.length - 1) sp0).2.2 = x.2.2 ∧ (out.getD (out.length - 1) sp0).2.1 = x.1 then out.set (out.length - 1) ((out.getD (out.length - 1) sp0).1, (x.2.1, (out.getD (out.length - 1) sp0).2.2)) else out ++ [x]

theorem stepS_nil (x : Sp) : stepS [] x = [x] := rfl

theorem stepS_app (l : List Sp) (p x : Sp) : stepS (l ++ [p]) x = if p.2.2 = x.2.2 ∧ p.2.1 = x.1 then l ++ [(p.1, (x.2.1, p.2.2))] else l ++ [p] ++ [x] := by
  unfold stepS
  have e1 : (l ++ [p]).length - 1 = l.length := by simp
  have e2 : (l ++ [p]).getD l.length sp0 = p := by simp [List.getD]
  rw [e1, e2]
  by_cases h : p.2.2 = x.2.2 ∧ p.2.1 = x.1
  · rw [if_pos ⟨by simp, h.1, h.2⟩, if_pos h, List.set_append_right _ _ (Nat.le_refl _)]
    simp
  · rw [if_neg (fun h' => h h'.2), if_neg h]

theorem stepS_len {l : List Sp} {x : Sp} : (stepS l x).length ≤ l.length + 1 := by unfold stepS; split <;> simp

theorem okS_app {n : Int} : ∀ {l : List Sp} {p : Sp} {to st : Int}, okS n to st (l ++ [p]) = true ↔ ∃ t s, okS n to st l = true ∧ (l = [] → t = to ∧ s = st) ∧ (∀ m q, l = m ++ [q] → t = q.2.1 ∧ s = q.2.2) ∧ okS n t s [p] = true
  | [], p, to, st => by
    constructor
    · intro h; exact ⟨to, st, rfl, fun _ => ⟨rfl, rfl⟩, fun m q e => by simp at e, h⟩
    · rintro ⟨t, s, -, h, -, h'⟩
      obtain ⟨rfl, rfl⟩ := h rfl
      exact h'
  | x :: l, p, to, st => by
    rw [List.cons_append, okS_cons, okS_app]
    constructor
    · rintro ⟨h1, t, s, h2, h3, h4, h5⟩
      refine ⟨t, s, okS_cons.2 ⟨h1, h2⟩, fun e => (by cases e), fun m q e => ?_, h5⟩
      cases m with
      | nil =>
        simp only [List.nil_append, List.cons.injEq] at e
        obtain ⟨rfl, rfl⟩ := e
        exact h3 rfl
      | cons z m =>
        simp only [List.cons_append, List.cons.injEq] at e
        exact h4 m q e.2
    · rintro ⟨t, s, h1, h2, h3, h4⟩
      rw [okS_cons] at h1
      refine ⟨h1.1, t, s, h1.2, fun e => ?_, fun m q e => h3 (x :: m) q (by rw [e]; rfl), h4⟩
      subst e
      exact h3 [] x rfl

theorem step_ok {n : Int} {acc : List Sp} {x : Sp} (h : okS n 0 0 acc = true) (hx : Fn n x) (ho : ∀ y ∈ acc, Od y x) : okS n 0 0 (stepS acc x) = true ∧ (∀ y, Od x y → ∀ z ∈ stepS acc x, (∀ w ∈ acc, Od w y) → Od z y) := by
  by_cases he : acc = []
  · subst he
    rw [stepS_nil]
    unfold Fn at hx
    refine ⟨by rw [okS_cons]; exact ⟨by omega, rfl⟩, fun y hy z hz _ => ?_⟩
    rw [List.mem_singleton.1 hz]; exact hy
  · obtain ⟨l, p, rfl⟩ := split_last he
    have hp := ho p (by simp)
    have hpm := (okS_mem h (Int.le_refl _) p (by simp)).1
    unfold Od at hp
    unfold Fn at hx hpm
    rw [stepS_app]
    obtain ⟨t, s, h1, h2, h3, h4⟩ := okS_app.1 h
    rw [okS_cons] at h4
    split
    · rename_i hc
      refine ⟨okS_app.2 ⟨t, s, h1, h2, h3, okS_cons.2 ⟨by simp only; omega, rfl⟩⟩, fun y hy z hz hw => ?_⟩
      rcases List.mem_append.1 hz with hz | hz
      · exact hw z (by simp [hz])
      · rw [List.mem_singleton.1 hz]; exact hy
    · rename_i hc
      refine ⟨okS_app.2 ⟨p.2.1, p.2.2, h, fun e => by simp at e, fun m q e => ?_, okS_cons.2 ⟨by omega, rfl⟩⟩, fun y hy z hz hw => ?_⟩
      · obtain ⟨-, e⟩ := List.append_inj' e rfl
        cases e; exact ⟨rfl, rfl⟩
      · rcases List.mem_append.1 hz with hz | hz
        · exact hw z hz
        · rw [List.mem_singleton.1 hz]; exact hy

theorem step_at {n : Int} {acc rest : List Sp} {x : Sp} {k : Int} (h : okS n 0 0 acc = true) (hx : Fn n x) : atS (stepS acc x ++ rest) k = atS (acc ++ x :: rest) k := by
  by_cases he : acc = []
  · subst he; rfl
  · obtain ⟨l, p, rfl⟩ := split_last he
    have hm := okS_mem h (Int.le_refl _)
    have hpm := (hm p (by simp)).1
    have hl : ∀ y ∈ l, 1 ≤ y.2.2 := fun y hy => by have := (hm y (by simp [hy])).1; unfold Fn at this; omega
    unfold Fn at hx hpm
    rw [stepS_app]
    split
    · rename_i hc
      rw [List.append_assoc, List.append_assoc, atS_app hl, atS_app hl]
      simp only [List.cons_append, List.nil_append, atS]
      split
      · by_cases h1 : p.1 ≤ k ∧ k < p.2.1
        · rw [if_pos h1, if_pos (by omega)]
        · rw [if_neg h1]
          by_cases h2 : x.1 ≤ k ∧ k < x.2.1
          · rw [if_pos h2, if_pos (by omega)]; exact hc.1
          · rw [if_neg h2, if_neg (by omega)]
      · rfl
    · simp

theorem fold_ok {n : Int} : ∀ {r acc : List Sp}, okS n 0 0 acc = true → (∀ x ∈ r, Fn n x) → r.Pairwise Od → (∀ x ∈ acc, ∀ y ∈ r, Od x y) → okS n 0 0 (r.foldl stepS acc) = true ∧ ∀ k, atS (r.foldl stepS acc) k = atS (acc ++ r) k
  | [], acc, h, _, _, _ => ⟨h, fun k => by simp⟩
  | x :: r, acc, h, hf, ho, ha => by
    rw [List.pairwise_cons] at ho
    have hx := hf x (by simp)
    have hs := step_ok h hx fun y hy => ha y hy x (by simp)
    have ih := fold_ok (r := r) (acc := stepS acc x) hs.1 (fun y hy => hf y (by simp [hy])) ho.2 (fun z hz y hy => hs.2 y (ho.1 y hy) z hz fun w hw => ha w hw y (by simp [hy]))
    rw [List.foldl_cons]
    exact ⟨ih.1, fun k => by rw [ih.2, step_at h hx]⟩

theorem fold_len : ∀ {r acc : List Sp}, (r.foldl stepS acc).length ≤ acc.length + r.length
  | [], acc => by simp
  | x :: r, acc => by
    have := fold_len (r := r) (acc := stepS acc x)
    have := stepS_len (l := acc) (x := x)
    rw [List.foldl_cons, List.length_cons]; omega

/-- Sorted, they lie in order. -/
theorem srt_od {n : Int} {l : List Sp} (hs : Srt l) (hd : l.Pairwise Dj) (hf : ∀ x ∈ l, Fn n x) : l.Pairwise Od := by
  refine List.Pairwise.imp_of_mem ?_ (hs.and hd)
  rintro a b ha hb ⟨h1, h2⟩
  have fa := hf a ha
  have fb := hf b hb
  unfold leS ltS at h1
  rw [decide_eq_false_iff_not] at h1
  unfold Dj at h2
  unfold Fn at fa fb
  unfold Od
  omega

theorem dj_symm {x y : Sp} (h : Dj x y) : Dj y x := h.symm

theorem canon_is {n : Int} {r Z : List Sp} (hp : Z.Perm r) (hs : Srt Z) (hd : r.Pairwise Dj) (hf : ∀ x ∈ r, Fn n x) : okS n 0 0 (Z.foldl stepS []) = true ∧ ∀ k, atS (Z.foldl stepS []) k = atS r k := by
  have hdZ : Z.Pairwise Dj := hp.symm.pairwise hd fun h => dj_symm h
  have hfZ : ∀ x ∈ Z, Fn n x := fun x hx => hf x (hp.mem_iff.1 hx)
  have h := fold_ok (n := n) (r := Z) (acc := []) rfl hfZ (srt_od hs hdZ hfZ) (fun x hx => by cases hx)
  refine ⟨h.1, fun k => ?_⟩
  rw [h.2, List.nil_append]
  refine eq_of_vals fun v hv => ?_
  rw [atS_iff hdZ hfZ hv, atS_iff hd hf hv]
  constructor
  · rintro ⟨x, hx, h⟩; exact ⟨x, hp.mem_iff.1 hx, h⟩
  · rintro ⟨x, hx, h⟩; exact ⟨x, hp.mem_iff.2 hx, h⟩

theorem mn2_is {a b : Int} : mn2 a b = min a b := by unfold mn2; split <;> omega

theorem mx2_is {a b : Int} : mx2 a b = max a b := by unfold mx2; split <;> omega

theorem within_is {K : Nat} {n a b : Int} : spans_within K n a b = some (decide (a ≤ n ∧ n ≤ b)) := by
  unfold spans_within
  by_cases h : a ≤ n
  · rw [if_pos (by simpa using h)]; simp [h]
  · rw [if_neg (by simpa using h)]; simp [h]

/-- What is ahead of place j of a row: where it ends, its style. -/
def prevS (l : List Sp) (j : Nat) : Int × Int := if j = 0 then (0, 0) else (l.getD (j - 1) sp0).2

theorem prevS_succ {l : List Sp} {j : Nat} {x : Sp} (h : l.getD j sp0 = x) : prevS l (j + 1) = x.2 := by
  unfold prevS; rw [if_neg (by omega), show j + 1 - 1 = j by omega, h]

theorem isS_loop {K : Nat} {l : List Sp} {n : Int} (hl : l.length ≤ 60) : ∀ (rest : List Sp) (j k : Nat), l.drop j = rest → rest.length < k → 0 ≤ (prevS l j).1 →
    spans_Is_ng.l0 K l n k (j : Int) = some (okS (min n 20000) (prevS l j).1 (prevS l j).2 rest)
  | [], j, k, hd, hk, h0 => by
    obtain ⟨k, rfl⟩ : ∃ m, k = m + 1 := ⟨k - 1, by omega⟩
    have := drop_nil hd
    rw [spans_Is_ng.l0, if_neg (by simp; omega)]; rfl
  | x :: rest, j, k, hd, hk, h0 => by
    obtain ⟨k, rfl⟩ : ∃ m, k = m + 1 := ⟨k - 1, by omega⟩
    obtain ⟨hj, hx, hd'⟩ := drop_cons hd sp0
    rw [List.length_cons] at hk
    have hw : IntKind.wrap .i64 ((j : Int) + 1) = ((j + 1 : Nat) : Int) := by rw [w64 (by omega) (by omega)]; omega
    rw [spans_Is_ng.l0, if_pos (by simp; omega), if_pos (by omega)]
    simp only [Int.toNat_natCast, hx, within_is, Option.bind_some, hw, mn2_is]
    have hc : ∀ (c d : Bool) (F : Bool → Option Bool), (if c = true then some true else some d : Option Bool).bind F = F (c || d) := fun c d F => by cases c <;> rfl
    have e1 : (if (!decide (1 ≤ x.2.2 ∧ x.2.2 ≤ 100)) = true then some true else if decide (x.1 < 0) = true then some true else if decide (x.1 ≥ x.2.1) = true then some true else some (decide (x.2.1 > min n 20000))) = some (decide (¬ (1 ≤ x.2.2 ∧ x.2.2 ≤ 100 ∧ 0 ≤ x.1 ∧ x.1 < x.2.1 ∧ x.2.1 ≤ min n 20000))) := by
      by_cases h1 : 1 ≤ x.2.2 ∧ x.2.2 ≤ 100
      · rw [if_neg (by simp [h1])]
        by_cases h2 : x.1 < 0
        · rw [if_pos (by simpa using h2)]; congr 1; symm; rw [decide_eq_true_eq]; omega
        · rw [if_neg (by simpa using h2)]
          by_cases h3 : x.1 ≥ x.2.1
          · rw [if_pos (by simpa using h3)]; congr 1; symm; rw [decide_eq_true_eq]; omega
          · rw [if_neg (by simpa using h3)]; congr 1; rw [decide_eq_decide]; omega
      · rw [if_pos (by simp only [Bool.not_eq_true', decide_eq_false_iff_not]; exact h1)]; congr 1; symm; rw [decide_eq_true_eq]; omega
    rw [e1, Option.bind_some]
    by_cases hA : 1 ≤ x.2.2 ∧ x.2.2 ≤ 100 ∧ 0 ≤ x.1 ∧ x.1 < x.2.1 ∧ x.2.1 ≤ min n 20000
    · rw [if_neg (by simp only [decide_eq_true_eq]; exact fun h => h hA)]
      have ih := isS_loop (K := K) (n := n) hl rest (j + 1) k hd' (by omega) (by rw [prevS_succ hx]; omega)
      rw [prevS_succ hx] at ih
      by_cases hj0 : j = 0
      · subst hj0
        rw [if_neg (by simp), Option.bind_some, if_neg (by simp), ih, okS]
        rw [show prevS l 0 = (0, 0) from rfl]
        simp only
        rw [decide_eq_true (by omega), Bool.true_and]
      · have hw2 : IntKind.wrap .i64 ((j : Int) - 1) = ((j - 1 : Nat) : Int) := by rw [w64 (by omega) (by omega)]; omega
        have hp : prevS l j = (l.getD (j - 1) sp0).2 := by unfold prevS; rw [if_neg hj0]
        rw [if_pos (by simp; omega)]
        simp only [hw2, Int.toNat_natCast, ← hp]
        have e2 : (if decide (x.1 < (prevS l j).1) = true then if (0 : Int) ≤ ((j - 1 : Nat) : Int) ∧ ((j - 1 : Nat) : Int) < (l.length : Int) then some true else none else if (x.1 == (prevS l j).1) = true then if (0 : Int) ≤ ((j - 1 : Nat) : Int) ∧ ((j - 1 : Nat) : Int) < (l.length : Int) then some (x.2.2 == (prevS l j).2) else none else if (0 : Int) ≤ ((j - 1 : Nat) : Int) ∧ ((j - 1 : Nat) : Int) < (l.length : Int) then some false else none) = some (decide (¬ ((prevS l j).1 ≤ x.1 ∧ ¬ (x.1 = (prevS l j).1 ∧ x.2.2 = (prevS l j).2)))) := by
          have hb : (0 : Int) ≤ ((j - 1 : Nat) : Int) ∧ ((j - 1 : Nat) : Int) < (l.length : Int) := by omega
          rw [if_pos hb, if_pos hb, if_pos hb]
          by_cases h1 : x.1 < (prevS l j).1
          · rw [if_pos (by simpa using h1)]; congr 1; symm; rw [decide_eq_true_eq]; omega
          · rw [if_neg (by simpa using h1)]
            by_cases h2 : x.1 = (prevS l j).1
            · rw [if_pos (by simpa using h2)]; congr 1
              rw [Bool.eq_iff_iff, beq_iff_eq, decide_eq_true_eq]; omega
            · rw [if_neg (by simpa using h2)]; congr 1; symm; rw [decide_eq_false_iff_not]; omega
        rw [e2, Option.bind_some, okS]
        by_cases hB : (prevS l j).1 ≤ x.1 ∧ ¬ (x.1 = (prevS l j).1 ∧ x.2.2 = (prevS l j).2)
        · rw [if_neg (by simp only [decide_eq_true_eq]; exact fun h => h hB), ih, decide_eq_true (by omega), Bool.true_and]
        · rw [if_pos (by simp only [decide_eq_true_eq]; exact hB), decide_eq_false (by omega), Bool.false_and]
    · rw [if_pos (by simp only [decide_eq_true_eq]; exact hA), okS, decide_eq_false (by omega), Bool.false_and]

theorem isS_is {K : Nat} {l : List Sp} {n : Int} (hK : 1000 ≤ K) : spans_Is_ng K l n = some (isS15 n l) := by
  unfold spans_Is_ng isS15
  by_cases h : l.length ≤ 60
  · rw [if_neg (by simp; omega), decide_eq_true h, Bool.true_and]
    exact isS_loop h l 0 K rfl (by omega) (by simp [prevS])
  · rw [if_pos (by simp; omega), decide_eq_false h, Bool.false_and]

theorem add_is {K : Nat} {r : List Sp} {a b s : Int} (hr : r.length ≤ 1000000) : spans_row_add_bggg_b0cf7 K r a b s = some (r ++ if a < b then [(a, (b, s))] else []) := by
  unfold spans_row_add_bggg_b0cf7
  by_cases h : a < b
  · rw [if_pos (by simpa using h), if_pos (by simp; omega), if_pos h]
  · rw [if_neg (by simpa using h), if_neg h, List.append_nil]

theorem sorted_loop {K : Nat} {Z W : List Sp} {r : List Sp × List Sp} : ∀ (rest : List Sp) (j k : Nat) (out : List Sp), Z.drop j = rest → rest.length < k → Z.length ≤ 100000 → out.length ≤ j →
    spans_row_sorted_r.l0 K Z k out (j : Int) = some (rest.foldl stepS out, Z)
  | [], j, k, out, hd, hk, hl, ho => by
    obtain ⟨k, rfl⟩ : ∃ m, k = m + 1 := ⟨k - 1, by omega⟩
    have := drop_nil hd
    rw [spans_row_sorted_r.l0, if_neg (by simp; omega)]; rfl
  | x :: rest, j, k, out, hd, hk, hl, ho => by
    obtain ⟨k, rfl⟩ : ∃ m, k = m + 1 := ⟨k - 1, by omega⟩
    obtain ⟨hj, hx, hd'⟩ := drop_cons hd sp0
    rw [List.length_cons] at hk
    have hw : IntKind.wrap .i64 ((j : Int) + 1) = ((j + 1 : Nat) : Int) := by rw [w64 (by omega) (by omega)]; omega
    rw [spans_row_sorted_r.l0, if_pos (by simp; omega), if_pos (by omega)]
    simp only [Int.toNat_natCast, hx, hw, eta3]
    have hsl := stepS_len (l := out) (x := x)
    rw [List.foldl_cons, ← sorted_loop (K := K) (W := W) (r := r) rest (j + 1) k (stepS out x) hd' (by omega) hl (by omega)]
    cases ho' : out with
    | nil =>
      rw [if_neg (by rw [List.length_nil]; decide), Option.bind_some, if_neg (by simp), if_pos (by simp)]
      rfl
    | cons y out' =>
      have hne : out ≠ [] := by rw [ho']; simp
      rw [← ho']
      have hlen : 1 ≤ out.length := by rw [ho']; simp
      have hw2 : IntKind.wrap .i64 ((out.length : Int) - 1) = ((out.length - 1 : Nat) : Int) := by rw [w64 (by omega) (by omega)]; omega
      rw [hw2]
      have hb : (0 : Int) ≤ ((out.length - 1 : Nat) : Int) ∧ ((out.length - 1 : Nat) : Int) < (out.length : Int) := by omega
      rw [if_pos hb, if_pos hb, if_pos hb, if_pos (by simp)]
      simp only [Int.toNat_natCast]
      unfold stepS
      by_cases h1 : (out.getD (out.length - 1) sp0).2.2 = x.2.2
      · rw [if_pos (by simpa using h1), Option.bind_some]
        by_cases h2 : (out.getD (out.length - 1) sp0).2.1 = x.1
        · rw [if_pos (by simpa using h2), if_pos ⟨hne, h1, h2⟩]
        · rw [if_neg (by simpa using h2), if_pos (by simp; omega), if_neg (fun h => h2 h.2.2)]
      · rw [if_neg (by simpa using h1), Option.bind_some, if_neg (by simp), if_pos (by simp; omega), if_neg (fun h => h1 h.2.1)]

theorem told15_loop {K : Nat} {r : List Sp × List Sp} (hl : r.1.length ≤ 1000000) : ∀ (rest : List Sp) (j k : Nat) (out : List Sp), r.1.drop j = rest → rest.length < k → out.length ≤ j →
    spans_told_r.l0 K r k out (j : Int) = some (out ++ rest, (0, r.2))
  | [], j, k, out, hd, hk, ho => by
    obtain ⟨k, rfl⟩ : ∃ m, k = m + 1 := ⟨k - 1, by omega⟩
    have := drop_nil hd
    rw [spans_told_r.l0, if_neg (by simp; omega), List.append_nil]
  | x :: rest, j, k, out, hd, hk, ho => by
    obtain ⟨k, rfl⟩ : ∃ m, k = m + 1 := ⟨k - 1, by omega⟩
    obtain ⟨hj, hx, hd'⟩ := drop_cons hd sp0
    rw [List.length_cons] at hk
    have hw : IntKind.wrap .i64 ((j : Int) + 1) = ((j + 1 : Nat) : Int) := by rw [w64 (by omega) (by omega)]; omega
    rw [spans_told_r.l0, if_pos (by simp; omega), if_pos (by simp; omega)]
    simp only [Int.toNat_natCast, hx, hw, eta3]
    rw [told15_loop hl rest (j + 1) k (out ++ [x]) hd' (by omega) (by simp; omega)]
    simp

/-- What is told of a row of runs that lie apart. -/
theorem told15_is {K : Nat} {n : Int} {r : List Sp} (hK : 100000 < K) (hl : r.length ≤ 30000) (hd : r.Pairwise Dj) (hf : ∀ x ∈ r, Fn n x) :
    ∃ C Z, okS n 0 0 C = true ∧ (∀ k, atS C k = atS r k) ∧ C.length ≤ r.length ∧ spans_told_r K r = some (if C.length > 60 then ([], (70, Z)) else (C, (0, Z))) := by
  obtain ⟨Z, e1, e2, e3⟩ := stable_is (K := K) (X := r) hK hl
  obtain ⟨c1, c2⟩ := canon_is e2 e3 hd hf
  have hZ : Z.length = r.length := e2.length_eq
  have hfl := fold_len (r := Z) (acc := [])
  rw [List.length_nil] at hfl
  refine ⟨Z.foldl stepS [], Z, c1, c2, by omega, ?_⟩
  unfold spans_told_r spans_row_sorted_r
  have hs := sorted_loop (K := K) (W := []) (r := ([], [])) Z 0 K [] rfl (by omega) (by omega) (by simp)
  rw [show ((0 : Nat) : Int) = 0 from rfl] at hs
  rw [e1, Option.bind_some, hs, Option.bind_some]
  by_cases h : (Z.foldl stepS []).length > 60
  · rw [if_pos (by simp only [decide_eq_true_eq]; omega), if_pos h]
  · rw [if_neg (by simp only [decide_eq_true_eq]; omega), if_neg h]
    have := told15_loop (K := K) (r := (Z.foldl stepS [], Z)) (by simp only; omega) (Z.foldl stepS []) 0 K [] rfl (by omega) (by simp)
    rw [List.nil_append] at this
    exact this

/-- The parts of a row outside an interval. -/
def cutS (a b : Int) : List Sp → List Sp
  | [] => []
  | x :: l => (if a = b then [x] else (if x.1 < min x.2.1 a then [(x.1, (min x.2.1 a, x.2.2))] else []) ++ (if max x.1 b < x.2.1 then [(max x.1 b, (x.2.1, x.2.2))] else [])) ++ cutS a b l

theorem cutS_len_ge {a b : Int} (hab : a ≤ b) : ∀ {l : List Sp}, (∀ x ∈ l, b ≤ x.1) → (cutS a b l).length ≤ l.length
  | [], _ => by simp [cutS]
  | x :: l, h => by
    have := cutS_len_ge hab (l := l) fun y hy => h y (by simp [hy])
    have hx := h x (by simp)
    rw [cutS, List.length_append, List.length_cons]
    split
    · simp; omega
    · rw [if_neg (by omega)]
      split <;> simp <;> omega

theorem cutS_len2 {n a b : Int} (hab : a ≤ b) : ∀ {l : List Sp} {to st : Int}, okS n to st l = true → 0 ≤ to → (cutS a b l).length ≤ l.length + 1
  | [], _, _, _, _ => by simp [cutS]
  | x :: l, to, st, h, h0 => by
    rw [okS_cons] at h
    rw [cutS, List.length_append, List.length_cons]
    by_cases hc : x.1 < min x.2.1 a ∧ max x.1 b < x.2.1
    · have := cutS_len_ge hab (l := l) fun y hy => by have := (okS_mem h.2 (by omega) y hy).2; omega
      split
      · simp; omega
      · rw [if_pos hc.1, if_pos hc.2]; simp; omega
    · have := cutS_len2 hab h.2 (by omega)
      split
      · simp; omega
      · split <;> split <;> simp <;> omega

theorem put_loop {K : Nat} {l : List Sp} {a b : Int} (hl : l.length ≤ 60) : ∀ (rest : List Sp) (j k : Nat) (out : List Sp), l.drop j = rest → rest.length < k → out.length ≤ 2 * j → (∀ x ∈ rest, x.1 < x.2.1) →
    spans_Put_nsggg.l0 K l a b k out (j : Int) = some (out ++ cutS a b rest)
  | [], j, k, out, hd, hk, ho, hn => by
    obtain ⟨k, rfl⟩ : ∃ m, k = m + 1 := ⟨k - 1, by omega⟩
    have := drop_nil hd
    rw [spans_Put_nsggg.l0, if_neg (by simp; omega), cutS, List.append_nil]
  | x :: rest, j, k, out, hd, hk, ho, hn => by
    obtain ⟨k, rfl⟩ : ∃ m, k = m + 1 := ⟨k - 1, by omega⟩
    obtain ⟨hj, hx, hd'⟩ := drop_cons hd sp0
    rw [List.length_cons] at hk
    have hw : IntKind.wrap .i64 ((j : Int) + 1) = ((j + 1 : Nat) : Int) := by rw [w64 (by omega) (by omega)]; omega
    have hx0 := hn x (by simp)
    rw [spans_Put_nsggg.l0, if_pos (by simp; omega), if_pos (by omega)]
    simp only [Int.toNat_natCast, hx, hw, mn2_is, mx2_is]
    by_cases h : a = b
    · rw [if_pos (by simpa using h), add_is (by omega), Option.bind_some, if_pos hx0, put_loop hl rest (j + 1) k _ hd' (by omega) (by simp; omega) (fun y hy => hn y (by simp [hy])), cutS, if_pos h]
      simp
    · rw [if_neg (by simpa using h), add_is (by omega), Option.bind_some, add_is (by rw [List.length_append]; split <;> simp <;> omega), Option.bind_some,
        put_loop hl rest (j + 1) k _ hd' (by omega) (by simp only [List.length_append]; split <;> split <;> simp <;> omega) (fun y hy => hn y (by simp [hy])), cutS, if_neg h]
      simp

theorem cutS_mem {a b : Int} {y : Sp} : ∀ {l : List Sp}, y ∈ cutS a b l → ∃ x ∈ l, x.1 ≤ y.1 ∧ y.2.1 ≤ x.2.1 ∧ y.2.2 = x.2.2 ∧ (a ≠ b → y.1 < y.2.1 ∧ (y.2.1 ≤ a ∨ b ≤ y.1)) ∧ (a = b → y = x)
  | [], h => by cases h
  | x :: l, h => by
    rw [cutS] at h
    rcases List.mem_append.1 h with h | h
    · refine ⟨x, by simp, ?_⟩
      split at h
      · rename_i hab
        rw [List.mem_singleton.1 h]
        exact ⟨Int.le_refl _, Int.le_refl _, rfl, fun h => (h hab).elim, fun _ => rfl⟩
      · rename_i hab
        rcases List.mem_append.1 h with h | h
        · split at h
          · rw [List.mem_singleton.1 h]
            exact ⟨Int.le_refl _, by simp only; omega, rfl, fun _ => ⟨by simp only; omega, .inl (by simp only; omega)⟩, fun h => (hab h).elim⟩
          · cases h
        · split at h
          · rw [List.mem_singleton.1 h]
            exact ⟨by simp only; omega, Int.le_refl _, rfl, fun _ => ⟨by simp only; omega, .inr (by simp only; omega)⟩, fun h => (hab h).elim⟩
          · cases h
    · obtain ⟨z, hz, h'⟩ := cutS_mem h
      exact ⟨z, by simp [hz], h'⟩

theorem cutS_dj {n a b : Int} (hab : a ≤ b) : ∀ {l : List Sp} {to st : Int}, okS n to st l = true → 0 ≤ to → (cutS a b l).Pairwise Dj
  | [], _, _, _, _ => List.Pairwise.nil
  | x :: l, to, st, h, h0 => by
    have hm := okS_mem h h0
    rw [okS_cons] at h
    rw [cutS]
    refine List.pairwise_append.2 ⟨?_, cutS_dj hab h.2 (by omega), fun y hy z hz => ?_⟩
    · split
      · exact List.pairwise_singleton _ _
      · split <;> split <;> simp [Dj] <;> omega
    · obtain ⟨w, hw, w1, w2, w3, w4, w5⟩ := cutS_mem hz
      have := (okS_mem h.2 (by omega) w hw).2
      have hy2 : y.2.1 ≤ x.2.1 := by
        split at hy
        · rw [List.mem_singleton.1 hy]; omega
        · rcases List.mem_append.1 hy with hy | hy <;> split at hy
          · rw [List.mem_singleton.1 hy]; simp only; omega
          · cases hy
          · rw [List.mem_singleton.1 hy]; simp only; omega
          · cases hy
      exact .inl (by omega)

theorem cutS_cover {a b k : Int} {x : Sp} (hk : x.1 ≤ k ∧ k < x.2.1) (ho : ¬ (a ≤ k ∧ k < b)) (hab : a ≤ b) : ∀ {l : List Sp}, x ∈ l → ∃ y ∈ cutS a b l, y.1 ≤ k ∧ k < y.2.1 ∧ y.2.2 = x.2.2
  | [], h => by cases h
  | z :: l, h => by
    rw [cutS]
    rcases List.mem_cons.1 h with rfl | h
    · by_cases e : a = b
      · exact ⟨x, by rw [if_pos e]; simp, hk.1, hk.2, rfl⟩
      · rw [if_neg e]
        by_cases h1 : k < a
        · exact ⟨(x.1, (min x.2.1 a, x.2.2)), by rw [if_pos (by omega)]; simp, hk.1, by simp only; omega, rfl⟩
        · refine ⟨(max x.1 b, (x.2.1, x.2.2)), ?_, by simp only; omega, hk.2, rfl⟩
          rw [if_pos (show max x.1 b < x.2.1 by omega)]
          simp
    · obtain ⟨y, hy, h'⟩ := cutS_cover hk ho hab h
      exact ⟨y, List.mem_append.2 (.inr hy), h'⟩

def updS (f : Int → Int) (a b s k : Int) : Int := if a ≤ k ∧ k < b then s else f k

/-- The parts outside, and what is put in between. -/
theorem put_parts {n a b s : Int} {l : List Sp} (hl : okS n 0 0 l = true) (h0 : 0 ≤ a) (hab : a ≤ b) (hb : b ≤ n) (hs : 0 ≤ s ∧ s ≤ 100) :
    (cutS a b l ++ if s > 0 then (if a < b then [(a, (b, s))] else []) else []).Pairwise Dj ∧ (∀ x ∈ cutS a b l ++ (if s > 0 then (if a < b then [(a, (b, s))] else []) else []), Fn n x) ∧
      ∀ k, atS (cutS a b l ++ if s > 0 then (if a < b then [(a, (b, s))] else []) else []) k = updS (atS l) a b s k := by
  have hm := okS_mem hl (Int.le_refl 0)
  have hmem : ∀ x ∈ (if s > 0 then (if a < b then [(a, (b, s))] else []) else [] : List Sp), x = (a, (b, s)) ∧ s > 0 ∧ a < b := by
    intro x hx
    split at hx
    · split at hx
      · rename_i h1 h2; exact ⟨List.mem_singleton.1 hx, h1, h2⟩
      · cases hx
    · cases hx
  have hpw : (cutS a b l ++ if s > 0 then (if a < b then [(a, (b, s))] else []) else []).Pairwise Dj := by
    refine List.pairwise_append.2 ⟨cutS_dj hab hl (Int.le_refl 0), ?_, fun y hy z hz => ?_⟩
    · split
      · split <;> simp
      · simp
    · obtain ⟨rfl, h1, h2⟩ := hmem z hz
      obtain ⟨x, hx, w1, w2, w3, w4, w5⟩ := cutS_mem hy
      rcases (w4 (by omega)).2 with h | h
      · exact .inl h
      · exact .inr h
  have hfn : ∀ x ∈ cutS a b l ++ (if s > 0 then (if a < b then [(a, (b, s))] else []) else []), Fn n x := by
    intro y hy
    rcases List.mem_append.1 hy with hy | hy
    · obtain ⟨x, hx, w1, w2, w3, w4, w5⟩ := cutS_mem hy
      have hx' := (hm x hx).1
      unfold Fn at hx' ⊢
      by_cases e : a = b
      · rw [w5 e]; exact hx'
      · have := w4 e; omega
    · obtain ⟨rfl, h1, h2⟩ := hmem y hy
      exact ⟨h0, h2, hb, by simp only; omega, hs.2⟩
  refine ⟨hpw, hfn, fun k => eq_of_vals fun v hv => ?_⟩
  rw [atS_iff hpw hfn hv]
  unfold updS
  constructor
  · rintro ⟨y, hy, y1, y2, y3⟩
    rcases List.mem_append.1 hy with hy | hy
    · obtain ⟨x, hx, w1, w2, w3, w4, w5⟩ := cutS_mem hy
      rw [if_neg (by
        intro hk
        by_cases e : a = b
        · omega
        · have := (w4 e).2; omega), atS_iff (od_dj (okS_ord hl (Int.le_refl 0))) (fun x hx => (hm x hx).1) hv]
      exact ⟨x, hx, by omega, by omega, by omega⟩
    · obtain ⟨rfl, h1, h2⟩ := hmem y hy
      rw [if_pos ⟨y1, y2⟩]; exact y3
  · intro h
    split at h
    · rename_i hk
      subst h
      exact ⟨(a, (b, s)), List.mem_append.2 (.inr (by rw [if_pos (by omega), if_pos (by omega)]; simp)), hk.1, hk.2, rfl⟩
    · rename_i hk
      obtain ⟨x, hx, x1, x2, x3⟩ := (atS_iff (od_dj (okS_ord hl (Int.le_refl 0))) (fun x hx => (hm x hx).1) hv).1 h
      obtain ⟨y, hy, y1, y2, y3⟩ := cutS_cover ⟨x1, x2⟩ hk hab hx
      exact ⟨y, List.mem_append.2 (.inl hy), y1, y2, by rw [y3, x3]⟩

/-- Put. -/
theorem put15_bad {K : Nat} {l : List Sp} {a b s : Int} (hK : 100000 < K) (h : ¬ (isS15 20000 l = true ∧ 0 ≤ s ∧ s ≤ 100 ∧ 0 ≤ a ∧ a ≤ b ∧ b ≤ 20000)) : spans_Put_nsggg K l a b s = some ([], 12) := by
  unfold spans_Put_nsggg
  rw [isS_is (by omega), Option.bind_some, within_is, Option.bind_some]
  have : (if (!isS15 20000 l) = true then some true else if (!decide ((0 : Int) ≤ s ∧ s ≤ 100)) = true then some true else if decide (a < 0) = true then some true else if decide (a > b) = true then some true else some (decide (b > 20000))) = some true := by
    cases hi : isS15 20000 l with
    | false => rfl
    | true =>
      rw [if_neg (by simp)]
      by_cases h1 : (0 : Int) ≤ s ∧ s ≤ 100
      · rw [if_neg (by simp [h1])]
        by_cases h2 : a < 0
        · rw [if_pos (by simpa using h2)]
        · rw [if_neg (by simpa using h2)]
          by_cases h3 : a > b
          · rw [if_pos (by simpa using h3)]
          · rw [if_neg (by simpa using h3)]
            congr 1; rw [decide_eq_true_eq]
            rcases Int.lt_or_le 20000 b with h4 | h4
            · exact h4
            · exact (h ⟨hi, h1.1, h1.2, by omega, by omega, h4⟩).elim
      · rw [if_pos (by simp only [Bool.not_eq_true', decide_eq_false_iff_not]; exact h1)]
  rw [this, Option.bind_some, if_pos rfl]

theorem put15_is {K : Nat} {l : List Sp} {a b s n : Int} (hK : 100000 < K) (hll : l.length ≤ 60) (hl : okS n 0 0 l = true) (hn : n ≤ 20000) (hs : 0 ≤ s ∧ s ≤ 100) (ha : 0 ≤ a) (hab : a ≤ b) (hb : b ≤ n) :
    ∃ C, okS n 0 0 C = true ∧ (∀ k, atS C k = updS (atS l) a b s k) ∧ C.length ≤ l.length + 2 ∧ spans_Put_nsggg K l a b s = some (if C.length > 60 then ([], 70) else (C, 0)) := by
  obtain ⟨p1, p2, p3⟩ := put_parts hl ha hab hb hs
  have hcl := cutS_len2 (a := a) (b := b) hab hl (Int.le_refl 0)
  have hm := okS_mem hl (Int.le_refl 0)
  have hadd : (cutS a b l ++ if s > 0 then (if a < b then [(a, (b, s))] else []) else []).length ≤ l.length + 2 := by
    rw [List.length_append]; split
    · split <;> simp <;> omega
    · simp; omega
  obtain ⟨C, Z, c1, c2, c3, c4⟩ := told15_is (K := K) hK (by omega) p1 p2
  refine ⟨C, c1, fun k => by rw [c2, p3], by omega, ?_⟩
  unfold spans_Put_nsggg
  have hi : isS15 20000 l = true := by unfold isS15; rw [decide_eq_true hll, Bool.true_and]; exact okS_mono (by omega) hl
  rw [isS_is (by omega), Option.bind_some, hi, within_is, Option.bind_some]
  have e1 : (if (!true) = true then some true else if (!decide ((0 : Int) ≤ s ∧ s ≤ 100)) = true then some true else if decide (a < 0) = true then some true else if decide (a > b) = true then some true else some (decide (b > 20000))) = some false := by
    rw [if_neg (by simp), if_neg (by simp [hs]), if_neg (by simp; omega), if_neg (by simp; omega)]
    congr 1; rw [decide_eq_false_iff_not]; omega
  have hpl := put_loop (K := K) (a := a) (b := b) hll l 0 K [] rfl (by omega) (by simp) (fun x hx => (hm x hx).1.2.1)
  rw [show ((0 : Nat) : Int) = 0 from rfl] at hpl
  rw [e1, Option.bind_some, if_neg (by simp), hpl, Option.bind_some, List.nil_append]
  have e2 : (if decide (s > 0) = true then (spans_row_add_bggg_b0cf7 K (cutS a b l) a b s).bind (fun r_66 => some r_66) else some (cutS a b l)) = some (cutS a b l ++ if s > 0 then (if a < b then [(a, (b, s))] else []) else []) := by
    by_cases h : s > 0
    · rw [if_pos (by simpa using h), add_is (by omega), Option.bind_some, if_pos h]
    · rw [if_neg (by simpa using h), if_neg h, List.append_nil]
  rw [e2, Option.bind_some, c4, Option.bind_some]
  split <;> rfl

theorem at_loop {K : Nat} {l : List Sp} {a : Int} (hl : l.length ≤ 1000000) : ∀ (rest : List Sp) (j k : Nat), l.drop j = rest → rest.length < k →
    spans_At_rg.l0 K l a k (j : Int) = some (atS rest a)
  | [], j, k, hd, hk => by
    obtain ⟨k, rfl⟩ : ∃ m, k = m + 1 := ⟨k - 1, by omega⟩
    have := drop_nil hd
    rw [spans_At_rg.l0, if_neg (by simp; omega)]; rfl
  | x :: rest, j, k, hd, hk => by
    obtain ⟨k, rfl⟩ : ∃ m, k = m + 1 := ⟨k - 1, by omega⟩
    obtain ⟨hj, hx, hd'⟩ := drop_cons hd sp0
    rw [List.length_cons] at hk
    have hw : IntKind.wrap .i64 ((j : Int) + 1) = ((j + 1 : Nat) : Int) := by rw [w64 (by omega) (by omega)]; omega
    rw [spans_At_rg.l0, if_pos (by simp; omega), if_pos (by omega)]
    simp only [Int.toNat_natCast, hx, hw, at_loop hl rest (j + 1) k hd' (by omega)]
    rw [atS]
    by_cases h1 : a ≥ x.1
    · rw [if_pos (by simpa using h1), Option.bind_some]
      by_cases h2 : a < x.2.1
      · rw [if_pos (by simpa using h2), if_pos ⟨h1, h2⟩]
      · rw [if_neg (by simpa using h2), if_neg (fun h => h2 h.2)]
    · rw [if_neg (by simpa using h1), Option.bind_some, if_neg (by simp), if_neg (fun h => h1 h.1)]

theorem at_is {K : Nat} {l : List Sp} {a : Int} (hl : l.length ≤ 1000000) (hK : l.length < K) : spans_At_rg K l a = some (atS l a) := at_loop hl l 0 K rfl hK

theorem sp_beq {a b : Sp} : ((a.1 == b.1) && ((a.2.1 == b.2.1) && (a.2.2 == b.2.2))) = decide (a = b) := by
  obtain ⟨a1, a2, a3⟩ := a; obtain ⟨b1, b2, b3⟩ := b
  rw [Bool.eq_iff_iff]; simp [Prod.ext_iff]

theorem same15_loop {K : Nat} {a b : List Sp} (hl : a.length = b.length) (hs : a.length < 1000000000000) : ∀ (d j k : Nat), j + d = a.length → d < k →
    palinodelaw15_same_rr.l0 K a b k (j : Int) = some (decide (a.drop j = b.drop j))
  | 0, j, k, hj, hk => by
    obtain ⟨k, rfl⟩ : ∃ m, k = m + 1 := ⟨k - 1, by omega⟩
    rw [palinodelaw15_same_rr.l0, if_neg (by simp; omega), List.drop_eq_nil_of_le (by omega), List.drop_eq_nil_of_le (by omega)]
    simp
  | d + 1, j, k, hj, hk => by
    obtain ⟨k, rfl⟩ : ∃ m, k = m + 1 := ⟨k - 1, by omega⟩
    have hw : IntKind.wrap .i64 ((j : Int) + 1) = ((j + 1 : Nat) : Int) := by rw [w64 (by omega) (by omega)]; omega
    have ha : a.drop j = a.getD j sp0 :: a.drop (j + 1) := by rw [List.drop_eq_getElem_cons (by omega)]; simp [List.getD, List.getElem?_eq_getElem (show j < a.length by omega)]
    have hb : b.drop j = b.getD j sp0 :: b.drop (j + 1) := by rw [List.drop_eq_getElem_cons (by omega)]; simp [List.getD, List.getElem?_eq_getElem (show j < b.length by omega)]
    rw [palinodelaw15_same_rr.l0, if_pos (by simp; omega), if_pos (by omega)]
    simp only [Int.toNat_natCast, sp_beq, hw, same15_loop hl hs d (j + 1) k (by omega) (by omega), ha, hb, List.cons.injEq]
    by_cases h : a.getD j sp0 = b.getD j sp0
    · rw [h, decide_eq_true rfl, if_neg (by simp)]; congr 1; rw [decide_eq_decide]; exact ⟨fun e => ⟨rfl, e⟩, fun e => e.2⟩
    · rw [decide_eq_false h, if_pos (by simp)]; congr 1; symm; rw [decide_eq_false_iff_not]; exact fun e => h e.1

theorem same15_is {K : Nat} {a b : List Sp} (hs : a.length < 1000000000000) (hb : b.length < 1000000000000) (hK : a.length < K) : palinodelaw15_same_rr K a b = some (decide (a = b)) := by
  unfold palinodelaw15_same_rr
  by_cases h : a.length = b.length
  · rw [if_neg (by simp [h])]
    have := same15_loop (K := K) h hs a.length 0 K (by omega) hK
    simpa using this
  · rw [if_pos (by simp; omega)]
    congr 1; symm; rw [decide_eq_false_iff_not]
    intro e; exact h (by rw [e])

/-- The parts within an interval. -/
def inSp (a b : Int) (l : List Sp) : List Sp := l.filterMap fun x => if max x.1 a < min x.2.1 b then some (max x.1 a, (min x.2.1 b, x.2.2)) else none

theorem in_loop {K : Nat} {l : List Sp} {a b : Int} (hl : l.length ≤ 1000000) : ∀ (rest : List Sp) (j k : Nat) (out : List Sp), l.drop j = rest → rest.length < k → out.length ≤ j →
    spans_In_rsgg.l0 K l a b k out (j : Int) = some (out ++ inSp a b rest)
  | [], j, k, out, hd, hk, ho => by
    obtain ⟨k, rfl⟩ : ∃ m, k = m + 1 := ⟨k - 1, by omega⟩
    have := drop_nil hd
    rw [spans_In_rsgg.l0, if_neg (by simp; omega)]; simp [inSp]
  | x :: rest, j, k, out, hd, hk, ho => by
    obtain ⟨k, rfl⟩ : ∃ m, k = m + 1 := ⟨k - 1, by omega⟩
    obtain ⟨hj, hx, hd'⟩ := drop_cons hd sp0
    rw [List.length_cons] at hk
    have hw : IntKind.wrap .i64 ((j : Int) + 1) = ((j + 1 : Nat) : Int) := by rw [w64 (by omega) (by omega)]; omega
    rw [spans_In_rsgg.l0, if_pos (by simp; omega), if_pos (by omega)]
    simp only [Int.toNat_natCast, hx, hw, mn2_is, mx2_is]
    by_cases h : max x.1 a < min x.2.1 b
    · rw [if_pos (by simpa using h), if_pos (by simp; omega), in_loop hl rest (j + 1) k _ hd' (by omega) (by simp; omega), inSp, inSp, List.filterMap_cons_some (by rw [if_pos h])]
      simp
    · rw [if_neg (by simpa using h), in_loop hl rest (j + 1) k _ hd' (by omega) (by omega), inSp, inSp, List.filterMap_cons_none (by rw [if_neg h])]

theorem in_is {K : Nat} {l : List Sp} {a b : Int} (hl : l.length ≤ 1000000) (hK : l.length < K) : spans_In_rsgg K l a b = some (inSp a b l) := in_loop hl l 0 K [] rfl hK (by simp)

theorem known15 {K : Nat} (hK : 100000 < K) : palinodelaw15_known K = some true := by
  unfold palinodelaw15_known
  obtain ⟨C1, a1, a2, a3, a4⟩ := put15_is (K := K) (l := []) (a := 0) (b := 9) (s := 1) (n := 20000) hK (by simp) rfl (by omega) (by omega) (by omega) (by omega) (by omega)
  have e1 : C1 = [((0 : Int), ((9 : Int), (1 : Int)))] := okS_unique (n := 20000) (m := 20000) (t1 := 0) (s1 := 0) (t2 := 0) (s2 := 0) a1 (by decide) (by omega) (by omega) fun k => by rw [a2]; unfold updS; simp [atS]
  subst e1
  rw [if_neg (by simp)] at a4
  obtain ⟨C2, b1, b2, b3, b4⟩ := put15_is (K := K) (l := [((0 : Int), ((9 : Int), (1 : Int)))]) (a := 3) (b := 5) (s := 2) (n := 20000) hK (by simp) a1 (by omega) (by omega) (by omega) (by omega) (by omega)
  have e2 : C2 = [((0 : Int), ((3 : Int), (1 : Int))), (3, (5, 2)), (5, (9, 1))] := okS_unique (n := 20000) (m := 20000) (t1 := 0) (s1 := 0) (t2 := 0) (s2 := 0) b1 (by decide) (by omega) (by omega) fun k => by
    rw [b2]; unfold updS; simp only [atS]
    by_cases h1 : (3 : Int) ≤ k ∧ k < 5
    · rw [if_pos h1, if_neg (by omega), if_pos h1]
    · rw [if_neg h1, if_neg h1]
      by_cases h2 : (0 : Int) ≤ k ∧ k < 3
      · rw [if_pos h2, if_pos (by omega)]
      · rw [if_neg h2]
        by_cases h3 : (5 : Int) ≤ k ∧ k < 9
        · rw [if_pos h3, if_pos (by omega)]
        · rw [if_neg h3, if_neg (by omega)]
  subst e2
  rw [if_neg (by simp)] at b4
  rw [a4, Option.bind_some]
  simp only
  rw [b4, Option.bind_some]
  simp only
  rw [put15_bad hK (by omega), Option.bind_some, in_is (by simp) (by simp; omega), Option.bind_some, at_is (by simp) (by simp; omega), at_is (by simp) (by simp; omega), isS_is (by omega), isS_is (by omega)]
  decide

theorem merge_n_loop {K : Nat} {m : List Sp} {n : Int} (hK : 100000 < K) (hl : m.length ≤ 60) (hn : n ≤ 20000) (hm : okS n 0 0 m = true) : ∀ (rest : List Sp) (j k : Nat), m.drop j = rest → rest.length < k →
    spans_Merge_nr.l0 K m k (m.take j) (j : Int) = some (m, 0)
  | [], j, k, hd, hk => by
    obtain ⟨k, rfl⟩ : ∃ m, k = m + 1 := ⟨k - 1, by omega⟩
    have := drop_nil hd
    rw [spans_Merge_nr.l0, if_neg (by simp; omega), List.take_of_length_le this]
  | x :: rest, j, k, hd, hk => by
    obtain ⟨k, rfl⟩ : ∃ m, k = m + 1 := ⟨k - 1, by omega⟩
    obtain ⟨hj, hx, hd'⟩ := drop_cons hd sp0
    rw [List.length_cons] at hk
    have hw : IntKind.wrap .i64 ((j : Int) + 1) = ((j + 1 : Nat) : Int) := by rw [w64 (by omega) (by omega)]; omega
    have hxm : x ∈ m := by rw [← hx]; simp [List.getD, List.getElem?_eq_getElem hj]
    have hfx := (okS_mem hm (Int.le_refl 0) x hxm).1
    have hsub : ∀ {l r : List Sp} {t s : Int}, okS n t s (l ++ r) = true → okS n t s l = true := by
      intro l
      induction l with
      | nil => intro r t s _; rfl
      | cons y l ih => intro r t s h; rw [List.cons_append, okS_cons] at h; rw [okS_cons]; exact ⟨h.1, ih h.2⟩
    have htk : okS n 0 0 (m.take j) = true := hsub (r := m.drop j) (by rw [List.take_append_drop]; exact hm)
    have htk1 : okS n 0 0 (m.take (j + 1)) = true := hsub (r := m.drop (j + 1)) (by rw [List.take_append_drop]; exact hm)
    have et : m.take (j + 1) = m.take j ++ [x] := by
      rw [List.take_add_one, List.getElem?_eq_getElem hj]
      congr 1
      have : m.getD j sp0 = m[j] := by simp [List.getD, List.getElem?_eq_getElem hj]
      rw [← hx, this]; rfl
    have hod := okS_ord htk1 (Int.le_refl 0)
    rw [et] at hod
    have hod2 := (List.pairwise_append.1 hod).2.2
    unfold Fn at hfx
    obtain ⟨C, c1, c2, c3, c4⟩ := put15_is (K := K) (l := m.take j) (a := x.1) (b := x.2.1) (s := x.2.2) hK (by rw [List.length_take]; omega) htk hn (by omega) (by omega) (by omega) (by omega)
    have hC : C = m.take (j + 1) := okS_unique c1 htk1 (Int.le_refl 0) (Int.le_refl 0) fun v => by
      rw [c2, et, atS_app (fun y hy => by have := (okS_mem htk (Int.le_refl 0) y hy).1; unfold Fn at this; omega)]
      unfold updS
      rw [atS, atS]
      by_cases hv : x.1 ≤ v ∧ v < x.2.1
      · rw [if_pos hv, if_pos hv, if_pos (atS_none fun y hy => by have := hod2 y hy x (by simp); unfold Od at this; omega)]
      · rw [if_neg hv, if_neg hv]; split <;> omega
    have hlt : (m.take (j + 1)).length ≤ 60 := by rw [List.length_take]; omega
    rw [hC, if_neg (by omega)] at c4
    rw [spans_Merge_nr.l0, if_pos (by simp; omega), if_pos (by omega)]
    simp only [Int.toNat_natCast, hx, hw]
    rw [c4, Option.bind_some, if_neg (by simp)]
    exact merge_n_loop hK hl hn hm rest (j + 1) k hd' (by omega)

theorem merge_n_is {K : Nat} {m : List Sp} {n : Int} (hK : 100000 < K) (hl : m.length ≤ 60) (hn : n ≤ 20000) (hm : okS n 0 0 m = true) : spans_Merge_nr K [] m = some (m, 0) := by
  unfold spans_Merge_nr
  have hi : isS15 20000 m = true := by unfold isS15; rw [decide_eq_true hl, Bool.true_and]; exact okS_mono (by omega) hm
  rw [isS_is (by omega), isS_is (by omega), Option.bind_some, hi, Option.bind_some, if_neg (by decide), Option.bind_some, if_neg (by simp), if_pos (by simp)]
  exact merge_n_loop hK hl hn hm m 0 K rfl (by omega)

theorem merge_r_loop {K : Nat} {m : List Sp} {n : Int} (hK : 100000 < K) (hl : m.length ≤ 60) (hn : n ≤ 20000) (hm : okS n 0 0 m = true) : ∀ (rest : List Sp) (j k : Nat), m.drop j = rest → rest.length < k →
    spans_Merge_rr.l0 K m k m (j : Int) = some (m, 0)
  | [], j, k, hd, hk => by
    obtain ⟨k, rfl⟩ : ∃ m, k = m + 1 := ⟨k - 1, by omega⟩
    have := drop_nil hd
    rw [spans_Merge_rr.l0, if_neg (by simp; omega)]
  | x :: rest, j, k, hd, hk => by
    obtain ⟨k, rfl⟩ : ∃ m, k = m + 1 := ⟨k - 1, by omega⟩
    obtain ⟨hj, hx, hd'⟩ := drop_cons hd sp0
    rw [List.length_cons] at hk
    have hw : IntKind.wrap .i64 ((j : Int) + 1) = ((j + 1 : Nat) : Int) := by rw [w64 (by omega) (by omega)]; omega
    have hxm : x ∈ m := by rw [← hx]; simp [List.getD, List.getElem?_eq_getElem hj]
    have hfx := (okS_mem hm (Int.le_refl 0) x hxm).1
    have hfx' := hfx
    unfold Fn at hfx
    obtain ⟨C, c1, c2, c3, c4⟩ := put15_is (K := K) (l := m) (a := x.1) (b := x.2.1) (s := x.2.2) hK hl hm hn (by omega) (by omega) (by omega) (by omega)
    have hC : C = m := okS_unique c1 hm (Int.le_refl 0) (Int.le_refl 0) fun v => by
      rw [c2]
      unfold updS
      split
      · rename_i hv
        symm
        rw [atS_iff (od_dj (okS_ord hm (Int.le_refl 0))) (fun y hy => (okS_mem hm (Int.le_refl 0) y hy).1) (by omega)]
        exact ⟨x, hxm, hv.1, hv.2, rfl⟩
      · rfl
    rw [hC, if_neg (by omega)] at c4
    rw [spans_Merge_rr.l0, if_pos (by simp; omega), if_pos (by omega)]
    simp only [Int.toNat_natCast, hx, hw]
    rw [c4, Option.bind_some, if_neg (by simp)]
    exact merge_r_loop hK hl hn hm rest (j + 1) k hd' (by omega)

theorem merge_r_is {K : Nat} {m : List Sp} {n : Int} (hK : 100000 < K) (hl : m.length ≤ 60) (hn : n ≤ 20000) (hm : okS n 0 0 m = true) : spans_Merge_rr K m = some (m, 0) := by
  unfold spans_Merge_rr
  have hi : isS15 20000 m = true := by unfold isS15; rw [decide_eq_true hl, Bool.true_and]; exact okS_mono (by omega) hm
  rw [isS_is (by omega), Option.bind_some, hi, if_neg (by simp), Option.bind_some, Option.bind_some, if_neg (by simp), if_pos (by omega)]
  exact merge_r_loop hK hl hn hm m 0 K rfl (by omega)

theorem getD_set_int {l : List Int} {i j : Nat} {v : Int} (hj : j < l.length) : (l.set i v).getD j 0 = if i = j then v else l.getD j 0 := by
  rw [List.getD_eq_getElem?_getD, List.getElem?_set, List.getD_eq_getElem?_getD]
  by_cases h : i = j
  · subst h; rw [if_pos rfl, if_pos rfl, if_pos hj]; rfl
  · rw [if_neg h, if_neg h]

theorem rows1_loop {K : Nat} {l : List Sp} {i : Nat} {x : Sp} (hx : l.getD i sp0 = x) (h0 : 0 ≤ x.1) (ht : x.2.1 ≤ 200) : ∀ (d j k : Nat) (hv : List Int), (j : Int) + d = x.2.1 → d < k → hv.length = 200 →
    ∃ hw, palinodelaw15_SpansRows.l1 K l (i : Int) k hv (j : Int) = some hw ∧ hw.length = 200 ∧ ∀ v, v < 200 → hw.getD v 0 = if (j : Int) ≤ v ∧ (v : Int) < x.2.1 then x.2.2 else hv.getD v 0
  | 0, j, k, hv, hj, hk, hl => by
    obtain ⟨k, rfl⟩ : ∃ m, k = m + 1 := ⟨k - 1, by omega⟩
    rw [palinodelaw15_SpansRows.l1]
    simp only [Int.toNat_natCast, hx]
    rw [if_neg (by simp; omega)]
    exact ⟨hv, rfl, hl, fun v hv' => by rw [if_neg (by omega)]⟩
  | d + 1, j, k, hv, hj, hk, hl => by
    obtain ⟨k, rfl⟩ : ∃ m, k = m + 1 := ⟨k - 1, by omega⟩
    have hw : IntKind.wrap .i64 ((j : Int) + 1) = ((j + 1 : Nat) : Int) := by rw [w64 (by omega) (by omega)]; omega
    rw [palinodelaw15_SpansRows.l1]
    simp only [Int.toNat_natCast, hx, hw]
    rw [if_pos (by simp; omega), if_pos (by omega)]
    obtain ⟨hw', e1, e2, e3⟩ := rows1_loop (K := K) hx h0 ht d (j + 1) k (hv.set j x.2.2) (by omega) (by omega) (by simp; omega)
    refine ⟨hw', e1, e2, fun v hv' => ?_⟩
    rw [e3 v hv', getD_set_int (by omega)]
    by_cases h1 : ((j + 1 : Nat) : Int) ≤ v ∧ (v : Int) < x.2.1
    · rw [if_pos h1, if_pos (by omega)]
    · rw [if_neg h1]
      by_cases h2 : j = v
      · rw [if_pos h2, if_pos (by omega)]
      · rw [if_neg h2, if_neg (by omega)]

theorem rows0_loop {K : Nat} {l : List Sp} (hK : 100000 < K) (hl : l.length ≤ 25) : ∀ (rest : List Sp) (j k : Nat) (hv : List Int) (m : List Sp), l.drop j = rest → rest.length < k → j ≤ l.length → hv.length = 200 → okS 200 0 0 m = true → m.length ≤ 2 * j → (∀ v : Nat, v < 200 → hv.getD v 0 = atS m v) →
    ∃ hw m', palinodelaw15_SpansRows.l0 K l k hv m (j : Int) = some (.inr (hw, m')) ∧ hw.length = 200 ∧ okS 200 0 0 m' = true ∧ m'.length ≤ 60 ∧ ∀ v : Nat, v < 200 → hw.getD v 0 = atS m' v
  | [], j, k, hv, m, hd, hk, hj', h1, h2, h3, h4 => by
    obtain ⟨k, rfl⟩ : ∃ m, k = m + 1 := ⟨k - 1, by omega⟩
    have := drop_nil hd
    rw [palinodelaw15_SpansRows.l0, if_neg (by simp; omega)]
    exact ⟨hv, m, rfl, h1, h2, by omega, h4⟩
  | x :: rest, j, k, hv, m, hd, hk, hj', h1, h2, h3, h4 => by
    obtain ⟨k, rfl⟩ : ∃ m, k = m + 1 := ⟨k - 1, by omega⟩
    obtain ⟨hj, hx, hd'⟩ := drop_cons hd sp0
    rw [List.length_cons] at hk
    have hw : IntKind.wrap .i64 ((j : Int) + 1) = ((j + 1 : Nat) : Int) := by rw [w64 (by omega) (by omega)]; omega
    rw [palinodelaw15_SpansRows.l0, if_pos (by simp; omega), if_pos (by omega)]
    simp only [Int.toNat_natCast, hx, hw]
    have e1 : (if decide (x.1 < 0) = true then some true else if decide (x.2.1 < x.1) = true then some true else if decide (x.2.1 > 200) = true then some true else if decide (x.2.2 < 0) = true then some true else some (decide (x.2.2 > 100))) = some (decide (¬ (0 ≤ x.1 ∧ x.1 ≤ x.2.1 ∧ x.2.1 ≤ 200 ∧ 0 ≤ x.2.2 ∧ x.2.2 ≤ 100))) := by
      by_cases c1 : x.1 < 0
      · rw [if_pos (by simpa using c1)]; congr 1; symm; rw [decide_eq_true_eq]; omega
      rw [if_neg (by simpa using c1)]
      by_cases c2 : x.2.1 < x.1
      · rw [if_pos (by simpa using c2)]; congr 1; symm; rw [decide_eq_true_eq]; omega
      rw [if_neg (by simpa using c2)]
      by_cases c3 : x.2.1 > 200
      · rw [if_pos (by simpa using c3)]; congr 1; symm; rw [decide_eq_true_eq]; omega
      rw [if_neg (by simpa using c3)]
      by_cases c4 : x.2.2 < 0
      · rw [if_pos (by simpa using c4)]; congr 1; symm; rw [decide_eq_true_eq]; omega
      rw [if_neg (by simpa using c4)]
      congr 1; rw [decide_eq_decide]; omega
    rw [e1, Option.bind_some]
    by_cases hA : 0 ≤ x.1 ∧ x.1 ≤ x.2.1 ∧ x.2.1 ≤ 200 ∧ 0 ≤ x.2.2 ∧ x.2.2 ≤ 100
    · rw [if_neg (by simp only [decide_eq_true_eq]; exact fun h => h hA)]
      obtain ⟨C, c1, c2, c3, c4⟩ := put15_is (K := K) (l := m) (a := x.1) (b := x.2.1) (s := x.2.2) (n := 200) hK (by omega) h2 (by omega) (by omega) hA.1 hA.2.1 hA.2.2.1
      obtain ⟨a, ha⟩ : ∃ a : Nat, x.1 = a := ⟨x.1.toNat, by omega⟩
      obtain ⟨d, hdd⟩ : ∃ d : Nat, (a : Int) + d = x.2.1 := ⟨(x.2.1 - a).toNat, by omega⟩
      obtain ⟨hw', r1, r2, r3⟩ := rows1_loop (K := K) hx hA.1 hA.2.2.1 d a K hv hdd (by omega) h1
      rw [← ha] at r1 r3
      by_cases hC : C.length > 60
      · exfalso
        omega
      · rw [if_neg hC] at c4
        have hi : isS15 200 C = true := by
          unfold isS15
          rw [decide_eq_true (by omega), Bool.true_and]; exact c1
        rw [c4, Option.bind_some, if_neg (by simp), r1, Option.bind_some, isS_is (by omega), Option.bind_some, hi, if_neg (by simp), Option.bind_some, Sum.elim_inr]
        exact rows0_loop hK hl rest (j + 1) k hw' C hd' (by omega) (by omega) r2 c1 (by omega) fun v hv' => by
          rw [r3 v hv', c2]
          unfold updS
          by_cases h : x.1 ≤ v ∧ (v : Int) < x.2.1
          · rw [if_pos h, if_pos h]
          · rw [if_neg h, if_neg h, h4 v hv']
    · rw [if_pos (by simp only [decide_eq_true_eq]; exact hA)]
      have hP : ∃ r : List Sp × Int, spans_Put_nsggg K m x.1 x.2.1 x.2.2 = some r ∧ (r.2 = 0 → 0 ≤ x.1 ∧ x.1 ≤ x.2.1 ∧ x.2.1 ≤ 20000 ∧ 0 ≤ x.2.2 ∧ x.2.2 ≤ 100) := by
        by_cases hB : 0 ≤ x.1 ∧ x.1 ≤ x.2.1 ∧ x.2.1 ≤ 20000 ∧ 0 ≤ x.2.2 ∧ x.2.2 ≤ 100
        · obtain ⟨C, c1, c2, c3, c4⟩ := put15_is (K := K) (l := m) (a := x.1) (b := x.2.1) (s := x.2.2) (n := 20000) hK (by omega) (okS_mono (by omega) h2) (by omega) (by omega) hB.1 hB.2.1 hB.2.2.1
          exact ⟨_, c4, fun _ => hB⟩
        · exact ⟨_, put15_bad hK (fun h => hB ⟨h.2.2.2.1, h.2.2.2.2.1, h.2.2.2.2.2, h.2.1, h.2.2.1⟩), fun h => by cases h⟩
      obtain ⟨r, p1, p2⟩ := hP
      rw [p1, Option.bind_some]
      have e2 : (if (r.2 == 0) = true then if decide (x.2.1 > 20000) = true then some true else if decide (x.1 < 0) = true then some true else if decide (x.2.1 < x.1) = true then some true else if decide (x.2.2 < 0) = true then some true else some (decide (x.2.2 > 100)) else some false) = some false := by
        by_cases hr : r.2 = 0
        · have := p2 hr
          rw [if_pos (by simpa using hr), if_neg (by simp; omega), if_neg (by simp; omega), if_neg (by simp; omega), if_neg (by simp; omega)]
          congr 1; rw [decide_eq_false_iff_not]; omega
        · rw [if_neg (by simpa using hr)]
      rw [e2, Option.bind_some, if_neg (by simp), Option.bind_some, Sum.elim_inr]
      exact rows0_loop hK hl rest (j + 1) k hv m hd' (by omega) (by omega) h1 h2 (by omega) h4

theorem rows2_loop {K : Nat} {m : List Sp} {hv : List Int} (hK : 1000 ≤ K) (hm : m.length ≤ 60) (hl : hv.length = 200) (h : ∀ v : Nat, v < 200 → hv.getD v 0 = atS m v) : ∀ (d j k : Nat), j + d = 200 → d < k → palinodelaw15_SpansRows.l2 K m hv k (j : Int) = some (.inr ())
  | 0, j, k, hj, hk => by
    obtain ⟨k, rfl⟩ : ∃ m, k = m + 1 := ⟨k - 1, by omega⟩
    rw [palinodelaw15_SpansRows.l2, if_neg (by simp; omega)]
  | d + 1, j, k, hj, hk => by
    obtain ⟨k, rfl⟩ : ∃ m, k = m + 1 := ⟨k - 1, by omega⟩
    have hw : IntKind.wrap .i64 ((j : Int) + 1) = ((j + 1 : Nat) : Int) := by rw [w64 (by omega) (by omega)]; omega
    rw [palinodelaw15_SpansRows.l2, if_pos (by simp; omega), at_is (by omega) (by omega), Option.bind_some, if_pos (by omega)]
    simp only [Int.toNat_natCast, hw]
    rw [h j (by omega), if_neg (by simp), rows2_loop hK hm hl h d (j + 1) k (by omega) (by omega)]

theorem SpansRows_pure (l : List Sp) (ol : Kd.ok (.slice (.pair (.int .i64) (.pair (.int .i64) (.int .i64)))) l) : ∃ K, palinodelaw15_SpansRows K l = some true := by
  refine ⟨200000, ?_⟩
  clear ol
  unfold palinodelaw15_SpansRows
  rw [known15 (by omega), Option.bind_some, if_neg (by simp)]
  by_cases hl : l.length > 25
  · rw [if_pos (by simp; omega)]
  · rw [if_neg (by simp; omega)]
    obtain ⟨hw, m, e1, e2, e3, e4, e5⟩ := rows0_loop (K := 200000) (l := l) (by omega) (by omega) l 0 200000 (List.replicate 200 (0 : Int)) [] rfl (by omega) (by omega) List.length_replicate rfl (by simp) (fun v hv => by
      rw [List.getD_eq_getElem?_getD, List.getElem?_replicate, if_pos hv]; rfl)
    have e6 := rows2_loop (K := 200000) (by omega) e4 e2 e5 200 0 200000 rfl (by omega)
    rw [show ((0 : Nat) : Int) = 0 from rfl] at e1 e6
    rw [e1, Option.bind_some, Sum.elim_inr]
    simp only
    rw [e6, Option.bind_some, Sum.elim_inr, merge_n_is (by omega) e4 (by omega) e3, Option.bind_some, merge_r_is (by omega) e4 (by omega) e3, Option.bind_some, if_pos (by simp), if_pos (by simp), same15_is (by simp only; omega) (by omega) (by simp only; omega), Option.bind_some, if_pos (by simp)]
    simp

end Go.Pal
