/- Whatever places and text: with nothing in it a subset changes nothing: expanded, shrunk, together, taken out. -/
import Derived.Test.YtbjgcginkkcjcaaFunAlgebraNone
namespace Go.Pal
open Go
set_option linter.unusedVariables false
set_option linter.unusedSimpArgs false
set_option linter.unnecessarySimpa false
theorem w64 {n : Int} (h1 : -9223372036854775808 ≤ n) (h2 : n < 9223372036854775808) : IntKind.wrap .i64 n = n := by
  simp only [IntKind.wrap, IntKind.bits, IntKind.signed]
  simp
  omega

theorem drop_cons {α : Type} {l : List α} {j : Nat} {g : α} {r : List α} (h : l.drop j = g :: r) (d : α) : j < l.length ∧ l.getD j d = g ∧ l.drop (j + 1) = r := by
  have hj : j < l.length := by
    rcases Nat.lt_or_ge j l.length with h' | h'
    · exact h'
    · rw [List.drop_eq_nil_of_le h'] at h; cases h
  rw [List.drop_eq_getElem_cons hj] at h
  obtain ⟨h1, h2⟩ := List.cons.inj h
  exact ⟨hj, by simp [List.getD, hj, h1], h2⟩

theorem drop_nil {α : Type} {l : List α} {j : Nat} (h : l.drop j = []) : l.length ≤ j := List.drop_eq_nil_iff.1 h

/-- One run more behind a row of runs. -/
def push (acc : List (Int × Int)) (g : Int × Int) : List (Int × Int) :=
  if acc ≠ [] ∧ (acc.getD (acc.length - 1) (0, 0)).2 = g.2 then acc.set (acc.length - 1) ((acc.getD (acc.length - 1) (0, 0)).1 + g.1, (acc.getD (acc.length - 1) (0, 0)).2) else acc ++ [g]

def packA : List (Int × Int) → Int → List (Int × Int) → Option (List (Int × Int) × Int)
  | acc, len, [] => some (acc, len)
  | acc, len, g :: rest => if g.1 = 0 then packA acc len rest else if g.1 > 20000 - len then none else packA (push acc g) (len + g.1) rest

theorem push_nil (g : Int × Int) : push [] g = [g] := rfl

theorem push_app (l : List (Int × Int)) (p g : Int × Int) : push (l ++ [p]) g = if p.2 = g.2 then l ++ [(p.1 + g.1, p.2)] else l ++ [p] ++ [g] := by
  unfold push
  have e1 : (l ++ [p]).length - 1 = l.length := by simp
  have e2 : (l ++ [p]).getD l.length (0, 0) = p := by simp [List.getD]
  rw [e1, e2]
  by_cases h : p.2 = g.2
  · rw [if_pos ⟨by simp, h⟩, if_pos h, List.set_append_right _ _ (Nat.le_refl _)]
    simp
  · rw [if_neg (fun h' => h h'.2), if_neg h]

theorem split_last {α : Type} : ∀ {l : List α}, l ≠ [] → ∃ m x, l = m ++ [x] := by
  intro l h
  exact ⟨l.dropLast, l.getLast h, (List.dropLast_concat_getLast h).symm⟩

theorem push_len {acc : List (Int × Int)} {g : Int × Int} : (push acc g).length ≤ acc.length + 1 := by
  unfold push; split <;> simp

def sumL : List (Int × Int) → Int
  | [] => 0
  | p :: l => p.1 + sumL l

theorem sumL_app : ∀ {l r : List (Int × Int)}, sumL (l ++ r) = sumL l + sumL r
  | [], r => by simp [sumL]
  | p :: l, r => by simp only [List.cons_append, sumL, sumL_app]; omega

theorem sumL_push {acc : List (Int × Int)} {g : Int × Int} : sumL (push acc g) = sumL acc + g.1 := by
  by_cases h : acc = []
  · subst h; simp [push_nil, sumL]
  · obtain ⟨l, p, rfl⟩ := split_last h
    rw [push_app]
    split <;> simp only [sumL_app, sumL] <;> omega

theorem nonneg_push {acc : List (Int × Int)} {g : Int × Int} (ha : ∀ p ∈ acc, 0 ≤ p.1) (hg : 0 ≤ g.1) : ∀ p ∈ push acc g, 0 ≤ p.1 := by
  by_cases h : acc = []
  · subst h; simp [push_nil]; exact hg
  · obtain ⟨l, p, rfl⟩ := split_last h
    have hp := ha p (by simp)
    have hl : ∀ q ∈ l, 0 ≤ q.1 := fun q hq => ha q (by simp [hq])
    rw [push_app]
    intro q hq
    split at hq
    · rcases List.mem_append.1 hq with hq | hq
      · exact hl q hq
      · simp only [List.mem_singleton] at hq; subst hq; show 0 ≤ p.1 + g.1; omega
    · rcases List.mem_append.1 hq with hq | hq
      · exact ha q hq
      · simp only [List.mem_singleton] at hq; subst hq; exact hg

theorem le_sumL : ∀ {l : List (Int × Int)}, (∀ p ∈ l, 0 ≤ p.1) → 0 ≤ sumL l ∧ ∀ p ∈ l, p.1 ≤ sumL l
  | [], _ => ⟨by simp [sumL], fun p hp => by cases hp⟩
  | q :: l, h => by
    obtain ⟨h1, h2⟩ := le_sumL (l := l) fun p hp => h p (by simp [hp])
    have hq := h q (by simp)
    refine ⟨by simp only [sumL]; omega, fun p hp => ?_⟩
    simp only [sumL]
    rcases List.mem_cons.1 hp with rfl | hp
    · omega
    · have := h2 p hp; omega

theorem pack_loop {K : Nat} {segs : List (Int × Int)} : ∀ (rest : List (Int × Int)) (j k : Nat) (acc : List (Int × Int)) (len : Int), segs.drop j = rest → rest.length < k → acc.length ≤ j → segs.length < 1000000000000 → 0 ≤ len → len ≤ 20000 → (∀ g ∈ rest, 0 ≤ g.1) →
    (∀ p ∈ acc, 0 ≤ p.1) → sumL acc = len → subset_Pack_r.l0 K segs k acc len (j : Int) = some (match packA acc len rest with | none => Sum.inl (none, 70) | some x => Sum.inr x)
  | [], j, k, acc, len, hd, hk, ha, hs, h0, h1, hg, hp0, hsum => by
    obtain ⟨k, rfl⟩ : ∃ m, k = m + 1 := ⟨k - 1, by simp at hk; omega⟩
    have := drop_nil hd
    rw [subset_Pack_r.l0]
    rw [if_neg (by simp; omega)]
    rfl
  | g :: rest, j, k, acc, len, hd, hk, ha, hs, h0, h1, hg, hp0, hsum => by
    obtain ⟨k, rfl⟩ : ∃ m, k = m + 1 := ⟨k - 1, by simp at hk; omega⟩
    obtain ⟨hj, hgd, hd'⟩ := drop_cons hd (0, 0)
    have hg0 : 0 ≤ g.1 := hg g (by simp)
    have hrest : ∀ g ∈ rest, 0 ≤ g.1 := fun g h => hg g (by simp [h])
    have hk' : rest.length < k := by simp at hk; omega
    have hw : IntKind.wrap .i64 ((j : Int) + 1) = ((j + 1 : Nat) : Int) := by rw [w64 (by omega) (by omega)]; omega
    have hl : IntKind.wrap .i64 ((((List.length acc) : Nat) : Int) - (1 : Int)) = (acc.length : Int) - 1 := w64 (by omega) (by omega)
    have hpl := push_len (acc := acc) (g := g)
    have hnext := fun (hb : ¬ g.1 > 20000 - len) => pack_loop (K := K) rest (j + 1) k (push acc g) (len + g.1) hd' hk' (by omega) hs (by omega) (by omega) hrest (nonneg_push hp0 hg0) (by rw [sumL_push, hsum])
    rw [subset_Pack_r.l0]
    rw [if_pos (by simpa using hj), if_pos ⟨by omega, by omega⟩]
    simp only [Int.toNat_natCast, hgd, hw, hl]
    rw [packA]
    by_cases hz : g.1 = 0
    · rw [if_pos (by simpa using hz), if_pos hz]
      exact pack_loop rest (j + 1) k acc len hd' hk' (by omega) hs h0 h1 hrest hp0 hsum
    · rw [if_neg (by simpa using hz), if_neg hz, w64 (by omega) (by omega)]
      by_cases hb : g.1 > 20000 - len
      · rw [if_pos (by simpa using hb), if_pos hb]
      · rw [if_neg (by simpa using hb), if_neg hb, ← hnext hb, w64 (n := len + g.1) (by omega) (by omega)]
        by_cases he : acc = []
        · subst he
          simp [push_nil]
        · have hp : 0 < acc.length := List.length_pos_iff.2 he
          rw [if_pos (by simp; omega), if_pos ⟨by omega, by omega⟩, Option.bind_some]
          have hn : ((acc.length : Int) - 1).toNat = acc.length - 1 := by omega
          rw [hn]
          have hlast : 0 ≤ (acc.getD (acc.length - 1) (0, 0)).1 ∧ (acc.getD (acc.length - 1) (0, 0)).1 ≤ len := by
            have hm : acc.getD (acc.length - 1) (0, 0) ∈ acc := by
              rw [List.getD, List.getElem?_eq_getElem (by omega)]
              simp
            exact ⟨hp0 _ hm, by rw [← hsum]; exact (le_sumL hp0).2 _ hm⟩
          by_cases hq : (acc.getD (acc.length - 1) (0, 0)).2 = g.2
          · rw [if_pos (by simpa using hq), if_pos ⟨by omega, by omega⟩, w64 (n := (acc.getD (acc.length - 1) (0, 0)).1 + g.1) (by omega) (by omega)]
            unfold push
            rw [if_pos ⟨he, hq⟩]
          · rw [if_neg (by simpa using hq), if_pos (by simp; omega)]
            unfold push
            rw [if_neg (fun h => hq h.2)]

/-- Pack, told. -/
theorem pack_eq {K : Nat} {segs : List (Int × Int)} (hK : segs.length < K) (hs : segs.length < 1000000000000) (hg : ∀ g ∈ segs, 0 ≤ g.1) :
    subset_Pack_r K segs = some (match packA [] 0 segs with | none => (none, 70) | some x => if x.1.length > 200 then (none, 70) else (some x, 0)) := by
  unfold subset_Pack_r
  have h := pack_loop (K := K) segs 0 K [] 0 rfl hK (by simp) hs (by omega) (by omega) hg (by simp) rfl
  rw [Int.natCast_zero] at h
  rw [h, Option.bind_some]
  cases packA [] 0 segs with
  | none => rfl
  | some x =>
    simp only [Sum.elim_inr]
    by_cases h : x.1.length > 200
    · rw [if_pos (by simp; omega), if_pos h]
    · rw [if_neg (by simp; omega), if_neg h]

abbrev Sub := Option (List (Int × Int) × Int)

theorem mx2_eq (a b : Int) : mx2 a b = max a b := by unfold mx2; split <;> omega

theorem mn2_eq (a b : Int) : mn2 a b = min a b := by unfold mn2; split <;> omega

/-- What a row of runs stands for: a count for each place. -/
def expand : List (Int × Int) → List Int
  | [] => []
  | p :: l => List.replicate p.1.toNat p.2 ++ expand l

theorem expand_app : ∀ {l r : List (Int × Int)}, expand (l ++ r) = expand l ++ expand r
  | [], r => rfl
  | p :: l, r => by simp [expand, expand_app]

theorem expand_push {acc : List (Int × Int)} {g : Int × Int} (ha : ∀ p ∈ acc, 0 ≤ p.1) (hg : 0 ≤ g.1) : expand (push acc g) = expand acc ++ List.replicate g.1.toNat g.2 := by
  by_cases h : acc = []
  · subst h; simp [push_nil, expand]
  · obtain ⟨l, p, rfl⟩ := split_last h
    have hp := ha p (by simp)
    rw [push_app]
    split
    · rename_i he
      simp only [expand_app, expand, List.append_nil, List.append_assoc]
      rw [Int.toNat_add hp hg, ← List.replicate_append_replicate, he]
    · simp [expand_app, expand]

theorem expand_len : ∀ {l : List (Int × Int)}, (∀ p ∈ l, 0 ≤ p.1) → ((expand l).length : Int) = sumL l
  | [], _ => rfl
  | p :: l, h => by
    have := expand_len (l := l) fun q hq => h q (by simp [hq])
    have hp := h p (by simp)
    simp only [expand, sumL, List.length_append, List.length_replicate]
    omega

def pushC (acc : List (Int × Int)) (c : Int) : List (Int × Int) := push acc (1, c)

/-- The least runs. -/
def rle (e : List Int) : List (Int × Int) := e.foldl pushC []

/-- The subset that has these counts. -/
def sub (e : List Int) : Sub := some (rle e, (e.length : Int))

theorem push_push {acc : List (Int × Int)} {a b c : Int} : push (push acc (a, c)) (b, c) = push acc (a + b, c) := by
  by_cases h : acc = []
  · subst h
    rw [push_nil, push_nil]
    have := push_app [] (a, c) (b, c)
    simpa using this
  · obtain ⟨l, p, rfl⟩ := split_last h
    rw [push_app l p (a, c), push_app l p (a + b, c)]
    by_cases he : p.2 = c
    · rw [if_pos he, if_pos he, push_app, if_pos he, Int.add_assoc]
    · rw [if_neg he, if_neg he, push_app, if_pos rfl]

theorem push_reps : ∀ {n : Nat} {acc : List (Int × Int)} {c : Int}, (List.replicate (n + 1) c).foldl pushC acc = push acc ((n : Int) + 1, c)
  | 0, acc, c => rfl
  | n + 1, acc, c => by
    rw [List.replicate_succ, List.foldl_cons, push_reps, pushC, push_push]
    congr 2
    omega

theorem packA_rle : ∀ {l : List (Int × Int)} {e : List Int} {len : Int}, (∀ p ∈ l, 0 ≤ p.1) → len + sumL l ≤ 20000 → packA (rle e) len l = some (rle (e ++ expand l), len + sumL l)
  | [], e, len, _, _ => by simp [packA, expand, sumL]
  | g :: l, e, len, hl, h => by
    have hg := hl g (by simp)
    have hl' : ∀ p ∈ l, 0 ≤ p.1 := fun p hp => hl p (by simp [hp])
    have h0 := (le_sumL hl').1
    simp only [sumL] at h ⊢
    rw [packA, expand]
    by_cases hz : g.1 = 0
    · rw [if_pos hz, packA_rle hl' (by omega), hz]; simp
    · rw [if_neg hz, if_neg (by omega)]
      have hp : push (rle e) g = rle (e ++ List.replicate g.1.toNat g.2) := by
        obtain ⟨n, hn⟩ : ∃ n : Nat, g.1 = (n : Int) + 1 := ⟨g.1.toNat - 1, by omega⟩
        have : g.1.toNat = n + 1 := by omega
        rw [this, rle, rle, List.foldl_append, push_reps, ← hn]
      rw [hp, packA_rle hl' (by omega)]
      rw [List.append_assoc]
      congr 2
      omega

theorem packA_none : ∀ {l acc : List (Int × Int)} {len : Int}, (∀ p ∈ l, 0 ≤ p.1) → len ≤ 20000 → 20000 < len + sumL l → packA acc len l = none
  | [], _, _, _, h, h' => by simp [sumL] at h'; omega
  | g :: l, acc, len, hl, h, h' => by
    have hg := hl g (by simp)
    have hl' : ∀ p ∈ l, 0 ≤ p.1 := fun p hp => hl p (by simp [hp])
    simp only [sumL] at h'
    rw [packA]
    by_cases hz : g.1 = 0
    · rw [if_pos hz]; exact packA_none hl' h (by omega)
    · rw [if_neg hz]
      by_cases hb : g.1 > 20000 - len
      · rw [if_pos hb]
      · rw [if_neg hb]; exact packA_none hl' (by omega) (by omega)

theorem rle_facts : ∀ (e : List Int), (∀ p ∈ rle e, 0 ≤ p.1) ∧ expand (rle e) = e ∧ sumL (rle e) = e.length := by
  intro e
  have key : ∀ (e : List Int) (acc : List (Int × Int)), (∀ p ∈ acc, 0 ≤ p.1) → (∀ p ∈ e.foldl pushC acc, 0 ≤ p.1) ∧ expand (e.foldl pushC acc) = expand acc ++ e ∧ sumL (e.foldl pushC acc) = sumL acc + e.length := by
    intro e
    induction e with
    | nil => intro acc h; exact ⟨h, by simp, by simp⟩
    | cons c e ih =>
      intro acc h
      obtain ⟨h1, h2, h3⟩ := ih (pushC acc c) (nonneg_push h (by simp))
      refine ⟨h1, ?_, ?_⟩
      · rw [List.foldl_cons, h2, pushC, expand_push h (by simp)]; simp
      · rw [List.foldl_cons, h3, pushC, sumL_push]; simp only [List.length_cons]; omega
  obtain ⟨h1, h2, h3⟩ := key e [] (by simp)
  exact ⟨h1, by rw [rle]; simpa [expand] using h2, by rw [rle]; simpa [sumL] using h3⟩

/-- What Pack answers. -/
def packed (e : List Int) : Sub × Int := if e.length > 20000 then (none, 70) else if (rle e).length > 200 then (none, 70) else (sub e, 0)

theorem pack_is {K : Nat} {segs : List (Int × Int)} (hK : segs.length < K) (hs : segs.length < 1000000000000) (hg : ∀ g ∈ segs, 0 ≤ g.1) : subset_Pack_r K segs = some (packed (expand segs)) := by
  rw [pack_eq hK hs hg]
  have hl := expand_len hg
  unfold packed
  by_cases h : sumL segs ≤ 20000
  · have := packA_rle (e := []) (len := 0) hg (by omega)
    rw [show rle [] = [] from rfl] at this
    rw [this, if_neg (by omega)]
    simp only [List.nil_append, Int.zero_add]
    rw [← hl]
    rfl
  · rw [packA_none hg (by omega) (by omega), if_pos (by omega)]

theorem new_is {K : Nat} {n : Int} (hK : 1 < K) (h0 : 0 ≤ n) (h1 : n ≤ 20000) : subset_New K n = some (sub (List.replicate n.toNat 0)) := by
  unfold subset_New
  rw [mx2_eq, mn2_eq, pack_is (by simpa using hK) (by simp) (by intro g hg; simp only [List.mem_singleton] at hg; subst hg; simp only; omega), Option.bind_some]
  rw [show min (max n 0) 20000 = n by omega]
  simp only [expand, List.append_nil]
  unfold packed
  rw [if_neg (by simp; omega), if_neg]
  have : (rle (List.replicate n.toNat (0 : Int))).length ≤ 1 := by
    cases hn : n.toNat with
    | zero => simp [rle]
    | succ m => rw [rle, push_reps, push_nil]; simp
  omega

theorem count_ok {K : Nat} {n : Int} : subset_isCount K n = some (decide (0 ≤ n ∧ n ≤ 100)) := by
  unfold subset_isCount
  by_cases h : 0 ≤ n
  · rw [if_pos (by simpa using h)]; simp [h]
  · rw [if_neg (by simpa using h)]; simp [h]

/-- How many places have a count above nothing. -/
def pos (e : List Int) : Int := ((e.filter fun c => decide (c > 0)).length : Nat)

theorem pos_app {a b : List Int} : pos (a ++ b) = pos a + pos b := by simp [pos]

theorem pos_reps {n : Nat} {c : Int} : pos (List.replicate n c) = if c > 0 then (n : Int) else 0 := by
  unfold pos
  split
  · rename_i h; rw [List.filter_replicate_of_pos (by simpa using h)]; simp
  · rename_i h; rw [List.filter_replicate_of_neg (by simpa using h)]; simp

theorem pos_le {e : List Int} : 0 ≤ pos e ∧ pos e ≤ e.length := by
  unfold pos
  have := List.length_filter_le (fun c : Int => decide (c > 0)) e
  omega

theorem size_loop {K : Nat} {segs : List (Int × Int)} {m : Int} : ∀ (rest : List (Int × Int)) (j k : Nat) (n : Int), segs.drop j = rest → rest.length < k → segs.length < 1000000000000 → 0 ≤ n → (∀ g ∈ rest, 0 ≤ g.1) → n + sumL rest ≤ 1000000000000 →
    subset_Subset_Size.l0 K (some (segs, m)) k n (j : Int) = some (n + pos (expand rest))
  | [], j, k, n, hd, hk, hs, h0, hg, hsum => by
    obtain ⟨k, rfl⟩ : ∃ m, k = m + 1 := ⟨k - 1, by simp at hk; omega⟩
    have := drop_nil hd
    rw [subset_Subset_Size.l0]
    simp only [Option.getD_some]
    rw [if_neg (by simp; omega)]
    simp [expand, pos]
  | g :: rest, j, k, n, hd, hk, hs, h0, hg, hsum => by
    obtain ⟨k, rfl⟩ : ∃ m, k = m + 1 := ⟨k - 1, by simp at hk; omega⟩
    obtain ⟨hj, hgd, hd'⟩ := drop_cons hd (0, 0)
    have hg0 : 0 ≤ g.1 := hg g (by simp)
    have hrest : ∀ g ∈ rest, 0 ≤ g.1 := fun g h => hg g (by simp [h])
    have hk' : rest.length < k := by simp at hk; omega
    have hr0 := (le_sumL hrest).1
    simp only [sumL] at hsum
    have hw : IntKind.wrap .i64 ((j : Int) + 1) = ((j + 1 : Nat) : Int) := by rw [w64 (by omega) (by omega)]; omega
    rw [subset_Subset_Size.l0]
    simp only [Option.getD_some, Int.toNat_natCast, hgd, hw]
    rw [if_pos (by simpa using hj), if_pos ⟨by omega, by omega⟩, expand, pos_app, pos_reps]
    by_cases hc : g.2 > 0
    · rw [if_pos (by simpa using hc), if_pos hc, w64 (n := n + g.1) (by omega) (by omega), size_loop rest (j + 1) k _ hd' hk' hs (by omega) hrest (by omega)]
      congr 1; omega
    · rw [if_neg (by simpa using hc), if_neg hc, size_loop rest (j + 1) k _ hd' hk' hs (by omega) hrest (by omega)]
      congr 1; omega

theorem size_is {K : Nat} {e : List Int} (hK : 1000 ≤ K) (hl : e.length ≤ 20000) (hr : (rle e).length ≤ 200) : subset_Subset_Size K (sub e) = some (pos e) := by
  obtain ⟨hn, hx, hsum⟩ := rle_facts e
  unfold subset_Subset_Size sub
  rw [if_pos (show Option.isSome (some _) = true from rfl)]
  have h := size_loop (K := K) (segs := rle e) (m := e.length) (rle e) 0 K 0 rfl (by omega) (by omega) (by omega) hn (by omega)
  rw [Int.natCast_zero] at h
  rw [h, hx]; simp

theorem len_is {K : Nat} {e : List Int} : subset_Subset_Len K (sub e) = some (e.length : Int) := rfl

theorem count_loop {K : Nat} {segs : List (Int × Int)} {m : Int} : ∀ (rest : List (Int × Int)) (j k : Nat) (x : Int), segs.drop j = rest → rest.length < k → segs.length < 1000000000000 → 0 ≤ x → x ≤ 1000000000000 → (∀ g ∈ rest, 0 ≤ g.1) → sumL rest ≤ 1000000000000 →
    subset_Subset_Count.l0 K (some (segs, m)) k x (j : Int) = some ((expand rest).getD x.toNat 0)
  | [], j, k, x, hd, hk, hs, h0, h1, hg, hsum => by
    obtain ⟨k, rfl⟩ : ∃ m, k = m + 1 := ⟨k - 1, by simp at hk; omega⟩
    have := drop_nil hd
    rw [subset_Subset_Count.l0]
    simp only [Option.getD_some]
    rw [if_neg (by simp; omega)]
    simp [expand]
  | g :: rest, j, k, x, hd, hk, hs, h0, h1, hg, hsum => by
    obtain ⟨k, rfl⟩ : ∃ m, k = m + 1 := ⟨k - 1, by simp at hk; omega⟩
    obtain ⟨hj, hgd, hd'⟩ := drop_cons hd (0, 0)
    have hg0 : 0 ≤ g.1 := hg g (by simp)
    have hrest : ∀ g ∈ rest, 0 ≤ g.1 := fun g h => hg g (by simp [h])
    have hk' : rest.length < k := by simp at hk; omega
    have hr0 := (le_sumL hrest).1
    simp only [sumL] at hsum
    have hw : IntKind.wrap .i64 ((j : Int) + 1) = ((j + 1 : Nat) : Int) := by rw [w64 (by omega) (by omega)]; omega
    rw [subset_Subset_Count.l0]
    simp only [Option.getD_some, Int.toNat_natCast, hgd, hw]
    rw [if_pos (by simpa using hj), if_pos ⟨by omega, by omega⟩, expand]
    by_cases hc : x < g.1
    · rw [if_pos (by simpa using hc)]
      have : x.toNat < g.1.toNat := by omega
      simp [List.getD, List.getElem?_append_left, this]
    · rw [if_neg (by simpa using hc), w64 (n := x - g.1) (by omega) (by omega), count_loop rest (j + 1) k _ hd' hk' hs (by omega) (by omega) hrest (by omega)]
      rw [List.getD, List.getD, List.getElem?_append_right (by simp; omega)]
      simp only [List.length_replicate]
      rw [show (x - g.1).toNat = x.toNat - g.1.toNat by omega]

/-- The count at a place, nothing outside. -/
def at_ (e : List Int) (i : Int) : Int := if i < 0 ∨ i ≥ e.length then 0 else e.getD i.toNat 0

theorem count_is {K : Nat} {e : List Int} {i : Int} (hK : 1000 ≤ K) (hl : e.length ≤ 20000) (hr : (rle e).length ≤ 200) : subset_Subset_Count K (sub e) i = some (at_ e i) := by
  obtain ⟨hn, hx, hsum⟩ := rle_facts e
  unfold subset_Subset_Count sub at_
  by_cases h1 : i < 0
  · rw [if_pos (by simpa using h1), Option.bind_some, if_pos rfl, if_pos (.inl h1)]
  · rw [if_neg (by simpa using h1), if_pos (show Option.isSome (some _) = true from rfl), Option.bind_some]
    simp only [Option.getD_some]
    by_cases h2 : i ≥ e.length
    · rw [if_pos (by simpa using h2), if_pos (.inr h2)]
    · rw [if_neg (by simpa using h2), if_pos (show Option.isSome (some _) = true from rfl), if_neg (by omega)]
      have h := count_loop (K := K) (segs := rle e) (m := e.length) (rle e) 0 K i rfl (by omega) (by omega) (by omega) (by omega) hn (by omega)
      rw [Int.natCast_zero] at h
      rw [h, hx]

/-- A row of runs that is none. -/
def bad : Option Int → List (Int × Int) → Bool
  | _, [] => false
  | q, g :: l => decide (g.1 < 1) || !decide (0 ≤ g.2 ∧ g.2 ≤ 100) || (q == some g.2) || bad (some g.2) l

theorem of_loop {K : Nat} {segs : List (Int × Int)} : ∀ (rest : List (Int × Int)) (j k : Nat), segs.drop j = rest → rest.length < k → segs.length < 1000000000000 →
    subset_Of_r.l0 K segs k (j : Int) = some (if bad (if j = 0 then none else some (segs.getD (j - 1) (0, 0)).2) rest = true then Sum.inl (none, 12) else Sum.inr ())
  | [], j, k, hd, hk, hs => by
    obtain ⟨k, rfl⟩ : ∃ m, k = m + 1 := ⟨k - 1, by simp at hk; omega⟩
    have := drop_nil hd
    rw [subset_Of_r.l0, if_neg (by simp; omega)]
    simp [bad]
  | g :: rest, j, k, hd, hk, hs => by
    obtain ⟨k, rfl⟩ : ∃ m, k = m + 1 := ⟨k - 1, by simp at hk; omega⟩
    obtain ⟨hj, hgd, hd'⟩ := drop_cons hd (0, 0)
    have hk' : rest.length < k := by simp at hk; omega
    have hw : IntKind.wrap .i64 ((j : Int) + 1) = ((j + 1 : Nat) : Int) := by rw [w64 (by omega) (by omega)]; omega
    have hwm : IntKind.wrap .i64 ((j : Int) - 1) = (j : Int) - 1 := w64 (by omega) (by omega)
    have hnext := of_loop (K := K) rest (j + 1) k hd' hk' hs
    rw [show (if j + 1 = 0 then none else some (segs.getD (j + 1 - 1) (0, 0)).2) = some g.2 by rw [if_neg (by omega), Nat.add_sub_cancel, hgd]] at hnext
    rw [subset_Of_r.l0]
    simp only [Int.toNat_natCast, hgd, hw, hwm, count_ok, Option.bind_some]
    rw [if_pos (by simpa using hj), if_pos ⟨by omega, by omega⟩, bad]
    by_cases h1 : g.1 < 1
    · rw [if_pos (by simpa using h1), Option.bind_some, if_pos rfl, if_pos (by simp [h1])]
    · rw [if_neg (by simpa using h1)]
      by_cases h2 : 0 ≤ g.2 ∧ g.2 ≤ 100
      · rw [if_neg (by simp [h2])]
        by_cases h3 : j = 0
        · subst h3
          rw [if_neg (by simp), Option.bind_some, if_neg (by simp), hnext]
          simp [h1, h2]
        · rw [if_pos (by simp; omega), if_pos ⟨by omega, by omega⟩, Option.bind_some, show ((j : Int) - 1).toNat = j - 1 by omega, if_neg h3]
          by_cases h4 : g.2 = (segs.getD (j - 1) (0, 0)).2
          · rw [if_pos (by simpa using h4), if_pos (by simp [h4])]
          · rw [if_neg (by simpa using h4), hnext]
            have h4' : (some (segs.getD (j - 1) (0, 0)).2 == some g.2) = false := by
              simpa [beq_eq_false_iff_ne] using fun h => h4 h.symm
            rw [h4']
            simp [h1, h2]
      · rw [if_pos (by simp; omega), Option.bind_some, if_pos rfl, if_pos (by simp [h2])]

theorem bad_nonneg : ∀ {l : List (Int × Int)} {q : Option Int}, bad q l = false → ∀ p ∈ l, 0 ≤ p.1
  | [], _, _, p, hp => by cases hp
  | g :: l, q, h, p, hp => by
    simp only [bad, Bool.or_eq_false_iff, decide_eq_false_iff_not] at h
    rcases List.mem_cons.1 hp with rfl | hp
    · omega
    · exact bad_nonneg h.2 p hp

theorem of_is {K : Nat} {segs : List (Int × Int)} (hK : segs.length < K) (hs : segs.length < 1000000000000) : subset_Of_r K segs = some (if bad none segs = true then (none, 12) else packed (expand segs)) := by
  unfold subset_Of_r
  have h := of_loop (K := K) segs 0 K rfl hK hs
  rw [Int.natCast_zero, if_pos rfl] at h
  rw [h, Option.bind_some]
  by_cases hb : bad none segs = true
  · rw [if_pos hb, if_pos hb]; rfl
  · rw [if_neg hb, if_neg hb]
    simp only [Sum.elim_inr]
    rw [pack_is hK hs (bad_nonneg (by simpa using hb)), Option.bind_some]

theorem packed_small {e : List Int} (h1 : e.length ≤ 20000) (h2 : (rle e).length ≤ 200) : packed e = (sub e, 0) := by
  unfold packed
  rw [if_neg (by omega), if_neg (by omega)]

theorem rle_len_le : ∀ (e : List Int), (rle e).length ≤ e.length := by
  intro e
  have key : ∀ (e : List Int) (acc : List (Int × Int)), (e.foldl pushC acc).length ≤ acc.length + e.length := by
    intro e
    induction e with
    | nil => intro acc; simp
    | cons c e ih =>
      intro acc
      have := ih (pushC acc c)
      have h2 := push_len (acc := acc) (g := (1, c))
      rw [List.foldl_cons]
      unfold pushC at *
      simp only [List.length_cons]
      omega
  simpa [rle] using key e []

theorem segs_is {K : Nat} {e : List Int} (hl : e.length ≤ 20000) (hr : (rle e).length ≤ 200) : subset_Subset_Segs K (sub e) = some (rle e) := by
  unfold subset_Subset_Segs sub
  simp only [Option.getD_some]
  rw [if_pos (by refine ⟨rfl, ?_⟩; omega)]
  congr 1
  simp [putAt]

def lastC : Option Int → List (Int × Int) → Option Int
  | q, [] => q
  | _, g :: l => lastC (some g.2) l

theorem bad_snoc : ∀ {l : List (Int × Int)} {q : Option Int} {g : Int × Int}, bad q (l ++ [g]) = (bad q l || (decide (g.1 < 1) || !decide (0 ≤ g.2 ∧ g.2 ≤ 100) || (lastC q l == some g.2)))
  | [], q, g => by simp [bad, lastC]
  | h :: l, q, g => by
    rw [List.cons_append, bad, bad_snoc, bad, lastC]
    simp [Bool.or_assoc]

theorem lastC_snoc : ∀ {l : List (Int × Int)} {q : Option Int} {g : Int × Int}, lastC q (l ++ [g]) = some g.2
  | [], _, _ => rfl
  | h :: l, q, g => by rw [List.cons_append, lastC, lastC_snoc]

theorem bad_push {acc : List (Int × Int)} {c : Int} (h : bad none acc = false) (hc : 0 ≤ c ∧ c ≤ 100) : bad none (pushC acc c) = false := by
  unfold pushC
  by_cases he : acc = []
  · subst he
    rw [push_nil]; simp [bad, hc]
  · obtain ⟨l, p, rfl⟩ := split_last he
    have h' := h
    rw [bad_snoc] at h'
    simp only [Bool.or_eq_false_iff, decide_eq_false_iff_not] at h'
    rw [push_app]
    split
    · rw [bad_snoc]
      simp only [Bool.or_eq_false_iff, decide_eq_false_iff_not]
      exact ⟨h'.1, ⟨⟨by omega, h'.2.1.2⟩, h'.2.2⟩⟩
    · rename_i hne
      rw [bad_snoc, h, lastC_snoc]
      simp [hc, hne]

theorem rle_bad {e : List Int} (h : ∀ c ∈ e, 0 ≤ c ∧ c ≤ 100) : bad none (rle e) = false := by
  have key : ∀ (e : List Int) (acc : List (Int × Int)), (∀ c ∈ e, 0 ≤ c ∧ c ≤ 100) → bad none acc = false → bad none (e.foldl pushC acc) = false := by
    intro e
    induction e with
    | nil => intro acc _ h; exact h
    | cons c e ih => intro acc h hb; exact ih _ (fun d hd => h d (by simp [hd])) (bad_push hb (h c (by simp)))
  exact key e [] h rfl

theorem equal_loop {K : Nat} {a b : List (Int × Int)} (hl : a.length = b.length) (hs : a.length < 1000000000000) : ∀ (d j k : Nat), j + d = a.length → d < k →
    slices_EqualFunc_ggcsubsetSubsetSame1.l0 K a b k (j : Int) = some (a.drop j == b.drop j) := by
  intro d
  induction d with
  | zero =>
    intro j k hj hk
    obtain ⟨k, rfl⟩ : ∃ m, k = m + 1 := ⟨k - 1, by omega⟩
    rw [slices_EqualFunc_ggcsubsetSubsetSame1.l0, if_neg (by simp; omega), List.drop_eq_nil_of_le (by omega), List.drop_eq_nil_of_le (by omega)]
    rfl
  | succ d ih =>
    intro j k hj hk
    obtain ⟨k, rfl⟩ : ∃ m, k = m + 1 := ⟨k - 1, by omega⟩
    have hw : IntKind.wrap .i64 ((j : Int) + 1) = ((j + 1 : Nat) : Int) := by rw [w64 (by omega) (by omega)]; omega
    have ha : j < a.length := by omega
    have hb : j < b.length := by omega
    have ga : a.getD j (0, 0) = a[j] := by simp [List.getD, ha]
    have gb : b.getD j (0, 0) = b[j] := by simp [List.getD, hb]
    rw [slices_EqualFunc_ggcsubsetSubsetSame1.l0, if_pos (by simp; omega), if_pos ⟨by omega, by omega, by omega⟩]
    simp only [Int.toNat_natCast, hw, ga, gb, subset_Subset_Same_1, Option.bind_some]
    rw [ih (j + 1) k (by omega) (by omega), List.drop_eq_getElem_cons ha, List.drop_eq_getElem_cons hb, List.cons_beq_cons]
    have e : (a[j] == b[j]) = ((a[j].1 == b[j].1) && (a[j].2 == b[j].2)) := rfl
    rw [e]
    cases (a[j].1 == b[j].1) && (a[j].2 == b[j].2) <;> simp

theorem same_is {K : Nat} {a b : List Int} (hK : 1000 ≤ K) (ha : (rle a).length ≤ 200) : subset_Subset_Same K (sub a) (sub b) = some (decide (a = b)) := by
  have fa := rle_facts a
  have fb := rle_facts b
  unfold subset_Subset_Same sub
  rw [if_neg (by simp)]
  simp only [Option.getD_some]
  by_cases h : (a.length : Int) = b.length
  · rw [if_pos (by simpa using h)]
    have key : slices_EqualFunc_ggcsubsetSubsetSame1 K (rle a) (rle b) = some (rle a == rle b) := by
      unfold slices_EqualFunc_ggcsubsetSubsetSame1
      by_cases hl : (rle a).length = (rle b).length
      · rw [if_neg (by simp [hl])]
        have := equal_loop (K := K) hl (by omega) (rle a).length 0 K (by omega) (by omega)
        rw [Int.natCast_zero] at this
        rw [this]; simp
      · rw [if_pos (by simp; omega)]
        congr 1
        symm
        rw [beq_eq_false_iff_ne]
        intro e; exact hl (by rw [e])
    rw [key, Option.bind_some, if_pos ⟨rfl, rfl⟩]
    congr 1
    by_cases e : a = b
    · subst e; simp
    · have : rle a ≠ rle b := fun h' => e (by rw [← fa.2.1, ← fb.2.1, h'])
      simp [e, this]
  · rw [if_neg (by simpa using h), if_pos ⟨rfl, rfl⟩]
    congr 1
    symm
    simp only [decide_eq_false_iff_not]
    intro e; exact h (by rw [e])

theorem rle_pos : ∀ (e : List Int), ∀ p ∈ rle e, 1 ≤ p.1 := by
  intro e
  have key : ∀ (e : List Int) (acc : List (Int × Int)), (∀ p ∈ acc, 1 ≤ p.1) → ∀ p ∈ e.foldl pushC acc, 1 ≤ p.1 := by
    intro e
    induction e with
    | nil => intro acc h; exact h
    | cons c e ih =>
      intro acc h
      refine ih (pushC acc c) ?_
      unfold pushC
      by_cases he : acc = []
      · subst he; simp [push_nil]
      · obtain ⟨l, p, rfl⟩ := split_last he
        have hp := h p (by simp)
        rw [push_app]
        intro q hq
        split at hq
        · rcases List.mem_append.1 hq with hq | hq
          · exact h q (by simp [hq])
          · simp only [List.mem_singleton] at hq; subst hq; show 1 ≤ p.1 + 1; omega
        · rcases List.mem_append.1 hq with hq | hq
          · exact h q hq
          · simp only [List.mem_singleton] at hq; subst hq; simp
  simpa [rle] using key e []

/-- The place of the how-manieth that has no count. -/
def up : List Int → Int → Int → Int
  | [], _, i => i
  | c :: r, k, i => if c ≠ 0 then up r k (i + 1) else if k = 0 then i else up r (k - 1) (i + 1)

theorem segs7_loop {K : Nat} {l : List Int} (hs : l.length < 1000000000000) : ∀ (rest : List Int) (j k : Nat) (out : List (Int × Int)), l.drop j = rest → rest.length < k → out.length ≤ j → (∀ p ∈ out, 0 ≤ p.1) → sumL out = j →
    palinoderef7_Segs_r.l0 K l k out (j : Int) = some (rest.foldl pushC out)
  | [], j, k, out, hd, hk, ho, hp, hsum => by
    obtain ⟨k, rfl⟩ : ∃ m, k = m + 1 := ⟨k - 1, by simp at hk; omega⟩
    have := drop_nil hd
    rw [palinoderef7_Segs_r.l0, if_neg (by simp; omega)]
    rfl
  | c :: rest, j, k, out, hd, hk, ho, hp, hsum => by
    obtain ⟨k, rfl⟩ : ∃ m, k = m + 1 := ⟨k - 1, by simp at hk; omega⟩
    obtain ⟨hj, hgd, hd'⟩ := drop_cons hd 0
    have hk' : rest.length < k := by simp at hk; omega
    have hw : IntKind.wrap .i64 ((j : Int) + 1) = ((j + 1 : Nat) : Int) := by rw [w64 (by omega) (by omega)]; omega
    have hl : IntKind.wrap .i64 ((((List.length out) : Nat) : Int) - (1 : Int)) = (out.length : Int) - 1 := w64 (by omega) (by omega)
    have hpl := push_len (acc := out) (g := (1, c))
    rw [palinoderef7_Segs_r.l0]
    simp only [Int.toNat_natCast, hgd, hw, hl]
    rw [if_pos (by simpa using hj), List.foldl_cons, ← segs7_loop (K := K) hs rest (j + 1) k (pushC out c) hd' hk' (by unfold pushC; omega) (nonneg_push hp (by simp)) (by unfold pushC; rw [sumL_push, hsum]; simp)]
    unfold pushC
    by_cases he : out = []
    · subst he
      rw [if_neg (by simp), Option.bind_some, if_neg (by simp), if_pos ⟨by omega, by omega, by simp⟩]
      rfl
    · have hpos : 0 < out.length := List.length_pos_iff.2 he
      have hm : out.getD (out.length - 1) (0, 0) ∈ out := by
        rw [List.getD, List.getElem?_eq_getElem (by omega)]
        simp
      have h0 := hp _ hm
      have h1 := (le_sumL hp).2 _ hm
      rw [if_pos (by simp; omega), if_pos ⟨by omega, by omega, by omega, by omega⟩, Option.bind_some]
      have hn : ((out.length : Int) - 1).toNat = out.length - 1 := by omega
      rw [hn]
      by_cases hq : (out.getD (out.length - 1) (0, 0)).2 = c
      · rw [if_pos (by simpa using hq), if_pos ⟨by omega, by omega⟩, w64 (n := (out.getD (out.length - 1) (0, 0)).1 + 1) (by omega) (by omega)]
        unfold push
        rw [if_pos ⟨he, hq⟩]
      · rw [if_neg (by simpa using hq), if_pos ⟨by omega, by omega, by simp; omega⟩]
        unfold push
        rw [if_neg (fun h => hq h.2)]

theorem segs7_is {K : Nat} {l : List Int} (hs : l.length < 1000000000000) (hK : l.length < K) : palinoderef7_Segs_r K l = some (rle l) := by
  unfold palinoderef7_Segs_r
  have h := segs7_loop (K := K) hs l 0 K [] rfl hK (by simp) (by simp) rfl
  rw [Int.natCast_zero] at h
  rw [h]; rfl

theorem at_getD {e : List Int} {i : Nat} (h : i < e.length) : at_ e (i : Int) = e.getD i 0 := by
  unfold at_
  rw [if_neg (by omega), Int.toNat_natCast]

theorem pos_cons {c : Int} {e : List Int} : pos (c :: e) = (if c > 0 then 1 else 0) + pos e := by
  unfold pos
  by_cases h : c > 0 <;> simp [h]; omega

theorem mem_expand : ∀ {l : List (Int × Int)} {g : Int × Int}, g ∈ l → 1 ≤ g.1 → g.2 ∈ expand l
  | p :: l, g, h, h1 => by
    rw [expand]
    rcases List.mem_cons.1 h with rfl | h
    · exact List.mem_append_left _ (List.mem_replicate.2 ⟨by omega, rfl⟩)
    · exact List.mem_append_right _ (mem_expand h h1)

theorem rle_mem {e : List Int} {g : Int × Int} (h : g ∈ rle e) : g.2 ∈ e := by
  have := mem_expand h (rle_pos e g h)
  rwa [(rle_facts e).2.1] at this

theorem asize_is {K : Nat} {e : List Int} : algebra_size K (sub e) = some (e.length : Int) := by
  unfold algebra_size
  rw [if_neg (by simp [sub]), len_is]; rfl

theorem ain_is {K : Nat} {e : List Int} (hK : 1000 ≤ K) (hl : e.length ≤ 20000) (hr : (rle e).length ≤ 200) : algebra_in K (sub e) = some (pos e) := by
  unfold algebra_in
  rw [if_neg (by simp [sub]), size_is hK hl hr]; rfl

theorem asegs_is {K : Nat} {e : List Int} (hl : e.length ≤ 20000) (hr : (rle e).length ≤ 200) : algebra_segs K (sub e) = some (rle e) := by
  unfold algebra_segs
  rw [if_neg (by simp [sub]), segs_is hl hr, Option.bind_some, if_pos (by omega)]
  simp [putAt]

/-- Runs without their first places. -/
def less (g : Int × Int) (r : List (Int × Int)) (n : Int) : List (Int × Int) := if g.1 - n = 0 then r else (g.1 - n, g.2) :: r

theorem less_is {K : Nat} {g : Int × Int} {r : List (Int × Int)} {n : Int} (h0 : 0 ≤ n) (h1 : n ≤ g.1) (h2 : g.1 ≤ 1000000000000) : algebra_less_rg K (g :: r) n = some (less g r n) := by
  unfold algebra_less_rg less
  have hw : IntKind.wrap .i64 (g.1 - n) = g.1 - n := w64 (by omega) (by omega)
  simp only [List.getD_cons_zero, List.set_cons_zero, hw, List.length_cons]
  rw [if_pos ⟨by omega, by omega⟩]
  by_cases h : g.1 - n = 0
  · rw [if_pos (by simpa using h), if_pos (by omega), if_pos h]
    simp
  · rw [if_neg (by simpa using h), if_neg h]

theorem less_expand {g : Int × Int} {r : List (Int × Int)} {n : Int} (h0 : 0 ≤ n) (h1 : n ≤ g.1) : expand (g :: r) = List.replicate n.toNat g.2 ++ expand (less g r n) := by
  unfold less
  rw [expand]
  by_cases h : g.1 - n = 0
  · rw [if_pos h, show g.1.toNat = n.toNat by omega]
  · rw [if_neg h, expand, ← List.append_assoc, List.replicate_append_replicate]
    congr 2
    simp only
    omega

theorem less_pos {g : Int × Int} {r : List (Int × Int)} {n : Int} (h : ∀ p ∈ g :: r, 1 ≤ p.1) (h1 : n ≤ g.1) : ∀ p ∈ less g r n, 1 ≤ p.1 := by
  unfold less
  split
  · exact fun p hp => h p (by simp [hp])
  · intro p hp
    rcases List.mem_cons.1 hp with rfl | hp
    · simp only; omega
    · exact h p (by simp [hp])

theorem less_all {P : Int → Prop} {g : Int × Int} {r : List (Int × Int)} {n : Int} (h : ∀ p ∈ g :: r, P p.2) : ∀ p ∈ less g r n, P p.2 := by
  unfold less
  split
  · exact fun p hp => h p (by simp [hp])
  · intro p hp
    rcases List.mem_cons.1 hp with rfl | hp
    · exact h g (by simp)
    · exact h p (by simp [hp])

theorem less_sum {g : Int × Int} {r : List (Int × Int)} {n : Int} : sumL (less g r n) = sumL (g :: r) - n := by
  unfold less
  split
  · simp only [sumL]; omega
  · simp only [sumL]; omega

theorem less_len {g : Int × Int} {r : List (Int × Int)} {n : Int} : (less g r n).length ≤ r.length + 1 ∧ (n = g.1 → (less g r n).length = r.length) := by
  unfold less
  split
  · exact ⟨by omega, fun _ => rfl⟩
  · exact ⟨by simp, fun h => by omega⟩

/-- Place by place through two rows of counts. -/
def thru (G : Int → Int → List Int) : List Int → List Int → List Int
  | c :: a, d :: b => G c d ++ thru G a b
  | _, _ => []

theorem thru_reps {G : Int → Int → List Int} {c d : Int} {a b : List Int} : ∀ {n : Nat}, thru G (List.replicate n c ++ a) (List.replicate n d ++ b) = (List.replicate n (G c d)).flatten ++ thru G a b
  | 0 => by simp
  | n + 1 => by
    rw [List.replicate_succ, List.replicate_succ, List.replicate_succ, List.cons_append, List.cons_append, thru, thru_reps]
    simp

theorem thru_nil {G : Int → Int → List Int} {a : List Int} : thru G a [] = [] := by cases a <;> rfl

theorem flatten_one {n : Nat} {c : Int} : (List.replicate n [c]).flatten = List.replicate n c := by
  induction n with
  | zero => rfl
  | succ n ih => rw [List.replicate_succ, List.flatten_cons, ih, List.replicate_succ]; rfl

theorem flatten_none {n : Nat} : (List.replicate n ([] : List Int)).flatten = [] := by simp

/-- A count for each two. -/
def two (F : Int → Int → Int) (a b : List Int) : List Int := thru (fun c d => [F c d]) a b

theorem two_cons {F : Int → Int → Int} {c d : Int} {a b : List Int} : two F (c :: a) (d :: b) = F c d :: two F a b := rfl

/-- The first one without the places of the second one. -/
def shr (a b : List Int) : List Int := thru (fun c d => if d = 0 then [c] else []) a b

theorem shr_cons {c d : Int} {a b : List Int} : shr (c :: a) (d :: b) = if d = 0 then c :: shr a b else shr a b := by
  unfold shr
  rw [thru]
  split <;> rfl

/-- The first one's counts at the places that the second one has not. -/
def exp : List Int → List Int → List Int
  | _, [] => []
  | a, c :: b => if c > 0 then 0 :: exp a b else a.take 1 ++ exp (a.drop 1) b

theorem exp_reps : ∀ {n : Nat} {c : Int} {a b : List Int}, exp a (List.replicate n c ++ b) = if c > 0 then List.replicate n 0 ++ exp a b else a.take n ++ exp (a.drop n) b
  | 0, c, a, b => by simp
  | n + 1, c, a, b => by
    rw [List.replicate_succ, List.cons_append, exp, exp_reps, exp_reps]
    by_cases h : c > 0
    · rw [if_pos h, if_pos h, if_pos h]; rfl
    · rw [if_neg h, if_neg h, if_neg h, ← List.append_assoc, List.drop_drop, ← List.take_add, Nat.add_comm 1 n]

theorem exp_len : ∀ {a b : List Int}, (a.length : Int) = b.length - pos b → (exp a b).length = b.length
  | a, [], h => rfl
  | a, c :: b, h => by
    rw [pos_cons] at h
    have := pos_le (e := b)
    simp only [List.length_cons] at h
    rw [exp]
    by_cases hc : c > 0
    · rw [if_pos hc] at h ⊢
      rw [List.length_cons, exp_len (by omega)]; rfl
    · rw [if_neg hc] at h ⊢
      rw [List.length_append, exp_len (by simp; omega)]
      simp
      omega

theorem drop_reps {n t : Nat} {c : Int} {X : List Int} : (List.replicate n c ++ X).drop (n + t) = X.drop t := by
  rw [← List.drop_drop]
  have : (List.replicate n c ++ X).drop n = X := by
    have := List.drop_left (l₁ := List.replicate n c) (l₂ := X)
    simpa using this
  rw [this]

theorem take_reps {n t : Nat} {c : Int} {X : List Int} : (List.replicate n c ++ X).take (n + t) = List.replicate n c ++ X.take t := by
  have : n + t = (List.replicate n c).length + t := by simp
  rw [this, List.take_length_add_append]

theorem exp1_loop {K : Nat} : ∀ (m : Nat) (k : Nat) (l out : List (Int × Int)) (left : Int), l.length ≤ m → m + 1 < k → (∀ p ∈ l, 1 ≤ p.1) → 0 ≤ left → left ≤ sumL l → sumL l ≤ 1000000 → out.length + l.length ≤ 1000000 → (∀ p ∈ out, 0 ≤ p.1) →
    ∃ l' out', algebra_Expand.l1 K k l out left = some (l', out') ∧ expand l' = (expand l).drop left.toNat ∧ expand out' = expand out ++ (expand l).take left.toNat ∧ (∀ p ∈ l', 1 ≤ p.1) ∧ (∀ p ∈ out', 0 ≤ p.1) ∧ out'.length + l'.length ≤ out.length + l.length + 1 ∧ l'.length ≤ l.length ∧ sumL l' = sumL l - left := by
  intro m
  induction m with
  | zero =>
    intro k l out left hl hk hp h0 h1 h2 h3 ho
    obtain ⟨k, rfl⟩ : ∃ m, k = m + 1 := ⟨k - 1, by omega⟩
    have : l = [] := List.eq_nil_of_length_eq_zero (by omega)
    subst this
    have : left = 0 := by simp only [sumL] at h1; omega
    subst this
    refine ⟨[], out, ?_, by simp, by simp [expand], hp, ho, by omega, by omega, by simp [sumL]⟩
    rw [algebra_Expand.l1, if_neg (by simp)]
  | succ m ih =>
    intro k l out left hl hk hp h0 h1 h2 h3 ho
    obtain ⟨k, rfl⟩ : ∃ m, k = m + 1 := ⟨k - 1, by omega⟩
    by_cases hz : left > 0
    · cases l with
      | nil => simp only [sumL] at h1; omega
      | cons g r =>
        have hg := hp g (by simp)
        have hr0 := (le_sumL (l := r) fun p h => by have := hp p (by simp [h]); omega).1
        simp only [sumL] at h1 h2
        simp only [List.length_cons] at hl h3
        have hll := less_len (g := g) (r := r) (n := min left g.1)
        have hs := less_sum (g := g) (r := r) (n := min left g.1)
        simp only [sumL] at hs
        have hx := less_expand (g := g) (r := r) (n := min left g.1) (by omega) (by omega)
        rw [algebra_Expand.l1]
        simp only [List.getD_cons_zero, mn2_eq]
        rw [if_pos (by simpa using hz), if_pos ⟨by simp <;> omega, by simp <;> omega⟩, less_is (by omega) (by omega) (by omega), Option.bind_some, w64 (by omega) (by omega)]
        by_cases hle : left ≤ g.1
        · obtain ⟨k, rfl⟩ : ∃ m, k = m + 1 := ⟨k - 1, by omega⟩
          rw [show left - min left g.1 = 0 by omega, algebra_Expand.l1, if_neg (by simp)]
          rw [show min left g.1 = left by omega] at hx hll hs ⊢
          refine ⟨_, _, rfl, ?_, ?_, less_pos hp (by omega), ?_, by simp; omega, by simp; omega, by simp only [sumL]; omega⟩
          · rw [hx]; have := drop_reps (n := left.toNat) (t := 0) (c := g.2) (X := expand (less g r left)); simpa using this.symm
          · rw [expand_app, hx]; have := take_reps (n := left.toNat) (t := 0) (c := g.2) (X := expand (less g r left)); simp only [Nat.add_zero, List.take_zero, List.append_nil] at this; rw [this]; simp [expand]
          · intro p hq
            rcases List.mem_append.1 hq with hq | hq
            · exact ho p hq
            · simp only [List.mem_singleton] at hq; subst hq; exact h0
        · rw [show min left g.1 = g.1 by omega] at hx hll hs ⊢
          have hlr := hll.2 rfl
          obtain ⟨l', out', e1, e2, e3, e4, e5, e6, e7, e8⟩ := ih k (less g r g.1) (out ++ [(g.1, g.2)]) (left - g.1) (by omega) (by omega) (less_pos hp (by omega)) (by omega) (by omega) (by omega) (by simp; omega) (by
            intro p hq
            rcases List.mem_append.1 hq with hq | hq
            · exact ho p hq
            · simp only [List.mem_singleton] at hq; subst hq; simp only; omega)
          have et : left.toNat = g.1.toNat + (left - g.1).toNat := by omega
          simp only [List.length_append, List.length_cons, List.length_nil] at e6
          refine ⟨l', out', e1, ?_, ?_, e4, e5, by simp only [List.length_cons]; omega, by simp only [List.length_cons]; omega, by simp only [sumL]; omega⟩
          · rw [e2, hx, et, drop_reps]
          · rw [e3, expand_app, hx, et, take_reps]
            simp [expand]
    · have : left = 0 := by omega
      subst this
      refine ⟨l, out, ?_, by simp, by simp, hp, ho, by omega, by omega, by omega⟩
      rw [algebra_Expand.l1, if_neg (by simp)]

theorem exp0_loop {K : Nat} {b : List (Int × Int)} (hK : 1000 ≤ K) (hb : b.length ≤ 200) : ∀ (rest : List (Int × Int)) (j k : Nat) (l out : List (Int × Int)), b.drop j = rest → rest.length < k → j ≤ b.length → (∀ p ∈ rest, 1 ≤ p.1) → (∀ p ∈ l, 1 ≤ p.1) → (∀ p ∈ out, 0 ≤ p.1) → l.length ≤ 200 → out.length + l.length ≤ 200 + j → sumL l ≤ 20000 →
    sumL l = sumL rest - pos (expand rest) → ∃ out', algebra_Expand.l0 K b k l out (j : Int) = some out' ∧ expand out' = expand out ++ exp (expand l) (expand rest) ∧ (∀ p ∈ out', 0 ≤ p.1) ∧ out'.length ≤ 400
  | [], j, k, l, out, hd, hk, hjb, hr, hl, ho, hll, hol, hs, hz => by
    obtain ⟨k, rfl⟩ : ∃ m, k = m + 1 := ⟨k - 1, by simp at hk; omega⟩
    have := drop_nil hd
    refine ⟨out, ?_, by simp [expand, exp], ho, ?_⟩
    · rw [algebra_Expand.l0, if_neg (by simp; omega)]
    · omega
  | g :: rest, j, k, l, out, hd, hk, hjb, hr, hl, ho, hll, hol, hs, hz => by
    obtain ⟨k, rfl⟩ : ∃ m, k = m + 1 := ⟨k - 1, by simp at hk; omega⟩
    obtain ⟨hj, hgd, hd'⟩ := drop_cons hd (0, 0)
    have hg := hr g (by simp)
    have hrest : ∀ p ∈ rest, 1 ≤ p.1 := fun p h => hr p (by simp [h])
    have hk' : rest.length < k := by simp at hk; omega
    have hw : IntKind.wrap .i64 ((j : Int) + 1) = ((j + 1 : Nat) : Int) := by rw [w64 (by omega) (by omega)]; omega
    have hpl := pos_le (e := expand rest)
    have hxl := expand_len (l := rest) fun p h => by have := hrest p h; omega
    rw [expand, pos_app, pos_reps] at hz
    simp only [sumL] at hz
    rw [algebra_Expand.l0]
    simp only [Int.toNat_natCast, hgd, hw]
    rw [if_pos (by simpa using hj), if_pos ⟨by omega, by omega⟩, expand, exp_reps]
    by_cases hc : g.2 > 0
    · rw [if_pos hc] at hz
      rw [if_pos (by simpa using hc), if_pos hc, if_pos (by simp; omega), Option.bind_some]
      obtain ⟨out', e1, e2, e3, e4⟩ := exp0_loop hK hb rest (j + 1) k l (out ++ [(g.1, 0)]) hd' hk' (by omega) hrest hl (by
        intro p hq
        rcases List.mem_append.1 hq with hq | hq
        · exact ho p hq
        · simp only [List.mem_singleton] at hq; subst hq; simp only; omega) hll (by simp; omega) hs (by omega)
      refine ⟨out', e1, ?_, e3, e4⟩
      rw [e2, expand_app]; simp [expand]
    · rw [if_neg hc] at hz
      rw [if_neg (by simpa using hc), if_neg hc]
      obtain ⟨l', o', e1, e2, e3, e4, e5, e6, e7, e8⟩ := exp1_loop (K := K) l.length K l out g.1 (Nat.le_refl _) (by omega) hl (by omega) (by omega) (by omega) (by omega) ho
      rw [e1, Option.bind_some]
      obtain ⟨out', f1, f2, f3, f4⟩ := exp0_loop hK hb rest (j + 1) k l' o' hd' hk' (by omega) hrest e4 e5 (by omega) (by omega) (by omega) (by omega)
      refine ⟨out', f1, ?_, f3, f4⟩
      rw [f2, e3, e2]; simp

theorem expand_is {K : Nat} {a b : List Int} (hK : 1000 ≤ K) (ha : a.length ≤ 20000) (hra : (rle a).length ≤ 200) (hb : b.length ≤ 20000) (hrb : (rle b).length ≤ 200) :
    algebra_Expand K (sub a) (sub b) = some (if (b.length : Int) - pos b ≠ a.length then (none, 80) else packed (exp a b)) := by
  unfold algebra_Expand
  have hp := pos_le (e := b)
  rw [asize_is, Option.bind_some, ain_is hK hb hrb, Option.bind_some, asize_is, Option.bind_some, w64 (by omega) (by omega)]
  by_cases h : (b.length : Int) - pos b ≠ a.length
  · rw [if_pos (by simpa using h), if_pos h]
  · rw [if_neg (by simpa using h), if_neg h, asegs_is ha hra, Option.bind_some, asegs_is hb hrb, Option.bind_some]
    have fa := rle_facts a
    have fb := rle_facts b
    obtain ⟨out', e1, e2, e3, e4⟩ := exp0_loop (K := K) hK hrb (rle b) 0 K (rle a) [] rfl (by omega) (by omega) (rle_pos b) (rle_pos a) (by simp) hra (by simp; omega) (by omega) (by rw [fa.2.2, fb.2.2, fb.2.1]; omega)
    rw [Int.natCast_zero] at e1
    rw [e1, Option.bind_some, pack_is (by omega) (by omega) e3, Option.bind_some, e2, fa.2.1, fb.2.1]
    rfl

def unF (c d : Int) : Int := min (c + d) 100

theorem un_one {K : Nat} {c d : Int} (h0 : 0 ≤ c) (h1 : c ≤ 100) (h2 : 0 ≤ d) (h3 : d ≤ 100) : algebra_Union_1 K c d = some (unF c d) := by
  unfold algebra_Union_1 unF; rw [mn2_eq, w64 (by omega) (by omega)]

theorem un_each {K : Nat} {n c d : Int} {x : List (Int × Int)} (h0 : 0 ≤ c) (h1 : c ≤ 100) (h2 : 0 ≤ d) (h3 : d ≤ 100) (hx : x.length ≤ 1000000) : algebra_each_1_gggbb_40575 K n c d x = some (x ++ [(n, unF c d)]) := by
  unfold algebra_each_1_gggbb_40575
  rw [un_one h0 h1 h2 h3, Option.bind_some, if_pos (by simp; omega)]

theorem un_loop {K : Nat} : ∀ (m k : Nat) (p q x : List (Int × Int)), p.length + q.length ≤ m → m < k → (∀ g ∈ p, 1 ≤ g.1) → (∀ g ∈ q, 1 ≤ g.1) → (∀ g ∈ p, 0 ≤ g.2 ∧ g.2 ≤ 100) → (∀ g ∈ q, 0 ≤ g.2 ∧ g.2 ≤ 100) → sumL p ≤ 20000 → sumL q ≤ 20000 → x.length + m ≤ 100000 → (∀ g ∈ x, 0 ≤ g.1) →
    ∃ y, algebra_both_ggcalgebraeach1_5cbdc.l0 K k x p q = some (0, y) ∧ expand y = expand x ++ thru (fun c d => [unF c d]) (expand p) (expand q) ∧ (∀ g ∈ y, 0 ≤ g.1) ∧ y.length ≤ x.length + m := by
  intro m
  induction m with
  | zero =>
    intro k p q x hm hk hp hq cp cq sp sq hx h0
    obtain ⟨k, rfl⟩ : ∃ m, k = m + 1 := ⟨k - 1, by omega⟩
    have : p = [] := List.eq_nil_of_length_eq_zero (by omega)
    subst this
    refine ⟨x, ?_, by simp [expand, thru], h0, by omega⟩
    rw [algebra_both_ggcalgebraeach1_5cbdc.l0, if_neg (by simp), Option.bind_some, if_neg (by simp)]
  | succ m ih =>
    intro k p q x hm hk hp hq cp cq sp sq hx h0
    obtain ⟨k, rfl⟩ : ∃ m, k = m + 1 := ⟨k - 1, by omega⟩
    cases p with
    | nil =>
      refine ⟨x, ?_, by simp [expand, thru], h0, by omega⟩
      rw [algebra_both_ggcalgebraeach1_5cbdc.l0, if_neg (by simp), Option.bind_some, if_neg (by simp)]
    | cons g p =>
      cases q with
      | nil =>
        refine ⟨x, ?_, by simp [expand, thru_nil], h0, by omega⟩
        rw [algebra_both_ggcalgebraeach1_5cbdc.l0, if_pos (by simp <;> omega), Option.bind_some, if_neg (by simp)]
      | cons h q =>
        have hg := hp g (by simp)
        have hh := hq h (by simp)
        have cg := cp g (by simp)
        have ch := cq h (by simp)
        have rp := (le_sumL (l := p) fun r hr => by have := hp r (by simp [hr]); omega).1
        have rq := (le_sumL (l := q) fun r hr => by have := hq r (by simp [hr]); omega).1
        simp only [sumL] at sp sq
        simp only [List.length_cons] at hm
        have lp := less_len (g := g) (r := p) (n := min g.1 h.1)
        have lq := less_len (g := h) (r := q) (n := min g.1 h.1)
        have ep := less_expand (g := g) (r := p) (n := min g.1 h.1) (by omega) (by omega)
        have eq := less_expand (g := h) (r := q) (n := min g.1 h.1) (by omega) (by omega)
        have up := less_sum (g := g) (r := p) (n := min g.1 h.1)
        have uq := less_sum (g := h) (r := q) (n := min g.1 h.1)
        simp only [sumL] at up uq
        rw [algebra_both_ggcalgebraeach1_5cbdc.l0]
        simp only [List.getD_cons_zero, mn2_eq]
        rw [if_pos (by simp <;> omega), Option.bind_some, if_pos (by simp <;> omega), if_pos (by simp <;> omega), un_each cg.1 cg.2 ch.1 ch.2 (by omega), Option.bind_some, less_is (by omega) (by omega) (by omega), Option.bind_some, less_is (by omega) (by omega) (by omega), Option.bind_some]
        have key : (less g p (min g.1 h.1)).length + (less h q (min g.1 h.1)).length ≤ m := by
          rcases Int.le_total g.1 h.1 with hle | hle
          · have := lp.2 (by omega); omega
          · have := lq.2 (by omega); omega
        generalize hn : min g.1 h.1 = n at *
        have xo : ∀ r ∈ x ++ [(n, unF g.2 h.2)], 0 ≤ r.1 := by
          intro r hr
          rcases List.mem_append.1 hr with hr | hr
          · exact h0 r hr
          · simp only [List.mem_singleton] at hr; subst hr; simp only; omega
        have hlen : (x ++ [(n, unF g.2 h.2)]).length ≤ x.length + 1 := by simp
        obtain ⟨y, e1, e2, e3, e4⟩ := ih k (less g p n) (less h q n) (x ++ [(n, unF g.2 h.2)]) key (by omega) (less_pos hp (by omega)) (less_pos hq (by omega)) (less_all (P := fun c => 0 ≤ c ∧ c ≤ 100) cp) (less_all (P := fun c => 0 ≤ c ∧ c ≤ 100) cq) (by omega) (by omega) (by omega) xo
        refine ⟨y, e1, ?_, e3, by omega⟩
        rw [e2, ep, eq, thru_reps, expand_app, List.append_assoc]
        congr 2
        rw [flatten_one]; simp [expand]

theorem un_both {K : Nat} {a b : List Int} (hK : 1000 ≤ K) (ha : a.length ≤ 20000) (hra : (rle a).length ≤ 200) (hb : b.length ≤ 20000) (hrb : (rle b).length ≤ 200) (ca : ∀ c ∈ a, 0 ≤ c ∧ c ≤ 100) (cb : ∀ c ∈ b, 0 ≤ c ∧ c ≤ 100) :
    (a.length ≠ b.length → algebra_both_ggcalgebraeach1_5cbdc K (sub a) (sub b) = some (80, [])) ∧ (a.length = b.length → ∃ y, algebra_both_ggcalgebraeach1_5cbdc K (sub a) (sub b) = some (0, y) ∧ expand y = thru (fun c d => [unF c d]) a b ∧ (∀ g ∈ y, 0 ≤ g.1) ∧ y.length ≤ 400) := by
  unfold algebra_both_ggcalgebraeach1_5cbdc
  rw [asize_is, Option.bind_some, asize_is, Option.bind_some]
  have fa := rle_facts a
  have fb := rle_facts b
  refine ⟨fun h => by rw [if_pos (by simp; omega)], fun h => ?_⟩
  rw [if_neg (by simp; omega), asegs_is ha hra, Option.bind_some, asegs_is hb hrb, Option.bind_some]
  obtain ⟨y, e1, e2, e3, e4⟩ := un_loop (K := K) 400 K (rle a) (rle b) [] (by omega) (by omega) (rle_pos a) (rle_pos b) (fun g hg => ca _ (rle_mem hg)) (fun g hg => cb _ (rle_mem hg)) (by omega) (by omega) (by simp) (by simp)
  rw [fa.2.1, fb.2.1] at e2
  exact ⟨y, e1, by simpa [expand] using e2, e3, by simpa using e4⟩

theorem un_is {K : Nat} {a b : List Int} (hK : 1000 ≤ K) (ha : a.length ≤ 20000) (hra : (rle a).length ≤ 200) (hb : b.length ≤ 20000) (hrb : (rle b).length ≤ 200) (ca : ∀ c ∈ a, 0 ≤ c ∧ c ≤ 100) (cb : ∀ c ∈ b, 0 ≤ c ∧ c ≤ 100) :
    algebra_each_ggcalgebraUnion1 K (sub a) (sub b) = some (if a.length ≠ b.length then (none, 80) else packed (two unF a b)) := by
  obtain ⟨h1, h2⟩ := un_both hK ha hra hb hrb ca cb
  unfold algebra_each_ggcalgebraUnion1
  by_cases h : a.length = b.length
  · obtain ⟨y, e1, e2, e3, e4⟩ := h2 h
    rw [e1, Option.bind_some, if_neg (by simp), pack_is (by omega) (by omega) e3, Option.bind_some, if_neg (by simpa using h), e2]
    rfl
  · rw [h1 h, Option.bind_some, if_pos (by simp), if_pos h]

def noF (c d : Int) : Int := if c = 0 then 1 else 0

theorem no_one {K : Nat} {c d : Int} (h0 : 0 ≤ c) (h1 : c ≤ 100) (h2 : 0 ≤ d) (h3 : d ≤ 100) : algebra_Not_1 K c d = some (noF c d) := by
  unfold algebra_Not_1 algebra_once noF; by_cases h : c = 0 <;> simp [h]

theorem no_each {K : Nat} {n c d : Int} {x : List (Int × Int)} (h0 : 0 ≤ c) (h1 : c ≤ 100) (h2 : 0 ≤ d) (h3 : d ≤ 100) (hx : x.length ≤ 1000000) : algebra_each_1_gggbb_0c3f5 K n c d x = some (x ++ [(n, noF c d)]) := by
  unfold algebra_each_1_gggbb_0c3f5
  rw [no_one h0 h1 h2 h3, Option.bind_some, if_pos (by simp; omega)]

theorem no_loop {K : Nat} : ∀ (m k : Nat) (p q x : List (Int × Int)), p.length + q.length ≤ m → m < k → (∀ g ∈ p, 1 ≤ g.1) → (∀ g ∈ q, 1 ≤ g.1) → (∀ g ∈ p, 0 ≤ g.2 ∧ g.2 ≤ 100) → (∀ g ∈ q, 0 ≤ g.2 ∧ g.2 ≤ 100) → sumL p ≤ 20000 → sumL q ≤ 20000 → x.length + m ≤ 100000 → (∀ g ∈ x, 0 ≤ g.1) →
    ∃ y, algebra_both_ggcalgebraeach1_d1c28.l0 K k x p q = some (0, y) ∧ expand y = expand x ++ thru (fun c d => [noF c d]) (expand p) (expand q) ∧ (∀ g ∈ y, 0 ≤ g.1) ∧ y.length ≤ x.length + m := by
  intro m
  induction m with
  | zero =>
    intro k p q x hm hk hp hq cp cq sp sq hx h0
    obtain ⟨k, rfl⟩ : ∃ m, k = m + 1 := ⟨k - 1, by omega⟩
    have : p = [] := List.eq_nil_of_length_eq_zero (by omega)
    subst this
    refine ⟨x, ?_, by simp [expand, thru], h0, by omega⟩
    rw [algebra_both_ggcalgebraeach1_d1c28.l0, if_neg (by simp), Option.bind_some, if_neg (by simp)]
  | succ m ih =>
    intro k p q x hm hk hp hq cp cq sp sq hx h0
    obtain ⟨k, rfl⟩ : ∃ m, k = m + 1 := ⟨k - 1, by omega⟩
    cases p with
    | nil =>
      refine ⟨x, ?_, by simp [expand, thru], h0, by omega⟩
      rw [algebra_both_ggcalgebraeach1_d1c28.l0, if_neg (by simp), Option.bind_some, if_neg (by simp)]
    | cons g p =>
      cases q with
      | nil =>
        refine ⟨x, ?_, by simp [expand, thru_nil], h0, by omega⟩
        rw [algebra_both_ggcalgebraeach1_d1c28.l0, if_pos (by simp <;> omega), Option.bind_some, if_neg (by simp)]
      | cons h q =>
        have hg := hp g (by simp)
        have hh := hq h (by simp)
        have cg := cp g (by simp)
        have ch := cq h (by simp)
        have rp := (le_sumL (l := p) fun r hr => by have := hp r (by simp [hr]); omega).1
        have rq := (le_sumL (l := q) fun r hr => by have := hq r (by simp [hr]); omega).1
        simp only [sumL] at sp sq
        simp only [List.length_cons] at hm
        have lp := less_len (g := g) (r := p) (n := min g.1 h.1)
        have lq := less_len (g := h) (r := q) (n := min g.1 h.1)
        have ep := less_expand (g := g) (r := p) (n := min g.1 h.1) (by omega) (by omega)
        have eq := less_expand (g := h) (r := q) (n := min g.1 h.1) (by omega) (by omega)
        have up := less_sum (g := g) (r := p) (n := min g.1 h.1)
        have uq := less_sum (g := h) (r := q) (n := min g.1 h.1)
        simp only [sumL] at up uq
        rw [algebra_both_ggcalgebraeach1_d1c28.l0]
        simp only [List.getD_cons_zero, mn2_eq]
        rw [if_pos (by simp <;> omega), Option.bind_some, if_pos (by simp <;> omega), if_pos (by simp <;> omega), no_each cg.1 cg.2 ch.1 ch.2 (by omega), Option.bind_some, less_is (by omega) (by omega) (by omega), Option.bind_some, less_is (by omega) (by omega) (by omega), Option.bind_some]
        have key : (less g p (min g.1 h.1)).length + (less h q (min g.1 h.1)).length ≤ m := by
          rcases Int.le_total g.1 h.1 with hle | hle
          · have := lp.2 (by omega); omega
          · have := lq.2 (by omega); omega
        generalize hn : min g.1 h.1 = n at *
        have xo : ∀ r ∈ x ++ [(n, noF g.2 h.2)], 0 ≤ r.1 := by
          intro r hr
          rcases List.mem_append.1 hr with hr | hr
          · exact h0 r hr
          · simp only [List.mem_singleton] at hr; subst hr; simp only; omega
        have hlen : (x ++ [(n, noF g.2 h.2)]).length ≤ x.length + 1 := by simp
        obtain ⟨y, e1, e2, e3, e4⟩ := ih k (less g p n) (less h q n) (x ++ [(n, noF g.2 h.2)]) key (by omega) (less_pos hp (by omega)) (less_pos hq (by omega)) (less_all (P := fun c => 0 ≤ c ∧ c ≤ 100) cp) (less_all (P := fun c => 0 ≤ c ∧ c ≤ 100) cq) (by omega) (by omega) (by omega) xo
        refine ⟨y, e1, ?_, e3, by omega⟩
        rw [e2, ep, eq, thru_reps, expand_app, List.append_assoc]
        congr 2
        rw [flatten_one]; simp [expand]

theorem no_both {K : Nat} {a b : List Int} (hK : 1000 ≤ K) (ha : a.length ≤ 20000) (hra : (rle a).length ≤ 200) (hb : b.length ≤ 20000) (hrb : (rle b).length ≤ 200) (ca : ∀ c ∈ a, 0 ≤ c ∧ c ≤ 100) (cb : ∀ c ∈ b, 0 ≤ c ∧ c ≤ 100) :
    (a.length ≠ b.length → algebra_both_ggcalgebraeach1_d1c28 K (sub a) (sub b) = some (80, [])) ∧ (a.length = b.length → ∃ y, algebra_both_ggcalgebraeach1_d1c28 K (sub a) (sub b) = some (0, y) ∧ expand y = thru (fun c d => [noF c d]) a b ∧ (∀ g ∈ y, 0 ≤ g.1) ∧ y.length ≤ 400) := by
  unfold algebra_both_ggcalgebraeach1_d1c28
  rw [asize_is, Option.bind_some, asize_is, Option.bind_some]
  have fa := rle_facts a
  have fb := rle_facts b
  refine ⟨fun h => by rw [if_pos (by simp; omega)], fun h => ?_⟩
  rw [if_neg (by simp; omega), asegs_is ha hra, Option.bind_some, asegs_is hb hrb, Option.bind_some]
  obtain ⟨y, e1, e2, e3, e4⟩ := no_loop (K := K) 400 K (rle a) (rle b) [] (by omega) (by omega) (rle_pos a) (rle_pos b) (fun g hg => ca _ (rle_mem hg)) (fun g hg => cb _ (rle_mem hg)) (by omega) (by omega) (by simp) (by simp)
  rw [fa.2.1, fb.2.1] at e2
  exact ⟨y, e1, by simpa [expand] using e2, e3, by simpa using e4⟩

theorem no_is {K : Nat} {a b : List Int} (hK : 1000 ≤ K) (ha : a.length ≤ 20000) (hra : (rle a).length ≤ 200) (hb : b.length ≤ 20000) (hrb : (rle b).length ≤ 200) (ca : ∀ c ∈ a, 0 ≤ c ∧ c ≤ 100) (cb : ∀ c ∈ b, 0 ≤ c ∧ c ≤ 100) :
    algebra_each_ggcalgebraNot1 K (sub a) (sub b) = some (if a.length ≠ b.length then (none, 80) else packed (two noF a b)) := by
  obtain ⟨h1, h2⟩ := no_both hK ha hra hb hrb ca cb
  unfold algebra_each_ggcalgebraNot1
  by_cases h : a.length = b.length
  · obtain ⟨y, e1, e2, e3, e4⟩ := h2 h
    rw [e1, Option.bind_some, if_neg (by simp), pack_is (by omega) (by omega) e3, Option.bind_some, if_neg (by simpa using h), e2]
    rfl
  · rw [h1 h, Option.bind_some, if_pos (by simp), if_pos h]

theorem sh_each {K : Nat} {n c d : Int} {x : List (Int × Int)} (h0 : 0 ≤ c) (h1 : c ≤ 100) (h2 : 0 ≤ d) (h3 : d ≤ 100) (hx : x.length ≤ 1000000) : algebra_Shrink_1_gggb_41c60 K n c d x = some (x ++ (if d = 0 then [(n, c)] else [])) := by
  unfold algebra_Shrink_1_gggb_41c60
  by_cases h : d = 0
  · rw [if_pos (by simpa using h), if_pos (by simp; omega), if_pos h]
  · rw [if_neg (by simpa using h), if_neg h]; simp

theorem sh_loop {K : Nat} : ∀ (m k : Nat) (p q x : List (Int × Int)), p.length + q.length ≤ m → m < k → (∀ g ∈ p, 1 ≤ g.1) → (∀ g ∈ q, 1 ≤ g.1) → (∀ g ∈ p, 0 ≤ g.2 ∧ g.2 ≤ 100) → (∀ g ∈ q, 0 ≤ g.2 ∧ g.2 ≤ 100) → sumL p ≤ 20000 → sumL q ≤ 20000 → x.length + m ≤ 100000 → (∀ g ∈ x, 0 ≤ g.1) →
    ∃ y, algebra_both_ggcalgebraShrink1_1c107.l0 K k x p q = some (0, y) ∧ expand y = expand x ++ thru (fun c d => if d = 0 then [c] else []) (expand p) (expand q) ∧ (∀ g ∈ y, 0 ≤ g.1) ∧ y.length ≤ x.length + m := by
  intro m
  induction m with
  | zero =>
    intro k p q x hm hk hp hq cp cq sp sq hx h0
    obtain ⟨k, rfl⟩ : ∃ m, k = m + 1 := ⟨k - 1, by omega⟩
    have : p = [] := List.eq_nil_of_length_eq_zero (by omega)
    subst this
    refine ⟨x, ?_, by simp [expand, thru], h0, by omega⟩
    rw [algebra_both_ggcalgebraShrink1_1c107.l0, if_neg (by simp), Option.bind_some, if_neg (by simp)]
  | succ m ih =>
    intro k p q x hm hk hp hq cp cq sp sq hx h0
    obtain ⟨k, rfl⟩ : ∃ m, k = m + 1 := ⟨k - 1, by omega⟩
    cases p with
    | nil =>
      refine ⟨x, ?_, by simp [expand, thru], h0, by omega⟩
      rw [algebra_both_ggcalgebraShrink1_1c107.l0, if_neg (by simp), Option.bind_some, if_neg (by simp)]
    | cons g p =>
      cases q with
      | nil =>
        refine ⟨x, ?_, by simp [expand, thru_nil], h0, by omega⟩
        rw [algebra_both_ggcalgebraShrink1_1c107.l0, if_pos (by simp <;> omega), Option.bind_some, if_neg (by simp)]
      | cons h q =>
        have hg := hp g (by simp)
        have hh := hq h (by simp)
        have cg := cp g (by simp)
        have ch := cq h (by simp)
        have rp := (le_sumL (l := p) fun r hr => by have := hp r (by simp [hr]); omega).1
        have rq := (le_sumL (l := q) fun r hr => by have := hq r (by simp [hr]); omega).1
        simp only [sumL] at sp sq
        simp only [List.length_cons] at hm
        have lp := less_len (g := g) (r := p) (n := min g.1 h.1)
        have lq := less_len (g := h) (r := q) (n := min g.1 h.1)
        have ep := less_expand (g := g) (r := p) (n := min g.1 h.1) (by omega) (by omega)
        have eq := less_expand (g := h) (r := q) (n := min g.1 h.1) (by omega) (by omega)
        have up := less_sum (g := g) (r := p) (n := min g.1 h.1)
        have uq := less_sum (g := h) (r := q) (n := min g.1 h.1)
        simp only [sumL] at up uq
        rw [algebra_both_ggcalgebraShrink1_1c107.l0]
        simp only [List.getD_cons_zero, mn2_eq]
        rw [if_pos (by simp <;> omega), Option.bind_some, if_pos (by simp <;> omega), if_pos (by simp <;> omega), sh_each cg.1 cg.2 ch.1 ch.2 (by omega), Option.bind_some, less_is (by omega) (by omega) (by omega), Option.bind_some, less_is (by omega) (by omega) (by omega), Option.bind_some]
        have key : (less g p (min g.1 h.1)).length + (less h q (min g.1 h.1)).length ≤ m := by
          rcases Int.le_total g.1 h.1 with hle | hle
          · have := lp.2 (by omega); omega
          · have := lq.2 (by omega); omega
        generalize hn : min g.1 h.1 = n at *
        have xo : ∀ r ∈ x ++ (if h.2 = 0 then [(n, g.2)] else []), 0 ≤ r.1 := by
          intro r hr
          rcases List.mem_append.1 hr with hr | hr
          · exact h0 r hr
          · split at hr
            · simp only [List.mem_singleton] at hr; subst hr; simp only; omega
            · cases hr
        have hlen : (x ++ (if h.2 = 0 then [(n, g.2)] else [])).length ≤ x.length + 1 := by split <;> simp
        obtain ⟨y, e1, e2, e3, e4⟩ := ih k (less g p n) (less h q n) (x ++ (if h.2 = 0 then [(n, g.2)] else [])) key (by omega) (less_pos hp (by omega)) (less_pos hq (by omega)) (less_all (P := fun c => 0 ≤ c ∧ c ≤ 100) cp) (less_all (P := fun c => 0 ≤ c ∧ c ≤ 100) cq) (by omega) (by omega) (by omega) xo
        refine ⟨y, e1, ?_, e3, by omega⟩
        rw [e2, ep, eq, thru_reps, expand_app, List.append_assoc]
        congr 2
        by_cases hz : h.2 = 0
        · simp only [if_pos hz]; rw [flatten_one]; simp [expand]
        · simp only [if_neg hz]; rw [flatten_none]; rfl

theorem sh_both {K : Nat} {a b : List Int} (hK : 1000 ≤ K) (ha : a.length ≤ 20000) (hra : (rle a).length ≤ 200) (hb : b.length ≤ 20000) (hrb : (rle b).length ≤ 200) (ca : ∀ c ∈ a, 0 ≤ c ∧ c ≤ 100) (cb : ∀ c ∈ b, 0 ≤ c ∧ c ≤ 100) :
    (a.length ≠ b.length → algebra_both_ggcalgebraShrink1_1c107 K (sub a) (sub b) = some (80, [])) ∧ (a.length = b.length → ∃ y, algebra_both_ggcalgebraShrink1_1c107 K (sub a) (sub b) = some (0, y) ∧ expand y = thru (fun c d => if d = 0 then [c] else []) a b ∧ (∀ g ∈ y, 0 ≤ g.1) ∧ y.length ≤ 400) := by
  unfold algebra_both_ggcalgebraShrink1_1c107
  rw [asize_is, Option.bind_some, asize_is, Option.bind_some]
  have fa := rle_facts a
  have fb := rle_facts b
  refine ⟨fun h => by rw [if_pos (by simp; omega)], fun h => ?_⟩
  rw [if_neg (by simp; omega), asegs_is ha hra, Option.bind_some, asegs_is hb hrb, Option.bind_some]
  obtain ⟨y, e1, e2, e3, e4⟩ := sh_loop (K := K) 400 K (rle a) (rle b) [] (by omega) (by omega) (rle_pos a) (rle_pos b) (fun g hg => ca _ (rle_mem hg)) (fun g hg => cb _ (rle_mem hg)) (by omega) (by omega) (by simp) (by simp)
  rw [fa.2.1, fb.2.1] at e2
  exact ⟨y, e1, by simpa [expand] using e2, e3, by simpa using e4⟩

theorem shrink_is {K : Nat} {a b : List Int} (hK : 1000 ≤ K) (ha : a.length ≤ 20000) (hra : (rle a).length ≤ 200) (hb : b.length ≤ 20000) (hrb : (rle b).length ≤ 200) (ca : ∀ c ∈ a, 0 ≤ c ∧ c ≤ 100) (cb : ∀ c ∈ b, 0 ≤ c ∧ c ≤ 100) :
    algebra_Shrink K (sub a) (sub b) = some (if a.length ≠ b.length then (none, 80) else packed (shr a b)) := by
  obtain ⟨h1, h2⟩ := sh_both hK ha hra hb hrb ca cb
  unfold algebra_Shrink
  by_cases h : a.length = b.length
  · obtain ⟨y, e1, e2, e3, e4⟩ := h2 h
    rw [e1, Option.bind_some, if_neg (by simp), pack_is (by omega) (by omega) e3, Option.bind_some, if_neg (by simpa using h), e2]
    rfl
  · rw [h1 h, Option.bind_some, if_pos (by simp), if_pos h]

theorem union_is {K : Nat} {a b : List Int} (hK : 1000 ≤ K) (ha : a.length ≤ 20000) (hra : (rle a).length ≤ 200) (hb : b.length ≤ 20000) (hrb : (rle b).length ≤ 200) (ca : ∀ c ∈ a, 0 ≤ c ∧ c ≤ 100) (cb : ∀ c ∈ b, 0 ≤ c ∧ c ≤ 100) :
    algebra_Union K (sub a) (sub b) = some (if a.length ≠ b.length then (none, 80) else packed (two unF a b)) := by
  unfold algebra_Union
  rw [un_is hK ha hra hb hrb ca cb]; rfl

theorem not_is {K : Nat} {a : List Int} (hK : 1000 ≤ K) (ha : a.length ≤ 20000) (hra : (rle a).length ≤ 200) (ca : ∀ c ∈ a, 0 ≤ c ∧ c ≤ 100) :
    algebra_Not K (sub a) = some (packed (two noF a a)).1 := by
  unfold algebra_Not
  rw [no_is hK ha hra ha hra ca ca, if_neg (by simp)]; rfl

/-- A text's bytes. -/
def txt (s : ByteArray) : List Int := s.data.toList.map fun b => (b.toNat : Int)

theorem txt_len {s : ByteArray} : (txt s).length = s.size := by simp [txt]

theorem ofBytes_txt {s : ByteArray} : ofBytes (txt s) = s := by
  cases s with
  | mk d =>
    unfold ofBytes txt
    rw [List.map_map]
    have : ((fun n : Int => UInt8.ofNat n.toNat) ∘ fun b : UInt8 => (b.toNat : Int)) = id := by
      funext b; simp
    rw [this]; simp

theorem txt_extract {s : ByteArray} {i j : Nat} : txt (s.extract i j) = ((txt s).drop i).take (j - i) := by
  unfold txt
  rw [ByteArray.data_extract, Array.toList_extract, List.map_take.symm.symm]
  simp [List.extract_eq_take_drop, List.map_drop]

/-- What is left of a row without the places of a subset. -/
def del {α : Type} : List Int → List α → List α
  | c :: e, x :: s => if c = 0 then x :: del e s else del e s
  | _, _ => []

theorem del_nil {α : Type} {e : List Int} : del e ([] : List α) = [] := by cases e <;> rfl

theorem del_reps {α : Type} : ∀ {n : Nat} {c : Int} {e : List Int} {s : List α}, del (List.replicate n c ++ e) s = (if c = 0 then s.take n else []) ++ del e (s.drop n)
  | 0, c, e, s => by simp
  | n + 1, c, e, [] => by simp [del_nil]
  | n + 1, c, e, x :: s => by
    rw [List.replicate_succ, List.cons_append, del, del_reps]
    by_cases h : c = 0
    · rw [if_pos h, if_pos h, if_pos h]; rfl
    · rw [if_neg h, if_neg h, if_neg h]; rfl

theorem putAt_len {α : Type} {out l : List α} {n : Nat} (h : n + l.length ≤ out.length) : (putAt out l n).length = out.length := by
  unfold putAt
  simp
  omega

theorem putAt_take {α : Type} {out l : List α} {n : Nat} (h : n + l.length ≤ out.length) : (putAt out l n).take (n + l.length) = out.take n ++ l := by
  unfold putAt
  rw [← List.append_assoc]
  have : (out.take n ++ l).length = n + l.length := by simp; omega
  rw [← this, List.take_left]

theorem delete_loop {K : Nat} {segs : List (Int × Int)} {s : ByteArray} (hs : s.size ≤ 1000000) (hsl : segs.length ≤ 1000000) : ∀ (rest : List (Int × Int)) (j k : Nat) (out W : List Int) (n a : Nat), segs.drop j = rest → rest.length < k → (∀ g ∈ rest, 0 ≤ g.1) → out.take n = W → n ≤ a → out.length = s.size → (a : Int) + sumL rest = s.size →
    algebra_Delete.l0 K segs s k out (n : Int) (a : Int) (j : Int) = some (ofBytes (W ++ del (expand rest) ((txt s).drop a)), 0)
  | [], j, k, out, W, n, a, hd, hk, hg, hW, hn, ho, ha => by
    obtain ⟨k, rfl⟩ : ∃ m, k = m + 1 := ⟨k - 1, by simp at hk; omega⟩
    have := drop_nil hd
    simp only [sumL] at ha
    rw [algebra_Delete.l0, if_neg (by simp; omega), if_pos ⟨by omega, by omega⟩]
    simp [expand, del, hW]
  | g :: rest, j, k, out, W, n, a, hd, hk, hg, hW, hn, ho, ha => by
    obtain ⟨k, rfl⟩ : ∃ m, k = m + 1 := ⟨k - 1, by simp at hk; omega⟩
    obtain ⟨hj, hgd, hd'⟩ := drop_cons hd (0, 0)
    have hg0 : 0 ≤ g.1 := hg g (by simp)
    have hrest : ∀ g ∈ rest, 0 ≤ g.1 := fun g h => hg g (by simp [h])
    have hk' : rest.length < k := by simp at hk; omega
    have hr0 := (le_sumL hrest).1
    simp only [sumL] at ha
    obtain ⟨m, hm⟩ : ∃ m : Nat, g.1 = m := ⟨g.1.toNat, by omega⟩
    have hw : IntKind.wrap .i64 ((j : Int) + 1) = ((j + 1 : Nat) : Int) := by rw [w64 (by omega) (by omega)]; omega
    have hwa : IntKind.wrap .i64 ((a : Int) + g.1) = ((a + m : Nat) : Int) := by rw [w64 (by omega) (by omega)]; omega
    have hx : List.map (fun b => (UInt8.toNat b : Int)) (Array.toList (ByteArray.data (ByteArray.extract s a (a + m)))) = ((txt s).drop a).take m := by
      have := txt_extract (s := s) (i := a) (j := a + m)
      rw [show a + m - a = m by omega] at this
      exact this
    have htl := txt_len (s := s)
    have hlen : (((txt s).drop a).take m).length = m := by simp; omega
    rw [algebra_Delete.l0]
    simp only [Int.toNat_natCast, hgd, hw, hwa]
    rw [if_pos (by simpa using hj), if_pos ⟨by omega, by omega⟩, expand, del_reps, hm, Int.toNat_natCast, List.drop_drop]
    by_cases hc : g.2 = 0
    · rw [if_pos (by simpa using hc), if_pos ⟨by omega, by omega, by omega, by omega, by omega⟩, if_pos hc, hx]
      have htk : List.take (out.length - n) (((txt s).drop a).take m) = ((txt s).drop a).take m := List.take_of_length_le (by omega)
      rw [htk, hlen]
      have hwn : IntKind.wrap .i64 ((n : Int) + (m : Int)) = ((n + m : Nat) : Int) := by rw [w64 (by omega) (by omega)]; omega
      have hp := putAt_take (out := out) (l := ((txt s).drop a).take m) (n := n) (by omega)
      rw [hlen] at hp
      rw [hwn, delete_loop hs hsl rest (j + 1) k _ _ (n + m) (a + m) hd' hk' hrest hp (by omega) (by rw [putAt_len (by omega)]; exact ho) (by omega), hW]
      simp
    · rw [if_neg (by simpa using hc), if_neg hc, delete_loop hs hsl rest (j + 1) k out W n (a + m) hd' hk' hrest hW (by omega) ho (by omega)]
      simp

theorem delete_is {K : Nat} {e : List Int} {s : ByteArray} (hK : 1000 ≤ K) (hl : e.length ≤ 20000) (hr : (rle e).length ≤ 200) : algebra_Delete K (sub e) s = some (if e.length ≠ s.size then (⟨#[]⟩, 80) else (ofBytes (del e (txt s)), 0)) := by
  unfold algebra_Delete
  obtain ⟨hn, hx, hsum⟩ := rle_facts e
  rw [asize_is, Option.bind_some]
  by_cases h : e.length ≠ s.size
  · rw [if_pos (by simp; omega), if_pos h]
  · rw [if_neg (by simp; omega), if_neg h, if_pos (by omega), asegs_is hl hr, Option.bind_some, Int.toNat_natCast]
    have hd := delete_loop (K := K) (segs := rle e) (s := s) (by omega) (by omega) (rle e) 0 K (List.replicate s.size 0) [] 0 0 rfl (by omega) hn rfl (by omega) (by simp) (by omega)
    simp only [Int.natCast_zero] at hd
    rw [hd, hx]; rfl

theorem made8_is {K : Nat} {l : List Int} (hs : l.length < 1000000000000) (hK : l.length < K) (hc : ∀ c ∈ l, 0 ≤ c ∧ c ≤ 100) : palinodelaw8_made_r K l = some (packed l).1 := by
  have hr := rle_len_le l
  have hb := rle_bad hc
  unfold palinodelaw8_made_r
  rw [segs7_is hs hK, Option.bind_some, of_is (by omega) (by omega), if_neg (by simp [hb]), Option.bind_some, (rle_facts l).2.1]
  unfold packed
  split
  · rfl
  · split <;> rfl

theorem is8_loop {K : Nat} (hK : 1000 ≤ K) {e : List Int} (hl : e.length ≤ 20000) (hr : (rle e).length ≤ 200) : ∀ (d j k : Nat), j + d = e.length → d < k → palinodelaw8_is_gr.l0 K e (sub e) k (j : Int) = some true := by
  intro d
  induction d with
  | zero =>
    intro j k hj hk
    obtain ⟨k, rfl⟩ : ∃ m, k = m + 1 := ⟨k - 1, by omega⟩
    rw [palinodelaw8_is_gr.l0, if_neg (by simp; omega)]
  | succ d ih =>
    intro j k hj hk
    obtain ⟨k, rfl⟩ : ∃ m, k = m + 1 := ⟨k - 1, by omega⟩
    have hw : IntKind.wrap .i64 ((j : Int) + 1) = ((j + 1 : Nat) : Int) := by rw [w64 (by omega) (by omega)]; omega
    have hjl : j < e.length := by omega
    rw [palinodelaw8_is_gr.l0, if_pos (by simp; omega), count_is hK hl hr, Option.bind_some, at_getD hjl, if_pos ⟨by omega, by omega⟩, Int.toNat_natCast, if_neg (by simp), hw]
    exact ih (j + 1) k (by omega) (by omega)

theorem is8_is {K : Nat} {e : List Int} (hK : 1000 ≤ K) (hKl : e.length < K) (hl : e.length ≤ 20000) (hr : (rle e).length ≤ 200) : palinodelaw8_is_gr K (sub e) e = some true := by
  unfold palinodelaw8_is_gr
  rw [if_neg (by simp [sub]), len_is, Option.bind_some, Option.bind_some, if_neg (by simp)]
  have h := is8_loop hK hl hr e.length 0 K (by omega) hKl
  rw [Int.natCast_zero] at h
  exact h

theorem known8 {K : Nat} (hK : 1000 ≤ K) : palinodelaw8_known K = some true := by
  have e1 : palinodelaw8_made_r K [0, 1, 0] = some (sub [0, 1, 0]) := by rw [made8_is (by simp) (by simp; omega) (by decide)]; decide
  have e2 : palinodelaw8_made_r K [1, 1] = some (sub [1, 1]) := by rw [made8_is (by simp) (by simp; omega) (by decide)]; decide
  have e3 : algebra_Expand K (sub [1, 1]) (sub [0, 1, 0]) = some (sub [1, 0, 1], 0) := by rw [expand_is hK (by simp) (by decide) (by simp) (by decide)]; decide
  have e4 : algebra_Union K (sub [0, 1, 0]) (sub [1, 1]) = some (none, 80) := by rw [union_is hK (by simp) (by decide) (by simp) (by decide) (by decide) (by decide)]; decide
  have e5 : algebra_Delete K (sub [0, 1, 0]) ⟨#[120, 121, 122]⟩ = some (⟨#[120, 122]⟩, 0) := by rw [delete_is hK (by simp) (by decide)]; rfl
  have e6 : algebra_Not K (sub [0, 1, 0]) = some (sub [1, 0, 1]) := by rw [not_is hK (by simp) (by decide) (by decide)]; decide
  unfold palinodelaw8_known
  rw [e1, Option.bind_some, e2, Option.bind_some, e3, Option.bind_some, e4, Option.bind_some, e5, Option.bind_some, e6, Option.bind_some]
  rw [is8_is hK (by simp; omega) (by simp) (by decide)]
  simp

theorem two_zip {F : Int → Int → Int} : ∀ {a b : List Int}, two F a b = List.zipWith F a b
  | [], _ => by simp [two, thru]
  | _ :: _, [] => by simp [two, thru]
  | c :: a, d :: b => by rw [two_cons, two_zip]; rfl

/-- A row of counts, not a long one. -/
def Sm (e : List Int) : Prop := e.length ≤ 200 ∧ ∀ c ∈ e, 0 ≤ c ∧ c ≤ 100

theorem Sm.rle {e : List Int} (h : Sm e) : (Go.Pal.rle e).length ≤ 200 := Nat.le_trans (rle_len_le e) h.1

theorem sm_packed {e : List Int} (h : Sm e) : packed e = (sub e, 0) := packed_small (by have := h.1; omega) h.rle

theorem sm_two {F : Int → Int → Int} (hF : ∀ c d, 0 ≤ c → c ≤ 100 → 0 ≤ d → d ≤ 100 → 0 ≤ F c d ∧ F c d ≤ 100) {a b : List Int} (ha : Sm a) (hb : Sm b) : Sm (two F a b) := by
  rw [two_zip]
  refine ⟨by rw [List.length_zipWith]; have := ha.1; omega, fun c hc => ?_⟩
  obtain ⟨i, hi, rfl⟩ := List.getElem_of_mem hc
  rw [List.getElem_zipWith]
  have h1 := ha.2 _ (List.getElem_mem (l := a) (n := i) (by simp at hi; omega))
  have h2 := hb.2 _ (List.getElem_mem (l := b) (n := i) (by simp at hi; omega))
  exact hF _ _ h1.1 h1.2 h2.1 h2.2

theorem unF_ok (c d : Int) (h0 : 0 ≤ c) (_ : c ≤ 100) (h2 : 0 ≤ d) (_ : d ≤ 100) : 0 ≤ unF c d ∧ unF c d ≤ 100 := by unfold unF; omega

theorem noF_ok (c d : Int) (_ : 0 ≤ c) (_ : c ≤ 100) (_ : 0 ≤ d) (_ : d ≤ 100) : 0 ≤ noF c d ∧ noF c d ≤ 100 := by unfold noF; split <;> omega

theorem union_sm {K : Nat} {a b : List Int} (hK : 1000 ≤ K) (ha : Sm a) (hb : Sm b) (h : a.length = b.length) : algebra_Union K (sub a) (sub b) = some (sub (two unF a b), 0) := by
  rw [union_is hK (by have := ha.1; omega) ha.rle (by have := hb.1; omega) hb.rle ha.2 hb.2, if_neg (by simpa using h), sm_packed (sm_two unF_ok ha hb)]

theorem not_sm {K : Nat} {a : List Int} (hK : 1000 ≤ K) (ha : Sm a) : algebra_Not K (sub a) = some (sub (two noF a a)) := by
  rw [not_is hK (by have := ha.1; omega) ha.rle ha.2, sm_packed (sm_two noF_ok ha ha)]

theorem shr_mem : ∀ {a b : List Int} {c : Int}, c ∈ shr a b → c ∈ a
  | x :: a, y :: b, c, h => by
    rw [shr_cons] at h
    split at h
    · rcases List.mem_cons.1 h with rfl | h
      · simp
      · exact List.mem_cons_of_mem _ (shr_mem h)
    · exact List.mem_cons_of_mem _ (shr_mem h)
  | [], _, c, h => by simp [shr, thru] at h
  | _ :: _, [], c, h => by simp [shr, thru] at h

theorem shr_le : ∀ {a b : List Int}, (shr a b).length ≤ a.length
  | x :: a, y :: b => by
    rw [shr_cons]
    have := shr_le (a := a) (b := b)
    split <;> (try simp only [List.length_cons]) <;> omega
  | [], _ => by simp [shr, thru]
  | _ :: _, [] => by simp [shr, thru]

theorem sm_shr {a b : List Int} (ha : Sm a) : Sm (shr a b) := ⟨Nat.le_trans shr_le ha.1, fun c hc => ha.2 c (shr_mem hc)⟩

theorem shrink_sm {K : Nat} {a b : List Int} (hK : 1000 ≤ K) (ha : Sm a) (hb : Sm b) (h : a.length = b.length) : algebra_Shrink K (sub a) (sub b) = some (sub (shr a b), 0) := by
  rw [shrink_is hK (by have := ha.1; omega) ha.rle (by have := hb.1; omega) hb.rle ha.2 hb.2, if_neg (by simpa using h), sm_packed (sm_shr ha)]

theorem exp_mem : ∀ {b a : List Int} {c : Int}, c ∈ exp a b → c = 0 ∨ c ∈ a
  | [], a, c, h => by simp [exp] at h
  | d :: b, a, c, h => by
    rw [exp] at h
    split at h
    · rcases List.mem_cons.1 h with rfl | h
      · exact .inl rfl
      · exact exp_mem h
    · rcases List.mem_append.1 h with h | h
      · exact .inr (List.mem_of_mem_take h)
      · rcases exp_mem h with h | h
        · exact .inl h
        · exact .inr (List.mem_of_mem_drop h)

theorem sm_exp {a b : List Int} (ha : Sm a) (hb : Sm b) (h : (a.length : Int) = b.length - pos b) : Sm (exp a b) := by
  refine ⟨by rw [exp_len h]; exact hb.1, fun c hc => ?_⟩
  rcases exp_mem hc with rfl | hc
  · omega
  · exact ha.2 c hc

theorem expand_sm {K : Nat} {a b : List Int} (hK : 1000 ≤ K) (ha : Sm a) (hb : Sm b) (h : (a.length : Int) = b.length - pos b) : algebra_Expand K (sub a) (sub b) = some (sub (exp a b), 0) := by
  rw [expand_is hK (by have := ha.1; omega) ha.rle (by have := hb.1; omega) hb.rle, if_neg (by omega), sm_packed (sm_exp ha hb h)]

theorem delete_sm {K : Nat} {e : List Int} {s : ByteArray} (hK : 1000 ≤ K) (he : Sm e) (h : e.length = s.size) : algebra_Delete K (sub e) s = some (ofBytes (del e (txt s)), 0) := by
  rw [delete_is hK (by have := he.1; omega) he.rle, if_neg (by simpa using h)]

theorem same_sm {K : Nat} {a b : List Int} (hK : 1000 ≤ K) (ha : Sm a) : subset_Subset_Same K (sub a) (sub b) = some (decide (a = b)) := same_is hK ha.rle

theorem made8_sm {K : Nat} {e : List Int} (hK : 1000 ≤ K) (he : Sm e) : palinodelaw8_made_r K e = some (sub e) := by
  have := he.1
  rw [made8_is (by omega) (by omega) he.2, sm_packed he]

/-- Of each place, whether it is. -/
def bits (l : List Bool) : List Int := l.map fun b => if b then 1 else 0

theorem bits_len {l : List Bool} : (bits l).length = l.length := by simp [bits]

theorem bits_mem {l : List Bool} {c : Int} (h : c ∈ bits l) : c = 0 ∨ c = 1 := by
  obtain ⟨b, _, rfl⟩ := List.mem_map.1 h
  cases b <;> simp

theorem bits_sm {l : List Bool} (h : l.length ≤ 200) : Sm (bits l) := ⟨by rw [bits_len]; exact h, fun c hc => by rcases bits_mem hc with rfl | rfl <;> omega⟩

theorem of8_loop {K : Nat} {l : List Bool} (hs : l.length ≤ 1000000) : ∀ (rest : List Bool) (j k : Nat) (out : List Int), l.drop j = rest → rest.length < k → out.length ≤ j →
    palinodelaw8_of_r.l0 K l k out (j : Int) = some (out ++ bits rest)
  | [], j, k, out, hd, hk, ho => by
    obtain ⟨k, rfl⟩ : ∃ m, k = m + 1 := ⟨k - 1, by simp at hk; omega⟩
    have := drop_nil hd
    rw [palinodelaw8_of_r.l0, if_neg (by simp; omega)]
    simp [bits]
  | b :: rest, j, k, out, hd, hk, ho => by
    obtain ⟨k, rfl⟩ : ∃ m, k = m + 1 := ⟨k - 1, by simp at hk; omega⟩
    obtain ⟨hj, hgd, hd'⟩ := drop_cons hd false
    have hk' : rest.length < k := by simp at hk; omega
    have hw : IntKind.wrap .i64 ((j : Int) + 1) = ((j + 1 : Nat) : Int) := by rw [w64 (by omega) (by omega)]; omega
    rw [palinodelaw8_of_r.l0]
    simp only [Int.toNat_natCast, hgd, hw]
    rw [if_pos (by simpa using hj), if_pos ⟨by omega, by omega⟩]
    cases b with
    | true => rw [if_pos rfl, if_pos (by simp; omega), of8_loop hs rest (j + 1) k _ hd' hk' (by simp; omega)]; simp [bits]
    | false => rw [if_neg (by simp), if_pos (by simp; omega), of8_loop hs rest (j + 1) k _ hd' hk' (by simp; omega)]; simp [bits]

theorem of8_sm {K : Nat} {l : List Bool} (hK : 1000 ≤ K) (h : l.length ≤ 200) : palinodelaw8_of_r K l = some (sub (bits l)) := by
  unfold palinodelaw8_of_r
  have hl := of8_loop (K := K) (l := l) (by omega) l 0 K [] rfl (by omega) (by simp)
  rw [Int.natCast_zero] at hl
  rw [hl, Option.bind_some, List.nil_append, made8_sm hK (bits_sm h)]
  rfl

theorem un_zero : ∀ {a : List Int} {n : Nat}, (∀ c ∈ a, 0 ≤ c ∧ c ≤ 100) → a.length = n → two unF a (List.replicate n 0) = a
  | [], n, _, h => by simp [two, thru]
  | c :: a, n + 1, ha, h => by
    have hc := ha c (by simp)
    rw [List.replicate_succ, two_cons, un_zero (fun d hd => ha d (by simp [hd])) (by simpa using h)]
    unfold unF
    congr 1
    omega
  | c :: a, 0, _, h => by simp at h

theorem no_zero : ∀ {n : Nat}, two noF (List.replicate n 0) (List.replicate n 0) = List.replicate n 1
  | 0 => rfl
  | n + 1 => by rw [List.replicate_succ, two_cons, no_zero, List.replicate_succ]; rfl

theorem shr_zero : ∀ {a : List Int} {n : Nat}, a.length = n → shr a (List.replicate n 0) = a
  | [], n, h => by simp [shr, thru]
  | c :: a, n + 1, h => by rw [List.replicate_succ, shr_cons, if_pos rfl, shr_zero (by simpa using h)]
  | c :: a, 0, h => by simp at h

theorem shr_one : ∀ {a : List Int} {n : Nat}, shr a (List.replicate n 1) = []
  | [], n => by simp [shr, thru]
  | c :: a, n + 1 => by rw [List.replicate_succ, shr_cons, if_neg (by omega), shr_one]
  | c :: a, 0 => by simp [shr, thru]

theorem exp_zero {a : List Int} {n : Nat} (h : a.length = n) : exp a (List.replicate n 0) = a := by
  have := exp_reps (n := n) (c := 0) (a := a) (b := [])
  rw [List.append_nil, if_neg (by omega)] at this
  rw [this, exp, List.append_nil, List.take_of_length_le (by omega)]

theorem del_zero {α : Type} {s : List α} {n : Nat} (h : s.length = n) : del (List.replicate n 0) s = s := by
  have := del_reps (n := n) (c := 0) (e := []) (s := s)
  rw [List.append_nil, if_pos rfl, List.take_of_length_le (by omega)] at this
  rw [this]
  cases List.drop n s <;> simp [del]

/-- A byte that goes on. -/
def cont (b : Int) : Prop := 128 ≤ b ∧ b < 192

instance (b : Int) : Decidable (cont b) := inferInstanceAs (Decidable (_ ∧ _))

abbrev El := Int × (Int × ByteArray)

abbrev el0 : El := ((0 : Int), ((0 : Int), ByteArray.empty))

def lastIs (b : Bool) (l : List El) : Prop := l ≠ [] ∧ decide ((l.getD (l.length - 1) el0).2.2.size = 0) = b

instance (b : Bool) (l : List El) : Decidable (lastIs b l) := inferInstanceAs (Decidable (_ ∧ _))

theorem AlgebraNone_pure (a : List Bool) (s : ByteArray) (oa : Kd.ok (.slice .bool) a) (os : Kd.ok .str s) : ∃ K, palinodelaw8_AlgebraNone K a s = some true := by
  refine ⟨1000, ?_⟩
  unfold palinodelaw8_AlgebraNone
  rw [known8 (by omega), Option.bind_some, if_neg (by simp)]
  by_cases h1 : a.length > 80
  · rw [if_pos (by simp; omega), Option.bind_some, if_pos rfl]
  · rw [if_neg (by simp; omega)]
    by_cases h2 : s.size < a.length
    · rw [Option.bind_some, if_pos (by simp; omega)]
    · rw [Option.bind_some, if_neg (by simp; omega), of8_sm (by omega) (by omega), Option.bind_some, if_neg (by simp [sub]), new_is (by omega) (by omega) (by omega), Option.bind_some, Int.toNat_natCast]
      have sa : Sm (bits a) := bits_sm (by omega)
      have la : (bits a).length = a.length := bits_len
      have sz : Sm (List.replicate a.length 0) := ⟨by simp; omega, fun c hc => by have := (List.mem_replicate.1 hc).2; omega⟩
      have s1 : Sm (List.replicate a.length 1) := ⟨by simp; omega, fun c hc => by have := (List.mem_replicate.1 hc).2; omega⟩
      have lz : (List.replicate a.length (0 : Int)).length = a.length := by simp
      have l1 : (List.replicate a.length (1 : Int)).length = a.length := by simp
      have lt : (s.extract 0 a.length).size = a.length := by rw [← txt_len, txt_extract]; simp [txt_len]; omega
      have hpz : pos (List.replicate a.length (0 : Int)) = 0 := by rw [pos_reps]; simp
      generalize bits a = A at *
      have r1 := expand_sm (K := 1000) (by omega) sa sz (by omega)
      have r2 := shrink_sm (K := 1000) (by omega) sa sz (by omega)
      have r3 := union_sm (K := 1000) (by omega) sa sz (by omega)
      have r4 := delete_sm (K := 1000) (s := s.extract 0 a.length) (by omega) sz (by omega)
      have r5 := not_sm (K := 1000) (by omega) sz
      rw [no_zero] at r5
      have r6 := shrink_sm (K := 1000) (by omega) sa s1 (by omega)
      rw [exp_zero la] at r1
      rw [shr_zero la] at r2
      rw [un_zero sa.2 la] at r3
      rw [del_zero (by rw [txt_len, lt]), ofBytes_txt] at r4
      rw [shr_one] at r6
      simp only [r1, r2, r3, r4, r5, r6, Option.bind_some]
      rw [if_pos ⟨by omega, by omega⟩, same_sm (by omega) sa, len_is]
      simp

end Go.Pal
