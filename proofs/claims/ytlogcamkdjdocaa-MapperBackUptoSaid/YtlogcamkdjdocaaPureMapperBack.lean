/- Whatever counts: up and down again is the same; runs of both kinds lie one behind the other. -/
import Derived.Test.YtlogcamkdjdocaaFunMapperBack
namespace Go.Pal
open Go
theorem w64 {n : Int} (h1 : -9223372036854775808 ≤ n) (h2 : n < 9223372036854775808) : IntKind.wrap .i64 n = n := by
  simp only [IntKind.wrap, IntKind.bits, IntKind.signed]
  simp
  omega

theorem drop_cons {α : Type} {l : List α} {j : Nat} {g : α} {r : List α} (h : l.drop j = g :: r) (d : α) : j < l.length ∧ l.getD j d = g ∧ l.drop (j + 1) = r := by
  have hj : j < l.length := by
    rcases Nat.lt_or_ge j l.length with h' | h'
    · exact h'
    · rw [List.drop_eq_nil_of_le h'] at h; cases h
  rw [List.drop_eq_getElem_cons hj] at h
  obtain ⟨h1, h2⟩ := List.cons.inj h
  exact ⟨hj, by simp [List.getD, hj, h1], h2⟩

theorem drop_nil {α : Type} {l : List α} {j : Nat} (h : l.drop j = []) : l.length ≤ j := List.drop_eq_nil_iff.1 h

/-- One run more behind a row of runs. -/
def push (acc : List (Int × Int)) (g : Int × Int) : List (Int × Int) :=
  if acc ≠ [] ∧ (acc.getD (acc.length - 1) (0, 0)).2 = g.2 then acc.set (acc.length - 1) ((acc.getD (acc.length - 1) (0, 0)).1 + g.1, (acc.getD (acc.length - 1) (0, 0)).2) else acc ++ [g]

def packA : List (Int × Int) → Int → List (Int × Int) → Option (List (Int × Int) × Int)
  | acc, len, [] => some (acc, len)
  | acc, len, g :: rest => if g.1 = 0 then packA acc len rest else if g.1 > 20000 - len then none else packA (push acc g) (len + g.1) rest

theorem push_nil (g : Int × Int) : push [] g = [g] := rfl

theorem push_app (l : List (Int × Int)) (p g : Int × Int) : push (l ++ [p]) g = if p.2 = g.2 then l ++ [(p.1 + g.1, p.2)] else l ++ [p] ++ [g] := by
  unfold push
  have e1 : (l ++ [p]).length - 1 = l.length := by simp
  have e2 : (l ++ [p]).getD l.length (0, 0) = p := by simp [List.getD]
  rw [e1, e2]
  by_cases h : p.2 = g.2
  · rw [if_pos ⟨by simp, h⟩, if_pos h, List.set_append_right _ _ (Nat.le_refl _)]
    simp
  · rw [if_neg (fun h' => h h'.2), if_neg h]

theorem split_last {α : Type} : ∀ {l : List α}, l ≠ [] → ∃ m x, l = m ++ [x] := by
  intro l h
  exact ⟨l.dropLast, l.getLast h, (List.dropLast_concat_getLast h).symm⟩

theorem push_len {acc : List (Int × Int)} {g : Int × Int} : (push acc g).length ≤ acc.length + 1 := by
  unfold push; split <;> simp

def sumL : List (Int × Int) → Int
  | [] => 0
  | p :: l => p.1 + sumL l

theorem sumL_app : ∀ {l r : List (Int × Int)}, sumL (l ++ r) = sumL l + sumL r
  | [], r => by simp [sumL]
  | p :: l, r => by simp only [List.cons_append, sumL, sumL_app]; omega

theorem sumL_push {acc : List (Int × Int)} {g : Int × Int} : sumL (push acc g) = sumL acc + g.1 := by
  by_cases h : acc = []
  · subst h; simp [push_nil, sumL]
  · obtain ⟨l, p, rfl⟩ := split_last h
    rw [push_app]
    split <;> simp only [sumL_app, sumL] <;> omega

theorem nonneg_push {acc : List (Int × Int)} {g : Int × Int} (ha : ∀ p ∈ acc, 0 ≤ p.1) (hg : 0 ≤ g.1) : ∀ p ∈ push acc g, 0 ≤ p.1 := by
  by_cases h : acc = []
  · subst h; simp [push_nil]; exact hg
  · obtain ⟨l, p, rfl⟩ := split_last h
    have hp := ha p (by simp)
    have hl : ∀ q ∈ l, 0 ≤ q.1 := fun q hq => ha q (by simp [hq])
    rw [push_app]
    intro q hq
    split at hq
    · rcases List.mem_append.1 hq with hq | hq
      · exact hl q hq
      · simp only [List.mem_singleton] at hq; subst hq; show 0 ≤ p.1 + g.1; omega
    · rcases List.mem_append.1 hq with hq | hq
      · exact ha q hq
      · simp only [List.mem_singleton] at hq; subst hq; exact hg

theorem le_sumL : ∀ {l : List (Int × Int)}, (∀ p ∈ l, 0 ≤ p.1) → 0 ≤ sumL l ∧ ∀ p ∈ l, p.1 ≤ sumL l
  | [], _ => ⟨by simp [sumL], fun p hp => by cases hp⟩
  | q :: l, h => by
    obtain ⟨h1, h2⟩ := le_sumL (l := l) fun p hp => h p (by simp [hp])
    have hq := h q (by simp)
    refine ⟨by simp only [sumL]; omega, fun p hp => ?_⟩
    simp only [sumL]
    rcases List.mem_cons.1 hp with rfl | hp
    · omega
    · have := h2 p hp; omega

theorem pack_loop {K : Nat} {segs : List (Int × Int)} : ∀ (rest : List (Int × Int)) (j k : Nat) (acc : List (Int × Int)) (len : Int), segs.drop j = rest → rest.length < k → acc.length ≤ j → segs.length < 1000000000000 → 0 ≤ len → len ≤ 20000 → (∀ g ∈ rest, 0 ≤ g.1) →
    (∀ p ∈ acc, 0 ≤ p.1) → sumL acc = len → subset_Pack_r.l0 K segs k acc len (j : Int) = some (match packA acc len rest with | none => Sum.inl (none, 70) | some x => Sum.inr x)
  | [], j, k, acc, len, hd, hk, ha, hs, h0, h1, hg, hp0, hsum => by
    obtain ⟨k, rfl⟩ : ∃ m, k = m + 1 := ⟨k - 1, by simp at hk; omega⟩
    have := drop_nil hd
    rw [subset_Pack_r.l0]
    rw [if_neg (by simp; omega)]
    rfl
  | g :: rest, j, k, acc, len, hd, hk, ha, hs, h0, h1, hg, hp0, hsum => by
    obtain ⟨k, rfl⟩ : ∃ m, k = m + 1 := ⟨k - 1, by simp at hk; omega⟩
    obtain ⟨hj, hgd, hd'⟩ := drop_cons hd (0, 0)
    have hg0 : 0 ≤ g.1 := hg g (by simp)
    have hrest : ∀ g ∈ rest, 0 ≤ g.1 := fun g h => hg g (by simp [h])
    have hk' : rest.length < k := by simp at hk; omega
    have hw : IntKind.wrap .i64 ((j : Int) + 1) = ((j + 1 : Nat) : Int) := by rw [w64 (by omega) (by omega)]; omega
    have hl : IntKind.wrap .i64 ((((List.length acc) : Nat) : Int) - (1 : Int)) = (acc.length : Int) - 1 := w64 (by omega) (by omega)
    have hpl := push_len (acc := acc) (g := g)
    have hnext := fun (hb : ¬ g.1 > 20000 - len) => pack_loop (K := K) rest (j + 1) k (push acc g) (len + g.1) hd' hk' (by omega) hs (by omega) (by omega) hrest (nonneg_push hp0 hg0) (by rw [sumL_push, hsum])
    rw [subset_Pack_r.l0]
    rw [if_pos (by simpa using hj), if_pos ⟨by omega, by omega⟩]
    simp only [Int.toNat_natCast, hgd, hw, hl]
    rw [packA]
    by_cases hz : g.1 = 0
    · rw [if_pos (by simpa using hz), if_pos hz]
      exact pack_loop rest (j + 1) k acc len hd' hk' (by omega) hs h0 h1 hrest hp0 hsum
    · rw [if_neg (by simpa using hz), if_neg hz, w64 (by omega) (by omega)]
      by_cases hb : g.1 > 20000 - len
      · rw [if_pos (by simpa using hb), if_pos hb]
      · rw [if_neg (by simpa using hb), if_neg hb, ← hnext hb, w64 (n := len + g.1) (by omega) (by omega)]
        by_cases he : acc = []
        · subst he
          simp [push_nil]
        · have hp : 0 < acc.length := List.length_pos_iff.2 he
          rw [if_pos (by simp; omega), if_pos ⟨by omega, by omega⟩, Option.bind_some]
          have hn : ((acc.length : Int) - 1).toNat = acc.length - 1 := by omega
          rw [hn]
          have hlast : 0 ≤ (acc.getD (acc.length - 1) (0, 0)).1 ∧ (acc.getD (acc.length - 1) (0, 0)).1 ≤ len := by
            have hm : acc.getD (acc.length - 1) (0, 0) ∈ acc := by
              rw [List.getD, List.getElem?_eq_getElem (by omega)]
              simp
            exact ⟨hp0 _ hm, by rw [← hsum]; exact (le_sumL hp0).2 _ hm⟩
          by_cases hq : (acc.getD (acc.length - 1) (0, 0)).2 = g.2
          · rw [if_pos (by simpa using hq), if_pos ⟨by omega, by omega⟩, w64 (n := (acc.getD (acc.length - 1) (0, 0)).1 + g.1) (by omega) (by omega)]
            unfold push
            rw [if_pos ⟨he, hq⟩]
          · rw [if_neg (by simpa using hq), if_pos (by simp; omega)]
            unfold push
            rw [if_neg (fun h => hq h.2)]

/-- Pack, told. -/
theorem pack_eq {K : Nat} {segs : List (Int × Int)} (hK : segs.length < K) (hs : segs.length < 1000000000000) (hg : ∀ g ∈ segs, 0 ≤ g.1) :
    subset_Pack_r K segs = some (match packA [] 0 segs with | none => (none, 70) | some x => if x.1.length > 200 then (none, 70) else (some x, 0)) := by
  unfold subset_Pack_r
  have h := pack_loop (K := K) segs 0 K [] 0 rfl hK (by simp) hs (by omega) (by omega) hg (by simp) rfl
  rw [Int.natCast_zero] at h
  rw [h, Option.bind_some]
  cases packA [] 0 segs with
  | none => rfl
  | some x =>
    simp only [Sum.elim_inr]
    by_cases h : x.1.length > 200
    · rw [if_pos (by simp; omega), if_pos h]
    · rw [if_neg (by simp; omega), if_neg h]

abbrev Sub := Option (List (Int × Int) × Int)

theorem mx2_eq (a b : Int) : mx2 a b = max a b := by unfold mx2; split <;> omega

theorem mn2_eq (a b : Int) : mn2 a b = min a b := by unfold mn2; split <;> omega

/-- What a row of runs stands for: a count for each place. -/
def expand : List (Int × Int) → List Int
  | [] => []
  | p :: l => List.replicate p.1.toNat p.2 ++ expand l

theorem expand_app : ∀ {l r : List (Int × Int)}, expand (l ++ r) = expand l ++ expand r
  | [], r => rfl
  | p :: l, r => by simp [expand, expand_app]

theorem expand_push {acc : List (Int × Int)} {g : Int × Int} (ha : ∀ p ∈ acc, 0 ≤ p.1) (hg : 0 ≤ g.1) : expand (push acc g) = expand acc ++ List.replicate g.1.toNat g.2 := by
  by_cases h : acc = []
  · subst h; simp [push_nil, expand]
  · obtain ⟨l, p, rfl⟩ := split_last h
    have hp := ha p (by simp)
    rw [push_app]
    split
    · rename_i he
      simp only [expand_app, expand, List.append_nil, List.append_assoc]
      rw [Int.toNat_add hp hg, ← List.replicate_append_replicate, he]
    · simp [expand_app, expand]

theorem expand_len : ∀ {l : List (Int × Int)}, (∀ p ∈ l, 0 ≤ p.1) → ((expand l).length : Int) = sumL l
  | [], _ => rfl
  | p :: l, h => by
    have := expand_len (l := l) fun q hq => h q (by simp [hq])
    have hp := h p (by simp)
    simp only [expand, sumL, List.length_append, List.length_replicate]
    omega

def pushC (acc : List (Int × Int)) (c : Int) : List (Int × Int) := push acc (1, c)

/-- The least runs. -/
def rle (e : List Int) : List (Int × Int) := e.foldl pushC []

/-- The subset that has these counts. -/
def sub (e : List Int) : Sub := some (rle e, (e.length : Int))

theorem push_push {acc : List (Int × Int)} {a b c : Int} : push (push acc (a, c)) (b, c) = push acc (a + b, c) := by
  by_cases h : acc = []
  · subst h
    rw [push_nil, push_nil]
    have := push_app [] (a, c) (b, c)
    simpa using this
  · obtain ⟨l, p, rfl⟩ := split_last h
    rw [push_app l p (a, c), push_app l p (a + b, c)]
    by_cases he : p.2 = c
    · rw [if_pos he, if_pos he, push_app, if_pos he, Int.add_assoc]
    · rw [if_neg he, if_neg he, push_app, if_pos rfl]

theorem push_reps : ∀ {n : Nat} {acc : List (Int × Int)} {c : Int}, (List.replicate (n + 1) c).foldl pushC acc = push acc ((n : Int) + 1, c)
  | 0, acc, c => rfl
  | n + 1, acc, c => by
    rw [List.replicate_succ, List.foldl_cons, push_reps, pushC, push_push]
    congr 2
    omega

theorem packA_rle : ∀ {l : List (Int × Int)} {e : List Int} {len : Int}, (∀ p ∈ l, 0 ≤ p.1) → len + sumL l ≤ 20000 → packA (rle e) len l = some (rle (e ++ expand l), len + sumL l)
  | [], e, len, _, _ => by simp [packA, expand, sumL]
  | g :: l, e, len, hl, h => by
    have hg := hl g (by simp)
    have hl' : ∀ p ∈ l, 0 ≤ p.1 := fun p hp => hl p (by simp [hp])
    have h0 := (le_sumL hl').1
    simp only [sumL] at h ⊢
    rw [packA, expand]
    by_cases hz : g.1 = 0
    · rw [if_pos hz, packA_rle hl' (by omega), hz]; simp
    · rw [if_neg hz, if_neg (by omega)]
      have hp : push (rle e) g = rle (e ++ List.replicate g.1.toNat g.2) := by
        obtain ⟨n, hn⟩ : ∃ n : Nat, g.1 = (n : Int) + 1 := ⟨g.1.toNat - 1, by omega⟩
        have : g.1.toNat = n + 1 := by omega
        rw [this, rle, rle, List.foldl_append, push_reps, ← hn]
      rw [hp, packA_rle hl' (by omega)]
      rw [List.append_assoc]
      congr 2
      omega

theorem packA_none : ∀ {l acc : List (Int × Int)} {len : Int}, (∀ p ∈ l, 0 ≤ p.1) → len ≤ 20000 → 20000 < len + sumL l → packA acc len l = none
  | [], _, _, _, h, h' => by simp [sumL] at h'; omega
  | g :: l, acc, len, hl, h, h' => by
    have hg := hl g (by simp)
    have hl' : ∀ p ∈ l, 0 ≤ p.1 := fun p hp => hl p (by simp [hp])
    simp only [sumL] at h'
    rw [packA]
    by_cases hz : g.1 = 0
    · rw [if_pos hz]; exact packA_none hl' h (by omega)
    · rw [if_neg hz]
      by_cases hb : g.1 > 20000 - len
      · rw [if_pos hb]
      · rw [if_neg hb]; exact packA_none hl' (by omega) (by omega)

theorem rle_facts : ∀ (e : List Int), (∀ p ∈ rle e, 0 ≤ p.1) ∧ expand (rle e) = e ∧ sumL (rle e) = e.length := by
  intro e
  have key : ∀ (e : List Int) (acc : List (Int × Int)), (∀ p ∈ acc, 0 ≤ p.1) → (∀ p ∈ e.foldl pushC acc, 0 ≤ p.1) ∧ expand (e.foldl pushC acc) = expand acc ++ e ∧ sumL (e.foldl pushC acc) = sumL acc + e.length := by
    intro e
    induction e with
    | nil => intro acc h; exact ⟨h, by simp, by simp⟩
    | cons c e ih =>
      intro acc h
      obtain ⟨h1, h2, h3⟩ := ih (pushC acc c) (nonneg_push h (by simp))
      refine ⟨h1, ?_, ?_⟩
      · rw [List.foldl_cons, h2, pushC, expand_push h (by simp)]; simp
      · rw [List.foldl_cons, h3, pushC, sumL_push]; simp only [List.length_cons]; omega
  obtain ⟨h1, h2, h3⟩ := key e [] (by simp)
  exact ⟨h1, by rw [rle]; simpa [expand] using h2, by rw [rle]; simpa [sumL] using h3⟩

/-- What Pack answers. -/
def packed (e : List Int) : Sub × Int := if e.length > 20000 then (none, 70) else if (rle e).length > 200 then (none, 70) else (sub e, 0)

theorem pack_is {K : Nat} {segs : List (Int × Int)} (hK : segs.length < K) (hs : segs.length < 1000000000000) (hg : ∀ g ∈ segs, 0 ≤ g.1) : subset_Pack_r K segs = some (packed (expand segs)) := by
  rw [pack_eq hK hs hg]
  have hl := expand_len hg
  unfold packed
  by_cases h : sumL segs ≤ 20000
  · have := packA_rle (e := []) (len := 0) hg (by omega)
    rw [show rle [] = [] from rfl] at this
    rw [this, if_neg (by omega)]
    simp only [List.nil_append, Int.zero_add]
    rw [← hl]
    rfl
  · rw [packA_none hg (by omega) (by omega), if_pos (by omega)]

theorem count_ok {K : Nat} {n : Int} : subset_isCount K n = some (decide (0 ≤ n ∧ n ≤ 100)) := by
  unfold subset_isCount
  by_cases h : 0 ≤ n
  · rw [if_pos (by simpa using h)]; simp [h]
  · rw [if_neg (by simpa using h)]; simp [h]

/-- How many places have a count above nothing. -/
def pos (e : List Int) : Int := ((e.filter fun c => decide (c > 0)).length : Nat)

theorem pos_app {a b : List Int} : pos (a ++ b) = pos a + pos b := by simp [pos]

theorem pos_reps {n : Nat} {c : Int} : pos (List.replicate n c) = if c > 0 then (n : Int) else 0 := by
  unfold pos
  split
  · rename_i h; rw [List.filter_replicate_of_pos (by simpa using h)]; simp
  · rename_i h; rw [List.filter_replicate_of_neg (by simpa using h)]; simp

theorem pos_le {e : List Int} : 0 ≤ pos e ∧ pos e ≤ e.length := by
  unfold pos
  have := List.length_filter_le (fun c : Int => decide (c > 0)) e
  omega

theorem size_loop {K : Nat} {segs : List (Int × Int)} {m : Int} : ∀ (rest : List (Int × Int)) (j k : Nat) (n : Int), segs.drop j = rest → rest.length < k → segs.length < 1000000000000 → 0 ≤ n → (∀ g ∈ rest, 0 ≤ g.1) → n + sumL rest ≤ 1000000000000 →
    subset_Subset_Size.l0 K (some (segs, m)) k n (j : Int) = some (n + pos (expand rest))
  | [], j, k, n, hd, hk, hs, h0, hg, hsum => by
    obtain ⟨k, rfl⟩ : ∃ m, k = m + 1 := ⟨k - 1, by simp at hk; omega⟩
    have := drop_nil hd
    rw [subset_Subset_Size.l0]
    simp only [Option.getD_some]
    rw [if_neg (by simp; omega)]
    simp [expand, pos]
  | g :: rest, j, k, n, hd, hk, hs, h0, hg, hsum => by
    obtain ⟨k, rfl⟩ : ∃ m, k = m + 1 := ⟨k - 1, by simp at hk; omega⟩
    obtain ⟨hj, hgd, hd'⟩ := drop_cons hd (0, 0)
    have hg0 : 0 ≤ g.1 := hg g (by simp)
    have hrest : ∀ g ∈ rest, 0 ≤ g.1 := fun g h => hg g (by simp [h])
    have hk' : rest.length < k := by simp at hk; omega
    have hr0 := (le_sumL hrest).1
    simp only [sumL] at hsum
    have hw : IntKind.wrap .i64 ((j : Int) + 1) = ((j + 1 : Nat) : Int) := by rw [w64 (by omega) (by omega)]; omega
    rw [subset_Subset_Size.l0]
    simp only [Option.getD_some, Int.toNat_natCast, hgd, hw]
    rw [if_pos (by simpa using hj), if_pos ⟨by omega, by omega⟩, expand, pos_app, pos_reps]
    by_cases hc : g.2 > 0
    · rw [if_pos (by simpa using hc), if_pos hc, w64 (n := n + g.1) (by omega) (by omega), size_loop rest (j + 1) k _ hd' hk' hs (by omega) hrest (by omega)]
      congr 1; omega
    · rw [if_neg (by simpa using hc), if_neg hc, size_loop rest (j + 1) k _ hd' hk' hs (by omega) hrest (by omega)]
      congr 1; omega

theorem size_is {K : Nat} {e : List Int} (hK : 1000 ≤ K) (hl : e.length ≤ 20000) (hr : (rle e).length ≤ 200) : subset_Subset_Size K (sub e) = some (pos e) := by
  obtain ⟨hn, hx, hsum⟩ := rle_facts e
  unfold subset_Subset_Size sub
  rw [if_pos (show Option.isSome (some _) = true from rfl)]
  have h := size_loop (K := K) (segs := rle e) (m := e.length) (rle e) 0 K 0 rfl (by omega) (by omega) (by omega) hn (by omega)
  rw [Int.natCast_zero] at h
  rw [h, hx]; simp

theorem len_is {K : Nat} {e : List Int} : subset_Subset_Len K (sub e) = some (e.length : Int) := rfl

theorem count_loop {K : Nat} {segs : List (Int × Int)} {m : Int} : ∀ (rest : List (Int × Int)) (j k : Nat) (x : Int), segs.drop j = rest → rest.length < k → segs.length < 1000000000000 → 0 ≤ x → x ≤ 1000000000000 → (∀ g ∈ rest, 0 ≤ g.1) → sumL rest ≤ 1000000000000 →
    subset_Subset_Count.l0 K (some (segs, m)) k x (j : Int) = some ((expand rest).getD x.toNat 0)
  | [], j, k, x, hd, hk, hs, h0, h1, hg, hsum => by
    obtain ⟨k, rfl⟩ : ∃ m, k = m + 1 := ⟨k - 1, by simp at hk; omega⟩
    have := drop_nil hd
    rw [subset_Subset_Count.l0]
    simp only [Option.getD_some]
    rw [if_neg (by simp; omega)]
    simp [expand]
  | g :: rest, j, k, x, hd, hk, hs, h0, h1, hg, hsum => by
    obtain ⟨k, rfl⟩ : ∃ m, k = m + 1 := ⟨k - 1, by simp at hk; omega⟩
    obtain ⟨hj, hgd, hd'⟩ := drop_cons hd (0, 0)
    have hg0 : 0 ≤ g.1 := hg g (by simp)
    have hrest : ∀ g ∈ rest, 0 ≤ g.1 := fun g h => hg g (by simp [h])
    have hk' : rest.length < k := by simp at hk; omega
    have hr0 := (le_sumL hrest).1
    simp only [sumL] at hsum
    have hw : IntKind.wrap .i64 ((j : Int) + 1) = ((j + 1 : Nat) : Int) := by rw [w64 (by omega) (by omega)]; omega
    rw [subset_Subset_Count.l0]
    simp only [Option.getD_some, Int.toNat_natCast, hgd, hw]
    rw [if_pos (by simpa using hj), if_pos ⟨by omega, by omega⟩, expand]
    by_cases hc : x < g.1
    · rw [if_pos (by simpa using hc)]
      have : x.toNat < g.1.toNat := by omega
      simp [List.getD, List.getElem?_append_left, this]
    · rw [if_neg (by simpa using hc), w64 (n := x - g.1) (by omega) (by omega), count_loop rest (j + 1) k _ hd' hk' hs (by omega) (by omega) hrest (by omega)]
      rw [List.getD, List.getD, List.getElem?_append_right (by simp; omega)]
      simp only [List.length_replicate]
      rw [show (x - g.1).toNat = x.toNat - g.1.toNat by omega]

/-- The count at a place, nothing outside. -/
def at_ (e : List Int) (i : Int) : Int := if i < 0 ∨ i ≥ e.length then 0 else e.getD i.toNat 0

theorem count_is {K : Nat} {e : List Int} {i : Int} (hK : 1000 ≤ K) (hl : e.length ≤ 20000) (hr : (rle e).length ≤ 200) : subset_Subset_Count K (sub e) i = some (at_ e i) := by
  obtain ⟨hn, hx, hsum⟩ := rle_facts e
  unfold subset_Subset_Count sub at_
  by_cases h1 : i < 0
  · rw [if_pos (by simpa using h1), Option.bind_some, if_pos rfl, if_pos (.inl h1)]
  · rw [if_neg (by simpa using h1), if_pos (show Option.isSome (some _) = true from rfl), Option.bind_some]
    simp only [Option.getD_some]
    by_cases h2 : i ≥ e.length
    · rw [if_pos (by simpa using h2), if_pos (.inr h2)]
    · rw [if_neg (by simpa using h2), if_pos (show Option.isSome (some _) = true from rfl), if_neg (by omega)]
      have h := count_loop (K := K) (segs := rle e) (m := e.length) (rle e) 0 K i rfl (by omega) (by omega) (by omega) (by omega) hn (by omega)
      rw [Int.natCast_zero] at h
      rw [h, hx]

theorem has_is {K : Nat} {e : List Int} {i : Int} (hK : 1000 ≤ K) (hl : e.length ≤ 20000) (hr : (rle e).length ≤ 200) : subset_Subset_Has K (sub e) i = some (decide (at_ e i > 0)) := by
  unfold subset_Subset_Has
  rw [count_is hK hl hr]; rfl

/-- A row of runs that is none. -/
def bad : Option Int → List (Int × Int) → Bool
  | _, [] => false
  | q, g :: l => decide (g.1 < 1) || !decide (0 ≤ g.2 ∧ g.2 ≤ 100) || (q == some g.2) || bad (some g.2) l

theorem of_loop {K : Nat} {segs : List (Int × Int)} : ∀ (rest : List (Int × Int)) (j k : Nat), segs.drop j = rest → rest.length < k → segs.length < 1000000000000 →
    subset_Of_r.l0 K segs k (j : Int) = some (if bad (if j = 0 then none else some (segs.getD (j - 1) (0, 0)).2) rest = true then Sum.inl (none, 12) else Sum.inr ())
  | [], j, k, hd, hk, hs => by
    obtain ⟨k, rfl⟩ : ∃ m, k = m + 1 := ⟨k - 1, by simp at hk; omega⟩
    have := drop_nil hd
    rw [subset_Of_r.l0, if_neg (by simp; omega)]
    simp [bad]
  | g :: rest, j, k, hd, hk, hs => by
    obtain ⟨k, rfl⟩ : ∃ m, k = m + 1 := ⟨k - 1, by simp at hk; omega⟩
    obtain ⟨hj, hgd, hd'⟩ := drop_cons hd (0, 0)
    have hk' : rest.length < k := by simp at hk; omega
    have hw : IntKind.wrap .i64 ((j : Int) + 1) = ((j + 1 : Nat) : Int) := by rw [w64 (by omega) (by omega)]; omega
    have hwm : IntKind.wrap .i64 ((j : Int) - 1) = (j : Int) - 1 := w64 (by omega) (by omega)
    have hnext := of_loop (K := K) rest (j + 1) k hd' hk' hs
    rw [show (if j + 1 = 0 then none else some (segs.getD (j + 1 - 1) (0, 0)).2) = some g.2 by rw [if_neg (by omega), Nat.add_sub_cancel, hgd]] at hnext
    rw [subset_Of_r.l0]
    simp only [Int.toNat_natCast, hgd, hw, hwm, count_ok, Option.bind_some]
    rw [if_pos (by simpa using hj), if_pos ⟨by omega, by omega⟩, bad]
    by_cases h1 : g.1 < 1
    · rw [if_pos (by simpa using h1), Option.bind_some, if_pos rfl, if_pos (by simp [h1])]
    · rw [if_neg (by simpa using h1)]
      by_cases h2 : 0 ≤ g.2 ∧ g.2 ≤ 100
      · rw [if_neg (by simp [h2])]
        by_cases h3 : j = 0
        · subst h3
          rw [if_neg (by simp), Option.bind_some, if_neg (by simp), hnext]
          simp [h1, h2]
        · rw [if_pos (by simp; omega), if_pos ⟨by omega, by omega⟩, Option.bind_some, show ((j : Int) - 1).toNat = j - 1 by omega, if_neg h3]
          by_cases h4 : g.2 = (segs.getD (j - 1) (0, 0)).2
          · rw [if_pos (by simpa using h4), if_pos (by simp [h4])]
          · rw [if_neg (by simpa using h4), hnext]
            have h4' : (some (segs.getD (j - 1) (0, 0)).2 == some g.2) = false := by
              simpa [beq_eq_false_iff_ne] using fun h => h4 h.symm
            rw [h4']
            simp [h1, h2]
      · rw [if_pos (by simp; omega), Option.bind_some, if_pos rfl, if_pos (by simp [h2])]

theorem bad_nonneg : ∀ {l : List (Int × Int)} {q : Option Int}, bad q l = false → ∀ p ∈ l, 0 ≤ p.1
  | [], _, _, p, hp => by cases hp
  | g :: l, q, h, p, hp => by
    simp only [bad, Bool.or_eq_false_iff, decide_eq_false_iff_not] at h
    rcases List.mem_cons.1 hp with rfl | hp
    · omega
    · exact bad_nonneg h.2 p hp

theorem of_is {K : Nat} {segs : List (Int × Int)} (hK : segs.length < K) (hs : segs.length < 1000000000000) : subset_Of_r K segs = some (if bad none segs = true then (none, 12) else packed (expand segs)) := by
  unfold subset_Of_r
  have h := of_loop (K := K) segs 0 K rfl hK hs
  rw [Int.natCast_zero, if_pos rfl] at h
  rw [h, Option.bind_some]
  by_cases hb : bad none segs = true
  · rw [if_pos hb, if_pos hb]; rfl
  · rw [if_neg hb, if_neg hb]
    simp only [Sum.elim_inr]
    rw [pack_is hK hs (bad_nonneg (by simpa using hb)), Option.bind_some]

theorem packed_small {e : List Int} (h1 : e.length ≤ 20000) (h2 : (rle e).length ≤ 200) : packed e = (sub e, 0) := by
  unfold packed
  rw [if_neg (by omega), if_neg (by omega)]

theorem rle_len_le : ∀ (e : List Int), (rle e).length ≤ e.length := by
  intro e
  have key : ∀ (e : List Int) (acc : List (Int × Int)), (e.foldl pushC acc).length ≤ acc.length + e.length := by
    intro e
    induction e with
    | nil => intro acc; simp
    | cons c e ih =>
      intro acc
      have := ih (pushC acc c)
      have h2 := push_len (acc := acc) (g := (1, c))
      rw [List.foldl_cons]
      unfold pushC at *
      simp only [List.length_cons]
      omega
  simpa [rle] using key e []

theorem tmod_u8 {n m : Int} (h0 : 0 ≤ n) (hm : 0 < m) : 0 ≤ Int.tmod n m ∧ Int.tmod n m < m := by
  rw [Int.tmod_eq_emod_of_nonneg h0]
  exact ⟨Int.emod_nonneg _ (by omega), Int.emod_lt_of_pos _ hm⟩

theorem segs_is {K : Nat} {e : List Int} (hl : e.length ≤ 20000) (hr : (rle e).length ≤ 200) : subset_Subset_Segs K (sub e) = some (rle e) := by
  unfold subset_Subset_Segs sub
  simp only [Option.getD_some]
  rw [if_pos (by refine ⟨rfl, ?_⟩; omega)]
  congr 1
  simp [putAt]

def lastC : Option Int → List (Int × Int) → Option Int
  | q, [] => q
  | _, g :: l => lastC (some g.2) l

theorem bad_snoc : ∀ {l : List (Int × Int)} {q : Option Int} {g : Int × Int}, bad q (l ++ [g]) = (bad q l || (decide (g.1 < 1) || !decide (0 ≤ g.2 ∧ g.2 ≤ 100) || (lastC q l == some g.2)))
  | [], q, g => by simp [bad, lastC]
  | h :: l, q, g => by
    rw [List.cons_append, bad, bad_snoc, bad, lastC]
    simp [Bool.or_assoc]

theorem lastC_snoc : ∀ {l : List (Int × Int)} {q : Option Int} {g : Int × Int}, lastC q (l ++ [g]) = some g.2
  | [], _, _ => rfl
  | h :: l, q, g => by rw [List.cons_append, lastC, lastC_snoc]

theorem bad_push {acc : List (Int × Int)} {c : Int} (h : bad none acc = false) (hc : 0 ≤ c ∧ c ≤ 100) : bad none (pushC acc c) = false := by
  unfold pushC
  by_cases he : acc = []
  · subst he
    rw [push_nil]; simp [bad, hc]
  · obtain ⟨l, p, rfl⟩ := split_last he
    have h' := h
    rw [bad_snoc] at h'
    simp only [Bool.or_eq_false_iff, decide_eq_false_iff_not] at h'
    rw [push_app]
    split
    · rw [bad_snoc]
      simp only [Bool.or_eq_false_iff, decide_eq_false_iff_not]
      exact ⟨h'.1, ⟨⟨by omega, h'.2.1.2⟩, h'.2.2⟩⟩
    · rename_i hne
      rw [bad_snoc, h, lastC_snoc]
      simp [hc, hne]

theorem rle_bad {e : List Int} (h : ∀ c ∈ e, 0 ≤ c ∧ c ≤ 100) : bad none (rle e) = false := by
  have key : ∀ (e : List Int) (acc : List (Int × Int)), (∀ c ∈ e, 0 ≤ c ∧ c ≤ 100) → bad none acc = false → bad none (e.foldl pushC acc) = false := by
    intro e
    induction e with
    | nil => intro acc _ h; exact h
    | cons c e ih => intro acc h hb; exact ih _ (fun d hd => h d (by simp [hd])) (bad_push hb (h c (by simp)))
  exact key e [] h rfl

/-- How many places have no count. -/
def zer (e : List Int) : Int := ((e.filter fun c => decide (c = 0)).length : Nat)

theorem zer_app {a b : List Int} : zer (a ++ b) = zer a + zer b := by simp [zer]

theorem zer_reps {n : Nat} {c : Int} : zer (List.replicate n c) = if c = 0 then (n : Int) else 0 := by
  unfold zer
  split
  · rename_i h; rw [List.filter_replicate_of_pos (by simpa using h)]; simp
  · rename_i h; rw [List.filter_replicate_of_neg (by simpa using h)]; simp

theorem zer_le {e : List Int} : 0 ≤ zer e ∧ zer e ≤ e.length := by
  unfold zer
  have := List.length_filter_le (fun c : Int => decide (c = 0)) e
  omega

theorem zer_cons {c : Int} {e : List Int} : zer (c :: e) = (if c = 0 then 1 else 0) + zer e := by
  unfold zer
  by_cases h : c = 0 <;> simp [h]; omega

theorem rle_pos : ∀ (e : List Int), ∀ p ∈ rle e, 1 ≤ p.1 := by
  intro e
  have key : ∀ (e : List Int) (acc : List (Int × Int)), (∀ p ∈ acc, 1 ≤ p.1) → ∀ p ∈ e.foldl pushC acc, 1 ≤ p.1 := by
    intro e
    induction e with
    | nil => intro acc h; exact h
    | cons c e ih =>
      intro acc h
      refine ih (pushC acc c) ?_
      unfold pushC
      by_cases he : acc = []
      · subst he; simp [push_nil]
      · obtain ⟨l, p, rfl⟩ := split_last he
        have hp := h p (by simp)
        rw [push_app]
        intro q hq
        split at hq
        · rcases List.mem_append.1 hq with hq | hq
          · exact h q (by simp [hq])
          · simp only [List.mem_singleton] at hq; subst hq; show 1 ≤ p.1 + 1; omega
        · rcases List.mem_append.1 hq with hq | hq
          · exact h q hq
          · simp only [List.mem_singleton] at hq; subst hq; simp
  simpa [rle] using key e []

theorem mruns_is {K : Nat} {e : List Int} (hl : e.length ≤ 20000) (hr : (rle e).length ≤ 200) : mapper_runs K (sub e) = some (rle e, (e.length : Int)) := by
  unfold mapper_runs
  rw [if_neg (by simp [sub]), segs_is hl hr, Option.bind_some, if_pos (by omega), len_is, Option.bind_some]
  simp [putAt]

theorem down_loop {K : Nat} {segs : List (Int × Int)} {m : Int} : ∀ (rest : List (Int × Int)) (j k : Nat) (left out : Int), segs.drop j = rest → rest.length < k → segs.length < 1000000000000 → 0 ≤ left → left ≤ 1000000000000 → 0 ≤ out → (∀ g ∈ rest, 0 ≤ g.1) → out + sumL rest ≤ 1000000000000 →
    mapper_Down.l0 K (segs, m) k left out (j : Int) = some (out + zer ((expand rest).take left.toNat))
  | [], j, k, left, out, hd, hk, hs, h0, h1, h2, hg, hsum => by
    obtain ⟨k, rfl⟩ : ∃ m, k = m + 1 := ⟨k - 1, by simp at hk; omega⟩
    have := drop_nil hd
    rw [mapper_Down.l0]
    simp only
    rw [if_neg (by simp; omega)]
    simp [expand, zer]
  | g :: rest, j, k, left, out, hd, hk, hs, h0, h1, h2, hg, hsum => by
    obtain ⟨k, rfl⟩ : ∃ m, k = m + 1 := ⟨k - 1, by simp at hk; omega⟩
    obtain ⟨hj, hgd, hd'⟩ := drop_cons hd (0, 0)
    have hg0 : 0 ≤ g.1 := hg g (by simp)
    have hrest : ∀ g ∈ rest, 0 ≤ g.1 := fun g h => hg g (by simp [h])
    have hk' : rest.length < k := by simp at hk; omega
    have hr0 := (le_sumL hrest).1
    simp only [sumL] at hsum
    have hw : IntKind.wrap .i64 ((j : Int) + 1) = ((j + 1 : Nat) : Int) := by rw [w64 (by omega) (by omega)]; omega
    rw [mapper_Down.l0]
    simp only [Int.toNat_natCast, hgd, hw, mn2_eq]
    rw [if_pos (by simpa using hj), if_pos ⟨by omega, by omega⟩, expand, List.take_append, zer_app, List.take_replicate, zer_reps, List.length_replicate]
    rw [w64 (n := left - min g.1 left) (by omega) (by omega), w64 (n := out + min g.1 left) (by omega) (by omega)]
    have e1 : (left - min g.1 left).toNat = left.toNat - g.1.toNat := by omega
    by_cases hc : g.2 = 0
    · rw [if_pos (by simpa using hc), if_pos hc, down_loop rest (j + 1) k _ _ hd' hk' hs (by omega) (by omega) (by omega) hrest (by omega), e1]
      congr 1; omega
    · rw [if_neg (by simpa using hc), if_neg hc, down_loop rest (j + 1) k _ _ hd' hk' hs (by omega) (by omega) (by omega) hrest (by omega), e1]
      congr 1; omega

theorem down_is {K : Nat} {e : List Int} {at_2 : Int} (hK : 1000 ≤ K) (hl : e.length ≤ 20000) (hr : (rle e).length ≤ 200) : mapper_Down K (sub e) at_2 = some (zer (e.take at_2.toNat)) := by
  obtain ⟨hn, hx, hsum⟩ := rle_facts e
  unfold mapper_Down
  rw [mruns_is hl hr, Option.bind_some]
  simp only [mn2_eq, mx2_eq]
  have h := down_loop (K := K) (segs := rle e) (m := e.length) (rle e) 0 K (min (max at_2 0) e.length) 0 rfl (by omega) (by omega) (by omega) (by omega) (by omega) hn (by omega)
  rw [Int.natCast_zero] at h
  rw [h, hx, Int.zero_add]
  congr 2
  rcases Int.le_total at_2 e.length with hh | hh
  · congr 1; omega
  · rw [List.take_of_length_le (by omega), List.take_of_length_le (by omega)]

theorem down_nil {K : Nat} (hK : 1 ≤ K) : mapper_Down_pg K 5 = some 0 := by
  obtain ⟨k, rfl⟩ : ∃ m, K = m + 1 := ⟨K - 1, by omega⟩
  rfl

/-- The place of the how-manieth that has no count. -/
def up : List Int → Int → Int → Int
  | [], _, i => i
  | c :: r, k, i => if c ≠ 0 then up r k (i + 1) else if k = 0 then i else up r (k - 1) (i + 1)

theorem up_reps : ∀ {a : Nat} {c : Int} {r : List Int} {k i : Int}, 0 ≤ k → up (List.replicate a c ++ r) k i = if c ≠ 0 then up r k (i + a) else if k < a then i + k else up r (k - a) (i + a)
  | 0, c, r, k, i, hk => by
    rw [if_neg (show ¬ k < ((0 : Nat) : Int) by omega)]
    simp
  | a + 1, c, r, k, i, hk => by
    rw [List.replicate_succ, List.cons_append, up]
    by_cases hc : c ≠ 0
    · rw [if_pos hc, if_pos hc, up_reps hk, if_pos hc]
      congr 1; omega
    · rw [if_neg hc, if_neg hc]
      by_cases h0 : k = 0
      · rw [if_pos h0, if_pos (by omega)]; omega
      · rw [if_neg h0, up_reps (by omega), if_neg hc]
        by_cases h1 : k < a + 1
        · rw [if_pos (by omega), if_pos (by omega)]; omega
        · rw [if_neg (by omega), if_neg (by omega)]
          congr 1 <;> omega

theorem up_loop {K : Nat} {segs : List (Int × Int)} {m : Int} : ∀ (rest : List (Int × Int)) (j k : Nat) (left ahead : Int), segs.drop j = rest → rest.length < k → segs.length < 1000000000000 → 0 ≤ left → left < 9223372036854775808 → 0 ≤ ahead → (∀ g ∈ rest, 0 ≤ g.1) → ahead + sumL rest = m → m ≤ 1000000000000 →
    mapper_Up.l0 K (segs, m) k left ahead (j : Int) = some (up (expand rest) left ahead)
  | [], j, k, left, ahead, hd, hk, hs, h0, h1, h2, hg, hsum, hm => by
    obtain ⟨k, rfl⟩ : ∃ m, k = m + 1 := ⟨k - 1, by simp at hk; omega⟩
    have := drop_nil hd
    rw [mapper_Up.l0]
    simp only
    rw [if_neg (by simp; omega)]
    simp only [expand, up]
    simp only [sumL] at hsum
    congr 1; omega
  | g :: rest, j, k, left, ahead, hd, hk, hs, h0, h1, h2, hg, hsum, hm => by
    obtain ⟨k, rfl⟩ : ∃ m, k = m + 1 := ⟨k - 1, by simp at hk; omega⟩
    obtain ⟨hj, hgd, hd'⟩ := drop_cons hd (0, 0)
    have hg0 : 0 ≤ g.1 := hg g (by simp)
    have hrest : ∀ g ∈ rest, 0 ≤ g.1 := fun g h => hg g (by simp [h])
    have hk' : rest.length < k := by simp at hk; omega
    have hr0 := (le_sumL hrest).1
    simp only [sumL] at hsum
    have hw : IntKind.wrap .i64 ((j : Int) + 1) = ((j + 1 : Nat) : Int) := by rw [w64 (by omega) (by omega)]; omega
    rw [mapper_Up.l0]
    simp only [Int.toNat_natCast, hgd, hw]
    rw [if_pos (by simpa using hj), if_pos ⟨by omega, by omega⟩, expand, up_reps h0, w64 (n := ahead + g.1) (by omega) (by omega)]
    have e1 : ahead + (g.1.toNat : Int) = ahead + g.1 := by omega
    by_cases hc : g.2 = 0
    · rw [if_pos (by simpa using hc), if_neg (show ¬ g.2 ≠ 0 by simpa using hc)]
      by_cases hl : left < g.1
      · rw [if_pos (by simpa using hl), if_pos (by omega), w64 (by omega) (by omega)]
      · rw [if_neg (by simpa using hl), if_neg (by omega), w64 (n := left - g.1) (by omega) (by omega), up_loop rest (j + 1) k _ _ hd' hk' hs (by omega) (by omega) (by omega) hrest (by omega) hm, e1]
        congr 2; omega
    · rw [if_neg (by simpa using hc), if_pos (by simpa using hc), up_loop rest (j + 1) k _ _ hd' hk' hs (by omega) (by omega) (by omega) hrest (by omega) hm, e1]

theorem up_is {K : Nat} {e : List Int} {at_2 : Int} (hK : 1000 ≤ K) (hl : e.length ≤ 20000) (hr : (rle e).length ≤ 200) (ha : at_2 < 9223372036854775808) : mapper_Up K (sub e) at_2 = some (up e (max at_2 0) 0) := by
  obtain ⟨hn, hx, hsum⟩ := rle_facts e
  unfold mapper_Up
  rw [mruns_is hl hr, Option.bind_some]
  simp only [mx2_eq]
  have h := up_loop (K := K) (segs := rle e) (m := e.length) (rle e) 0 K (max at_2 0) 0 rfl (by omega) (by omega) (by omega) (by omega) (by omega) hn (by omega) (by omega)
  rw [Int.natCast_zero] at h
  rw [h, hx]

/-- The first place from one on that has no count. -/
def nx : List Int → Int → Int → Int
  | [], _, i => i
  | c :: r, at_2, i => if c = 0 ∧ at_2 ≤ i then i else nx r at_2 (i + 1)

theorem nx_reps : ∀ {a : Nat} {c : Int} {r : List Int} {at_2 i : Int}, nx (List.replicate a c ++ r) at_2 i = if c = 0 ∧ at_2 < i + a ∧ 0 < a then max at_2 i else nx r at_2 (i + a)
  | 0, c, r, at_2, i => by simp
  | a + 1, c, r, at_2, i => by
    rw [List.replicate_succ, List.cons_append, nx, nx_reps]
    by_cases hc : c = 0
    · by_cases h1 : at_2 ≤ i
      · rw [if_pos ⟨hc, h1⟩, if_pos ⟨hc, by omega, by omega⟩]; omega
      · rw [if_neg (by omega)]
        by_cases h2 : at_2 < i + (a + 1)
        · rw [if_pos ⟨hc, by omega, by omega⟩, if_pos ⟨hc, by omega, by omega⟩]; omega
        · rw [if_neg (by omega), if_neg (by omega)]; congr 1; omega
    · rw [if_neg (by omega), if_neg (by omega), if_neg (by omega)]; congr 1; omega

theorem next_loop {K : Nat} {segs : List (Int × Int)} {at_2 m : Int} : ∀ (rest : List (Int × Int)) (j k : Nat) (ahead : Int), segs.drop j = rest → rest.length < k → segs.length < 1000000000000 → 0 ≤ ahead → (∀ g ∈ rest, 1 ≤ g.1) → ahead + sumL rest = m → m ≤ 1000000000000 →
    mapper_Next.l0 K (segs, m) at_2 k ahead (j : Int) = some (nx (expand rest) (max at_2 0) ahead)
  | [], j, k, ahead, hd, hk, hs, h2, hg, hsum, hm => by
    obtain ⟨k, rfl⟩ : ∃ m, k = m + 1 := ⟨k - 1, by simp at hk; omega⟩
    have := drop_nil hd
    rw [mapper_Next.l0]
    simp only
    rw [if_neg (by simp; omega)]
    simp only [expand, nx]
    simp only [sumL] at hsum
    congr 1; omega
  | g :: rest, j, k, ahead, hd, hk, hs, h2, hg, hsum, hm => by
    obtain ⟨k, rfl⟩ : ∃ m, k = m + 1 := ⟨k - 1, by simp at hk; omega⟩
    obtain ⟨hj, hgd, hd'⟩ := drop_cons hd (0, 0)
    have hg0 : 1 ≤ g.1 := hg g (by simp)
    have hrest : ∀ g ∈ rest, 1 ≤ g.1 := fun g h => hg g (by simp [h])
    have hk' : rest.length < k := by simp at hk; omega
    have hr0 := (le_sumL (l := rest) fun g h => by have := hrest g h; omega).1
    simp only [sumL] at hsum
    have hw : IntKind.wrap .i64 ((j : Int) + 1) = ((j + 1 : Nat) : Int) := by rw [w64 (by omega) (by omega)]; omega
    rw [mapper_Next.l0]
    simp only [Int.toNat_natCast, hgd, hw, mx2_eq]
    rw [if_pos (by simpa using hj), if_pos ⟨by omega, by omega⟩, expand, nx_reps, w64 (n := ahead + g.1) (by omega) (by omega)]
    have e1 : ahead + (g.1.toNat : Int) = ahead + g.1 := by omega
    rw [e1]
    by_cases hc : g.2 = 0
    · rw [if_pos (by simpa using hc), Option.bind_some]
      by_cases hl : max at_2 0 < ahead + g.1
      · rw [if_pos (by simpa using hl), if_pos ⟨hc, hl, by omega⟩]
      · rw [if_neg (by simpa using hl), if_neg (by omega), next_loop rest (j + 1) k _ hd' hk' hs (by omega) hrest (by omega) hm]
    · rw [if_neg (by simpa using hc), Option.bind_some, if_neg (by simp), if_neg (by omega), next_loop rest (j + 1) k _ hd' hk' hs (by omega) hrest (by omega) hm]

theorem next_is {K : Nat} {e : List Int} {at_2 : Int} (hK : 1000 ≤ K) (hl : e.length ≤ 20000) (hr : (rle e).length ≤ 200) : mapper_Next K (sub e) at_2 = some (nx e (max at_2 0) 0) := by
  obtain ⟨hn, hx, hsum⟩ := rle_facts e
  unfold mapper_Next
  rw [mruns_is hl hr, Option.bind_some]
  have h := next_loop (K := K) (segs := rle e) (m := e.length) (at_2 := at_2) (rle e) 0 K 0 rfl (by omega) (by omega) (by omega) (rle_pos e) (by omega) (by omega)
  rw [Int.natCast_zero] at h
  rw [h, hx]

/-- One place or more behind a row of intervals. -/
def grow (out : List (Int × Int)) (i t : Int) : List (Int × Int) :=
  if out ≠ [] ∧ (out.getD (out.length - 1) (0, 0)).2 = i then out.set (out.length - 1) ((out.getD (out.length - 1) (0, 0)).1, t) else out ++ [(i, t)]

theorem grow_app (l : List (Int × Int)) (p : Int × Int) (i t : Int) : grow (l ++ [p]) i t = if p.2 = i then l ++ [(p.1, t)] else l ++ [p] ++ [(i, t)] := by
  unfold grow
  have e1 : (l ++ [p]).length - 1 = l.length := by simp
  have e2 : (l ++ [p]).getD l.length (0, 0) = p := by simp [List.getD]
  rw [e1, e2]
  by_cases h : p.2 = i
  · rw [if_pos ⟨by simp, h⟩, if_pos h, List.set_append_right _ _ (Nat.le_refl _)]
    simp
  · rw [if_neg (fun h' => h h'.2), if_neg h]

theorem grow_nil (i t : Int) : grow [] i t = [(i, t)] := rfl

theorem grow_grow {out : List (Int × Int)} {i j t : Int} : grow (grow out i j) j t = grow out i t := by
  by_cases h : out = []
  · subst h; rw [grow_nil, grow_nil]; have := grow_app [] (i, j) j t; simpa using this
  · obtain ⟨l, p, rfl⟩ := split_last h
    rw [grow_app, grow_app]
    split
    · rw [grow_app, if_pos rfl]
    · rw [grow_app, if_pos rfl]

theorem grow_len {out : List (Int × Int)} {i t : Int} : (grow out i t).length ≤ out.length + 1 := by
  unfold grow; split <;> simp

/-- The intervals of places that have a count, or none. -/
def rns (b : Bool) : List Int → Int → List (Int × Int) → List (Int × Int)
  | [], _, out => out
  | c :: r, i, out => if decide (c > 0) = b then rns b r (i + 1) (grow out i (i + 1)) else rns b r (i + 1) out

theorem rns_reps {b : Bool} : ∀ {a : Nat} {c : Int} {r : List Int} {i : Int} {out : List (Int × Int)}, 1 ≤ a → rns b (List.replicate a c ++ r) i out = if decide (c > 0) = b then rns b r (i + a) (grow out i (i + a)) else rns b r (i + a) out
  | 0, c, r, i, out, h => by omega
  | 1, c, r, i, out, _ => rfl
  | a + 2, c, r, i, out, _ => by
    rw [List.replicate_succ, List.cons_append, rns, rns_reps (by omega), rns_reps (by omega)]
    have e : i + 1 + ((a + 1 : Nat) : Int) = i + ((a + 2 : Nat) : Int) := by omega
    rw [e, grow_grow]
    split <;> rfl

theorem runs9_loop {K : Nat} {segs : List (Int × Int)} {b : Bool} {m : Int} : ∀ (rest : List (Int × Int)) (j k : Nat) (out : List (Int × Int)) (ahead : Int), segs.drop j = rest → rest.length < k → segs.length < 1000000000000 → out.length ≤ j → 0 ≤ ahead → (∀ g ∈ rest, 1 ≤ g.1) → ahead + sumL rest ≤ 1000000000000 →
    mapper_Runs.l0 K (segs, m) b k out ahead (j : Int) = some (rns b (expand rest) ahead out)
  | [], j, k, out, ahead, hd, hk, hs, ho, h2, hg, hsum => by
    obtain ⟨k, rfl⟩ : ∃ m, k = m + 1 := ⟨k - 1, by simp at hk; omega⟩
    have := drop_nil hd
    rw [mapper_Runs.l0]
    simp only
    rw [if_neg (by simp; omega)]
    simp only [expand, rns]
  | g :: rest, j, k, out, ahead, hd, hk, hs, ho, h2, hg, hsum => by
    obtain ⟨k, rfl⟩ : ∃ m, k = m + 1 := ⟨k - 1, by simp at hk; omega⟩
    obtain ⟨hj, hgd, hd'⟩ := drop_cons hd (0, 0)
    have hg0 : 1 ≤ g.1 := hg g (by simp)
    have hrest : ∀ g ∈ rest, 1 ≤ g.1 := fun g h => hg g (by simp [h])
    have hk' : rest.length < k := by simp at hk; omega
    have hr0 := (le_sumL (l := rest) fun g h => by have := hrest g h; omega).1
    simp only [sumL] at hsum
    have hw : IntKind.wrap .i64 ((j : Int) + 1) = ((j + 1 : Nat) : Int) := by rw [w64 (by omega) (by omega)]; omega
    have hl : IntKind.wrap .i64 ((((List.length out) : Nat) : Int) - (1 : Int)) = (out.length : Int) - 1 := w64 (by omega) (by omega)
    have hgl := grow_len (out := out) (i := ahead) (t := ahead + g.1)
    rw [mapper_Runs.l0]
    simp only [Int.toNat_natCast, hgd, hw, hl]
    rw [if_pos (by simpa using hj), if_pos ⟨by omega, by omega⟩, expand, rns_reps (by omega), w64 (n := ahead + g.1) (by omega) (by omega)]
    have e1 : ahead + (g.1.toNat : Int) = ahead + g.1 := by omega
    rw [e1]
    by_cases hc : decide (g.2 > 0) = b
    · rw [if_neg (by simpa using hc), if_pos hc, ← runs9_loop (K := K) (m := m) rest (j + 1) k _ _ hd' hk' hs (by omega) (by omega) hrest (by omega)]
      by_cases he : out = []
      · subst he
        simp [grow_nil]
      · have hp : 0 < out.length := List.length_pos_iff.2 he
        rw [if_pos (by simp; omega), if_pos ⟨by omega, by omega⟩, Option.bind_some]
        have hn : ((out.length : Int) - 1).toNat = out.length - 1 := by omega
        rw [hn]
        by_cases hq : (out.getD (out.length - 1) (0, 0)).2 = ahead
        · rw [if_pos (by simpa using hq), if_pos ⟨by omega, by omega⟩]
          unfold grow
          rw [if_pos ⟨he, hq⟩]
        · rw [if_neg (by simpa using hq), if_pos (by simp; omega)]
          unfold grow
          rw [if_neg (fun h => hq h.2)]
    · rw [if_pos (by simpa using hc), if_neg hc, runs9_loop rest (j + 1) k _ _ hd' hk' hs (by omega) (by omega) hrest (by omega)]

theorem runs9_is {K : Nat} {e : List Int} {b : Bool} (hK : 1000 ≤ K) (hl : e.length ≤ 20000) (hr : (rle e).length ≤ 200) : mapper_Runs K (sub e) b = some (rns b e 0 []) := by
  obtain ⟨hn, hx, hsum⟩ := rle_facts e
  unfold mapper_Runs
  rw [mruns_is hl hr, Option.bind_some]
  have h := runs9_loop (K := K) (segs := rle e) (m := e.length) (b := b) (rle e) 0 K [] 0 rfl (by omega) (by omega) (by simp) (by omega) (rle_pos e) (by omega)
  rw [Int.natCast_zero] at h
  rw [h, hx]

theorem segs7_loop {K : Nat} {l : List Int} (hs : l.length < 1000000000000) : ∀ (rest : List Int) (j k : Nat) (out : List (Int × Int)), l.drop j = rest → rest.length < k → out.length ≤ j → (∀ p ∈ out, 0 ≤ p.1) → sumL out = j →
    palinoderef7_Segs_r.l0 K l k out (j : Int) = some (rest.foldl pushC out)
  | [], j, k, out, hd, hk, ho, hp, hsum => by
    obtain ⟨k, rfl⟩ : ∃ m, k = m + 1 := ⟨k - 1, by simp at hk; omega⟩
    have := drop_nil hd
    rw [palinoderef7_Segs_r.l0, if_neg (by simp; omega)]
    rfl
  | c :: rest, j, k, out, hd, hk, ho, hp, hsum => by
    obtain ⟨k, rfl⟩ : ∃ m, k = m + 1 := ⟨k - 1, by simp at hk; omega⟩
    obtain ⟨hj, hgd, hd'⟩ := drop_cons hd 0
    have hk' : rest.length < k := by simp at hk; omega
    have hw : IntKind.wrap .i64 ((j : Int) + 1) = ((j + 1 : Nat) : Int) := by rw [w64 (by omega) (by omega)]; omega
    have hl : IntKind.wrap .i64 ((((List.length out) : Nat) : Int) - (1 : Int)) = (out.length : Int) - 1 := w64 (by omega) (by omega)
    have hpl := push_len (acc := out) (g := (1, c))
    rw [palinoderef7_Segs_r.l0]
    simp only [Int.toNat_natCast, hgd, hw, hl]
    rw [if_pos (by simpa using hj), List.foldl_cons, ← segs7_loop (K := K) hs rest (j + 1) k (pushC out c) hd' hk' (by unfold pushC; omega) (nonneg_push hp (by simp)) (by unfold pushC; rw [sumL_push, hsum]; simp)]
    unfold pushC
    by_cases he : out = []
    · subst he
      rw [if_neg (by simp), Option.bind_some, if_neg (by simp), if_pos ⟨by omega, by omega, by simp⟩]
      rfl
    · have hpos : 0 < out.length := List.length_pos_iff.2 he
      have hm : out.getD (out.length - 1) (0, 0) ∈ out := by
        rw [List.getD, List.getElem?_eq_getElem (by omega)]
        simp
      have h0 := hp _ hm
      have h1 := (le_sumL hp).2 _ hm
      rw [if_pos (by simp; omega), if_pos ⟨by omega, by omega, by omega, by omega⟩, Option.bind_some]
      have hn : ((out.length : Int) - 1).toNat = out.length - 1 := by omega
      rw [hn]
      by_cases hq : (out.getD (out.length - 1) (0, 0)).2 = c
      · rw [if_pos (by simpa using hq), if_pos ⟨by omega, by omega⟩, w64 (n := (out.getD (out.length - 1) (0, 0)).1 + 1) (by omega) (by omega)]
        unfold push
        rw [if_pos ⟨he, hq⟩]
      · rw [if_neg (by simpa using hq), if_pos ⟨by omega, by omega, by simp; omega⟩]
        unfold push
        rw [if_neg (fun h => hq h.2)]

theorem segs7_is {K : Nat} {l : List Int} (hs : l.length < 1000000000000) (hK : l.length < K) : palinoderef7_Segs_r K l = some (rle l) := by
  unfold palinoderef7_Segs_r
  have h := segs7_loop (K := K) hs l 0 K [] rfl hK (by simp) (by simp) rfl
  rw [Int.natCast_zero] at h
  rw [h]; rfl

theorem made9_is {K : Nat} {l : List Int} (hs : l.length < 1000000000000) (hK : l.length < K) (hc : ∀ c ∈ l, 0 ≤ c ∧ c ≤ 100) : palinodelaw9_made_r K l = some (packed l).1 := by
  have hr := rle_len_le l
  have hb := rle_bad hc
  unfold palinodelaw9_made_r
  rw [segs7_is hs hK, Option.bind_some, of_is (by omega) (by omega), if_neg (by simp [hb]), Option.bind_some, (rle_facts l).2.1]
  unfold packed
  split
  · rfl
  · split <;> rfl

def f9 (c : Int) : Int := IntKind.wrap .i64 ((IntKind.wrap .i64 (Int.tmod c 3)) * (IntKind.wrap .i64 (Int.tmod (IntKind.wrap .u8 (Int.tdiv c 3)) 2)))

theorem f9_ok {c : Int} (h0 : 0 ≤ c) (h1 : c < 256) : 0 ≤ f9 c ∧ f9 c ≤ 100 := by
  unfold f9
  have e1 := tmod_u8 (m := 3) h0 (by omega)
  have e0 : 0 ≤ IntKind.wrap .u8 (Int.tdiv c 3) := by
    simp only [IntKind.wrap, IntKind.bits, IntKind.signed]
    simp
    omega
  have e2 := tmod_u8 (m := 2) e0 (by omega)
  generalize Int.tmod c 3 = a at e1 ⊢
  generalize Int.tmod (IntKind.wrap .u8 (Int.tdiv c 3)) 2 = b at e2 ⊢
  simp (disch := omega) only [w64]
  obtain rfl | rfl : b = 0 ∨ b = 1 := by omega
  · rw [Int.mul_zero, w64 (by omega) (by omega)]; omega
  · rw [Int.mul_one, w64 (by omega) (by omega)]; omega

theorem row9_loop {K : Nat} {l : List Int} (hs : l.length < 1000000000000) : ∀ (rest : List Int) (j k : Nat) (out : List Int), l.drop j = rest → rest.length < k → out.length ≤ j →
    palinodelaw9_row.l0 K l k out (j : Int) = some (out ++ rest.map f9)
  | [], j, k, out, hd, hk, ho => by
    obtain ⟨k, rfl⟩ : ∃ m, k = m + 1 := ⟨k - 1, by simp at hk; omega⟩
    have := drop_nil hd
    rw [palinodelaw9_row.l0, if_neg (by simp; omega)]
    simp
  | c :: rest, j, k, out, hd, hk, ho => by
    obtain ⟨k, rfl⟩ : ∃ m, k = m + 1 := ⟨k - 1, by simp at hk; omega⟩
    obtain ⟨hj, hgd, hd'⟩ := drop_cons hd 0
    have hk' : rest.length < k := by simp at hk; omega
    have hw : IntKind.wrap .i64 ((j : Int) + 1) = ((j + 1 : Nat) : Int) := by rw [w64 (by omega) (by omega)]; omega
    rw [palinodelaw9_row.l0]
    simp only [Int.toNat_natCast, hgd, hw]
    rw [if_pos (by simpa using hj), if_pos ⟨by omega, by omega, by simp; omega⟩, row9_loop hs rest (j + 1) k _ hd' hk' (by simp; omega)]
    simp [f9]

theorem row9_is {K : Nat} {l : List Int} (hs : l.length < 1000000000000) (hK : l.length < K) : palinodelaw9_row K l = some (l.map f9) := by
  unfold palinodelaw9_row
  have h := row9_loop (K := K) hs l 0 K [] rfl hK (by simp)
  rw [Int.natCast_zero] at h
  rw [h]; rfl

theorem nx_skip : ∀ {e : List Int} {a i : Int}, i ≤ a → a ≤ i + e.length → nx e a i = nx (e.drop (a - i).toNat) a a
  | [], a, i, h0, h1 => by simp only [List.length_nil] at h1; simp [nx]; omega
  | c :: r, a, i, h0, h1 => by
    by_cases h : i = a
    · subst h; simp
    · rw [nx, if_neg (by omega), nx_skip (by omega) (by simp at h1; omega), show (a - i).toNat = (a - (i + 1)).toNat + 1 by omega, List.drop_succ_cons]

theorem rns_len {b : Bool} : ∀ {e : List Int} {i : Int} {out : List (Int × Int)}, (rns b e i out).length ≤ out.length + e.length
  | [], i, out => by simp [rns]
  | c :: r, i, out => by
    rw [rns]
    have hg := grow_len (out := out) (i := i) (t := i + 1)
    split
    · have := rns_len (b := b) (e := r) (i := i + 1) (out := grow out i (i + 1)); simp only [List.length_cons]; omega
    · have := rns_len (b := b) (e := r) (i := i + 1) (out := out); simp only [List.length_cons]; omega

theorem known9 {K : Nat} (hK : 1000 ≤ K) : palinodelaw9_known K = some true := by
  have e1 : palinodelaw9_made_r K [0, 1, 0, 2] = some (sub [0, 1, 0, 2]) := by rw [made9_is (by simp) (by simp; omega) (by decide)]; decide
  have hr : (rle [0, 1, 0, 2]).length ≤ 200 := by decide
  unfold palinodelaw9_known
  rw [e1, Option.bind_some, runs9_is hK (by simp) hr, Option.bind_some, down_is hK (by simp) hr, up_is hK (by simp) hr (by omega), up_is hK (by simp) hr (by omega), next_is hK (by simp) hr, next_is hK (by simp) hr, down_nil (by omega)]
  decide

theorem at_in {e : List Int} {i : Nat} (h : i < e.length) : at_ e (i : Int) = e[i] := by
  unfold at_
  rw [if_neg (by omega), Int.toNat_natCast]
  simp [List.getD, h]

theorem zer_take_succ {e : List Int} {i : Nat} (h : i < e.length) : zer (e.take (i + 1)) = zer (e.take i) + if e[i] = 0 then 1 else 0 := by
  rw [List.take_succ_eq_append_getElem h, zer_app, zer_cons]
  simp [zer]

theorem nx_at {e : List Int} {i : Nat} (h : i ≤ e.length) : nx e i 0 = nx (e.drop i) i i := by
  rw [nx_skip (by omega) (by omega), show ((i : Int) - 0).toNat = i by omega]

theorem zer_pos {e : List Int} (h : ∀ c ∈ e, 0 ≤ c ∧ c ≤ 100) : zer e + pos e = e.length := by
  induction e with
  | nil => rfl
  | cons c e ih =>
    have h1 := ih fun d hd => h d (by simp [hd])
    have hc := h c (by simp)
    rw [zer_cons]
    have : pos (c :: e) = (if c > 0 then 1 else 0) + pos e := by
      unfold pos
      by_cases h : c > 0 <;> simp [h]; omega
    rw [this]
    simp only [List.length_cons]
    by_cases h0 : c = 0
    · rw [if_pos h0, if_neg (by omega)]; omega
    · rw [if_neg h0, if_pos (by omega)]; omega

/-- Place by place through two rows of counts. -/
def thru (G : Int → Int → List Int) : List Int → List Int → List Int
  | c :: a, d :: b => G c d ++ thru G a b
  | _, _ => []

/-- A count for each two. -/
def two (F : Int → Int → Int) (a b : List Int) : List Int := thru (fun c d => [F c d]) a b

theorem up_spec : ∀ {r : List Int} {k i : Int}, 0 ≤ k → k < zer r → ∃ u : Nat, ∃ h : u < r.length, up r k i = i + u ∧ r[u] = 0 ∧ zer (r.take u) = k
  | [], k, i, h0, h1 => by simp [zer] at h1; omega
  | c :: r, k, i, h0, h1 => by
    rw [zer_cons] at h1
    rw [up]
    by_cases hc : c = 0
    · rw [if_neg (show ¬ c ≠ 0 by simpa using hc)]
      rw [if_pos hc] at h1
      by_cases hk : k = 0
      · rw [if_pos hk]
        exact ⟨0, by simp, by simp, by simpa using hc, by simp [zer, hk]⟩
      · rw [if_neg hk]
        obtain ⟨u, hu, e1, e2, e3⟩ := up_spec (r := r) (k := k - 1) (i := i + 1) (by omega) (by omega)
        refine ⟨u + 1, by simpa using hu, by rw [e1]; omega, by simpa using e2, ?_⟩
        rw [List.take_succ_cons, zer_cons, e3, if_pos hc]; omega
    · rw [if_pos (show c ≠ 0 from hc)]
      rw [if_neg hc] at h1
      obtain ⟨u, hu, e1, e2, e3⟩ := up_spec (r := r) (k := k) (i := i + 1) h0 (by omega)
      refine ⟨u + 1, by simpa using hu, by rw [e1]; omega, by simpa using e2, ?_⟩
      rw [List.take_succ_cons, zer_cons, e3, if_neg hc]; omega

theorem up_end : ∀ {r : List Int} {k i : Int}, zer r ≤ k → up r k i = i + r.length
  | [], k, i, h => by simp [up]
  | c :: r, k, i, h => by
    rw [zer_cons] at h
    have h0 := (zer_le (e := r)).1
    rw [up]
    by_cases hc : c = 0
    · rw [if_pos hc] at h
      rw [if_neg (show ¬ c ≠ 0 by simpa using hc), if_neg (by omega), up_end (by omega)]
      simp only [List.length_cons]; omega
    · rw [if_neg hc] at h
      rw [if_pos (show c ≠ 0 from hc), up_end (by omega)]
      simp only [List.length_cons]; omega

theorem back_loop {K : Nat} (hK : 1000 ≤ K) {e : List Int} {n m : Int} (hn : IntKind.wrap .i64 (n - m) = zer e) (hl : e.length ≤ 150) (hc : ∀ c ∈ e, 0 ≤ c ∧ c ≤ 100) : ∀ (d j k : Nat), (j : Int) + d = zer e → d < k → palinodelaw9_MapperBack.l0 K n m (sub e) k (j : Int) = some (Sum.inr ()) := by
  have hr := rle_len_le e
  have hzl := zer_le (e := e)
  intro d
  induction d with
  | zero =>
    intro j k hj hk
    obtain ⟨k, rfl⟩ : ∃ m, k = m + 1 := ⟨k - 1, by omega⟩
    rw [palinodelaw9_MapperBack.l0, hn, if_neg (by simp; omega)]
  | succ d ih =>
    intro j k hj hk
    obtain ⟨k, rfl⟩ : ∃ m, k = m + 1 := ⟨k - 1, by omega⟩
    have hw : IntKind.wrap .i64 ((j : Int) + 1) = ((j + 1 : Nat) : Int) := by rw [w64 (by omega) (by omega)]; omega
    obtain ⟨u, hu, e1, e2, e3⟩ := up_spec (r := e) (k := j) (i := 0) (by omega) (by omega)
    rw [palinodelaw9_MapperBack.l0, hn, if_pos (by simp; omega), up_is (by omega) (by omega) (by omega) (by omega), Option.bind_some, show max (j : Int) 0 = j by omega, e1, hw, Int.zero_add]
    have hwu : IntKind.wrap .i64 ((u : Int) + 1) = ((u + 1 : Nat) : Int) := by rw [w64 (by omega) (by omega)]; omega
    simp only [hwu, down_is (K := K) (e := e) (by omega) (by omega) (by omega), next_is (K := K) (e := e) (by omega) (by omega) (by omega), has_is (K := K) (e := e) (by omega) (by omega) (by omega), at_in hu, Option.bind_some, Int.toNat_natCast]
    have hnx : nx e (max (u : Int) 0) 0 = u := by
      rw [show max (u : Int) 0 = u by omega, nx_at (by omega), List.drop_eq_getElem_cons hu, nx, if_pos ⟨e2, by omega⟩]
    rw [zer_take_succ hu, e2, e3, hnx, ih (j + 1) k (by omega) (by omega)]
    simp

/-- Intervals of two kinds, one behind the other. -/
inductive Tile : Int → List (Int × Int) → List (Int × Int) → Int → Prop
  | nil (x : Int) : Tile x [] [] x
  | one {x t : Int} {a b : List (Int × Int)} {y : Int} (h : x < t) (hr : Tile t a b y) : Tile x ((x, t) :: a) b y
  | two {x t : Int} {a b : List (Int × Int)} {y : Int} (h : x < t) (hr : Tile t a b y) : Tile x a ((x, t) :: b) y

theorem Tile.le {x y : Int} {a b : List (Int × Int)} (h : Tile x a b y) : x ≤ y := by
  induction h with
  | nil => omega
  | one h _ ih => omega
  | two h _ ih => omega

theorem Tile.ge {x y : Int} {a b : List (Int × Int)} (h : Tile x a b y) : ∀ p ∈ a, x ≤ p.1 := by
  induction h with
  | nil => intro p hp; cases hp
  | one h _ ih =>
    intro p hp
    rcases List.mem_cons.1 hp with rfl | hp
    · simp only; omega
    · have := ih p hp; omega
  | two h _ ih => intro p hp; have := ih p hp; omega

theorem Tile.swap {x y : Int} {a b : List (Int × Int)} (h : Tile x a b y) : Tile x b a y := by
  induction h with
  | nil => exact .nil _
  | one h _ ih => exact .two h ih
  | two h _ ih => exact .one h ih

theorem Tile.snoc {x y t : Int} {a b : List (Int × Int)} (h : Tile x a b y) (ht : y < t) : Tile x (a ++ [(y, t)]) b t := by
  induction h with
  | nil => exact .one ht (.nil _)
  | one h _ ih => exact .one h (ih ht)
  | two h _ ih => exact .two h (ih ht)

theorem Tile.more {x y t : Int} {l a b : List (Int × Int)} {p : Int × Int} (h : Tile x l b y) (he : l = a ++ [p]) (hp : p.2 = y) (ht : y < t) : Tile x (a ++ [(p.1, t)]) b t := by
  induction h generalizing a with
  | nil => simp at he
  | @one x s l b y h hr ih =>
    cases a with
    | nil =>
      simp only [List.nil_append, List.cons.injEq] at he
      obtain ⟨rfl, rfl⟩ := he
      simp only at hp
      subst hp
      cases hr with
      | nil => exact .one (by omega) (.nil _)
      | two h2 hr2 => have := hr2.le; omega
    | cons q a =>
      simp only [List.cons_append, List.cons.injEq] at he
      obtain ⟨rfl, rfl⟩ := he
      exact .one h (ih rfl hp ht)
  | two h hr ih => exact .two h (ih he hp ht)

theorem Tile.grow {x y t : Int} {a b : List (Int × Int)} (h : Tile x a b y) (ht : y < t) : Tile x (Go.Pal.grow a y t) b t := by
  by_cases he : a = []
  · subst he; exact h.snoc ht
  · obtain ⟨l, p, rfl⟩ := split_last he
    rw [grow_app]
    split
    · rename_i hp; exact h.more rfl hp ht
    · exact h.snoc ht

theorem rns_tile : ∀ {e : List Int} {i : Int} {a b : List (Int × Int)}, Tile 0 a b i → Tile 0 (rns true e i a) (rns false e i b) (i + e.length)
  | [], i, a, b, h => by simpa [rns] using h
  | c :: e, i, a, b, h => by
    rw [rns, rns]
    have e1 : i + ((c :: e).length : Int) = i + 1 + e.length := by simp only [List.length_cons]; omega
    rw [e1]
    by_cases hc : c > 0
    · rw [if_pos (by simpa using hc), if_neg (by simpa using hc)]
      exact rns_tile (h.grow (by omega))
    · rw [if_neg (by simpa using hc), if_pos (by simpa using hc)]
      exact rns_tile (h.swap.grow (by omega)).swap

theorem tile_loop {K : Nat} {a b : List (Int × Int)} (ha : a.length < 1000000) (hb : b.length < 1000000) {x y : Int} {ra rb : List (Int × Int)} (h : Tile x ra rb y) : ∀ (i j k : Nat), a.drop i = ra → b.drop j = rb → ra.length + rb.length < k →
    palinodelaw9_MapperBack.l1 K a b k x (i : Int) (j : Int) = some (Sum.inr y) := by
  induction h with
  | nil =>
    intro i j k h1 h2 hk
    obtain ⟨k, rfl⟩ : ∃ m, k = m + 1 := ⟨k - 1, by omega⟩
    have := drop_nil h1
    have := drop_nil h2
    rw [palinodelaw9_MapperBack.l1, if_neg (by simp; omega), Option.bind_some, if_neg (by simp; omega)]
  | @one x t ra rb y h hr ih =>
    intro i j k h1 h2 hk
    obtain ⟨k, rfl⟩ : ∃ m, k = m + 1 := ⟨k - 1, by omega⟩
    obtain ⟨hj, hgd, hd'⟩ := drop_cons h1 (0, 0)
    have hw : IntKind.wrap .i64 ((i : Int) + 1) = ((i + 1 : Nat) : Int) := by rw [w64 (by omega) (by omega)]; omega
    rw [palinodelaw9_MapperBack.l1, if_pos (by simpa using hj), Option.bind_some, if_pos rfl]
    simp only [Int.toNat_natCast, hgd, hw]
    rw [if_pos (by simpa using hj), if_pos ⟨by omega, by omega⟩, Option.bind_some, if_pos (by simp), if_pos ⟨by omega, by omega⟩]
    exact ih (i + 1) j k hd' h2 (by simp at hk; omega)
  | @two x t ra rb y h hr ih =>
    intro i j k h1 h2 hk
    obtain ⟨k, rfl⟩ : ∃ m, k = m + 1 := ⟨k - 1, by omega⟩
    obtain ⟨hj, hgd, hd'⟩ := drop_cons h2 (0, 0)
    have hw : IntKind.wrap .i64 ((j : Int) + 1) = ((j + 1 : Nat) : Int) := by rw [w64 (by omega) (by omega)]; omega
    have c1 : (if decide ((i : Int) < ((a.length : Nat) : Int)) = true then some true else some (decide ((j : Int) < ((b.length : Nat) : Int)))) = some true := by
      split
      · rfl
      · simpa using hj
    have c2 : (if decide ((i : Int) < ((a.length : Nat) : Int)) = true then if 0 ≤ (i : Int) ∧ (i : Int) < ((a.length : Nat) : Int) then some ((a.getD i (0, 0)).1 == x) else none else some false) = some false := by
      by_cases hi : i < a.length
      · rw [if_pos (by simpa using hi), if_pos ⟨by omega, by omega⟩]
        have hm : a.getD i (0, 0) ∈ ra := by
          have hge : a.getD i (0, 0) = a[i] := by simp [List.getD, hi]
          rw [hge, ← h1, List.drop_eq_getElem_cons hi]
          exact List.mem_cons_self
        have := hr.ge _ hm
        congr 1
        rw [beq_eq_false_iff_ne]
        omega
      · rw [if_neg (by simpa using hi)]
    rw [palinodelaw9_MapperBack.l1, c1, Option.bind_some, if_pos rfl]
    simp only [Int.toNat_natCast, hgd, hw]
    rw [c2, Option.bind_some, if_neg (by simp), if_neg (by simp; omega), if_pos ⟨by omega, by omega⟩, Option.bind_some, if_neg (by simp), if_pos ⟨by omega, by omega⟩]
    exact ih i (j + 1) k h1 hd' (by simp at hk; omega)

theorem MapperBack_pure (l : List Int) (ol : Kd.ok (.slice (.int .u8)) l) (u : Kd.bulk (.slice (.int .u8)) l ≤ 1048576) : ∃ K, palinodelaw9_MapperBack K l = some true := by
  refine ⟨2000000, ?_⟩
  have hb := Kd.bulk_len (e := .int .u8) (xs := l)
  have hl : l.length ≤ 1048576 := by omega
  have hc : ∀ c ∈ l.map f9, 0 ≤ c ∧ c ≤ 100 := fun c h => by
    obtain ⟨x, hx, rfl⟩ := List.mem_map.1 h
    have := bounds_u8 (ol.2 x hx)
    exact f9_ok this.1 (by omega)
  unfold palinodelaw9_MapperBack
  rw [known9 (by omega), Option.bind_some, if_neg (by simp), row9_is (by omega) (by omega), Option.bind_some]
  have hml : (l.map f9).length = l.length := by simp
  generalize l.map f9 = e at hc hml ⊢
  rw [made9_is (by omega) (by omega) hc, Option.bind_some]
  by_cases h1 : l.length > 150
  · rw [if_pos (by simp; omega), Option.bind_some, if_pos rfl]
  · have hr := rle_len_le e
    have hz := zer_pos hc
    have hzl := zer_le (e := e)
    have hn : IntKind.wrap .i64 ((e.length : Int) - pos e) = zer e := by rw [w64 (by have := pos_le (e := e); omega) (by have := pos_le (e := e); omega)]; omega
    rw [if_neg (by simp; omega), Option.bind_some, packed_small (by omega) (by omega), if_neg (by simp [sub])]
    have h := back_loop (K := 2000000) (by omega) (e := e) hn (by omega) hc (zer e).toNat 0 2000000 (by omega) (by omega)
    rw [Int.natCast_zero] at h
    have n1 := rns_len (b := true) (e := e) (i := 0) (out := [])
    have n2 := rns_len (b := false) (e := e) (i := 0) (out := [])
    simp only [List.length_nil] at n1 n2
    have ht := tile_loop (K := 2000000) (by omega) (by omega) (rns_tile (e := e) (Tile.nil 0)) 0 0 2000000 rfl rfl (by omega)
    rw [Int.natCast_zero] at ht
    rw [len_is, Option.bind_some, size_is (by omega) (by omega) (by omega), Option.bind_some, h, Option.bind_some]
    simp only [Sum.elim_inr]
    rw [runs9_is (by omega) (by omega) (by omega), Option.bind_some, runs9_is (by omega) (by omega) (by omega), Option.bind_some, ht, Option.bind_some]
    simp only [Sum.elim_inr, Option.bind_some]
    rw [hn, up_is (by omega) (by omega) (by omega) (by omega), Option.bind_some, show max (zer e) 0 = zer e by omega, up_end (by omega), down_is (by omega) (by omega) (by omega), Option.bind_some, Int.toNat_natCast, List.take_length]
    simp

end Go.Pal
