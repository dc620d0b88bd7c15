/- Whatever places and text: what only puts in, what only takes away, in its halves. -/
import Derived.Test.YtmeleoadgjbmfaaFunFactorPlain
namespace Go.Pal
open Go
set_option linter.unusedVariables false
set_option linter.unusedSimpArgs false
set_option linter.unnecessarySimpa false
theorem w64 {n : Int} (h1 : -9223372036854775808 ≤ n) (h2 : n < 9223372036854775808) : IntKind.wrap .i64 n = n := by
  simp only [IntKind.wrap, IntKind.bits, IntKind.signed]
  simp
  omega

theorem drop_cons {α : Type} {l : List α} {j : Nat} {g : α} {r : List α} (h : l.drop j = g :: r) (d : α) : j < l.length ∧ l.getD j d = g ∧ l.drop (j + 1) = r := by
  have hj : j < l.length := by
    rcases Nat.lt_or_ge j l.length with h' | h'
    · exact h'
    · rw [List.drop_eq_nil_of_le h'] at h; cases h
  rw [List.drop_eq_getElem_cons hj] at h
  obtain ⟨h1, h2⟩ := List.cons.inj h
  exact ⟨hj, by simp [List.getD, hj, h1], h2⟩

theorem drop_nil {α : Type} {l : List α} {j : Nat} (h : l.drop j = []) : l.length ≤ j := List.drop_eq_nil_iff.1 h

/-- One run more behind a row of runs. -/
def push (acc : List (Int × Int)) (g : Int × Int) : List (Int × Int) :=
  if acc ≠ [] ∧ (acc.getD (acc.length - 1) (0, 0)).2 = g.2 then acc.set (acc.length - 1) ((acc.getD (acc.length - 1) (0, 0)).1 + g.1, (acc.getD (acc.length - 1) (0, 0)).2) else acc ++ [g]

def packA : List (Int × Int) → Int → List (Int × Int) → Option (List (Int × Int) × Int)
  | acc, len, [] => some (acc, len)
  | acc, len, g :: rest => if g.1 = 0 then packA acc len rest else if g.1 > 20000 - len then none else packA (push acc g) (len + g.1) rest

theorem push_nil (g : Int × Int) : push [] g = [g] := rfl

theorem push_app (l : List (Int × Int)) (p g : Int × Int) : push (l ++ [p]) g = if p.2 = g.2 then l ++ [(p.1 + g.1, p.2)] else l ++ [p] ++ [g] := by
  unfold push
  have e1 : (l ++ [p]).length - 1 = l.length := by simp
  have e2 : (l ++ [p]).getD l.length (0, 0) = p := by simp [List.getD]
  rw [e1, e2]
  by_cases h : p.2 = g.2
  · rw [if_pos ⟨by simp, h⟩, if_pos h, List.set_append_right _ _ (Nat.le_refl _)]
    simp
  · rw [if_neg (fun h' => h h'.2), if_neg h]

theorem split_last {α : Type} : ∀ {l : List α}, l ≠ [] → ∃ m x, l = m ++ [x] := by
  intro l h
  exact ⟨l.dropLast, l.getLast h, (List.dropLast_concat_getLast h).symm⟩

theorem push_len {acc : List (Int × Int)} {g : Int × Int} : (push acc g).length ≤ acc.length + 1 := by
  unfold push; split <;> simp

def sumL : List (Int × Int) → Int
  | [] => 0
  | p :: l => p.1 + sumL l

theorem sumL_app : ∀ {l r : List (Int × Int)}, sumL (l ++ r) = sumL l + sumL r
  | [], r => by simp [sumL]
  | p :: l, r => by simp only [List.cons_append, sumL, sumL_app]; omega

theorem sumL_push {acc : List (Int × Int)} {g : Int × Int} : sumL (push acc g) = sumL acc + g.1 := by
  by_cases h : acc = []
  · subst h; simp [push_nil, sumL]
  · obtain ⟨l, p, rfl⟩ := split_last h
    rw [push_app]
    split <;> simp only [sumL_app, sumL] <;> omega

theorem nonneg_push {acc : List (Int × Int)} {g : Int × Int} (ha : ∀ p ∈ acc, 0 ≤ p.1) (hg : 0 ≤ g.1) : ∀ p ∈ push acc g, 0 ≤ p.1 := by
  by_cases h : acc = []
  · subst h; simp [push_nil]; exact hg
  · obtain ⟨l, p, rfl⟩ := split_last h
    have hp := ha p (by simp)
    have hl : ∀ q ∈ l, 0 ≤ q.1 := fun q hq => ha q (by simp [hq])
    rw [push_app]
    intro q hq
    split at hq
    · rcases List.mem_append.1 hq with hq | hq
      · exact hl q hq
      · simp only [List.mem_singleton] at hq; subst hq; show 0 ≤ p.1 + g.1; omega
    · rcases List.mem_append.1 hq with hq | hq
      · exact ha q hq
      · simp only [List.mem_singleton] at hq; subst hq; exact hg

theorem le_sumL : ∀ {l : List (Int × Int)}, (∀ p ∈ l, 0 ≤ p.1) → 0 ≤ sumL l ∧ ∀ p ∈ l, p.1 ≤ sumL l
  | [], _ => ⟨by simp [sumL], fun p hp => by cases hp⟩
  | q :: l, h => by
    obtain ⟨h1, h2⟩ := le_sumL (l := l) fun p hp => h p (by simp [hp])
    have hq := h q (by simp)
    refine ⟨by simp only [sumL]; omega, fun p hp => ?_⟩
    simp only [sumL]
    rcases List.mem_cons.1 hp with rfl | hp
    · omega
    · have := h2 p hp; omega

theorem pack_loop {K : Nat} {segs : List (Int × Int)} : ∀ (rest : List (Int × Int)) (j k : Nat) (acc : List (Int × Int)) (len : Int), segs.drop j = rest → rest.length < k → acc.length ≤ j → segs.length < 1000000000000 → 0 ≤ len → len ≤ 20000 → (∀ g ∈ rest, 0 ≤ g.1) →
    (∀ p ∈ acc, 0 ≤ p.1) → sumL acc = len → subset_Pack_r.l0 K segs k acc len (j : Int) = some (match packA acc len rest with | none => Sum.inl (none, 70) | some x => Sum.inr x)
  | [], j, k, acc, len, hd, hk, ha, hs, h0, h1, hg, hp0, hsum => by
    obtain ⟨k, rfl⟩ : ∃ m, k = m + 1 := ⟨k - 1, by simp at hk; omega⟩
    have := drop_nil hd
    rw [subset_Pack_r.l0]
    rw [if_neg (by simp; omega)]
    rfl
  | g :: rest, j, k, acc, len, hd, hk, ha, hs, h0, h1, hg, hp0, hsum => by
    obtain ⟨k, rfl⟩ : ∃ m, k = m + 1 := ⟨k - 1, by simp at hk; omega⟩
    obtain ⟨hj, hgd, hd'⟩ := drop_cons hd (0, 0)
    have hg0 : 0 ≤ g.1 := hg g (by simp)
    have hrest : ∀ g ∈ rest, 0 ≤ g.1 := fun g h => hg g (by simp [h])
    have hk' : rest.length < k := by simp at hk; omega
    have hw : IntKind.wrap .i64 ((j : Int) + 1) = ((j + 1 : Nat) : Int) := by rw [w64 (by omega) (by omega)]; omega
    have hl : IntKind.wrap .i64 ((((List.length acc) : Nat) : Int) - (1 : Int)) = (acc.length : Int) - 1 := w64 (by omega) (by omega)
    have hpl := push_len (acc := acc) (g := g)
    have hnext := fun (hb : ¬ g.1 > 20000 - len) => pack_loop (K := K) rest (j + 1) k (push acc g) (len + g.1) hd' hk' (by omega) hs (by omega) (by omega) hrest (nonneg_push hp0 hg0) (by rw [sumL_push, hsum])
    rw [subset_Pack_r.l0]
    rw [if_pos (by simpa using hj), if_pos ⟨by omega, by omega⟩]
    simp only [Int.toNat_natCast, hgd, hw, hl]
    rw [packA]
    by_cases hz : g.1 = 0
    · rw [if_pos (by simpa using hz), if_pos hz]
      exact pack_loop rest (j + 1) k acc len hd' hk' (by omega) hs h0 h1 hrest hp0 hsum
    · rw [if_neg (by simpa using hz), if_neg hz, w64 (by omega) (by omega)]
      by_cases hb : g.1 > 20000 - len
      · rw [if_pos (by simpa using hb), if_pos hb]
      · rw [if_neg (by simpa using hb), if_neg hb, ← hnext hb, w64 (n := len + g.1) (by omega) (by omega)]
        by_cases he : acc = []
        · subst he
          simp [push_nil]
        · have hp : 0 < acc.length := List.length_pos_iff.2 he
          rw [if_pos (by simp; omega), if_pos ⟨by omega, by omega⟩, Option.bind_some]
          have hn : ((acc.length : Int) - 1).toNat = acc.length - 1 := by omega
          rw [hn]
          have hlast : 0 ≤ (acc.getD (acc.length - 1) (0, 0)).1 ∧ (acc.getD (acc.length - 1) (0, 0)).1 ≤ len := by
            have hm : acc.getD (acc.length - 1) (0, 0) ∈ acc := by
              rw [List.getD, List.getElem?_eq_getElem (by omega)]
              simp
            exact ⟨hp0 _ hm, by rw [← hsum]; exact (le_sumL hp0).2 _ hm⟩
          by_cases hq : (acc.getD (acc.length - 1) (0, 0)).2 = g.2
          · rw [if_pos (by simpa using hq), if_pos ⟨by omega, by omega⟩, w64 (n := (acc.getD (acc.length - 1) (0, 0)).1 + g.1) (by omega) (by omega)]
            unfold push
            rw [if_pos ⟨he, hq⟩]
          · rw [if_neg (by simpa using hq), if_pos (by simp; omega)]
            unfold push
            rw [if_neg (fun h => hq h.2)]

/-- Pack, told. -/
theorem pack_eq {K : Nat} {segs : List (Int × Int)} (hK : segs.length < K) (hs : segs.length < 1000000000000) (hg : ∀ g ∈ segs, 0 ≤ g.1) :
    subset_Pack_r K segs = some (match packA [] 0 segs with | none => (none, 70) | some x => if x.1.length > 200 then (none, 70) else (some x, 0)) := by
  unfold subset_Pack_r
  have h := pack_loop (K := K) segs 0 K [] 0 rfl hK (by simp) hs (by omega) (by omega) hg (by simp) rfl
  rw [Int.natCast_zero] at h
  rw [h, Option.bind_some]
  cases packA [] 0 segs with
  | none => rfl
  | some x =>
    simp only [Sum.elim_inr]
    by_cases h : x.1.length > 200
    · rw [if_pos (by simp; omega), if_pos h]
    · rw [if_neg (by simp; omega), if_neg h]

abbrev Sub := Option (List (Int × Int) × Int)

theorem mx2_eq (a b : Int) : mx2 a b = max a b := by unfold mx2; split <;> omega

theorem mn2_eq (a b : Int) : mn2 a b = min a b := by unfold mn2; split <;> omega

/-- What a row of runs stands for: a count for each place. -/
def expand : List (Int × Int) → List Int
  | [] => []
  | p :: l => List.replicate p.1.toNat p.2 ++ expand l

theorem expand_app : ∀ {l r : List (Int × Int)}, expand (l ++ r) = expand l ++ expand r
  | [], r => rfl
  | p :: l, r => by simp [expand, expand_app]

theorem expand_push {acc : List (Int × Int)} {g : Int × Int} (ha : ∀ p ∈ acc, 0 ≤ p.1) (hg : 0 ≤ g.1) : expand (push acc g) = expand acc ++ List.replicate g.1.toNat g.2 := by
  by_cases h : acc = []
  · subst h; simp [push_nil, expand]
  · obtain ⟨l, p, rfl⟩ := split_last h
    have hp := ha p (by simp)
    rw [push_app]
    split
    · rename_i he
      simp only [expand_app, expand, List.append_nil, List.append_assoc]
      rw [Int.toNat_add hp hg, ← List.replicate_append_replicate, he]
    · simp [expand_app, expand]

theorem expand_len : ∀ {l : List (Int × Int)}, (∀ p ∈ l, 0 ≤ p.1) → ((expand l).length : Int) = sumL l
  | [], _ => rfl
  | p :: l, h => by
    have := expand_len (l := l) fun q hq => h q (by simp [hq])
    have hp := h p (by simp)
    simp only [expand, sumL, List.length_append, List.length_replicate]
    omega

def pushC (acc : List (Int × Int)) (c : Int) : List (Int × Int) := push acc (1, c)

/-- The least runs. -/
def rle (e : List Int) : List (Int × Int) := e.foldl pushC []

/-- The subset that has these counts. -/
def sub (e : List Int) : Sub := some (rle e, (e.length : Int))

theorem push_push {acc : List (Int × Int)} {a b c : Int} : push (push acc (a, c)) (b, c) = push acc (a + b, c) := by
  by_cases h : acc = []
  · subst h
    rw [push_nil, push_nil]
    have := push_app [] (a, c) (b, c)
    simpa using this
  · obtain ⟨l, p, rfl⟩ := split_last h
    rw [push_app l p (a, c), push_app l p (a + b, c)]
    by_cases he : p.2 = c
    · rw [if_pos he, if_pos he, push_app, if_pos he, Int.add_assoc]
    · rw [if_neg he, if_neg he, push_app, if_pos rfl]

theorem push_reps : ∀ {n : Nat} {acc : List (Int × Int)} {c : Int}, (List.replicate (n + 1) c).foldl pushC acc = push acc ((n : Int) + 1, c)
  | 0, acc, c => rfl
  | n + 1, acc, c => by
    rw [List.replicate_succ, List.foldl_cons, push_reps, pushC, push_push]
    congr 2
    omega

theorem packA_rle : ∀ {l : List (Int × Int)} {e : List Int} {len : Int}, (∀ p ∈ l, 0 ≤ p.1) → len + sumL l ≤ 20000 → packA (rle e) len l = some (rle (e ++ expand l), len + sumL l)
  | [], e, len, _, _ => by simp [packA, expand, sumL]
  | g :: l, e, len, hl, h => by
    have hg := hl g (by simp)
    have hl' : ∀ p ∈ l, 0 ≤ p.1 := fun p hp => hl p (by simp [hp])
    have h0 := (le_sumL hl').1
    simp only [sumL] at h ⊢
    rw [packA, expand]
    by_cases hz : g.1 = 0
    · rw [if_pos hz, packA_rle hl' (by omega), hz]; simp
    · rw [if_neg hz, if_neg (by omega)]
      have hp : push (rle e) g = rle (e ++ List.replicate g.1.toNat g.2) := by
        obtain ⟨n, hn⟩ : ∃ n : Nat, g.1 = (n : Int) + 1 := ⟨g.1.toNat - 1, by omega⟩
        have : g.1.toNat = n + 1 := by omega
        rw [this, rle, rle, List.foldl_append, push_reps, ← hn]
      rw [hp, packA_rle hl' (by omega)]
      rw [List.append_assoc]
      congr 2
      omega

theorem packA_none : ∀ {l acc : List (Int × Int)} {len : Int}, (∀ p ∈ l, 0 ≤ p.1) → len ≤ 20000 → 20000 < len + sumL l → packA acc len l = none
  | [], _, _, _, h, h' => by simp [sumL] at h'; omega
  | g :: l, acc, len, hl, h, h' => by
    have hg := hl g (by simp)
    have hl' : ∀ p ∈ l, 0 ≤ p.1 := fun p hp => hl p (by simp [hp])
    simp only [sumL] at h'
    rw [packA]
    by_cases hz : g.1 = 0
    · rw [if_pos hz]; exact packA_none hl' h (by omega)
    · rw [if_neg hz]
      by_cases hb : g.1 > 20000 - len
      · rw [if_pos hb]
      · rw [if_neg hb]; exact packA_none hl' (by omega) (by omega)

theorem rle_facts : ∀ (e : List Int), (∀ p ∈ rle e, 0 ≤ p.1) ∧ expand (rle e) = e ∧ sumL (rle e) = e.length := by
  intro e
  have key : ∀ (e : List Int) (acc : List (Int × Int)), (∀ p ∈ acc, 0 ≤ p.1) → (∀ p ∈ e.foldl pushC acc, 0 ≤ p.1) ∧ expand (e.foldl pushC acc) = expand acc ++ e ∧ sumL (e.foldl pushC acc) = sumL acc + e.length := by
    intro e
    induction e with
    | nil => intro acc h; exact ⟨h, by simp, by simp⟩
    | cons c e ih =>
      intro acc h
      obtain ⟨h1, h2, h3⟩ := ih (pushC acc c) (nonneg_push h (by simp))
      refine ⟨h1, ?_, ?_⟩
      · rw [List.foldl_cons, h2, pushC, expand_push h (by simp)]; simp
      · rw [List.foldl_cons, h3, pushC, sumL_push]; simp only [List.length_cons]; omega
  obtain ⟨h1, h2, h3⟩ := key e [] (by simp)
  exact ⟨h1, by rw [rle]; simpa [expand] using h2, by rw [rle]; simpa [sumL] using h3⟩

/-- What Pack answers. -/
def packed (e : List Int) : Sub × Int := if e.length > 20000 then (none, 70) else if (rle e).length > 200 then (none, 70) else (sub e, 0)

theorem pack_is {K : Nat} {segs : List (Int × Int)} (hK : segs.length < K) (hs : segs.length < 1000000000000) (hg : ∀ g ∈ segs, 0 ≤ g.1) : subset_Pack_r K segs = some (packed (expand segs)) := by
  rw [pack_eq hK hs hg]
  have hl := expand_len hg
  unfold packed
  by_cases h : sumL segs ≤ 20000
  · have := packA_rle (e := []) (len := 0) hg (by omega)
    rw [show rle [] = [] from rfl] at this
    rw [this, if_neg (by omega)]
    simp only [List.nil_append, Int.zero_add]
    rw [← hl]
    rfl
  · rw [packA_none hg (by omega) (by omega), if_pos (by omega)]

theorem new_is {K : Nat} {n : Int} (hK : 1 < K) (h0 : 0 ≤ n) (h1 : n ≤ 20000) : subset_New K n = some (sub (List.replicate n.toNat 0)) := by
  unfold subset_New
  rw [mx2_eq, mn2_eq, pack_is (by simpa using hK) (by simp) (by intro g hg; simp only [List.mem_singleton] at hg; subst hg; simp only; omega), Option.bind_some]
  rw [show min (max n 0) 20000 = n by omega]
  simp only [expand, List.append_nil]
  unfold packed
  rw [if_neg (by simp; omega), if_neg]
  have : (rle (List.replicate n.toNat (0 : Int))).length ≤ 1 := by
    cases hn : n.toNat with
    | zero => simp [rle]
    | succ m => rw [rle, push_reps, push_nil]; simp
  omega

/-- The counts of e, those from f to t told anew. -/
def put (e : List Int) (f t c : Int) : List Int := e.take f.toNat ++ List.replicate (t - f).toNat c ++ e.drop t.toNat

/-- How many places have a count above nothing. -/
def pos (e : List Int) : Int := ((e.filter fun c => decide (c > 0)).length : Nat)

theorem pos_app {a b : List Int} : pos (a ++ b) = pos a + pos b := by simp [pos]

theorem pos_reps {n : Nat} {c : Int} : pos (List.replicate n c) = if c > 0 then (n : Int) else 0 := by
  unfold pos
  split
  · rename_i h; rw [List.filter_replicate_of_pos (by simpa using h)]; simp
  · rename_i h; rw [List.filter_replicate_of_neg (by simpa using h)]; simp

theorem size_loop {K : Nat} {segs : List (Int × Int)} {m : Int} : ∀ (rest : List (Int × Int)) (j k : Nat) (n : Int), segs.drop j = rest → rest.length < k → segs.length < 1000000000000 → 0 ≤ n → (∀ g ∈ rest, 0 ≤ g.1) → n + sumL rest ≤ 1000000000000 →
    subset_Subset_Size.l0 K (some (segs, m)) k n (j : Int) = some (n + pos (expand rest))
  | [], j, k, n, hd, hk, hs, h0, hg, hsum => by
    obtain ⟨k, rfl⟩ : ∃ m, k = m + 1 := ⟨k - 1, by simp at hk; omega⟩
    have := drop_nil hd
    rw [subset_Subset_Size.l0]
    simp only [Option.getD_some]
    rw [if_neg (by simp; omega)]
    simp [expand, pos]
  | g :: rest, j, k, n, hd, hk, hs, h0, hg, hsum => by
    obtain ⟨k, rfl⟩ : ∃ m, k = m + 1 := ⟨k - 1, by simp at hk; omega⟩
    obtain ⟨hj, hgd, hd'⟩ := drop_cons hd (0, 0)
    have hg0 : 0 ≤ g.1 := hg g (by simp)
    have hrest : ∀ g ∈ rest, 0 ≤ g.1 := fun g h => hg g (by simp [h])
    have hk' : rest.length < k := by simp at hk; omega
    have hr0 := (le_sumL hrest).1
    simp only [sumL] at hsum
    have hw : IntKind.wrap .i64 ((j : Int) + 1) = ((j + 1 : Nat) : Int) := by rw [w64 (by omega) (by omega)]; omega
    rw [subset_Subset_Size.l0]
    simp only [Option.getD_some, Int.toNat_natCast, hgd, hw]
    rw [if_pos (by simpa using hj), if_pos ⟨by omega, by omega⟩, expand, pos_app, pos_reps]
    by_cases hc : g.2 > 0
    · rw [if_pos (by simpa using hc), if_pos hc, w64 (n := n + g.1) (by omega) (by omega), size_loop rest (j + 1) k _ hd' hk' hs (by omega) hrest (by omega)]
      congr 1; omega
    · rw [if_neg (by simpa using hc), if_neg hc, size_loop rest (j + 1) k _ hd' hk' hs (by omega) hrest (by omega)]
      congr 1; omega

theorem size_is {K : Nat} {e : List Int} (hK : 1000 ≤ K) (hl : e.length ≤ 20000) (hr : (rle e).length ≤ 200) : subset_Subset_Size K (sub e) = some (pos e) := by
  obtain ⟨hn, hx, hsum⟩ := rle_facts e
  unfold subset_Subset_Size sub
  rw [if_pos (show Option.isSome (some _) = true from rfl)]
  have h := size_loop (K := K) (segs := rle e) (m := e.length) (rle e) 0 K 0 rfl (by omega) (by omega) (by omega) hn (by omega)
  rw [Int.natCast_zero] at h
  rw [h, hx]; simp

theorem empty_is {K : Nat} {e : List Int} (hK : 1000 ≤ K) (hl : e.length ≤ 20000) (hr : (rle e).length ≤ 200) : subset_Subset_Empty K (sub e) = some (pos e == 0) := by
  unfold subset_Subset_Empty
  rw [size_is hK hl hr]; rfl

theorem len_is {K : Nat} {e : List Int} : subset_Subset_Len K (sub e) = some (e.length : Int) := rfl

theorem count_loop {K : Nat} {segs : List (Int × Int)} {m : Int} : ∀ (rest : List (Int × Int)) (j k : Nat) (x : Int), segs.drop j = rest → rest.length < k → segs.length < 1000000000000 → 0 ≤ x → x ≤ 1000000000000 → (∀ g ∈ rest, 0 ≤ g.1) → sumL rest ≤ 1000000000000 →
    subset_Subset_Count.l0 K (some (segs, m)) k x (j : Int) = some ((expand rest).getD x.toNat 0)
  | [], j, k, x, hd, hk, hs, h0, h1, hg, hsum => by
    obtain ⟨k, rfl⟩ : ∃ m, k = m + 1 := ⟨k - 1, by simp at hk; omega⟩
    have := drop_nil hd
    rw [subset_Subset_Count.l0]
    simp only [Option.getD_some]
    rw [if_neg (by simp; omega)]
    simp [expand]
  | g :: rest, j, k, x, hd, hk, hs, h0, h1, hg, hsum => by
    obtain ⟨k, rfl⟩ : ∃ m, k = m + 1 := ⟨k - 1, by simp at hk; omega⟩
    obtain ⟨hj, hgd, hd'⟩ := drop_cons hd (0, 0)
    have hg0 : 0 ≤ g.1 := hg g (by simp)
    have hrest : ∀ g ∈ rest, 0 ≤ g.1 := fun g h => hg g (by simp [h])
    have hk' : rest.length < k := by simp at hk; omega
    have hr0 := (le_sumL hrest).1
    simp only [sumL] at hsum
    have hw : IntKind.wrap .i64 ((j : Int) + 1) = ((j + 1 : Nat) : Int) := by rw [w64 (by omega) (by omega)]; omega
    rw [subset_Subset_Count.l0]
    simp only [Option.getD_some, Int.toNat_natCast, hgd, hw]
    rw [if_pos (by simpa using hj), if_pos ⟨by omega, by omega⟩, expand]
    by_cases hc : x < g.1
    · rw [if_pos (by simpa using hc)]
      have : x.toNat < g.1.toNat := by omega
      simp [List.getD, List.getElem?_append_left, this]
    · rw [if_neg (by simpa using hc), w64 (n := x - g.1) (by omega) (by omega), count_loop rest (j + 1) k _ hd' hk' hs (by omega) (by omega) hrest (by omega)]
      rw [List.getD, List.getD, List.getElem?_append_right (by simp; omega)]
      simp only [List.length_replicate]
      rw [show (x - g.1).toNat = x.toNat - g.1.toNat by omega]

/-- The count at a place, nothing outside. -/
def at_ (e : List Int) (i : Int) : Int := if i < 0 ∨ i ≥ e.length then 0 else e.getD i.toNat 0

theorem count_is {K : Nat} {e : List Int} {i : Int} (hK : 1000 ≤ K) (hl : e.length ≤ 20000) (hr : (rle e).length ≤ 200) : subset_Subset_Count K (sub e) i = some (at_ e i) := by
  obtain ⟨hn, hx, hsum⟩ := rle_facts e
  unfold subset_Subset_Count sub at_
  by_cases h1 : i < 0
  · rw [if_pos (by simpa using h1), Option.bind_some, if_pos rfl, if_pos (.inl h1)]
  · rw [if_neg (by simpa using h1), if_pos (show Option.isSome (some _) = true from rfl), Option.bind_some]
    simp only [Option.getD_some]
    by_cases h2 : i ≥ e.length
    · rw [if_pos (by simpa using h2), if_pos (.inr h2)]
    · rw [if_neg (by simpa using h2), if_pos (show Option.isSome (some _) = true from rfl), if_neg (by omega)]
      have h := count_loop (K := K) (segs := rle e) (m := e.length) (rle e) 0 K i rfl (by omega) (by omega) (by omega) (by omega) hn (by omega)
      rw [Int.natCast_zero] at h
      rw [h, hx]

theorem packed_small {e : List Int} (h1 : e.length ≤ 20000) (h2 : (rle e).length ≤ 200) : packed e = (sub e, 0) := by
  unfold packed
  rw [if_neg (by omega), if_neg (by omega)]

theorem rle_reps {n : Nat} {c : Int} : (rle (List.replicate n c)).length ≤ 1 := by
  cases n with
  | zero => simp [rle]
  | succ m => rw [rle, push_reps, push_nil]; simp

theorem tmod_u8 {n m : Int} (h0 : 0 ≤ n) (hm : 0 < m) : 0 ≤ Int.tmod n m ∧ Int.tmod n m < m := by
  rw [Int.tmod_eq_emod_of_nonneg h0]
  exact ⟨Int.emod_nonneg _ (by omega), Int.emod_lt_of_pos _ hm⟩

theorem segs_is {K : Nat} {e : List Int} (hl : e.length ≤ 20000) (hr : (rle e).length ≤ 200) : subset_Subset_Segs K (sub e) = some (rle e) := by
  unfold subset_Subset_Segs sub
  simp only [Option.getD_some]
  rw [if_pos (by refine ⟨rfl, ?_⟩; omega)]
  congr 1
  simp [putAt]

theorem rle_pos : ∀ (e : List Int), ∀ p ∈ rle e, 1 ≤ p.1 := by
  intro e
  have key : ∀ (e : List Int) (acc : List (Int × Int)), (∀ p ∈ acc, 1 ≤ p.1) → ∀ p ∈ e.foldl pushC acc, 1 ≤ p.1 := by
    intro e
    induction e with
    | nil => intro acc h; exact h
    | cons c e ih =>
      intro acc h
      refine ih (pushC acc c) ?_
      unfold pushC
      by_cases he : acc = []
      · subst he; simp [push_nil]
      · obtain ⟨l, p, rfl⟩ := split_last he
        have hp := h p (by simp)
        rw [push_app]
        intro q hq
        split at hq
        · rcases List.mem_append.1 hq with hq | hq
          · exact h q (by simp [hq])
          · simp only [List.mem_singleton] at hq; subst hq; show 1 ≤ p.1 + 1; omega
        · rcases List.mem_append.1 hq with hq | hq
          · exact h q hq
          · simp only [List.mem_singleton] at hq; subst hq; simp
  simpa [rle] using key e []

/-- The place of the how-manieth that has no count. -/
def up : List Int → Int → Int → Int
  | [], _, i => i
  | c :: r, k, i => if c ≠ 0 then up r k (i + 1) else if k = 0 then i else up r (k - 1) (i + 1)

/-- Runs without their first places. -/
def less (g : Int × Int) (r : List (Int × Int)) (n : Int) : List (Int × Int) := if g.1 - n = 0 then r else (g.1 - n, g.2) :: r

theorem less_expand {g : Int × Int} {r : List (Int × Int)} {n : Int} (h0 : 0 ≤ n) (h1 : n ≤ g.1) : expand (g :: r) = List.replicate n.toNat g.2 ++ expand (less g r n) := by
  unfold less
  rw [expand]
  by_cases h : g.1 - n = 0
  · rw [if_pos h, show g.1.toNat = n.toNat by omega]
  · rw [if_neg h, expand, ← List.append_assoc, List.replicate_append_replicate]
    congr 2
    simp only
    omega

theorem less_pos {g : Int × Int} {r : List (Int × Int)} {n : Int} (h : ∀ p ∈ g :: r, 1 ≤ p.1) (h1 : n ≤ g.1) : ∀ p ∈ less g r n, 1 ≤ p.1 := by
  unfold less
  split
  · exact fun p hp => h p (by simp [hp])
  · intro p hp
    rcases List.mem_cons.1 hp with rfl | hp
    · simp only; omega
    · exact h p (by simp [hp])

theorem less_sum {g : Int × Int} {r : List (Int × Int)} {n : Int} : sumL (less g r n) = sumL (g :: r) - n := by
  unfold less
  split
  · simp only [sumL]; omega
  · simp only [sumL]; omega

/-- Place by place through two rows of counts. -/
def thru (G : Int → Int → List Int) : List Int → List Int → List Int
  | c :: a, d :: b => G c d ++ thru G a b
  | _, _ => []

/-- A count for each two. -/
def two (F : Int → Int → Int) (a b : List Int) : List Int := thru (fun c d => [F c d]) a b

/-- A text's bytes. -/
def txt (s : ByteArray) : List Int := s.data.toList.map fun b => (b.toNat : Int)

theorem txt_len {s : ByteArray} : (txt s).length = s.size := by simp [txt]

theorem ofBytes_txt {s : ByteArray} : ofBytes (txt s) = s := by
  cases s with
  | mk d =>
    unfold ofBytes txt
    rw [List.map_map]
    have : ((fun n : Int => UInt8.ofNat n.toNat) ∘ fun b : UInt8 => (b.toNat : Int)) = id := by
      funext b; simp
    rw [this]; simp

theorem txt_get {s : ByteArray} {j : Nat} (h : j < (txt s).length) (hs : j < s.size) : (txt s)[j] = (s[j].toNat : Int) := by
  have : ∀ (l : List Int) (h : j < l.length), l = s.data.toList.map (fun b => (b.toNat : Int)) → l[j] = (s[j].toNat : Int) := by
    intro l h e
    subst e
    rw [List.getElem_map, Array.getElem_toList]
    rfl
  exact this _ h rfl

theorem bt_is {s : ByteArray} {j : Nat} (h : j < (txt s).length) : bt s (j : Int) = (txt s)[j] := by
  have hs : j < s.size := by rw [← txt_len]; exact h
  rw [txt_get h hs]
  unfold bt
  simp [hs]

theorem byte_all {P : Int → Prop} (h : ∀ m : Fin 256, P ((m.val : Nat) : Int)) {c : Int} (h0 : 0 ≤ c) (h1 : c ≤ 255) : P c := by
  have := h ⟨c.toNat, by omega⟩
  simpa [Int.toNat_of_nonneg h0] using this

theorem bt_ok {s : ByteArray} {i : Int} : 0 ≤ bt s i ∧ bt s i ≤ 255 := by
  unfold bt
  have := (s[i.toNat]?.getD 0).toNat_lt
  omega

/-- A byte that goes on. -/
def cont (b : Int) : Prop := 128 ≤ b ∧ b < 192

instance (b : Int) : Decidable (cont b) := inferInstanceAs (Decidable (_ ∧ _))

theorem and_192 {b : Int} (h0 : 0 ≤ b) (h1 : b ≤ 255) : (IntKind.wrap .u8 (BitVec.toNat (BitVec.ofInt (IntKind.bits .u8) b &&& BitVec.ofInt (IntKind.bits .u8) (192 : Int))) != (128 : Int)) = !decide (cont b) :=
  byte_all (P := fun b => (IntKind.wrap .u8 (BitVec.toNat (BitVec.ofInt (IntKind.bits .u8) b &&& BitVec.ofInt (IntKind.bits .u8) (192 : Int))) != (128 : Int)) = !decide (cont b)) (by decide +kernel) h0 h1

theorem not_192 {b : Int} (h0 : 0 ≤ b) (h1 : b ≤ 255) : IntKind.wrap .u8 (BitVec.toNat (BitVec.ofInt (IntKind.bits .u8) b &&& ~~~BitVec.ofInt (IntKind.bits .u8) (192 : Int))) = b % 64 :=
  byte_all (P := fun b => IntKind.wrap .u8 (BitVec.toNat (BitVec.ofInt (IntKind.bits .u8) b &&& ~~~BitVec.ofInt (IntKind.bits .u8) (192 : Int))) = b % 64) (by decide +kernel) h0 h1

theorem not_128 {b : Int} (h0 : 0 ≤ b) (h1 : b ≤ 255) : IntKind.wrap .u8 (BitVec.toNat (BitVec.ofInt (IntKind.bits .u8) b &&& ~~~BitVec.ofInt (IntKind.bits .u8) (128 : Int))) = b % 128 :=
  byte_all (P := fun b => IntKind.wrap .u8 (BitVec.toNat (BitVec.ofInt (IntKind.bits .u8) b &&& ~~~BitVec.ofInt (IntKind.bits .u8) (128 : Int))) = b % 128) (by decide +kernel) h0 h1

theorem not_224 {b : Int} (h0 : 0 ≤ b) (h1 : b ≤ 255) : IntKind.wrap .u8 (BitVec.toNat (BitVec.ofInt (IntKind.bits .u8) b &&& ~~~BitVec.ofInt (IntKind.bits .u8) (224 : Int))) = b % 32 :=
  byte_all (P := fun b => IntKind.wrap .u8 (BitVec.toNat (BitVec.ofInt (IntKind.bits .u8) b &&& ~~~BitVec.ofInt (IntKind.bits .u8) (224 : Int))) = b % 32) (by decide +kernel) h0 h1

theorem not_240 {b : Int} (h0 : 0 ≤ b) (h1 : b ≤ 255) : IntKind.wrap .u8 (BitVec.toNat (BitVec.ofInt (IntKind.bits .u8) b &&& ~~~BitVec.ofInt (IntKind.bits .u8) (240 : Int))) = b % 16 :=
  byte_all (P := fun b => IntKind.wrap .u8 (BitVec.toNat (BitVec.ofInt (IntKind.bits .u8) b &&& ~~~BitVec.ofInt (IntKind.bits .u8) (240 : Int))) = b % 16) (by decide +kernel) h0 h1

theorem not_248 {b : Int} (h0 : 0 ≤ b) (h1 : b ≤ 255) : IntKind.wrap .u8 (BitVec.toNat (BitVec.ofInt (IntKind.bits .u8) b &&& ~~~BitVec.ofInt (IntKind.bits .u8) (248 : Int))) = b % 8 :=
  byte_all (P := fun b => IntKind.wrap .u8 (BitVec.toNat (BitVec.ofInt (IntKind.bits .u8) b &&& ~~~BitVec.ofInt (IntKind.bits .u8) (248 : Int))) = b % 8) (by decide +kernel) h0 h1

theorem is_128 {b : Int} (h0 : 0 ≤ b) (h1 : b ≤ 255) : (IntKind.wrap .u8 (BitVec.toNat (BitVec.ofInt (IntKind.bits .u8) b &&& BitVec.ofInt (IntKind.bits .u8) (128 : Int))) == (0 : Int)) = decide (b < 128) :=
  byte_all (P := fun b => (IntKind.wrap .u8 (BitVec.toNat (BitVec.ofInt (IntKind.bits .u8) b &&& BitVec.ofInt (IntKind.bits .u8) (128 : Int))) == (0 : Int)) = decide (b < 128)) (by decide +kernel) h0 h1

theorem is_224 {b : Int} (h0 : 0 ≤ b) (h1 : b ≤ 255) : (IntKind.wrap .u8 (BitVec.toNat (BitVec.ofInt (IntKind.bits .u8) b &&& BitVec.ofInt (IntKind.bits .u8) (224 : Int))) == (192 : Int)) = decide (192 ≤ b ∧ b < 224) :=
  byte_all (P := fun b => (IntKind.wrap .u8 (BitVec.toNat (BitVec.ofInt (IntKind.bits .u8) b &&& BitVec.ofInt (IntKind.bits .u8) (224 : Int))) == (192 : Int)) = decide (192 ≤ b ∧ b < 224)) (by decide +kernel) h0 h1

theorem is_240 {b : Int} (h0 : 0 ≤ b) (h1 : b ≤ 255) : (IntKind.wrap .u8 (BitVec.toNat (BitVec.ofInt (IntKind.bits .u8) b &&& BitVec.ofInt (IntKind.bits .u8) (240 : Int))) == (224 : Int)) = decide (224 ≤ b ∧ b < 240) :=
  byte_all (P := fun b => (IntKind.wrap .u8 (BitVec.toNat (BitVec.ofInt (IntKind.bits .u8) b &&& BitVec.ofInt (IntKind.bits .u8) (240 : Int))) == (224 : Int)) = decide (224 ≤ b ∧ b < 240)) (by decide +kernel) h0 h1

theorem is_248 {b : Int} (h0 : 0 ≤ b) (h1 : b ≤ 255) : (IntKind.wrap .u8 (BitVec.toNat (BitVec.ofInt (IntKind.bits .u8) b &&& BitVec.ofInt (IntKind.bits .u8) (248 : Int))) == (240 : Int)) = decide (240 ≤ b ∧ b < 248) :=
  byte_all (P := fun b => (IntKind.wrap .u8 (BitVec.toNat (BitVec.ofInt (IntKind.bits .u8) b &&& BitVec.ofInt (IntKind.bits .u8) (248 : Int))) == (240 : Int)) = decide (240 ≤ b ∧ b < 248)) (by decide +kernel) h0 h1

theorem or_lo {r x : Nat} (hx : x < 64) : (r * 64) ||| x = r * 64 + x := by
  have := Nat.two_pow_add_eq_or_of_lt (i := 6) hx r
  rw [Nat.mul_comm] at this
  exact this.symm

theorem w32 {n : Int} (h1 : -2147483648 ≤ n) (h2 : n < 2147483648) : IntKind.wrap .i32 n = n := by
  simp only [IntKind.wrap, IntKind.bits, IntKind.signed]
  simp
  omega

theorem or_32 {r x : Int} (h0 : 0 ≤ r) (h1 : r < 1048576) (h2 : 0 ≤ x) (h3 : x < 64) : IntKind.wrap .i32 (BitVec.toNat (BitVec.ofInt (IntKind.bits .i32) (IntKind.wrap .i32 (r * (64 : Int))) ||| BitVec.ofInt (IntKind.bits .i32) (IntKind.wrap .i32 x))) = r * 64 + x := by
  rw [w32 (n := r * 64) (by omega) (by omega), w32 (n := x) (by omega) (by omega)]
  obtain ⟨a, rfl⟩ : ∃ a : Nat, r = a := ⟨r.toNat, by omega⟩
  obtain ⟨b, rfl⟩ : ∃ b : Nat, x = b := ⟨x.toNat, by omega⟩
  have e1 : (BitVec.ofInt (IntKind.bits .i32) ((a : Int) * 64) ||| BitVec.ofInt (IntKind.bits .i32) (b : Int)).toNat = a * 64 + b := by
    rw [BitVec.toNat_or, BitVec.toNat_ofInt, BitVec.toNat_ofInt]
    have h4 : ((a : Int) * 64 % ((2 ^ IntKind.bits .i32 : Nat) : Int)).toNat = a * 64 := by
      have : IntKind.bits .i32 = 32 := rfl
      rw [this]; omega
    have h5 : ((b : Int) % ((2 ^ IntKind.bits .i32 : Nat) : Int)).toNat = b := by
      have : IntKind.bits .i32 = 32 := rfl
      rw [this]; omega
    rw [h4, h5, or_lo (by omega)]
  rw [e1, w32 (by omega) (by omega)]
  omega

/-- How many bytes a code point has that begins with these, of so many; 0: there is none. -/
def uszB (n c d e f : Int) : Int :=
  if c < 128 then 1
  else if 192 ≤ c ∧ c < 224 then (if 2 ≤ n ∧ cont d ∧ 128 ≤ c % 32 * 64 + d % 64 then 2 else 0)
  else if 224 ≤ c ∧ c < 240 then (if 3 ≤ n ∧ cont d ∧ cont e ∧ 2048 ≤ (c % 16 * 64 + d % 64) * 64 + e % 64 ∧ ¬ (55296 ≤ (c % 16 * 64 + d % 64) * 64 + e % 64 ∧ (c % 16 * 64 + d % 64) * 64 + e % 64 < 57344) then 3 else 0)
  else if 240 ≤ c ∧ c < 248 then (if 4 ≤ n ∧ cont d ∧ cont e ∧ cont f ∧ 65536 ≤ ((c % 8 * 64 + d % 64) * 64 + e % 64) * 64 + f % 64 ∧ ((c % 8 * 64 + d % 64) * 64 + e % 64) * 64 + f % 64 ≤ 1114111 then 4 else 0)
  else 0

theorem long_end {K : Nat} {s : ByteArray} {a : Int} {n r i : Int} {k : Nat} (h : ¬ i < n) : utf_long.l0 K n a s (k + 1) r i = some (.inr r) := by
  rw [utf_long.l0, if_neg (by simpa using h)]

theorem long_bad {K : Nat} {s : ByteArray} {a : Int} (h0 : 0 ≤ a) (hs : (s.size : Int) ≤ 1000000000000) {n r i : Int} {k : Nat} (h : i < n) (hi : 0 ≤ i) (hr : a + i < s.size) (hc : ¬ cont (bt s (a + i))) : utf_long.l0 K n a s (k + 1) r i = some (.inl (0, 0)) := by
  rw [utf_long.l0, w64 (n := a + i) (by omega) (by omega), if_pos (by simpa using h), if_pos ⟨by omega, by omega⟩, and_192 bt_ok.1 bt_ok.2, if_pos (by simpa using hc)]

theorem long_go {K : Nat} {s : ByteArray} {a : Int} (h0 : 0 ≤ a) (hs : (s.size : Int) ≤ 1000000000000) {n r i : Int} {k : Nat} (h : i < n) (hi : 0 ≤ i) (hr : a + i < s.size) (hc : cont (bt s (a + i))) (r0 : 0 ≤ r) (r1 : r < 1048576) : utf_long.l0 K n a s (k + 1) r i = utf_long.l0 K n a s k (r * 64 + bt s (a + i) % 64) (i + 1) := by
  have hb := bt_ok (s := s) (i := a + i)
  rw [utf_long.l0, w64 (n := a + i) (by omega) (by omega), if_pos (by simpa using h), if_pos ⟨by omega, by omega⟩, and_192 hb.1 hb.2, if_neg (by simpa using hc), not_192 hb.1 hb.2, or_32 r0 r1 (by omega) (by omega), w64 (n := i + 1) (by omega) (by omega)]

/-- How many bytes the code point has that begins at a place. -/
def usz (s : ByteArray) (a : Int) : Int := if a < 0 ∨ a ≥ s.size then 0 else uszB (s.size - a) (bt s a) (bt s (a + 1)) (bt s (a + 2)) (bt s (a + 3))

theorem uszB_ok {n c d e f : Int} (hn : 1 ≤ n) : 0 ≤ uszB n c d e f ∧ uszB n c d e f ≤ 4 ∧ uszB n c d e f ≤ n := by
  unfold uszB
  split
  · omega
  · split
    · split <;> omega
    · split
      · split <;> omega
      · split
        · split <;> omega
        · omega

theorem usz_ok {s : ByteArray} {a : Int} : 0 ≤ usz s a ∧ usz s a ≤ 4 ∧ (0 ≤ a → a < s.size → a + usz s a ≤ s.size) := by
  unfold usz
  split
  · rename_i h; exact ⟨by omega, by omega, fun h1 h2 => by omega⟩
  · have := uszB_ok (n := s.size - a) (c := bt s a) (d := bt s (a + 1)) (e := bt s (a + 2)) (f := bt s (a + 3)) (by omega)
    exact ⟨by omega, by omega, fun h1 h2 => by omega⟩

theorem point_is {K : Nat} {r : Int} (h0 : 0 ≤ r) : utf_isPoint K r = some (decide (r ≤ 1114111 ∧ ¬ (55296 ≤ r ∧ r < 57344))) := by
  unfold utf_isPoint
  rw [if_pos (by simpa using h0)]
  by_cases h1 : r ≤ 1114111
  · rw [if_pos (by simpa using h1)]
    by_cases h2 : r < 55296
    · rw [if_pos (by simpa using h2)]
      congr 1; symm; simp; omega
    · rw [if_neg (by simpa using h2)]
      congr 1
      by_cases h3 : r > 57343
      · simp [h3]; omega
      · simp [h3]; omega
  · rw [if_neg (by simpa using h1)]
    congr 1; symm; simp; omega

/-- What is read: the code point, and its bytes. -/
def tell (n v least : Int) : Int × Int := if least ≤ v ∧ v ≤ 1114111 ∧ ¬ (55296 ≤ v ∧ v < 57344) then (v, n) else (0, 0)

theorem long_tell {K : Nat} {n v least : Int} (h0 : 0 ≤ v) : ((if decide (v < least) = true then some true else (utf_isPoint K v).bind fun r_28 => some (!r_28)).bind fun z_39 => if z_39 = true then some ((0 : Int), (0 : Int)) else some (v, n)) = some (tell n v least) := by
  unfold tell
  rw [point_is h0]
  by_cases h1 : v < least
  · rw [if_pos (by simpa using h1), Option.bind_some, if_pos rfl, if_neg (by omega)]
  · rw [if_neg (by simpa using h1), Option.bind_some, Option.bind_some]
    by_cases h2 : v ≤ 1114111 ∧ ¬ (55296 ≤ v ∧ v < 57344)
    · rw [if_neg (by simp; omega), if_pos (by omega)]
    · rw [if_pos (by simp; omega), if_neg (by omega)]

theorem long1_is {K : Nat} {s : ByteArray} {a : Int} (hK : 10 ≤ K) (h0 : 0 ≤ a) (hs : (s.size : Int) ≤ 1000000000000) (ha : a < s.size) (hc : bt s a < 128) : utf_long K s a 1 128 0 0 = some (bt s a, 1) := by
  obtain ⟨k, rfl⟩ : ∃ k, K = k + 5 := ⟨K - 5, by omega⟩
  have hb := bt_ok (s := s) (i := a)
  unfold utf_long
  rw [w64 (by omega) (by omega), if_neg (by simp; omega), if_pos ⟨h0, ha⟩, not_128 hb.1 hb.2, w32 (by omega) (by omega), long_end (by omega), Option.bind_some]
  simp only [Sum.elim_inr]
  rw [long_tell (by omega)]
  unfold tell
  rw [if_pos (by omega)]
  congr 2
  omega

theorem long2_is {K : Nat} {s : ByteArray} {a : Int} (hK : 10 ≤ K) (h0 : 0 ≤ a) (hs : (s.size : Int) ≤ 1000000000000) (ha : a < s.size) : utf_long K s a 2 224 192 128 =
    some (if 2 ≤ (s.size : Int) - a ∧ cont (bt s (a + 1)) then tell 2 (bt s a % 32 * 64 + bt s (a + 1) % 64) 128 else (0, 0)) := by
  obtain ⟨k, rfl⟩ : ∃ k, K = k + 5 := ⟨K - 5, by omega⟩
  have hb := bt_ok (s := s) (i := a)
  have hb1 := bt_ok (s := s) (i := a + 1)
  unfold utf_long
  rw [w64 (by omega) (by omega)]
  by_cases hn : (s.size : Int) - a < 2
  · rw [if_pos (by simpa using hn), if_neg (by omega)]
  · rw [if_neg (by simpa using hn), if_pos ⟨h0, ha⟩, not_224 hb.1 hb.2, w32 (by omega) (by omega)]
    by_cases c1 : cont (bt s (a + 1))
    · rw [long_go h0 hs (by omega) (by omega) (by omega) c1 (by omega) (by omega), long_end (by omega), Option.bind_some]
      simp only [Sum.elim_inr]
      rw [long_tell (by omega), if_pos ⟨by omega, c1⟩]
    · rw [long_bad h0 hs (by omega) (by omega) (by omega) c1, Option.bind_some, if_neg (fun h => c1 h.2)]
      rfl

theorem long3_is {K : Nat} {s : ByteArray} {a : Int} (hK : 10 ≤ K) (h0 : 0 ≤ a) (hs : (s.size : Int) ≤ 1000000000000) (ha : a < s.size) : utf_long K s a 3 240 224 2048 =
    some (if 3 ≤ (s.size : Int) - a ∧ cont (bt s (a + 1)) ∧ cont (bt s (a + 2)) then tell 3 ((bt s a % 16 * 64 + bt s (a + 1) % 64) * 64 + bt s (a + 2) % 64) 2048 else (0, 0)) := by
  obtain ⟨k, rfl⟩ : ∃ k, K = k + 5 := ⟨K - 5, by omega⟩
  have hb := bt_ok (s := s) (i := a)
  have hb1 := bt_ok (s := s) (i := a + 1)
  have hb2 := bt_ok (s := s) (i := a + 2)
  unfold utf_long
  rw [w64 (by omega) (by omega)]
  by_cases hn : (s.size : Int) - a < 3
  · rw [if_pos (by simpa using hn), if_neg (by omega)]
  · rw [if_neg (by simpa using hn), if_pos ⟨h0, ha⟩, not_240 hb.1 hb.2, w32 (by omega) (by omega)]
    by_cases c1 : cont (bt s (a + 1))
    · rw [long_go h0 hs (by omega) (by omega) (by omega) c1 (by omega) (by omega)]
      by_cases c2 : cont (bt s (a + 2))
      · rw [show (1 : Int) + 1 = 2 from rfl, long_go h0 hs (by omega) (by omega) (by omega) c2 (by omega) (by omega), long_end (by omega), Option.bind_some]
        simp only [Sum.elim_inr]
        rw [long_tell (by omega), if_pos ⟨by omega, c1, c2⟩]
      · rw [show (1 : Int) + 1 = 2 from rfl, long_bad h0 hs (by omega) (by omega) (by omega) c2, Option.bind_some, if_neg (fun h => c2 h.2.2)]
        rfl
    · rw [long_bad h0 hs (by omega) (by omega) (by omega) c1, Option.bind_some, if_neg (fun h => c1 h.2.1)]
      rfl

theorem long4_go {K k : Nat} {s : ByteArray} {a : Int} (h0 : 0 ≤ a) (hs : (s.size : Int) ≤ 1000000000000) (hn : ¬ (s.size : Int) - a < 4) : utf_long.l0 K 4 a s (k + 4) (bt s a % 8) 1 =
    some (if cont (bt s (a + 1)) ∧ cont (bt s (a + 2)) ∧ cont (bt s (a + 3)) then .inr (((bt s a % 8 * 64 + bt s (a + 1) % 64) * 64 + bt s (a + 2) % 64) * 64 + bt s (a + 3) % 64) else .inl (0, 0)) := by
  have hb := bt_ok (s := s) (i := a)
  have hb1 := bt_ok (s := s) (i := a + 1)
  have hb2 := bt_ok (s := s) (i := a + 2)
  have hb3 := bt_ok (s := s) (i := a + 3)
  have r1 : 0 ≤ bt s a % 8 ∧ bt s a % 8 < 8 := by omega
  have r2 : 0 ≤ bt s (a + 1) % 64 ∧ bt s (a + 1) % 64 < 64 := by omega
  have r3 : 0 ≤ bt s (a + 2) % 64 ∧ bt s (a + 2) % 64 < 64 := by omega
  by_cases c1 : cont (bt s (a + 1))
  · have g1 := long_go (K := K) h0 hs (n := 4) (r := bt s a % 8) (i := 1) (k := k + 3) (by omega) (by omega) (by omega) c1 (by omega) (by omega)
    rw [g1, show (1 : Int) + 1 = 2 from rfl]
    by_cases c2 : cont (bt s (a + 2))
    · have g2 := long_go (K := K) h0 hs (n := 4) (r := bt s a % 8 * 64 + bt s (a + 1) % 64) (i := 2) (k := k + 2) (by omega) (by omega) (by omega) c2 (by omega) (by omega)
      rw [g2, show (2 : Int) + 1 = 3 from rfl]
      by_cases c3 : cont (bt s (a + 3))
      · have g3 := long_go (K := K) h0 hs (n := 4) (r := (bt s a % 8 * 64 + bt s (a + 1) % 64) * 64 + bt s (a + 2) % 64) (i := 3) (k := k + 1) (by omega) (by omega) (by omega) c3 (by omega) (by omega)
        rw [g3, long_end (by omega), if_pos ⟨c1, c2, c3⟩]
      · have g3 := long_bad (K := K) h0 hs (n := 4) (r := (bt s a % 8 * 64 + bt s (a + 1) % 64) * 64 + bt s (a + 2) % 64) (i := 3) (k := k + 1) (by omega) (by omega) (by omega) c3
        rw [g3, if_neg (fun h => c3 h.2.2)]
    · have g2 := long_bad (K := K) h0 hs (n := 4) (r := bt s a % 8 * 64 + bt s (a + 1) % 64) (i := 2) (k := k + 2) (by omega) (by omega) (by omega) c2
      rw [g2, if_neg (fun h => c2 h.2.1)]
  · have g1 := long_bad (K := K) h0 hs (n := 4) (r := bt s a % 8) (i := 1) (k := k + 3) (by omega) (by omega) (by omega) c1
    rw [g1, if_neg (fun h => c1 h.1)]

theorem long4_is {K : Nat} {s : ByteArray} {a least : Int} (hK : 10 ≤ K) (h0 : 0 ≤ a) (hs : (s.size : Int) ≤ 1000000000000) (ha : a < s.size) : utf_long K s a 4 248 240 least =
    some (if 4 ≤ (s.size : Int) - a ∧ cont (bt s (a + 1)) ∧ cont (bt s (a + 2)) ∧ cont (bt s (a + 3)) then tell 4 (((bt s a % 8 * 64 + bt s (a + 1) % 64) * 64 + bt s (a + 2) % 64) * 64 + bt s (a + 3) % 64) least else (0, 0)) := by
  obtain ⟨k, rfl⟩ : ∃ k, K = k + 4 := ⟨K - 4, by omega⟩
  have hb := bt_ok (s := s) (i := a)
  have r0 : 0 ≤ bt s a % 8 ∧ bt s a % 8 < 8 := by omega
  have r1 : 0 ≤ bt s (a + 1) % 64 := by omega
  have r2 : 0 ≤ bt s (a + 2) % 64 := by omega
  have r3 : 0 ≤ bt s (a + 3) % 64 := by omega
  unfold utf_long
  rw [w64 (n := (s.size : Int) - a) (by omega) (by omega)]
  by_cases hn : (s.size : Int) - a < 4
  · rw [if_pos (by simpa using hn), if_neg (by omega)]
  · rw [if_neg (by simpa using hn), if_pos ⟨h0, ha⟩, not_248 hb.1 hb.2, w32 (n := bt s a % 8) (by omega) (by omega), long4_go h0 hs hn]
    by_cases c : cont (bt s (a + 1)) ∧ cont (bt s (a + 2)) ∧ cont (bt s (a + 3))
    · rw [if_pos c, Option.bind_some, if_pos ⟨by omega, c⟩]
      simp only [Sum.elim_inr]
      generalize bt s a % 8 = x0 at *
      generalize bt s (a + 1) % 64 = x1 at *
      generalize bt s (a + 2) % 64 = x2 at *
      generalize bt s (a + 3) % 64 = x3 at *
      rw [long_tell (by omega)]
    · rw [if_neg c, Option.bind_some, if_neg (fun h => c h.2)]
      simp only [Sum.elim_inl]

/-- The code point at a place, and its bytes. -/
def upt (s : ByteArray) (a : Int) : Int × Int :=
  if a < 0 ∨ a ≥ s.size then (0, 0)
  else if bt s a < 128 then (bt s a, 1)
  else if 192 ≤ bt s a ∧ bt s a < 224 then (if 2 ≤ (s.size : Int) - a ∧ cont (bt s (a + 1)) then tell 2 (bt s a % 32 * 64 + bt s (a + 1) % 64) 128 else (0, 0))
  else if 224 ≤ bt s a ∧ bt s a < 240 then (if 3 ≤ (s.size : Int) - a ∧ cont (bt s (a + 1)) ∧ cont (bt s (a + 2)) then tell 3 ((bt s a % 16 * 64 + bt s (a + 1) % 64) * 64 + bt s (a + 2) % 64) 2048 else (0, 0))
  else if 240 ≤ bt s a ∧ bt s a < 248 then (if 4 ≤ (s.size : Int) - a ∧ cont (bt s (a + 1)) ∧ cont (bt s (a + 2)) ∧ cont (bt s (a + 3)) then tell 4 (((bt s a % 8 * 64 + bt s (a + 1) % 64) * 64 + bt s (a + 2) % 64) * 64 + bt s (a + 3) % 64) 65536 else (0, 0))
  else (0, 0)

theorem tell_snd {n v least : Int} : (tell n v least).2 = if least ≤ v ∧ v ≤ 1114111 ∧ ¬ (55296 ≤ v ∧ v < 57344) then n else 0 := by
  unfold tell; split <;> rfl

theorem upt_snd {s : ByteArray} {a : Int} : (upt s a).2 = usz s a := by
  unfold upt usz uszB
  have hb := bt_ok (s := s) (i := a)
  have hb1 := bt_ok (s := s) (i := a + 1)
  have hb2 := bt_ok (s := s) (i := a + 2)
  have hb3 := bt_ok (s := s) (i := a + 3)
  by_cases h : a < 0 ∨ a ≥ s.size
  · rw [if_pos h, if_pos h]
  · rw [if_neg h, if_neg h]
    by_cases h1 : bt s a < 128
    · rw [if_pos h1, if_pos h1]
    · rw [if_neg h1, if_neg h1]
      by_cases h2 : 192 ≤ bt s a ∧ bt s a < 224
      · rw [if_pos h2, if_pos h2]
        by_cases c : 2 ≤ (s.size : Int) - a ∧ cont (bt s (a + 1))
        · rw [if_pos c, tell_snd]
          congr 1
          apply propext
          constructor
          · intro h; exact ⟨c.1, c.2, h.1⟩
          · intro h; exact ⟨h.2.2, by omega, by omega⟩
        · rw [if_neg c, if_neg (fun h => c ⟨h.1, h.2.1⟩)]
      · rw [if_neg h2, if_neg h2]
        by_cases h3 : 224 ≤ bt s a ∧ bt s a < 240
        · rw [if_pos h3, if_pos h3]
          by_cases c : 3 ≤ (s.size : Int) - a ∧ cont (bt s (a + 1)) ∧ cont (bt s (a + 2))
          · rw [if_pos c, tell_snd]
            congr 1
            apply propext
            constructor
            · intro h; exact ⟨c.1, c.2.1, c.2.2, h.1, h.2.2⟩
            · intro h; exact ⟨h.2.2.2.1, by omega, h.2.2.2.2⟩
          · rw [if_neg c, if_neg (fun h => c ⟨h.1, h.2.1, h.2.2.1⟩)]
        · rw [if_neg h3, if_neg h3]
          by_cases h4 : 240 ≤ bt s a ∧ bt s a < 248
          · rw [if_pos h4, if_pos h4]
            by_cases c : 4 ≤ (s.size : Int) - a ∧ cont (bt s (a + 1)) ∧ cont (bt s (a + 2)) ∧ cont (bt s (a + 3))
            · rw [if_pos c, tell_snd]
              congr 1
              apply propext
              constructor
              · intro h; exact ⟨c.1, c.2.1, c.2.2.1, c.2.2.2, h.1, h.2.1⟩
              · intro h; exact ⟨h.2.2.2.2.1, h.2.2.2.2.2, by omega⟩
            · rw [if_neg c, if_neg (fun h => c ⟨h.1, h.2.1, h.2.2.1, h.2.2.2.1⟩)]
          · rw [if_neg h4, if_neg h4]

theorem upt_is {K : Nat} {s : ByteArray} {a : Int} (hK : 10 ≤ K) (hs : (s.size : Int) ≤ 1000000000000) : utf_point K s a = some (upt s a) := by
  obtain ⟨k, hk⟩ : ∃ k, K = k + 5 := ⟨K - 5, by omega⟩
  have hb := bt_ok (s := s) (i := a)
  unfold utf_point upt
  by_cases h : a < 0 ∨ a ≥ s.size
  · have : (if decide (a < 0) = true then some true else some (decide (a ≥ ((s.size : Nat) : Int)))) = some true := by
      by_cases h1 : a < 0
      · rw [if_pos (by simpa using h1)]
      · rw [if_neg (by simpa using h1)]; simp; omega
    rw [this, Option.bind_some, if_pos rfl, if_pos h]
  · have : (if decide (a < 0) = true then some true else some (decide (a ≥ ((s.size : Nat) : Int)))) = some false := by
      rw [if_neg (by simp; omega)]; simp; omega
    rw [this, Option.bind_some, if_neg (by simp), if_neg h]
    unfold utf_forms
    rw [Option.bind_some]
    have hin : 0 ≤ a ∧ a < ((s.size : Nat) : Int) := ⟨by omega, by omega⟩
    have hw0 : IntKind.wrap .i64 ((0 : Int) + 1) = 1 := by decide
    have hw1 : IntKind.wrap .i64 ((1 : Int) + 1) = 2 := by decide
    have hw2 : IntKind.wrap .i64 ((2 : Int) + 1) = 3 := by decide
    have hw3 : IntKind.wrap .i64 ((3 : Int) + 1) = 4 := by decide
    rw [hk]
    simp only [utf_point.l0, if_pos hin, hw0, hw1, hw2, hw3]
    simp only [show ((0 : Int)).toNat = 0 from rfl, show ((1 : Int)).toNat = 1 from rfl, show ((2 : Int)).toNat = 2 from rfl, show ((3 : Int)).toNat = 3 from rfl, List.getD_cons_zero, List.getD_cons_succ, is_128 hb.1 hb.2, is_224 hb.1 hb.2, is_240 hb.1 hb.2, is_248 hb.1 hb.2]
    rw [← hk]
    simp only [decide_eq_true_eq]
    by_cases h1 : bt s a < 128
    · rw [if_pos (by omega), if_pos (by omega), if_pos h1, if_pos h1, long1_is hK (by omega) hs (by omega) h1]; rfl
    · rw [if_pos (by omega), if_pos (by omega), if_neg h1, if_neg h1, if_pos (by omega), if_pos (by omega)]
      by_cases h2 : 192 ≤ bt s a ∧ bt s a < 224
      · rw [if_pos h2, if_pos h2, long2_is hK (by omega) hs (by omega)]; rfl
      · rw [if_neg h2, if_neg h2, if_pos (by omega), if_pos (by omega)]
        by_cases h3 : 224 ≤ bt s a ∧ bt s a < 240
        · rw [if_pos h3, if_pos h3, long3_is hK (by omega) hs (by omega)]; rfl
        · rw [if_neg h3, if_neg h3, if_pos (by omega), if_pos (by omega)]
          by_cases h4 : 240 ≤ bt s a ∧ bt s a < 248
          · rw [if_pos h4, if_pos h4, long4_is hK (by omega) hs (by omega)]; rfl
          · rw [if_neg h4, if_neg h4, if_neg (by omega)]

theorem usize_is {K : Nat} {s : ByteArray} {a : Int} (hK : 10 ≤ K) (hs : (s.size : Int) ≤ 1000000000000) : utf_Size K s a = some (usz s a) := by
  unfold utf_Size
  rw [upt_is hK hs, Option.bind_some, upt_snd]

/-- Whether from a place on there are code points, one behind the other. -/
def uval (s : ByteArray) : Nat → Int → Bool
  | 0, _ => true
  | m + 1, a => if a < s.size then (if usz s a = 0 then false else uval s m (a + usz s a)) else true

def uvalid (s : ByteArray) : Bool := uval s s.size 0

theorem uvalid_loop {K : Nat} {s : ByteArray} (hK : 10 ≤ K) (hs : (s.size : Int) ≤ 1000000000000) : ∀ (d k m : Nat) (a : Int), 0 ≤ a → (s.size : Int) - a ≤ d → a ≤ s.size → d < k → d ≤ m → utf_Valid.l0 K s k a = some (uval s m a) := by
  intro d
  induction d with
  | zero =>
    intro k m a h0 h1 h2 hk hm
    obtain ⟨k, rfl⟩ : ∃ l, k = l + 1 := ⟨k - 1, by omega⟩
    rw [utf_Valid.l0, if_neg (by simp; omega)]
    cases m with
    | zero => rfl
    | succ m => rw [uval, if_neg (by omega)]
  | succ d ih =>
    intro k m a h0 h1 h2 hk hm
    obtain ⟨k, rfl⟩ : ∃ l, k = l + 1 := ⟨k - 1, by omega⟩
    obtain ⟨m, rfl⟩ : ∃ l, m = l + 1 := ⟨m - 1, by omega⟩
    have hu := usz_ok (s := s) (a := a)
    rw [utf_Valid.l0, uval]
    by_cases h : a < s.size
    · have hu3 := hu.2.2 h0 h
      rw [if_pos (by simpa using h), if_pos h, usize_is hK hs, Option.bind_some]
      by_cases hz : usz s a = 0
      · rw [if_pos (by simpa using hz), if_pos hz]
      · rw [if_neg (by simpa using hz), if_neg hz, w64 (by omega) (by omega)]
        exact ih k m _ (by omega) (by omega) (by omega) (by omega) (by omega)
    · rw [if_neg (by simpa using h), if_neg h]

theorem uvalid_is {K : Nat} {s : ByteArray} (hK : s.size + 10 ≤ K) (hs : (s.size : Int) ≤ 1000000000000) : utf_Valid K s = some (uvalid s) := by
  unfold utf_Valid uvalid
  exact uvalid_loop (by omega) hs s.size K s.size 0 (by omega) (by omega) (by omega) (by omega) (by omega)

theorem toList_loop (s : ByteArray) : ∀ (d i : Nat) (r : List UInt8), s.size - i = d → ByteArray.toList.loop s i r = r.reverse ++ s.data.toList.drop i := by
  intro d
  induction d with
  | zero =>
    intro i r h
    unfold ByteArray.toList.loop
    rw [if_neg (by omega), List.drop_eq_nil_of_le (by have : s.data.toList.length = s.size := by simp
                                                      omega)]
    simp
  | succ d ih =>
    intro i r h
    unfold ByteArray.toList.loop
    have hl : s.data.toList.length = s.size := by simp
    have hi : i < s.data.toList.length := by omega
    rw [if_pos (by omega), ih (i + 1) _ (by omega), List.drop_eq_getElem_cons hi]
    have : s.get! i = s.data.toList[i] := by
      have h2 : i < s.data.size := by simpa using hi
      show s.data[i]! = _
      rw [getElem!_pos s.data i h2]
      simp
    rw [this]
    simp

theorem toList_eq (s : ByteArray) : ByteArray.toList s = s.data.toList := by
  unfold ByteArray.toList
  rw [toList_loop s s.size 0 [] rfl]
  simp

theorem str_beq {a b : ByteArray} : (ByteArray.toList a == ByteArray.toList b) = decide (a = b) := by
  rw [toList_eq, toList_eq]
  by_cases h : a = b
  · subst h; simp
  · have : a.data.toList ≠ b.data.toList := fun h' => h (by have := Array.toList_inj.1 h'; cases a; cases b; simp only at this; rw [this])
    rw [beq_eq_false_iff_ne.2 this]; simp [h]

theorem size_zero {a : ByteArray} : a = ⟨#[]⟩ ↔ a.size = 0 := by
  constructor
  · rintro rfl; rfl
  · intro h
    rw [← ofBytes_txt (s := a)]
    have : txt a = [] := List.eq_nil_of_length_eq_zero (by rw [txt_len]; exact h)
    rw [this]; rfl

theorem str_nil {a : ByteArray} : (ByteArray.toList a == ByteArray.toList (ByteArray.mk #[])) = decide (a.size = 0) := by
  rw [str_beq]
  exact decide_eq_decide.2 size_zero

abbrev El := Int × (Int × ByteArray)

theorem isCopy_is {K : Nat} {x1 x2 : Int} {x3 : ByteArray} : delta_IsCopy K x1 x2 x3 = some (decide (x3.size = 0)) := by
  unfold delta_IsCopy
  rw [str_nil]

theorem elem_is {K : Nat} {x1 x2 base to : Int} {x3 : ByteArray} {ahead copied : Bool} (hK : 30000 ≤ K) : delta_elem K x1 x2 x3 base to ahead copied =
    some (if x3.size = 0 then decide (to ≤ x1 ∧ (to < x1 ∨ copied = false) ∧ x1 < x2 ∧ x2 ≤ base) else decide (x1 = 0 ∧ x2 = 0 ∧ (ahead = false ∨ copied = true) ∧ x3.size ≤ 20000) && uvalid x3) := by
  unfold delta_elem
  rw [isCopy_is, Option.bind_some]
  by_cases h : x3.size = 0
  · rw [if_pos (by simpa using h), if_pos h]
    by_cases h1 : x1 ≥ to
    · rw [if_pos (by simpa using h1)]
      by_cases h2 : x1 > to
      · rw [if_pos (by simpa using h2)]
        by_cases h3 : x1 < x2
        · rw [if_pos (by simpa using h3)]
          congr 1; rw [decide_eq_decide]; omega
        · rw [if_neg (by simpa using h3)]
          congr 1; symm; rw [decide_eq_false_iff_not]; omega
      · rw [if_neg (by simpa using h2)]
        cases copied with
        | true => rw [if_neg (by simp)]; congr 1; symm; rw [decide_eq_false_iff_not]; simp; omega
        | false =>
          rw [if_pos (by simp)]
          by_cases h3 : x1 < x2
          · rw [if_pos (by simpa using h3)]
            congr 1; rw [decide_eq_decide]; simp; omega
          · rw [if_neg (by simpa using h3)]
            congr 1; symm; rw [decide_eq_false_iff_not]; omega
    · rw [if_neg (by simpa using h1)]
      congr 1; symm; rw [decide_eq_false_iff_not]; omega
  · rw [if_neg (by simpa using h), if_neg h]
    by_cases h1 : x1 = 0 ∧ x2 = 0
    · rw [if_pos (by simp [h1])]
      by_cases h2 : x3.size ≤ 20000
      · have hv : utf_Valid K x3 = some (uvalid x3) := uvalid_is (by omega) (by omega)
        cases ahead with
        | false => rw [if_pos (by simp), if_pos (by simp; omega), hv, Option.bind_some]; simp [h1, h2]
        | true =>
          rw [if_neg (by simp)]
          cases copied with
          | true => rw [if_pos rfl, if_pos (by simp; omega), hv, Option.bind_some]; simp [h1, h2]
          | false => rw [if_neg (by simp)]; simp
      · cases ahead with
        | false => rw [if_pos (by simp), if_neg (by simp; omega)]; simp [h2]
        | true =>
          rw [if_neg (by simp)]
          cases copied with
          | true => rw [if_pos rfl, if_neg (by simp; omega)]; simp [h2]
          | false => rw [if_neg (by simp)]; simp
    · rw [if_neg (by simp; omega)]
      congr 1; symm
      rw [Bool.and_eq_false_iff, decide_eq_false_iff_not]
      left
      exact fun h' => h1 ⟨h'.1, h'.2.1⟩

/-- Elements that may come behind others. -/
def isL (base : Int) : Int → Int → Option Bool → List El → Bool
  | _, _, _, [] => true
  | size, to, pre, x :: r =>
    if x.2.2.size = 0 then
      decide (to ≤ x.1 ∧ (to < x.1 ∨ pre ≠ some true) ∧ x.1 < x.2.1 ∧ x.2.1 ≤ base ∧ size + (x.2.1 - x.1) ≤ 20000) && isL base (size + (x.2.1 - x.1)) x.2.1 (some true) r
    else
      (decide (x.1 = 0 ∧ x.2.1 = 0 ∧ pre ≠ some false ∧ size + x.2.2.size ≤ 20000) && uvalid x.2.2) && isL base (size + x.2.2.size) to (some false) r

/-- Whether elements are a delta. -/
def isD (base : Int) (l : List El) : Bool := decide (0 ≤ base ∧ base ≤ 20000 ∧ l.length ≤ 60) && isL base 0 0 none l

def preOf (d : List El) (j : Nat) : Option Bool := if j = 0 then none else some (decide ((d.getD (j - 1) ((0 : Int), ((0 : Int), ByteArray.empty))).2.2.size = 0))

theorem preOf_succ {d : List El} {j : Nat} {x : El} (h : d.getD j ((0 : Int), ((0 : Int), ByteArray.empty)) = x) : preOf d (j + 1) = some (decide (x.2.2.size = 0)) := by
  unfold preOf
  rw [if_neg (by omega), Nat.add_sub_cancel, h]

theorem is_loop {K : Nat} {d : List El} {base : Int} (hK : 30000 ≤ K) (hb : base ≤ 20000) (hl : d.length ≤ 60) : ∀ (rest : List El) (j k : Nat) (size to : Int), d.drop j = rest → rest.length < k → 0 ≤ size → size ≤ 20000 → 0 ≤ to → to ≤ 20000 →
    delta_Is.l0 K d base k size to (j : Int) = some (isL base size to (preOf d j) rest)
  | [], j, k, size, to, hd, hk, h0, h1, h2, h3 => by
    obtain ⟨k, rfl⟩ : ∃ m, k = m + 1 := ⟨k - 1, by simp at hk; omega⟩
    have := drop_nil hd
    rw [delta_Is.l0, if_neg (by simp; omega)]
    rfl
  | x :: rest, j, k, size, to, hd, hk, h0, h1, h2, h3 => by
    obtain ⟨k, rfl⟩ : ∃ m, k = m + 1 := ⟨k - 1, by simp at hk; omega⟩
    obtain ⟨hj, hgd, hd'⟩ := drop_cons hd ((0 : Int), ((0 : Int), ByteArray.empty))
    have hk' : rest.length < k := by simp at hk; omega
    have hw : IntKind.wrap .i64 ((j : Int) + 1) = ((j + 1 : Nat) : Int) := by rw [w64 (by omega) (by omega)]; omega
    have hw1 : IntKind.wrap .i64 ((j : Int) - 1) = (j : Int) - 1 := w64 (by omega) (by omega)
    have hps := preOf_succ hgd
    have hnext := fun (size' to' : Int) (a0 : 0 ≤ size') (a1 : size' ≤ 20000) (a2 : 0 ≤ to') (a3 : to' ≤ 20000) => is_loop (K := K) hK hb hl rest (j + 1) k size' to' hd' hk' a0 a1 a2 a3
    rw [hps] at hnext
    have hcp : (if decide ((j : Int) > 0) = true then (delta_IsCopy K (d.getD ((j : Int) - 1).toNat ((0 : Int), ((0 : Int), ByteArray.empty))).1 (d.getD ((j : Int) - 1).toNat ((0 : Int), ((0 : Int), ByteArray.empty))).2.1 (d.getD ((j : Int) - 1).toNat ((0 : Int), ((0 : Int), ByteArray.empty))).2.2).bind fun r_22 => if 0 ≤ (j : Int) - 1 ∧ (j : Int) - 1 < ((d.length : Nat) : Int) then some r_22 else none else some false) = some (preOf d j == some true) := by
      unfold preOf
      by_cases hj0 : j = 0
      · subst hj0; simp
      · rw [if_pos (by simp; omega), isCopy_is, Option.bind_some, if_pos ⟨by omega, by omega⟩, if_neg hj0, show ((j : Int) - 1).toNat = j - 1 by omega]
        simp
    have hah : ∀ b : Bool, (decide ((j : Int) > 0) = false ∨ b = true) ↔ (preOf d j = none ∨ b = true) := by
      intro b
      unfold preOf
      by_cases hj0 : j = 0
      · subst hj0; simp
      · simp [hj0]
    rw [delta_Is.l0]
    simp only [Int.toNat_natCast, hgd, hw, hw1]
    rw [if_pos (by simpa using hj), if_pos ⟨by omega, by omega⟩, hcp, Option.bind_some, elem_is hK, Option.bind_some, isCopy_is, isL]
    by_cases hz : x.2.2.size = 0
    · rw [if_pos hz, if_pos hz, hz]
      by_cases hc : to ≤ x.1 ∧ (to < x.1 ∨ (preOf d j == some true) = false) ∧ x.1 < x.2.1 ∧ x.2.1 ≤ base
      · rw [show decide (to ≤ x.1 ∧ (to < x.1 ∨ (preOf d j == some true) = false) ∧ x.1 < x.2.1 ∧ x.2.1 ≤ base) = true from decide_eq_true hc, if_neg (by simp), Option.bind_some, if_pos (by simp), Option.bind_some]
        simp only [Int.natCast_zero, Int.add_zero]
        rw [w64 (n := x.2.1 - x.1) (by omega) (by omega), w64 (n := x.2.1 - x.1) (by omega) (by omega), w64 (n := size + (x.2.1 - x.1)) (by omega) (by omega)]
        have hp : (preOf d j == some true) = false ↔ preOf d j ≠ some true := by simp
        by_cases hs : size + (x.2.1 - x.1) ≤ 20000
        · rw [if_neg (by simpa using hs), hnext _ _ (by omega) hs (by omega) (by omega), hz]
          have : decide (to ≤ x.1 ∧ (to < x.1 ∨ preOf d j ≠ some true) ∧ x.1 < x.2.1 ∧ x.2.1 ≤ base ∧ size + (x.2.1 - x.1) ≤ 20000) = true := by
            rw [decide_eq_true_eq]
            rw [hp] at hc
            exact ⟨hc.1, hc.2.1, hc.2.2.1, hc.2.2.2, hs⟩
          rw [this]; simp
        · rw [if_pos (by simp; omega)]
          have : decide (to ≤ x.1 ∧ (to < x.1 ∨ preOf d j ≠ some true) ∧ x.1 < x.2.1 ∧ x.2.1 ≤ base ∧ size + (x.2.1 - x.1) ≤ 20000) = false := by
            rw [decide_eq_false_iff_not]
            exact fun h => hs h.2.2.2.2
          rw [this]; rfl
      · rw [show decide (to ≤ x.1 ∧ (to < x.1 ∨ (preOf d j == some true) = false) ∧ x.1 < x.2.1 ∧ x.2.1 ≤ base) = false from decide_eq_false hc, if_pos (by simp)]
        have hp : (preOf d j == some true) = false ↔ preOf d j ≠ some true := by simp
        have : decide (to ≤ x.1 ∧ (to < x.1 ∨ preOf d j ≠ some true) ∧ x.1 < x.2.1 ∧ x.2.1 ≤ base ∧ size + (x.2.1 - x.1) ≤ 20000) = false := by
          rw [decide_eq_false_iff_not]
          rw [hp] at hc
          exact fun h => hc ⟨h.1, h.2.1, h.2.2.1, h.2.2.2.1⟩
        rw [this]; rfl
    · rw [if_neg hz, if_neg hz]
      have hpre : (decide ((j : Int) > 0) = false ∨ (preOf d j == some true) = true) ↔ preOf d j ≠ some false := by
        rw [hah]
        cases preOf d j with
        | none => simp
        | some b => cases b <;> simp
      by_cases hc : x.1 = 0 ∧ x.2.1 = 0 ∧ (decide ((j : Int) > 0) = false ∨ (preOf d j == some true) = true) ∧ x.2.2.size ≤ 20000
      · rw [show decide (x.1 = 0 ∧ x.2.1 = 0 ∧ (decide ((j : Int) > 0) = false ∨ (preOf d j == some true) = true) ∧ x.2.2.size ≤ 20000) = true from by rw [decide_eq_true_eq]; exact hc]
        cases hv : uvalid x.2.2 with
        | false => rw [if_pos (by simp)]; simp
        | true =>
          rw [if_neg (by simp), Option.bind_some, if_neg (by simpa using hz), Option.bind_some]
          rw [hc.1, hc.2.1, Int.sub_zero, w64 (n := 0) (by omega) (by omega), Int.zero_add, w64 (n := (x.2.2.size : Int)) (by omega) (by omega), w64 (n := size + (x.2.2.size : Int)) (by omega) (by omega)]
          by_cases hs : size + (x.2.2.size : Int) ≤ 20000
          · rw [if_neg (by simpa using hs), hnext _ _ (by omega) hs (by omega) (by omega)]
            have : decide ((0 : Int) = 0 ∧ (0 : Int) = 0 ∧ preOf d j ≠ some false ∧ size + (x.2.2.size : Int) ≤ 20000) = true := by
              rw [decide_eq_true_eq]
              exact ⟨rfl, rfl, hpre.1 hc.2.2.1, hs⟩
            rw [this]
            simp [hz]
          · rw [if_pos (by simp; omega)]
            have : decide ((0 : Int) = 0 ∧ (0 : Int) = 0 ∧ preOf d j ≠ some false ∧ size + (x.2.2.size : Int) ≤ 20000) = false := by
              rw [decide_eq_false_iff_not]
              exact fun h => hs h.2.2.2
            rw [this]; rfl
      · rw [show decide (x.1 = 0 ∧ x.2.1 = 0 ∧ (decide ((j : Int) > 0) = false ∨ (preOf d j == some true) = true) ∧ x.2.2.size ≤ 20000) = false from by rw [decide_eq_false_iff_not]; exact hc]
        rw [if_pos (by simp)]
        have : decide (x.1 = 0 ∧ x.2.1 = 0 ∧ preOf d j ≠ some false ∧ size + (x.2.2.size : Int) ≤ 20000) = false := by
          rw [decide_eq_false_iff_not]
          exact fun h => hc ⟨h.1, h.2.1, hpre.2 h.2.2.1, by omega⟩
        rw [this]; rfl

theorem is_is {K : Nat} {d : List El} {base : Int} (hK : 30000 ≤ K) : delta_Is K base d = some (isD base d) := by
  unfold delta_Is isD
  by_cases h1 : base < 0
  · rw [if_pos (by simpa using h1), Option.bind_some, if_pos rfl]
    congr 1; symm; rw [Bool.and_eq_false_iff, decide_eq_false_iff_not]; left; omega
  · rw [if_neg (by simpa using h1)]
    by_cases h2 : base > 20000
    · rw [if_pos (by simpa using h2), Option.bind_some, if_pos rfl]
      congr 1; symm; rw [Bool.and_eq_false_iff, decide_eq_false_iff_not]; left; omega
    · rw [if_neg (by simpa using h2), Option.bind_some]
      by_cases h3 : d.length > 60
      · rw [if_pos (by simp; omega)]
        congr 1; symm; rw [Bool.and_eq_false_iff, decide_eq_false_iff_not]; left; omega
      · have h := is_loop (K := K) (d := d) (base := base) hK (by omega) (by omega) d 0 K 0 0 rfl (by omega) (by omega) (by omega) (by omega) (by omega)
        rw [Int.natCast_zero] at h
        rw [if_neg (by simp; omega), h]
        have : decide (0 ≤ base ∧ base ≤ 20000 ∧ d.length ≤ 60) = true := by rw [decide_eq_true_eq]; omega
        rw [this]
        rfl

abbrev el0 : El := ((0 : Int), ((0 : Int), ByteArray.empty))

def lastIs (b : Bool) (l : List El) : Prop := l ≠ [] ∧ decide ((l.getD (l.length - 1) el0).2.2.size = 0) = b

instance (b : Bool) (l : List El) : Decidable (lastIs b l) := inferInstanceAs (Decidable (_ ∧ _))

/-- Bytes kept, behind elements. -/
def mkCopy (l : List El) (f t : Int) : List El :=
  if f = t then l else if lastIs true l ∧ (l.getD (l.length - 1) el0).2.1 = f then l.set (l.length - 1) ((l.getD (l.length - 1) el0).1, (t, (l.getD (l.length - 1) el0).2.2)) else l ++ [(f, (t, ByteArray.empty))]

/-- A text put in, behind elements. -/
def mkPut (l : List El) (s : ByteArray) : List El :=
  if s.size = 0 then l else if lastIs false l then l.set (l.length - 1) ((l.getD (l.length - 1) el0).1, ((l.getD (l.length - 1) el0).2.1, (l.getD (l.length - 1) el0).2.2 ++ s)) else l ++ [(0, (0, s))]

def sumT : List El → Nat
  | [] => 0
  | x :: r => x.2.2.size + sumT r

def sumK : List El → Int
  | [] => 0
  | x :: r => (x.2.1 - x.1) + sumK r

theorem sumT_app : ∀ {l r : List El}, sumT (l ++ r) = sumT l + sumT r
  | [], r => by simp [sumT]
  | x :: l, r => by simp only [List.cons_append, sumT, sumT_app]; omega

theorem sumK_app : ∀ {l r : List El}, sumK (l ++ r) = sumK l + sumK r
  | [], r => by simp [sumK]
  | x :: l, r => by simp only [List.cons_append, sumK, sumK_app]; omega

theorem le_sumT : ∀ {l : List El} {x : El}, x ∈ l → x.2.2.size ≤ sumT l
  | y :: l, x, h => by
    rw [sumT]
    rcases List.mem_cons.1 h with rfl | h
    · omega
    · have := le_sumT h; omega

theorem empty_size : ByteArray.empty.size = 0 := rfl

theorem getD_last {l : List El} {p : El} : (l ++ [p]).getD ((l ++ [p]).length - 1) el0 = p := by
  simp [List.getD]

theorem set_last {α : Type} {l : List α} {p q : α} : (l ++ [p]).set ((l ++ [p]).length - 1) q = l ++ [q] := by
  have : (l ++ [p]).length - 1 = l.length := by simp
  rw [this, List.set_append_right _ _ (Nat.le_refl _), Nat.sub_self, List.set_cons_zero]

theorem mkCopy_nil {f t : Int} : mkCopy [] f t = if f = t then [] else [(f, (t, ByteArray.empty))] := by
  unfold mkCopy
  split
  · rfl
  · rw [if_neg (fun h => h.1.1 rfl)]; rfl

theorem lastIs_app {b : Bool} {l : List El} {p : El} : lastIs b (l ++ [p]) ↔ decide (p.2.2.size = 0) = b := by
  unfold lastIs
  rw [getD_last]
  exact ⟨fun h => h.2, fun h => ⟨by simp, h⟩⟩

theorem mkCopy_app {l : List El} {p : El} {f t : Int} : mkCopy (l ++ [p]) f t = if f = t then l ++ [p] else if p.2.2.size = 0 ∧ p.2.1 = f then l ++ [(p.1, (t, p.2.2))] else l ++ [p] ++ [(f, (t, ByteArray.empty))] := by
  unfold mkCopy
  rw [getD_last, set_last]
  by_cases h : f = t
  · rw [if_pos h, if_pos h]
  · rw [if_neg h, if_neg h]
    by_cases h2 : p.2.2.size = 0 ∧ p.2.1 = f
    · rw [if_pos ⟨lastIs_app.2 (decide_eq_true h2.1), h2.2⟩, if_pos h2]
    · rw [if_neg (fun h' => h2 ⟨of_decide_eq_true (lastIs_app.1 h'.1), h'.2⟩), if_neg h2]

theorem mkPut_nil {s : ByteArray} : mkPut [] s = if s.size = 0 then [] else [(0, (0, s))] := by
  unfold mkPut
  split
  · rfl
  · rw [if_neg (fun h => h.1 rfl)]; rfl

theorem mkPut_app {l : List El} {p : El} {s : ByteArray} : mkPut (l ++ [p]) s = if s.size = 0 then l ++ [p] else if p.2.2.size = 0 then l ++ [p] ++ [(0, (0, s))] else l ++ [(p.1, (p.2.1, p.2.2 ++ s))] := by
  unfold mkPut
  rw [getD_last, set_last]
  by_cases h : s.size = 0
  · rw [if_pos h, if_pos h]
  · rw [if_neg h, if_neg h]
    by_cases h2 : p.2.2.size = 0
    · rw [if_neg (fun h' => by have := lastIs_app.1 h'; simp [h2] at this), if_pos h2]
    · rw [if_pos (lastIs_app.2 (decide_eq_false h2)), if_neg h2]

theorem bsize_app {a b : ByteArray} : (a ++ b).size = a.size + b.size := ByteArray.size_append

theorem mkCopy_len {l : List El} {f t : Int} : (mkCopy l f t).length ≤ l.length + 1 := by
  unfold mkCopy
  split
  · omega
  · split <;> simp

theorem mkPut_len {l : List El} {s : ByteArray} : (mkPut l s).length ≤ l.length + 1 := by
  unfold mkPut
  split
  · omega
  · split <;> simp

theorem mkCopy_sumT {l : List El} {f t : Int} : sumT (mkCopy l f t) = sumT l := by
  by_cases h : l = []
  · subst h; rw [mkCopy_nil]; split <;> simp [sumT, empty_size]
  · obtain ⟨m, p, rfl⟩ := split_last h
    rw [mkCopy_app]
    split
    · rfl
    · split
      · simp [sumT_app, sumT]
      · simp [sumT_app, sumT, empty_size]

theorem mkPut_sumT {l : List El} {s : ByteArray} : sumT (mkPut l s) = sumT l + s.size := by
  by_cases h : l = []
  · subst h; rw [mkPut_nil]; split
    · simp [sumT]; omega
    · simp [sumT]
  · obtain ⟨m, p, rfl⟩ := split_last h
    rw [mkPut_app]
    split
    · omega
    · split
      · simp [sumT_app, sumT] <;> omega
      · simp [sumT_app, sumT, bsize_app] <;> omega

theorem copy_is {K : Nat} {m f t : Int} {l : List El} (hl : l.length ≤ 1000000000) : delta_Maker_Copy_bgg_11dec K m l f t = some (mkCopy l f t) := by
  unfold delta_Maker_Copy_bgg_11dec mkCopy
  have hw : IntKind.wrap .i64 ((l.length : Int) - 1) = (l.length : Int) - 1 := w64 (by omega) (by omega)
  rw [hw]
  by_cases h : f = t
  · rw [if_pos (by simpa using h), if_pos h]
  · rw [if_neg (by simpa using h), if_neg h]
    by_cases he : l = []
    · subst he
      rw [if_neg (by simp), Option.bind_some, if_neg (by simp), if_pos (by simp), if_neg (fun h => h.1.1 rfl)]
    · have hp : 0 < l.length := List.length_pos_iff.2 he
      have hn : ((l.length : Int) - 1).toNat = l.length - 1 := by omega
      rw [if_pos (by simp; omega), hn, isCopy_is, Option.bind_some]
      by_cases hz : (l.getD (l.length - 1) el0).2.2.size = 0
      · rw [if_pos (decide_eq_true hz), if_pos ⟨by omega, by omega⟩, Option.bind_some]
        by_cases hq : (l.getD (l.length - 1) el0).2.1 = f
        · rw [if_pos (by simpa using hq), if_pos ⟨by omega, by omega⟩, if_pos ⟨⟨he, decide_eq_true hz⟩, hq⟩]
        · rw [if_neg (by simpa using hq), if_pos (by simp; omega), if_neg (fun h => hq h.2)]
      · rw [if_neg (by simpa using hz), if_pos ⟨by omega, by omega⟩, Option.bind_some, if_neg (by simp), if_pos (by simp; omega), if_neg (fun h => hz (of_decide_eq_true h.1.2))]

theorem copy0_is {K : Nat} {m f t : Int} : delta_Maker_Copy_bgg_48161 K m f t = some (mkCopy [] f t) := by
  unfold delta_Maker_Copy_bgg_48161
  rw [mkCopy_nil]
  by_cases h : f = t
  · rw [if_pos (by simpa using h), if_pos h]
  · rw [if_neg (by simpa using h), if_neg h, Option.bind_some, if_pos (by simp)]

theorem putm_is {K : Nat} {m : Int} {l : List El} {s : ByteArray} (hl : l.length ≤ 1000000000) (ht : sumT l + s.size ≤ 9223372036854775807) : delta_Maker_Put_bg_92925 K m l s = some (mkPut l s) := by
  unfold delta_Maker_Put_bg_92925 mkPut
  have hw : IntKind.wrap .i64 ((l.length : Int) - 1) = (l.length : Int) - 1 := w64 (by omega) (by omega)
  rw [hw, str_nil]
  by_cases h : s.size = 0
  · rw [if_pos (by simpa using h), if_pos h]
  · rw [if_neg (by simpa using h), if_neg h]
    by_cases he : l = []
    · subst he
      rw [if_neg (by simp), Option.bind_some, if_neg (by simp), if_pos (by simp), if_neg (fun h => h.1 rfl)]
    · have hp : 0 < l.length := List.length_pos_iff.2 he
      have hn : ((l.length : Int) - 1).toNat = l.length - 1 := by omega
      have hm : l.getD (l.length - 1) el0 ∈ l := by
        rw [List.getD, List.getElem?_eq_getElem (by omega)]
        simp
      have hs := le_sumT hm
      rw [if_pos (by simp; omega), hn, isCopy_is, Option.bind_some, if_pos ⟨by omega, by omega⟩, Option.bind_some]
      by_cases hz : (l.getD (l.length - 1) el0).2.2.size = 0
      · rw [show decide ((l.getD (l.length - 1) ((0 : Int), ((0 : Int), ByteArray.empty))).2.2.size = 0) = true from decide_eq_true hz, if_neg (by simp), if_pos (by simp; omega), if_neg (fun h => by have := h.2; rw [decide_eq_true hz] at this; cases this)]
      · have h3 : (l.getD (l.length - 1) ((0 : Int), ((0 : Int), ByteArray.empty))).2.2.size ≤ sumT l := hs
        rw [show decide ((l.getD (l.length - 1) ((0 : Int), ((0 : Int), ByteArray.empty))).2.2.size = 0) = false from decide_eq_false hz, if_pos (by simp), if_pos ⟨by omega, by omega, by omega⟩, if_pos ⟨he, decide_eq_false hz⟩]

/-- Changes, one behind the other. -/
def bld : List El → Int → List El → List El × Int
  | acc, a, [] => (acc, a)
  | acc, a, c :: r => bld (mkPut (mkCopy acc a c.1) c.2.2) c.2.1 r

theorem bld_len : ∀ {l acc : List El} {a : Int}, (bld acc a l).1.length ≤ acc.length + 2 * l.length
  | [], acc, a => by simp [bld]
  | c :: r, acc, a => by
    rw [bld]
    have h1 := bld_len (l := r) (acc := mkPut (mkCopy acc a c.1) c.2.2) (a := c.2.1)
    have h2 := mkPut_len (l := mkCopy acc a c.1) (s := c.2.2)
    have h3 := mkCopy_len (l := acc) (f := a) (t := c.1)
    simp only [List.length_cons]; omega

theorem build_loop {K : Nat} {l : List El} {base : Int} : ∀ (rest : List El) (j k : Nat) (acc : List El) (a : Int), l.drop j = rest → rest.length < k → l.length ≤ 1000000 → acc.length ≤ 2 * j → sumT acc + sumT rest ≤ 9000000000000000000 →
    delta_Build_gr.l0 K l base k acc a (j : Int) = some (bld acc a rest)
  | [], j, k, acc, a, hd, hk, hl, ha, ht => by
    obtain ⟨k, rfl⟩ : ∃ m, k = m + 1 := ⟨k - 1, by simp at hk; omega⟩
    have := drop_nil hd
    rw [delta_Build_gr.l0, if_neg (by simp; omega)]
    rfl
  | c :: rest, j, k, acc, a, hd, hk, hl, ha, ht => by
    obtain ⟨k, rfl⟩ : ∃ m, k = m + 1 := ⟨k - 1, by simp at hk; omega⟩
    obtain ⟨hj, hgd, hd'⟩ := drop_cons hd el0
    have hk' : rest.length < k := by simp at hk; omega
    have hw : IntKind.wrap .i64 ((j : Int) + 1) = ((j + 1 : Nat) : Int) := by rw [w64 (by omega) (by omega)]; omega
    have h2 := mkPut_len (l := mkCopy acc a c.1) (s := c.2.2)
    have h3 := mkCopy_len (l := acc) (f := a) (t := c.1)
    have s1 := mkCopy_sumT (l := acc) (f := a) (t := c.1)
    have s2 := mkPut_sumT (l := mkCopy acc a c.1) (s := c.2.2)
    simp only [sumT] at ht
    rw [delta_Build_gr.l0]
    simp only [Int.toNat_natCast, hgd, hw]
    rw [if_pos (by simpa using hj), if_pos ⟨by omega, by omega⟩, copy_is (by omega), Option.bind_some, putm_is (by omega) (by omega), Option.bind_some, build_loop rest (j + 1) k _ _ hd' hk' hl (by omega) (by omega)]
    rfl

def rngL (base : Int) (l : List El) : Bool := l.all fun c => decide (0 ≤ c.1 ∧ c.1 ≤ c.2.1 ∧ c.2.1 ≤ base)

def ordL : Option El → List El → Bool
  | _, [] => true
  | none, b :: r => ordL (some b) r
  | some a, b :: r => !decide (b.1 < a.2.1 ∨ a.1 = b.1 ∧ a.2.1 = b.1) && ordL (some b) r

def valL (l : List El) : Bool := l.all fun c => uvalid c.2.2

def lngL : Int → List El → Int
  | _, [] => 0
  | left, c :: r => if c.2.2.size > left then 13 else lngL (left - c.2.2.size) r

theorem rng_loop {K : Nat} {l : List El} {base : Int} (hl : l.length ≤ 1000000000) : ∀ (rest : List El) (j k : Nat), l.drop j = rest → rest.length < k →
    delta_check_gr.l0 K l base k (j : Int) = some (if rngL base rest = true then .inr () else .inl 10)
  | [], j, k, hd, hk => by
    obtain ⟨k, rfl⟩ : ∃ m, k = m + 1 := ⟨k - 1, by simp at hk; omega⟩
    have := drop_nil hd
    rw [delta_check_gr.l0, if_neg (by simp; omega)]
    rfl
  | c :: rest, j, k, hd, hk => by
    obtain ⟨k, rfl⟩ : ∃ m, k = m + 1 := ⟨k - 1, by simp at hk; omega⟩
    obtain ⟨hj, hgd, hd'⟩ := drop_cons hd el0
    have hk' : rest.length < k := by simp at hk; omega
    have hw : IntKind.wrap .i64 ((j : Int) + 1) = ((j + 1 : Nat) : Int) := by rw [w64 (by omega) (by omega)]; omega
    rw [delta_check_gr.l0]
    simp only [Int.toNat_natCast, hgd, hw]
    rw [if_pos (by simpa using hj), if_pos ⟨by omega, by omega⟩, rng_loop hl rest (j + 1) k hd' hk', show rngL base (c :: rest) = (decide (0 ≤ c.1 ∧ c.1 ≤ c.2.1 ∧ c.2.1 ≤ base) && rngL base rest) from rfl]
    by_cases h1 : c.1 < 0
    · rw [if_pos (by simpa using h1), Option.bind_some, if_pos rfl, decide_eq_false (by omega)]; rfl
    · rw [if_neg (by simpa using h1)]
      by_cases h2 : c.1 > c.2.1
      · rw [if_pos (by simpa using h2), Option.bind_some, if_pos rfl, decide_eq_false (by omega)]; rfl
      · rw [if_neg (by simpa using h2), Option.bind_some]
        by_cases h3 : c.2.1 > base
        · rw [if_pos (by simpa using h3), decide_eq_false (by omega)]; rfl
        · rw [if_neg (by simpa using h3), decide_eq_true (by omega)]; rfl

theorem ord_loop {K : Nat} {l : List El} (hl : l.length ≤ 1000000000) : ∀ (rest : List El) (j k : Nat), l.drop j = rest → rest.length < k → 1 ≤ j →
    delta_Ordered_r.l0 K l k (j : Int) = some (ordL (some (l.getD (j - 1) el0)) rest)
  | [], j, k, hd, hk, h1 => by
    obtain ⟨k, rfl⟩ : ∃ m, k = m + 1 := ⟨k - 1, by simp at hk; omega⟩
    have := drop_nil hd
    rw [delta_Ordered_r.l0, if_neg (by simp; omega)]
    rfl
  | c :: rest, j, k, hd, hk, h1 => by
    obtain ⟨k, rfl⟩ : ∃ m, k = m + 1 := ⟨k - 1, by simp at hk; omega⟩
    obtain ⟨hj, hgd, hd'⟩ := drop_cons hd el0
    have hk' : rest.length < k := by simp at hk; omega
    have hw : IntKind.wrap .i64 ((j : Int) + 1) = ((j + 1 : Nat) : Int) := by rw [w64 (by omega) (by omega)]; omega
    have hw1 : IntKind.wrap .i64 ((j : Int) - 1) = (j : Int) - 1 := w64 (by omega) (by omega)
    have hn : ((j : Int) - 1).toNat = j - 1 := by omega
    have hr := ord_loop (K := K) hl rest (j + 1) k hd' hk' (by omega)
    rw [Nat.add_sub_cancel, hgd] at hr
    rw [delta_Ordered_r.l0]
    simp only [Int.toNat_natCast, hgd, hw, hw1, hn]
    rw [if_pos (by simpa using hj), if_pos ⟨by omega, by omega, by omega, by omega⟩, hr, ordL]
    by_cases a1 : c.1 < (l.getD (j - 1) el0).2.1
    · rw [if_pos (by simpa using a1), Option.bind_some, if_pos rfl, decide_eq_true (.inl a1)]; rfl
    · rw [if_neg (by simpa using a1)]
      by_cases a2 : (l.getD (j - 1) el0).1 = c.1
      · rw [if_pos (by simpa using a2), Option.bind_some]
        by_cases a3 : (l.getD (j - 1) el0).2.1 = c.1
        · rw [if_pos (by simpa using a3), decide_eq_true (.inr ⟨a2, a3⟩)]; rfl
        · rw [if_neg (by simpa using a3), decide_eq_false (by omega)]; rfl
      · rw [if_neg (by simpa using a2), Option.bind_some, if_neg (by simp), decide_eq_false (by omega)]; rfl

theorem ord_is {K : Nat} {l : List El} (hl : l.length ≤ 1000000000) (hK : l.length < K) : delta_Ordered_r K l = some (ordL none l) := by
  unfold delta_Ordered_r
  cases l with
  | nil =>
    obtain ⟨k, rfl⟩ : ∃ m, K = m + 1 := ⟨K - 1, by simp at hK; omega⟩
    rw [delta_Ordered_r.l0, if_neg (by simp)]; rfl
  | cons c r =>
    have h := ord_loop (K := K) hl r 1 K rfl (by simp at hK; omega) (by omega)
    rw [show ((1 : Nat) : Int) = 1 from rfl] at h
    rw [h]; rfl

theorem val_loop {K : Nat} {l : List El} (hl : l.length ≤ 1000000000) (ht : ∀ x ∈ l, x.2.2.size + 10 ≤ K ∧ x.2.2.size ≤ 1000000000000) : ∀ (rest : List El) (j k : Nat), l.drop j = rest → rest.length < k →
    delta_check_gr.l1 K l k (j : Int) = some (if valL rest = true then .inr () else .inl 12)
  | [], j, k, hd, hk => by
    obtain ⟨k, rfl⟩ : ∃ m, k = m + 1 := ⟨k - 1, by simp at hk; omega⟩
    have := drop_nil hd
    rw [delta_check_gr.l1, if_neg (by simp; omega)]
    rfl
  | c :: rest, j, k, hd, hk => by
    obtain ⟨k, rfl⟩ : ∃ m, k = m + 1 := ⟨k - 1, by simp at hk; omega⟩
    obtain ⟨hj, hgd, hd'⟩ := drop_cons hd el0
    have hk' : rest.length < k := by simp at hk; omega
    have hw : IntKind.wrap .i64 ((j : Int) + 1) = ((j + 1 : Nat) : Int) := by rw [w64 (by omega) (by omega)]; omega
    have hc : c ∈ l := by rw [← hgd]; simp [List.getD, hj]
    have hcs := ht c hc
    rw [delta_check_gr.l1]
    simp only [Int.toNat_natCast, hgd, hw]
    rw [if_pos (by simpa using hj), if_pos ⟨by omega, by omega⟩, uvalid_is (by omega) (by omega), Option.bind_some, val_loop hl ht rest (j + 1) k hd' hk', show valL (c :: rest) = (uvalid c.2.2 && valL rest) from rfl]
    cases uvalid c.2.2 <;> simp

theorem lng_loop {K : Nat} {l : List El} (hl : l.length ≤ 1000000000) : ∀ (rest : List El) (j k : Nat) (left : Int), l.drop j = rest → rest.length < k → 0 ≤ left → left ≤ 1000000000000 →
    delta_long_gr.l1 K l k left (j : Int) = some (lngL left rest)
  | [], j, k, left, hd, hk, h0, h1 => by
    obtain ⟨k, rfl⟩ : ∃ m, k = m + 1 := ⟨k - 1, by simp at hk; omega⟩
    have := drop_nil hd
    rw [delta_long_gr.l1, if_neg (by simp; omega)]
    rfl
  | c :: rest, j, k, left, hd, hk, h0, h1 => by
    obtain ⟨k, rfl⟩ : ∃ m, k = m + 1 := ⟨k - 1, by simp at hk; omega⟩
    obtain ⟨hj, hgd, hd'⟩ := drop_cons hd el0
    have hk' : rest.length < k := by simp at hk; omega
    have hw : IntKind.wrap .i64 ((j : Int) + 1) = ((j + 1 : Nat) : Int) := by rw [w64 (by omega) (by omega)]; omega
    rw [delta_long_gr.l1]
    simp only [Int.toNat_natCast, hgd, hw]
    rw [if_pos (by simpa using hj), if_pos ⟨by omega, by omega⟩, lngL]
    by_cases h : c.2.2.size > left
    · rw [if_pos (by simpa using h), if_pos h]
    · rw [if_neg (by simpa using h), if_neg h, w64 (by omega) (by omega), lng_loop hl rest (j + 1) k _ hd' hk' (by omega) (by omega)]

theorem gap_loop {K : Nat} {l : List El} (hl : l.length ≤ 1000000) (hr : rngL 20000 l = true) : ∀ (rest : List El) (j k : Nat) (left : Int), l.drop j = rest → rest.length < k → j ≤ l.length → 0 ≤ left → left ≤ 20000 + 20000 * j →
    delta_long_gr.l0 K l k left (j : Int) = some (left + sumK rest) ∧ 0 ≤ left + sumK rest ∧ left + sumK rest ≤ 20000 + 20000 * l.length
  | [], j, k, left, hd, hk, hj, h0, h1 => by
    obtain ⟨k, rfl⟩ : ∃ m, k = m + 1 := ⟨k - 1, by simp at hk; omega⟩
    have := drop_nil hd
    rw [delta_long_gr.l0, if_neg (by simp; omega)]
    simp only [sumK, Int.add_zero]
    exact ⟨trivial, h0, by omega⟩
  | c :: rest, j, k, left, hd, hk, hjl, h0, h1 => by
    obtain ⟨k, rfl⟩ : ∃ m, k = m + 1 := ⟨k - 1, by simp at hk; omega⟩
    obtain ⟨hj, hgd, hd'⟩ := drop_cons hd el0
    have hk' : rest.length < k := by simp at hk; omega
    have hw : IntKind.wrap .i64 ((j : Int) + 1) = ((j + 1 : Nat) : Int) := by rw [w64 (by omega) (by omega)]; omega
    have hc : c ∈ l := by rw [← hgd]; simp [List.getD, hj]
    have hcr := of_decide_eq_true (List.all_eq_true.1 hr c hc)
    rw [delta_long_gr.l0]
    simp only [Int.toNat_natCast, hgd, hw]
    rw [if_pos (by simpa using hj), if_pos ⟨by omega, by omega⟩, w64 (n := c.2.1 - c.1) (by omega) (by omega), w64 (n := left + (c.2.1 - c.1)) (by omega) (by omega)]
    obtain ⟨e1, e2, e3⟩ := gap_loop (K := K) hl hr rest (j + 1) k (left + (c.2.1 - c.1)) hd' hk' (by omega) (by omega) (by omega)
    simp only [sumK]
    rw [e1]
    exact ⟨by congr 1; omega, by omega, by omega⟩

theorem rngL_mono {b c : Int} (h : b ≤ c) {l : List El} (hr : rngL b l = true) : rngL c l = true := by
  unfold rngL at *
  rw [List.all_eq_true] at *
  intro x hx
  have := of_decide_eq_true (hr x hx)
  exact decide_eq_true (by omega)

/-- The first error of changes, by kind. -/
def chk (base : Int) (l : List El) : Int :=
  if base < 0 ∨ base > 20000 then 10 else if rngL base l = false then 10 else if ordL none l = false then 180 else if valL l = false then 12 else lngL (20000 - base + sumK l) l

theorem check_is {K : Nat} {l : List El} {base : Int} (hl : l.length ≤ 1000000) (hK : l.length < K) (ht : ∀ x ∈ l, x.2.2.size + 10 ≤ K ∧ x.2.2.size ≤ 1000000000000) : delta_check_gr K base l = some (chk base l) := by
  unfold delta_check_gr chk
  by_cases h1 : base < 0
  · rw [if_pos (by simpa using h1), Option.bind_some, if_pos rfl, if_pos (.inl h1)]
  · rw [if_neg (by simpa using h1), Option.bind_some]
    by_cases h2 : base > 20000
    · rw [if_pos (by simpa using h2), if_pos (.inr h2)]
    · rw [if_neg (by simpa using h2), if_neg (by omega)]
      have e0 := rng_loop (K := K) (base := base) (l := l) (by omega) l 0 K rfl (by omega)
      rw [Int.natCast_zero] at e0
      rw [e0, Option.bind_some]
      cases hr : rngL base l with
      | false => simp
      | true =>
        simp only [if_true, Sum.elim_inr, Bool.true_eq_false, if_false]
        rw [ord_is (by omega) hK, Option.bind_some]
        cases ho : ordL none l with
        | false => simp
        | true =>
          have e1 := val_loop (K := K) (l := l) (by omega) ht l 0 K rfl (by omega)
          rw [Int.natCast_zero] at e1
          rw [if_neg (by simp), e1, Option.bind_some]
          cases hv : valL l with
          | false => simp
          | true =>
            simp only [if_true, Sum.elim_inr, Bool.true_eq_false, if_false]
            unfold delta_long_gr
            obtain ⟨e2, e3, e4⟩ := gap_loop (K := K) (l := l) hl (rngL_mono (by omega) hr) l 0 K (20000 - base) rfl (by omega) (by omega) (by omega) (by omega)
            have e5 := lng_loop (K := K) (l := l) (by omega) l 0 K (20000 - base + sumK l) rfl (by omega) (by omega) (by omega)
            rw [Int.natCast_zero] at e2 e5
            rw [w64 (n := 20000 - base) (by omega) (by omega), e2, Option.bind_some, e5]
            rfl

/-- What is built. -/
def bldD (base : Int) (l : List El) : Int × (List El × Int) :=
  if chk base l ≠ 0 then (0, ([], chk base l)) else if (mkCopy (bld [] 0 l).1 (bld [] 0 l).2 base).length > 60 then (0, ([], 70)) else (base, (mkCopy (bld [] 0 l).1 (bld [] 0 l).2 base, 0))

theorem build_is {K : Nat} {l : List El} {base : Int} (hl : l.length ≤ 1000000) (hK : l.length < K) (ht : ∀ x ∈ l, x.2.2.size + 10 ≤ K ∧ x.2.2.size ≤ 1000000000000) : delta_Build_gr K base l = some (bldD base l) := by
  unfold delta_Build_gr bldD
  rw [check_is hl hK ht, Option.bind_some]
  by_cases h : chk base l = 0
  · have hs : sumT l ≤ 1000000000000 * l.length := by
      have : ∀ (r : List El), (∀ x ∈ r, x.2.2.size ≤ 1000000000000) → sumT r ≤ 1000000000000 * r.length := by
        intro r
        induction r with
        | nil => intro _; simp [sumT]
        | cons x r ih =>
          intro hx
          have h1 := hx x (by simp)
          have h2 := ih fun y hy => hx y (by simp [hy])
          simp only [sumT, List.length_cons]; omega
      exact this l fun x hx => (ht x hx).2
    have e := build_loop (K := K) (l := l) (base := base) l 0 K [] 0 rfl hK hl (by simp) (by simp only [sumT]; omega)
    rw [Int.natCast_zero] at e
    have hbl := bld_len (l := l) (acc := []) (a := 0)
    simp only [List.length_nil] at hbl
    rw [if_neg (by simpa using h), if_neg (by simpa using h)]
    unfold delta_NewMaker
    rw [Option.bind_some, e, Option.bind_some, copy_is (by omega), Option.bind_some]
    unfold delta_Maker_Delta_b_ee1c6
    by_cases h6 : (mkCopy (bld [] 0 l).1 (bld [] 0 l).2 base).length > 60
    · rw [if_pos (by simp; omega), if_pos h6]; rfl
    · rw [if_neg (by simp; omega), if_neg h6]; rfl
  · rw [if_pos (by simpa using h), if_pos h]

theorem keep_is {K : Nat} {base : Int} : delta_Keep K base = some (max 0 (min base 20000), mkCopy [] 0 (max 0 (min base 20000))) := by
  unfold delta_Keep delta_NewMaker
  rw [mn2_eq, mx2_eq, Option.bind_some, copy0_is, Option.bind_some, show min (max base 0) 20000 = max 0 (min base 20000) by omega]

/-- An element of a delta. -/
def okE (base : Int) (x : El) : Prop := 0 ≤ x.1 ∧ x.1 ≤ x.2.1 ∧ x.2.1 ≤ base ∧ (x.2.2.size = 0 ∨ x.1 = 0 ∧ x.2.1 = 0)

theorem isL_ok {base : Int} (hb : 0 ≤ base) : ∀ {l : List El} {size to : Int} {pre : Option Bool}, isL base size to pre l = true → 0 ≤ to → size ≤ 20000 → (∀ x ∈ l, okE base x) ∧ size + sumK l + sumT l ≤ 20000
  | [], size, to, pre, h, h0, h1 => ⟨by simp, by simp [sumK, sumT]; omega⟩
  | x :: r, size, to, pre, h, h0, h1 => by
    rw [isL] at h
    split at h
    · rename_i hz
      rw [Bool.and_eq_true, decide_eq_true_eq] at h
      obtain ⟨⟨c1, c2, c3, c4, c5⟩, hr⟩ := h
      obtain ⟨e1, e2⟩ := isL_ok hb hr (by omega) c5
      refine ⟨fun y hy => ?_, by simp only [sumK, sumT, hz]; omega⟩
      rcases List.mem_cons.1 hy with rfl | hy
      · exact ⟨by omega, by omega, c4, .inl hz⟩
      · exact e1 y hy
    · rw [Bool.and_eq_true, Bool.and_eq_true, decide_eq_true_eq] at h
      obtain ⟨⟨⟨c1, c2, c3, c4⟩, hv⟩, hr⟩ := h
      obtain ⟨e1, e2⟩ := isL_ok hb hr h0 c4
      refine ⟨fun y hy => ?_, by simp only [sumK, sumT]; omega⟩
      rcases List.mem_cons.1 hy with rfl | hy
      · exact ⟨by omega, by omega, by omega, .inr ⟨c1, c2⟩⟩
      · exact e1 y hy

theorem isD_ok {base : Int} {l : List El} (h : isD base l = true) : 0 ≤ base ∧ base ≤ 20000 ∧ l.length ≤ 60 ∧ (∀ x ∈ l, okE base x) ∧ sumK l + sumT l ≤ 20000 := by
  unfold isD at h
  rw [Bool.and_eq_true, decide_eq_true_eq] at h
  obtain ⟨⟨h1, h2, h3⟩, h4⟩ := h
  obtain ⟨e1, e2⟩ := isL_ok h1 h4 (by omega) (by omega)
  exact ⟨h1, h2, h3, e1, by omega⟩

theorem sumK_nonneg {base : Int} : ∀ {l : List El}, (∀ x ∈ l, okE base x) → 0 ≤ sumK l
  | [], _ => by simp [sumK]
  | x :: r, h => by
    have h1 := h x (by simp)
    have h2 := sumK_nonneg (l := r) fun y hy => h y (by simp [hy])
    have := h1.2.1
    simp only [sumK]; omega

theorem sums_loop11 {K : Nat} {d : List El} {base : Int} (hb : base ≤ 20000) (hl : d.length ≤ 1000) : ∀ (rest : List El) (j k : Nat) (kept put : Int), d.drop j = rest → rest.length < k → (∀ x ∈ rest, okE base x) → 0 ≤ kept → 0 ≤ put → kept + sumK rest ≤ 1000000 → put + sumT rest ≤ 1000000 →
    delta_sums.l0 K d k kept put (j : Int) = some (kept + sumK rest, put + sumT rest)
  | [], j, k, kept, put, hd, hk, hx, h0, h1, h2, h3 => by
    obtain ⟨k, rfl⟩ : ∃ m, k = m + 1 := ⟨k - 1, by simp at hk; omega⟩
    have := drop_nil hd
    rw [delta_sums.l0, if_neg (by simp; omega)]
    simp [sumK, sumT]
  | x :: rest, j, k, kept, put, hd, hk, hx, h0, h1, h2, h3 => by
    obtain ⟨k, rfl⟩ : ∃ m, k = m + 1 := ⟨k - 1, by simp at hk; omega⟩
    obtain ⟨hj, hgd, hd'⟩ := drop_cons hd el0
    have hk' : rest.length < k := by simp at hk; omega
    have hw : IntKind.wrap .i64 ((j : Int) + 1) = ((j + 1 : Nat) : Int) := by rw [w64 (by omega) (by omega)]; omega
    obtain ⟨o1, o2, o3, o4⟩ := hx x (by simp)
    have hr : ∀ y ∈ rest, okE base y := fun y hy => hx y (by simp [hy])
    have hn := sumK_nonneg hr
    simp only [sumK, sumT] at h2 h3
    rw [delta_sums.l0]
    simp only [Int.toNat_natCast, hgd, hw]
    rw [if_pos (by simpa using hj), if_pos ⟨by omega, by omega⟩, w64 (n := x.2.1 - x.1) (by omega) (by omega), w64 (n := kept + (x.2.1 - x.1)) (by omega) (by omega), w64 (n := put + (x.2.2.size : Int)) (by omega) (by omega),
      sums_loop11 hb hl rest (j + 1) k _ _ hd' hk' hr (by omega) (by omega) (by omega) (by omega)]
    simp only [sumK, sumT]
    congr 2 <;> omega

theorem sums_is {K : Nat} {d : List El} {base : Int} (hK : 30000 ≤ K) : delta_sums K base d = some (if isD base d = true then (sumK d, (sumT d : Int)) else (0, 0)) := by
  unfold delta_sums
  rw [is_is hK, Option.bind_some]
  cases h : isD base d with
  | false => simp
  | true =>
    obtain ⟨h1, h2, h3, h4, h5⟩ := isD_ok h
    have hn := sumK_nonneg h4
    have e := sums_loop11 (K := K) h2 (by omega) d 0 K 0 0 rfl (by omega) h4 (by omega) (by omega) (by omega) (by omega)
    rw [Int.natCast_zero] at e
    rw [if_neg (by simp), e]
    simp

theorem adds_is {K : Nat} {d : List El} {base : Int} (hK : 30000 ≤ K) : delta_Adds K base d = some (if isD base d = true then (sumT d : Int) else 0) := by
  unfold delta_Adds
  rw [sums_is hK, Option.bind_some]
  by_cases h : isD base d = true
  · rw [if_pos h, if_pos h]
  · rw [if_neg h, if_neg h]

theorem drops_is {K : Nat} {d : List El} {base : Int} (hK : 30000 ≤ K) : delta_Drops K base d = some (if isD base d = true then base - sumK d else 0) := by
  unfold delta_Drops
  rw [is_is hK, Option.bind_some]
  by_cases h : isD base d = true
  · obtain ⟨h1, h2, h3, h4, h5⟩ := isD_ok h
    have hn := sumK_nonneg h4
    rw [h, if_neg (by simp), if_pos rfl, sums_is hK, if_pos h, Option.bind_some, w64 (by simp only; omega) (by simp only; omega)]
  · rw [if_pos (by simpa using h), if_neg h]

/-- What elements make of a text's bytes. -/
def apS (s : List Int) : List El → List Int
  | [] => []
  | x :: r => ((s.drop x.1.toNat).take (x.2.1 - x.1).toNat ++ txt x.2.2) ++ apS s r

theorem el_beq {a b : El} : ((a.1 == b.1) && ((a.2.1 == b.2.1) && (ByteArray.toList a.2.2 == ByteArray.toList b.2.2))) = decide (a = b) := by
  rw [str_beq]
  obtain ⟨a1, a2, a3⟩ := a
  obtain ⟨b1, b2, b3⟩ := b
  by_cases h1 : a1 = b1 <;> by_cases h2 : a2 = b2 <;> by_cases h3 : a3 = b3 <;> simp [h1, h2, h3]

theorem dequal_loop {K : Nat} {a b : List El} (hl : a.length = b.length) (hs : a.length < 1000000000000) : ∀ (d j k : Nat), j + d = a.length → d < k →
    slices_Equal.l0 K a b k (j : Int) = some (decide (a.drop j = b.drop j)) := by
  intro d
  induction d with
  | zero =>
    intro j k hj hk
    obtain ⟨k, rfl⟩ : ∃ m, k = m + 1 := ⟨k - 1, by omega⟩
    rw [slices_Equal.l0, if_neg (by simp; omega), List.drop_eq_nil_of_le (by omega), List.drop_eq_nil_of_le (by omega)]
    simp
  | succ d ih =>
    intro j k hj hk
    obtain ⟨k, rfl⟩ : ∃ m, k = m + 1 := ⟨k - 1, by omega⟩
    have hw : IntKind.wrap .i64 ((j : Int) + 1) = ((j + 1 : Nat) : Int) := by rw [w64 (by omega) (by omega)]; omega
    have ha : j < a.length := by omega
    have hb : j < b.length := by omega
    have ga : a.getD j el0 = a[j] := by simp [List.getD, ha]
    have gb : b.getD j el0 = b[j] := by simp [List.getD, hb]
    rw [slices_Equal.l0, if_pos (by simp; omega), if_pos ⟨by omega, by omega, by omega⟩]
    simp only [Int.toNat_natCast, hw, ga, gb, el_beq]
    rw [ih (j + 1) k (by omega) (by omega), List.drop_eq_getElem_cons ha, List.drop_eq_getElem_cons hb]
    by_cases h : a[j] = b[j]
    · rw [if_neg (by simp [h])]
      congr 1
      rw [decide_eq_decide, h]
      exact ⟨fun e => by rw [e], fun e => (List.cons.inj e).2⟩
    · rw [if_pos (by simpa using h)]
      congr 1
      symm
      rw [decide_eq_false_iff_not]
      exact fun h' => h (List.cons.inj h').1

theorem dsame_is {K : Nat} {a b : List El} {p q : Int} (hs : a.length < 1000000000000) (hb : b.length < 1000000000000) (hK : a.length < K) : delta_Same K p a q b = some (decide (p = q ∧ a = b)) := by
  unfold delta_Same slices_Equal
  by_cases h : p = q
  · rw [if_pos (by simpa using h)]
    by_cases hl : a.length = b.length
    · have e := dequal_loop (K := K) hl hs a.length 0 K (by omega) hK
      rw [Int.natCast_zero] at e
      rw [if_neg (by simp; omega), e]
      simp [h]
    · rw [if_pos (by simp; omega)]
      have : a ≠ b := fun e => hl (by rw [e])
      simp [this]
  · rw [if_neg (by simpa using h)]
    simp [h]

abbrev Ce := Int × Int

def cellsT (t : ByteArray) : List Ce := (txt t).map fun b => (-1, b)

def cellsC : Int → Nat → List Ce
  | _, 0 => []
  | f, m + 1 => (f, 0) :: cellsC (f + 1) m

/-- The cells of elements. -/
def cells : List El → List Ce
  | [] => []
  | x :: r => (cellsT x.2.2 ++ cellsC x.1 (x.2.1 - x.1).toNat) ++ cells r

theorem cellsT_len {t : ByteArray} : (cellsT t).length = t.size := by simp [cellsT, txt_len]

theorem cellsC_len : ∀ {m : Nat} {f : Int}, (cellsC f m).length = m
  | 0, _ => rfl
  | m + 1, f => by rw [cellsC, List.length_cons, cellsC_len]

theorem cells_len {base : Int} : ∀ {l : List El}, (∀ x ∈ l, okE base x) → ((cells l).length : Int) = sumK l + sumT l
  | [], _ => rfl
  | x :: r, h => by
    obtain ⟨o1, o2, o3, o4⟩ := h x (by simp)
    have := cells_len (l := r) fun y hy => h y (by simp [hy])
    simp only [cells, sumK, sumT, List.length_append, cellsT_len, cellsC_len]
    omega

theorem txt_app {a b : ByteArray} : txt (a ++ b) = txt a ++ txt b := by
  unfold txt
  rw [ByteArray.data_append]
  simp

theorem bt_left {a b : ByteArray} {i : Nat} (h : i < a.size) : bt (a ++ b) (i : Int) = bt a (i : Int) := by
  have h1 : i < (txt a).length := by rw [txt_len]; exact h
  have h2 : i < (txt (a ++ b)).length := by rw [txt_len, bsize_app]; omega
  rw [bt_is h1, bt_is h2]
  have : ∀ (l : List Int) (hl : i < l.length), l = txt a ++ txt b → l[i] = (txt a)[i] := by
    intro l hl e; subst e; rw [List.getElem_append_left]
  exact this _ h2 txt_app

theorem bt_right {a b : ByteArray} {i : Nat} : bt (a ++ b) ((a.size + i : Nat) : Int) = bt b (i : Int) := by
  by_cases h : i < b.size
  · have h1 : i < (txt b).length := by rw [txt_len]; exact h
    have h2 : a.size + i < (txt (a ++ b)).length := by rw [txt_len, bsize_app]; omega
    rw [bt_is h1, bt_is h2]
    have : ∀ (l : List Int) (hl : a.size + i < l.length), l = txt a ++ txt b → l[a.size + i] = (txt b)[i] := by
      intro l hl e
      subst e
      rw [List.getElem_append_right (by rw [txt_len]; omega)]
      congr 1
      rw [txt_len]; omega
    exact this _ h2 txt_app
  · have h1 : ¬ i < b.size := h
    have h2 : ¬ a.size + i < (a ++ b).size := by rw [bsize_app]; omega
    unfold bt
    rw [Int.toNat_natCast, Int.toNat_natCast]
    simp [h1, h2]

theorem uszB_mono {n n' c d e f d' e' f' : Int} (hn : n ≤ n') (hd : 2 ≤ n → d' = d) (he : 3 ≤ n → e' = e) (hf : 4 ≤ n → f' = f) (h : uszB n c d e f ≠ 0) : uszB n' c d' e' f' = uszB n c d e f := by
  unfold uszB at *
  split
  · rfl
  · rename_i h1
    rw [if_neg h1] at h
    split
    · rename_i h2
      rw [if_pos h2] at h
      by_cases c2 : 2 ≤ n ∧ cont d ∧ 128 ≤ c % 32 * 64 + d % 64
      · rw [hd c2.1, if_pos c2, if_pos ⟨by omega, c2.2⟩]
      · rw [if_neg c2] at h; exact absurd rfl h
    · rename_i h2
      rw [if_neg h2] at h
      split
      · rename_i h3
        rw [if_pos h3] at h
        by_cases c3 : 3 ≤ n ∧ cont d ∧ cont e ∧ 2048 ≤ (c % 16 * 64 + d % 64) * 64 + e % 64 ∧ ¬ (55296 ≤ (c % 16 * 64 + d % 64) * 64 + e % 64 ∧ (c % 16 * 64 + d % 64) * 64 + e % 64 < 57344)
        · rw [hd (by omega), he c3.1, if_pos c3, if_pos ⟨by omega, c3.2⟩]
        · rw [if_neg c3] at h; exact absurd rfl h
      · rename_i h3
        rw [if_neg h3] at h
        split
        · rename_i h4
          rw [if_pos h4] at h
          by_cases c4 : 4 ≤ n ∧ cont d ∧ cont e ∧ cont f ∧ 65536 ≤ ((c % 8 * 64 + d % 64) * 64 + e % 64) * 64 + f % 64 ∧ ((c % 8 * 64 + d % 64) * 64 + e % 64) * 64 + f % 64 ≤ 1114111
          · rw [hd (by omega), he (by omega), hf c4.1, if_pos c4, if_pos ⟨by omega, c4.2⟩]
          · rw [if_neg c4] at h; exact absurd rfl h
        · first
          | rfl
          | (rename_i h4
             rw [if_neg h4] at h
             exact absurd rfl h)

theorem usz_left {a b : ByteArray} {i : Nat} (h : usz a (i : Int) ≠ 0) : usz (a ++ b) (i : Int) = usz a (i : Int) := by
  unfold usz at *
  by_cases h1 : (i : Int) < 0 ∨ (i : Int) ≥ a.size
  · rw [if_pos h1] at h; exact absurd rfl h
  · have hb := bsize_app (a := a) (b := b)
    rw [if_neg h1] at h ⊢
    rw [if_neg (by omega), bt_left (by omega)]
    refine uszB_mono (by omega) (fun hh => ?_) (fun hh => ?_) (fun hh => ?_) h
    · have e : (i : Int) + 1 = ((i + 1 : Nat) : Int) := by omega
      rw [e, bt_left (by omega)]
    · have e : (i : Int) + 2 = ((i + 2 : Nat) : Int) := by omega
      rw [e, bt_left (by omega)]
    · have e : (i : Int) + 3 = ((i + 3 : Nat) : Int) := by omega
      rw [e, bt_left (by omega)]

theorem usz_right {a b : ByteArray} {i : Nat} : usz (a ++ b) ((a.size + i : Nat) : Int) = usz b (i : Int) := by
  unfold usz
  have hb := bsize_app (a := a) (b := b)
  by_cases h1 : (i : Int) < 0 ∨ (i : Int) ≥ b.size
  · rw [if_pos h1, if_pos (by omega)]
  · rw [if_neg h1, if_neg (by omega), bt_right]
    have e1 : ((a.size + i : Nat) : Int) + 1 = ((a.size + (i + 1) : Nat) : Int) := by omega
    have e2 : ((a.size + i : Nat) : Int) + 2 = ((a.size + (i + 2) : Nat) : Int) := by omega
    have e3 : ((a.size + i : Nat) : Int) + 3 = ((a.size + (i + 3) : Nat) : Int) := by omega
    rw [e1, e2, e3, bt_right, bt_right, bt_right, show ((a ++ b).size : Int) - ((a.size + i : Nat) : Int) = (b.size : Int) - i by omega]
    rfl

theorem uval_fuel {s : ByteArray} : ∀ (d m m' : Nat) (a : Nat), s.size - a ≤ d → d ≤ m → d ≤ m' → uval s m (a : Int) = uval s m' (a : Int) := by
  intro d
  induction d with
  | zero =>
    intro m m' a h hm hm'
    cases m with
    | zero => cases m' with
      | zero => rfl
      | succ m' => rw [uval, uval, if_neg (by omega)]
    | succ m => cases m' with
      | zero => rw [uval, uval, if_neg (by omega)]
      | succ m' => rw [uval, uval, if_neg (by omega), if_neg (by omega)]
  | succ d ih =>
    intro m m' a h hm hm'
    obtain ⟨m, rfl⟩ : ∃ l, m = l + 1 := ⟨m - 1, by omega⟩
    obtain ⟨m', rfl⟩ : ∃ l, m' = l + 1 := ⟨m' - 1, by omega⟩
    have hu := usz_ok (s := s) (a := a)
    rw [uval, uval]
    split
    · split
      · rfl
      · obtain ⟨n, hn⟩ : ∃ n : Nat, (a : Int) + usz s a = n := ⟨((a : Int) + usz s a).toNat, by omega⟩
        rw [hn]
        exact ih m m' n (by omega) (by omega) (by omega)
    · rfl

theorem uval_app {a b : ByteArray} (hb : uvalid b = true) : ∀ (d i m : Nat), a.size - i = d → i ≤ a.size → d + b.size ≤ m → uval a d (i : Int) = true → uval (a ++ b) m (i : Int) = true := by
  have hsz := bsize_app (a := a) (b := b)
  have right : ∀ (e j m : Nat), b.size - j ≤ e → j ≤ b.size → e ≤ m → uval b e (j : Int) = true → uval (a ++ b) m ((a.size + j : Nat) : Int) = true := by
    intro e
    induction e with
    | zero =>
      intro j m h1 h2 h3 h4
      cases m with
      | zero => rfl
      | succ m => rw [uval, if_neg (by omega)]
    | succ e ih =>
      intro j m h1 h2 h3 h4
      obtain ⟨m, rfl⟩ : ∃ l, m = l + 1 := ⟨m - 1, by omega⟩
      have hu := usz_ok (s := b) (a := j)
      rw [uval] at h4 ⊢
      by_cases hj : (j : Int) < b.size
      · have hu3 := hu.2.2 (by omega) hj
        rw [if_pos hj] at h4
        rw [if_pos (by omega), usz_right]
        by_cases hz : usz b j = 0
        · rw [if_pos hz] at h4; cases h4
        · rw [if_neg hz] at h4 ⊢
          obtain ⟨n, hn⟩ : ∃ n : Nat, usz b j = n := ⟨(usz b j).toNat, by omega⟩
          rw [hn] at h4 hu3 hz ⊢
          have e1 : ((a.size + j : Nat) : Int) + (n : Int) = ((a.size + (j + n) : Nat) : Int) := by omega
          have e2 : (j : Int) + (n : Int) = ((j + n : Nat) : Int) := by omega
          rw [e1]
          rw [e2] at h4
          exact ih (j + n) m (by omega) (by omega) (by omega) h4
      · rw [if_neg (by omega)]
  intro d
  induction d using Nat.strongRecOn with
  | _ d ih =>
    intro i m h1 h2 h3 h4
    by_cases hi : i = a.size
    · subst hi
      have := right b.size 0 m (by omega) (by omega) (by omega) hb
      simpa using this
    · obtain ⟨d, rfl⟩ : ∃ l, d = l + 1 := ⟨d - 1, by omega⟩
      obtain ⟨m, rfl⟩ : ∃ l, m = l + 1 := ⟨m - 1, by omega⟩
      have hu := usz_ok (s := a) (a := i)
      have hu3 := hu.2.2 (by omega) (by omega)
      rw [uval, if_pos (by omega)] at h4
      rw [uval, if_pos (by omega)]
      by_cases hz : usz a i = 0
      · rw [if_pos hz] at h4; cases h4
      · rw [if_neg hz] at h4
        rw [usz_left hz, if_neg hz]
        obtain ⟨n, hn⟩ : ∃ n : Nat, usz a i = n := ⟨(usz a i).toNat, by omega⟩
        rw [hn] at h4 hu3 hz ⊢
        have e2 : (i : Int) + (n : Int) = ((i + n : Nat) : Int) := by omega
        rw [e2] at h4 ⊢
        refine ih (a.size - (i + n)) (by omega) (i + n) m rfl (by omega) (by omega) ?_
        rw [uval_fuel (a.size - (i + n)) (a.size - (i + n)) d (i + n) (by omega) (by omega) (by omega)]
        exact h4

theorem uvalid_app {a b : ByteArray} (ha : uvalid a = true) (hb : uvalid b = true) : uvalid (a ++ b) = true := by
  unfold uvalid
  have h := uval_app hb a.size 0 (a ++ b).size (by omega) (by omega) (by rw [bsize_app]; omega) ha
  exact h

/-- Elements that may come behind others, however long. -/
def isS (base : Int) : Int → Option Bool → List El → Prop
  | _, _, [] => True
  | to, pre, x :: r =>
    if x.2.2.size = 0 then (to ≤ x.1 ∧ (to < x.1 ∨ pre ≠ some true) ∧ x.1 < x.2.1 ∧ x.2.1 ≤ base) ∧ isS base x.2.1 (some true) r
    else (x.1 = 0 ∧ x.2.1 = 0 ∧ pre ≠ some false ∧ uvalid x.2.2 = true) ∧ isS base to (some false) r

def lastTo : Int → List El → Int
  | to, [] => to
  | to, x :: r => lastTo (if x.2.2.size = 0 then x.2.1 else to) r

def lastPre : Option Bool → List El → Option Bool
  | p, [] => p
  | _, x :: r => lastPre (some (decide (x.2.2.size = 0))) r

theorem isS_app {base : Int} : ∀ {l r : List El} {to : Int} {pre : Option Bool}, isS base to pre (l ++ r) ↔ isS base to pre l ∧ isS base (lastTo to l) (lastPre pre l) r
  | [], r, to, pre => by simp [isS, lastTo, lastPre]
  | x :: l, r, to, pre => by
    rw [List.cons_append, isS, isS, lastTo, lastPre]
    by_cases h : x.2.2.size = 0
    · rw [if_pos h, if_pos h, if_pos h, decide_eq_true h, isS_app]
      exact ⟨fun h => ⟨⟨h.1, h.2.1⟩, h.2.2⟩, fun h => ⟨h.1.1, h.1.2, h.2⟩⟩
    · rw [if_neg h, if_neg h, if_neg h, decide_eq_false h, isS_app]
      exact ⟨fun h => ⟨⟨h.1, h.2.1⟩, h.2.2⟩, fun h => ⟨h.1.1, h.1.2, h.2⟩⟩

theorem lastTo_app : ∀ {l : List El} {x : El} {to : Int}, lastTo to (l ++ [x]) = if x.2.2.size = 0 then x.2.1 else lastTo to l
  | [], _, _ => rfl
  | y :: l, x, to => by rw [List.cons_append, lastTo, lastTo_app, lastTo]

theorem lastPre_app : ∀ {l : List El} {x : El} {p : Option Bool}, lastPre p (l ++ [x]) = some (decide (x.2.2.size = 0))
  | [], _, _ => rfl
  | y :: l, x, p => by rw [List.cons_append, lastPre, lastPre_app]

theorem isS_isL {base : Int} : ∀ {l : List El} {size to : Int} {pre : Option Bool}, isS base to pre l → size + sumK l + sumT l ≤ 20000 → isL base size to pre l = true
  | [], _, _, _, _, _ => rfl
  | x :: r, size, to, pre, h, hs => by
    have nn : ∀ {r : List El} {to : Int} {pre : Option Bool}, isS base to pre r → 0 ≤ sumK r := by
      intro r
      induction r with
      | nil => intro _ _ _; simp [sumK]
      | cons y r ih =>
        intro to pre h
        rw [isS] at h
        split at h
        · have := ih h.2; have := h.1.2.2.1; simp only [sumK]; omega
        · have := ih h.2; have := h.1.1; have := h.1.2.1; simp only [sumK]; omega
    rw [isS] at h
    simp only [sumK, sumT] at hs
    rw [isL]
    by_cases hz : x.2.2.size = 0
    · rw [if_pos hz] at h ⊢
      have hn := nn h.2
      rw [isS_isL h.2 (by omega), decide_eq_true ⟨h.1.1, h.1.2.1, h.1.2.2.1, h.1.2.2.2, by omega⟩]
      rfl
    · rw [if_neg hz] at h ⊢
      have hn := nn h.2
      have h1 := h.1.1
      have h2 := h.1.2.1
      rw [isS_isL h.2 (by omega), decide_eq_true ⟨h.1.1, h.1.2.1, h.1.2.2.1, by omega⟩, h.1.2.2.2]
      rfl

/-- What a maker has made, up to a place. -/
def Made (base : Int) (acc : List El) (a : Int) : Prop := isS base 0 none acc ∧ lastTo 0 acc ≤ a ∧ 0 ≤ a ∧ a ≤ base

theorem made_copy {base a f : Int} {acc : List El} (h : Made base acc a) (h1 : a ≤ f) (h2 : f ≤ base) : Made base (mkCopy acc a f) f := by
  obtain ⟨m1, m2, m3, m4⟩ := h
  by_cases he : acc = []
  · subst he
    rw [mkCopy_nil]
    by_cases hf : a = f
    · rw [if_pos hf]; exact ⟨m1, by rw [lastTo]; omega, by omega, h2⟩
    · rw [if_neg hf]
      refine ⟨?_, ?_, by omega, h2⟩
      · rw [isS, if_pos empty_size]
        exact ⟨⟨m3, .inr (by simp), by simp only; omega, h2⟩, trivial⟩
      · rw [lastTo, if_pos empty_size, lastTo]; simp
  · obtain ⟨l, p, rfl⟩ := split_last he
    rw [mkCopy_app]
    by_cases hf : a = f
    · rw [if_pos hf]; exact ⟨m1, by omega, by omega, h2⟩
    · rw [if_neg hf]
      have m1' := m1
      rw [isS_app] at m1'
      obtain ⟨i1, i2⟩ := m1'
      rw [lastTo_app] at m2
      by_cases hp : p.2.2.size = 0 ∧ p.2.1 = a
      · rw [if_pos hp]
        rw [isS, if_pos hp.1] at i2
        refine ⟨?_, ?_, by omega, h2⟩
        · rw [isS_app]
          refine ⟨i1, ?_⟩
          rw [isS, if_pos (show (p.1, (f, p.2.2)).2.2.size = 0 from hp.1)]
          have := i2.1.2.2.1
          exact ⟨⟨i2.1.1, i2.1.2.1, by simp only; omega, h2⟩, trivial⟩
        · rw [lastTo_app, if_pos (show (p.1, (f, p.2.2)).2.2.size = 0 from hp.1)]
          simp
      · rw [if_neg hp]
        refine ⟨?_, ?_, by omega, h2⟩
        · rw [isS_app]
          refine ⟨m1, ?_⟩
          rw [isS, if_pos empty_size, lastTo_app, lastPre_app]
          refine ⟨⟨by simpa using m2, ?_, by simp only; omega, h2⟩, trivial⟩
          by_cases hz : p.2.2.size = 0
          · rw [if_pos hz] at m2 ⊢
            left
            simp only
            have : p.2.1 ≠ a := fun e => hp ⟨hz, e⟩
            omega
          · right
            rw [decide_eq_false hz]
            simp
        · rw [lastTo_app, if_pos empty_size]; simp

theorem made_put {base a : Int} {acc : List El} {s : ByteArray} (h : Made base acc a) (hv : uvalid s = true) : Made base (mkPut acc s) a := by
  obtain ⟨m1, m2, m3, m4⟩ := h
  by_cases he : acc = []
  · subst he
    rw [mkPut_nil]
    by_cases hz : s.size = 0
    · rw [if_pos hz]; exact ⟨m1, m2, m3, m4⟩
    · rw [if_neg hz]
      refine ⟨?_, ?_, m3, m4⟩
      · rw [isS, if_neg hz]
        exact ⟨⟨rfl, rfl, by simp, hv⟩, trivial⟩
      · rw [lastTo, if_neg hz, lastTo]; exact m3
  · obtain ⟨l, p, rfl⟩ := split_last he
    rw [mkPut_app]
    by_cases hz : s.size = 0
    · rw [if_pos hz]; exact ⟨m1, m2, m3, m4⟩
    · rw [if_neg hz]
      have m1' := m1
      rw [isS_app] at m1'
      obtain ⟨i1, i2⟩ := m1'
      by_cases hp : p.2.2.size = 0
      · rw [if_pos hp]
        refine ⟨?_, ?_, m3, m4⟩
        · rw [isS_app]
          refine ⟨m1, ?_⟩
          rw [isS, if_neg hz, lastPre_app, decide_eq_true hp]
          exact ⟨⟨rfl, rfl, by simp, hv⟩, trivial⟩
        · rw [lastTo_app, if_neg hz]; exact m2
      · rw [if_neg hp]
        rw [isS, if_neg hp] at i2
        have hz2 : ¬ (p.2.2 ++ s).size = 0 := by rw [bsize_app]; omega
        refine ⟨?_, ?_, m3, m4⟩
        · rw [isS_app]
          refine ⟨i1, ?_⟩
          rw [isS, if_neg hz2]
          exact ⟨⟨i2.1.1, i2.1.2.1, i2.1.2.2.1, uvalid_app i2.1.2.2.2 hv⟩, trivial⟩
        · rw [lastTo_app, if_neg hz2]
          rw [lastTo_app, if_neg hp] at m2
          exact m2

theorem mkPut_sumK {l : List El} {s : ByteArray} : sumK (mkPut l s) = sumK l := by
  by_cases h : l = []
  · subst h; rw [mkPut_nil]; split <;> simp [sumK]
  · obtain ⟨m, p, rfl⟩ := split_last h
    rw [mkPut_app]
    split
    · rfl
    · split <;> simp [sumK_app, sumK]

theorem mkCopy_sumK {l : List El} {a f : Int} : sumK (mkCopy l a f) = sumK l + (f - a) := by
  by_cases h : l = []
  · subst h; rw [mkCopy_nil]; split
    · simp only [sumK]; omega
    · simp only [sumK]; omega
  · obtain ⟨m, p, rfl⟩ := split_last h
    rw [mkCopy_app]
    split
    · omega
    · split
      · rename_i h2
        have := h2.2
        simp only [sumK_app, sumK]; omega
      · simp only [sumK_app, sumK]; omega

theorem apS_app {s : List Int} : ∀ {l r : List El}, apS s (l ++ r) = apS s l ++ apS s r
  | [], r => rfl
  | x :: l, r => by simp only [List.cons_append, apS, apS_app, List.append_assoc]

theorem txt_empty : txt ByteArray.empty = [] := rfl

theorem apS_put {s : List Int} {l : List El} {t : ByteArray} : apS s (mkPut l t) = apS s l ++ txt t := by
  have hz : t.size = 0 → txt t = [] := fun h => List.eq_nil_of_length_eq_zero (by rw [txt_len]; exact h)
  by_cases h : l = []
  · subst h; rw [mkPut_nil]; split
    · rename_i h; rw [hz h]; rfl
    · simp [apS]
  · obtain ⟨m, p, rfl⟩ := split_last h
    rw [mkPut_app]
    split
    · rename_i h; rw [hz h]; simp
    · split
      · rw [apS_app]; simp [apS]
      · rw [apS_app, apS_app]; simp [apS, txt_app]

theorem apS_copy {base a f : Int} {s : List Int} {l : List El} (h : Made base l a) (h1 : a ≤ f) (h2 : f ≤ base) : apS s (mkCopy l a f) = apS s l ++ (s.drop a.toNat).take (f - a).toNat := by
  obtain ⟨m1, m2, m3, m4⟩ := h
  by_cases he : l = []
  · subst he; rw [mkCopy_nil]; split
    · rename_i h; rw [h]; simp [apS]
    · simp [apS, txt_empty]
  · obtain ⟨m, p, rfl⟩ := split_last he
    rw [mkCopy_app]
    split
    · rename_i h; rw [h]; simp
    · split
      · rename_i hp
        rw [isS_app] at m1
        have i2 := m1.2
        rw [isS, if_pos hp.1] at i2
        have hl : 0 ≤ lastTo 0 m := by
          have key : ∀ (r : List El) (to : Int) (pre : Option Bool), 0 ≤ to → isS base to pre r → 0 ≤ lastTo to r := by
            intro r
            induction r with
            | nil => intro to pre h0 _; exact h0
            | cons y r ih =>
              intro to pre h0 hr
              rw [isS] at hr
              rw [lastTo]
              split at hr
              · rename_i hy; rw [if_pos hy]; have := hr.1.1; have := hr.1.2.2.1; exact ih _ _ (by omega) hr.2
              · rename_i hy; rw [if_neg hy]; exact ih _ _ h0 hr.2
          exact key m 0 none (by omega) m1.1
        have q1 := i2.1.1
        have q2 := i2.1.2.2.1
        have htz : txt p.2.2 = [] := List.eq_nil_of_length_eq_zero (by rw [txt_len]; exact hp.1)
        rw [apS_app, apS_app]
        simp only [apS, htz, List.append_nil, List.append_assoc]
        congr 1
        rw [hp.2]
        have e1 : (f - p.1).toNat = (a - p.1).toNat + (f - a).toNat := by omega
        have e2 : a.toNat = p.1.toNat + (a - p.1).toNat := by omega
        rw [e1, e2, List.take_add, List.drop_drop]
      · rw [apS_app]; simp [apS, txt_empty]

/-- What changes make of a text's bytes. -/
def chS (s : List Int) : Int → List El → List Int
  | _, [] => []
  | a, c :: r => ((s.drop a.toNat).take (c.1 - a).toNat ++ txt c.2.2) ++ chS s c.2.1 r

theorem bld_ok {base : Int} {s : List Int} : ∀ {l acc : List El} {a : Int} {prev : Option El}, Made base acc a → rngL base l = true → ordL prev l = true → valL l = true → (∀ p, prev = some p → p.2.1 = a) → (prev = none → a = 0) →
    Made base (bld acc a l).1 (bld acc a l).2 ∧ sumT (bld acc a l).1 = sumT acc + sumT l ∧ sumK (bld acc a l).1 = sumK acc + ((bld acc a l).2 - a) - sumK l ∧ apS s (bld acc a l).1 = apS s acc ++ chS s a l
  | [], acc, a, prev, hm, _, _, _, _, _ => ⟨hm, by simp [bld, sumT], by simp only [bld, sumK]; omega, by simp [bld, chS]⟩
  | c :: r, acc, a, prev, hm, hr, ho, hv, hp, hn => by
    rw [show rngL base (c :: r) = (decide (0 ≤ c.1 ∧ c.1 ≤ c.2.1 ∧ c.2.1 ≤ base) && rngL base r) from rfl, Bool.and_eq_true, decide_eq_true_eq] at hr
    rw [show valL (c :: r) = (uvalid c.2.2 && valL r) from rfl, Bool.and_eq_true] at hv
    obtain ⟨⟨r1, r2, r3⟩, hr'⟩ := hr
    have hac : a ≤ c.1 ∧ ordL (some c) r = true := by
      cases prev with
      | none => rw [hn rfl]; exact ⟨r1, ho⟩
      | some p =>
        rw [ordL, Bool.and_eq_true] at ho
        have h1 := ho.1
        have h2 := hp p rfl
        simp only [Bool.not_eq_true', decide_eq_false_iff_not] at h1
        exact ⟨by omega, ho.2⟩
    have k1 := made_copy hm hac.1 (by omega)
    have k2 := made_put k1 hv.1
    have k3 : Made base (mkPut (mkCopy acc a c.1) c.2.2) c.2.1 := ⟨k2.1, by have := k2.2.1; omega, by omega, r3⟩
    obtain ⟨e1, e2, e3, e4⟩ := bld_ok (s := s) k3 hr' hac.2 hv.2 (fun p hp => by cases hp; rfl) (fun h => by cases h)
    rw [bld]
    refine ⟨e1, by rw [e2, mkPut_sumT, mkCopy_sumT]; simp only [sumT]; omega, by rw [e3, mkPut_sumK, mkCopy_sumK]; simp only [sumK]; omega, ?_⟩
    rw [e4, apS_put, apS_copy hm hac.1 (by omega)]
    simp only [chS, List.append_assoc]

theorem lng_zero : ∀ {l : List El} {left : Int}, lngL left l = 0 → (sumT l : Int) ≤ left ∨ l = []
  | [], _, _ => .inr rfl
  | c :: r, left, h => by
    rw [lngL] at h
    split at h
    · cases h
    · left
      simp only [sumT]
      rcases lng_zero h with h' | h'
      · omega
      · subst h'; simp only [sumT]; omega

/-- What is built is a delta; what it makes. -/
theorem built_ok {base : Int} {l : List El} {s : List Int} (h : (bldD base l).2.2 = 0) : 0 ≤ base ∧ base ≤ 20000 ∧ rngL base l = true ∧ ordL none l = true ∧ valL l = true ∧ (bldD base l).1 = base ∧ isD base (bldD base l).2.1 = true ∧
    sumT (bldD base l).2.1 = sumT l ∧ sumK (bldD base l).2.1 = base - sumK l ∧ apS s (bldD base l).2.1 = chS s 0 l ++ (s.drop (bld [] 0 l).2.toNat).take (base - (bld [] 0 l).2).toNat := by
  unfold bldD at *
  split at h
  · rename_i h1
    exact absurd h h1
  · rename_i h1
    split at h
    · cases h
    · rename_i h2
      rw [if_neg h1, if_neg h2]
      have h1' : chk base l = 0 := by simpa using h1
      unfold chk at h1'
      split at h1'
      · cases h1'
      · split at h1'
        · cases h1'
        · split at h1'
          · cases h1'
          · split at h1'
            · cases h1'
            · rename_i a1 a2 a3 a4
              have b2 : rngL base l = true := by simpa using a2
              have b3 : ordL none l = true := by simpa using a3
              have b4 : valL l = true := by simpa using a4
              have hm : Made base [] 0 := ⟨trivial, by simp [lastTo], by omega, by omega⟩
              obtain ⟨e1, e2, e3, e4⟩ := bld_ok (s := s) hm b2 b3 b4 (fun p hp => by cases hp) (fun _ => rfl)
              have hle := e1.2.2.2
              have f1 := made_copy e1 hle (by omega)
              have f2 := mkCopy_sumK (l := (bld [] 0 l).1) (a := (bld [] 0 l).2) (f := base)
              have f3 := mkCopy_sumT (l := (bld [] 0 l).1) (f := (bld [] 0 l).2) (t := base)
              have f4 := apS_copy (s := s) e1 hle (by omega)
              simp only [sumT, sumK, apS] at e2 e3 e4
              have hlong : base - sumK l + sumT l ≤ 20000 := by
                rcases lng_zero h1' with h' | h'
                · omega
                · subst h'; simp only [sumK, sumT]; omega
              refine ⟨by omega, by omega, b2, b3, b4, rfl, ?_, by rw [f3, e2]; omega, by rw [f2, e3]; omega, by rw [f4, e4]; rfl⟩
              have h60 : (mkCopy (bld [] 0 l).1 (bld [] 0 l).2 base).length ≤ 60 := by omega
              unfold isD
              rw [decide_eq_true ⟨by omega, by omega, h60⟩, isS_isL f1.1 (by rw [f2, f3, e2, e3]; omega)]
              rfl

theorem cellsC_add : ∀ {m n : Nat} {f : Int}, cellsC f (m + n) = cellsC f m ++ cellsC (f + m) n
  | 0, n, f => by simp [cellsC]
  | m + 1, n, f => by
    rw [show m + 1 + n = (m + n) + 1 by omega, cellsC, cellsC_add, cellsC, show f + 1 + (m : Int) = f + ((m + 1 : Nat) : Int) by omega]
    rfl

theorem cellsT_app {a b : ByteArray} : cellsT (a ++ b) = cellsT a ++ cellsT b := by
  unfold cellsT
  rw [txt_app, List.map_append]

theorem cellsT_nil {t : ByteArray} (h : t.size = 0) : cellsT t = [] := List.eq_nil_of_length_eq_zero (by rw [cellsT_len]; exact h)

theorem cells_app : ∀ {l r : List El}, cells (l ++ r) = cells l ++ cells r
  | [], r => rfl
  | x :: l, r => by simp only [List.cons_append, cells, cells_app, List.append_assoc]

theorem cells_put {base : Int} {l : List El} {t : ByteArray} (hm : isS base 0 none l) : cells (mkPut l t) = cells l ++ cellsT t := by
  by_cases h : l = []
  · subst h; rw [mkPut_nil]; split
    · rename_i h; rw [cellsT_nil h]; rfl
    · simp [cells, cellsC]
  · obtain ⟨m, p, rfl⟩ := split_last h
    rw [mkPut_app]
    split
    · rename_i h; rw [cellsT_nil h]; simp
    · split
      · rw [cells_app]; simp [cells, cellsC]
      · rename_i hp
        rw [isS_app] at hm
        have i2 := hm.2
        rw [isS, if_neg hp] at i2
        rw [cells_app, cells_app]
        simp [cells, cellsT_app, i2.1.1, i2.1.2.1, cellsC]

theorem cells_copy {base a f : Int} {l : List El} (h : Made base l a) (h1 : a ≤ f) : cells (mkCopy l a f) = cells l ++ cellsC a (f - a).toNat := by
  obtain ⟨m1, m2, m3, m4⟩ := h
  have ce : cellsT ByteArray.empty = [] := cellsT_nil rfl
  by_cases he : l = []
  · subst he; rw [mkCopy_nil]; split
    · rename_i h; rw [h]; simp [cells, cellsC]
    · simp [cells, ce]
  · obtain ⟨m, p, rfl⟩ := split_last he
    rw [mkCopy_app]
    split
    · rename_i h; rw [h]; simp [cellsC]
    · split
      · rename_i hp
        rw [isS_app] at m1
        have i2 := m1.2
        rw [isS, if_pos hp.1] at i2
        have q2 := i2.1.2.2.1
        have htz := cellsT_nil hp.1
        rw [cells_app, cells_app]
        simp only [cells, htz, List.append_nil, List.nil_append, List.append_assoc]
        congr 1
        rw [hp.2]
        rw [show (f - p.1).toNat = (a - p.1).toNat + (f - a).toNat by omega, cellsC_add, show p.1 + ((a - p.1).toNat : Int) = a by omega]
      · rw [cells_app]; simp [cells, ce]

/-- What changes make, cell by cell. -/
def chC : Int → List El → List Ce
  | _, [] => []
  | a, c :: r => (cellsC a (c.1 - a).toNat ++ cellsT c.2.2) ++ chC c.2.1 r

theorem bld_cells {base : Int} : ∀ {l acc : List El} {a : Int} {prev : Option El}, Made base acc a → rngL base l = true → ordL prev l = true → valL l = true → (∀ p, prev = some p → p.2.1 = a) → (prev = none → a = 0) →
    Made base (bld acc a l).1 (bld acc a l).2 ∧ cells (bld acc a l).1 = cells acc ++ chC a l
  | [], acc, a, prev, hm, _, _, _, _, _ => ⟨hm, by simp [bld, chC]⟩
  | c :: r, acc, a, prev, hm, hr, ho, hv, hp, hn => by
    rw [show rngL base (c :: r) = (decide (0 ≤ c.1 ∧ c.1 ≤ c.2.1 ∧ c.2.1 ≤ base) && rngL base r) from rfl, Bool.and_eq_true, decide_eq_true_eq] at hr
    rw [show valL (c :: r) = (uvalid c.2.2 && valL r) from rfl, Bool.and_eq_true] at hv
    obtain ⟨⟨r1, r2, r3⟩, hr'⟩ := hr
    have hac : a ≤ c.1 ∧ ordL (some c) r = true := by
      cases prev with
      | none => rw [hn rfl]; exact ⟨r1, ho⟩
      | some p =>
        rw [ordL, Bool.and_eq_true] at ho
        have h1 := ho.1
        have h2 := hp p rfl
        simp only [Bool.not_eq_true', decide_eq_false_iff_not] at h1
        exact ⟨by omega, ho.2⟩
    have k1 := made_copy hm hac.1 (by omega)
    have k2 := made_put k1 hv.1
    have k3 : Made base (mkPut (mkCopy acc a c.1) c.2.2) c.2.1 := ⟨k2.1, by have := k2.2.1; omega, by omega, r3⟩
    obtain ⟨e1, e2⟩ := bld_cells k3 hr' hac.2 hv.2 (fun p hp => by cases hp; rfl) (fun h => by cases h)
    rw [bld]
    refine ⟨e1, ?_⟩
    rw [e2, cells_put k1.1, cells_copy hm hac.1]
    simp only [chC, List.append_assoc]

/-- How many at the head are put in. -/
def runT : List Ce → Nat
  | [] => 0
  | c :: r => if c.1 < 0 then runT r + 1 else 0

/-- How many at the head go on from a place. -/
def runC : Int → List Ce → Nat
  | _, [] => 0
  | a, c :: r => if c.1 = a + 1 then runC c.1 r + 1 else 0

/-- Cells, told. -/
def told : Nat → List Ce → List El
  | 0, _ => []
  | _, [] => []
  | m + 1, c :: r =>
    if c.1 < 0 then (0, (0, ofBytes (c.2 :: (r.take (runT r)).map (·.2)))) :: told m (r.drop (runT r))
    else (c.1, (c.1 + runC c.1 r + 1, ByteArray.empty)) :: told m (r.drop (runC c.1 r))

theorem runC_C : ∀ {m : Nat} {a : Int} {R : List Ce}, (∀ c r, R = c :: r → c.1 ≠ a + m + 1) → runC a (cellsC (a + 1) m ++ R) = m
  | 0, a, R, hR => by
    cases R with
    | nil => rfl
    | cons c r =>
      have := hR c r rfl
      simp only [cellsC, List.nil_append, runC]
      rw [if_neg (by omega)]
  | m + 1, a, R, hR => by
    rw [cellsC, List.cons_append, runC, if_pos rfl, runC_C (fun c r e => by have := hR c r e; omega)]

theorem map_snd_cellsT {l : List Int} : (l.map (fun b => ((-1 : Int), b))).map (·.2) = l := by
  rw [List.map_map]
  have : ((fun x : Ce => x.2) ∘ fun b : Int => ((-1 : Int), b)) = id := by funext b; rfl
  rw [this]; simp

theorem isn_is {K : Nat} : delta_Is_sgn K (-1) = some false := by
  unfold delta_Is_sgn
  rw [if_pos (by decide), Option.bind_some, if_pos rfl]

theorem isL_isS {base : Int} : ∀ {l : List El} {size to : Int} {pre : Option Bool}, isL base size to pre l = true → isS base to pre l
  | [], _, _, _, _ => trivial
  | x :: r, size, to, pre, h => by
    rw [isL] at h
    rw [isS]
    split at h
    · rename_i hz
      rw [Bool.and_eq_true, decide_eq_true_eq] at h
      rw [if_pos hz]
      exact ⟨⟨h.1.1, h.1.2.1, h.1.2.2.1, h.1.2.2.2.1⟩, isL_isS h.2⟩
    · rename_i hz
      rw [Bool.and_eq_true, Bool.and_eq_true, decide_eq_true_eq] at h
      rw [if_neg hz]
      exact ⟨⟨h.1.1.1, h.1.1.2.1, h.1.1.2.2.1, h.1.2⟩, isL_isS h.2⟩

theorem isD_isS {base : Int} {l : List El} (h : isD base l = true) : isS base 0 none l := by
  unfold isD at h
  rw [Bool.and_eq_true] at h
  exact isL_isS h.2

theorem lng_is2 : ∀ {l : List El} {left : Int}, 0 ≤ left → lngL left l = if (sumT l : Int) > left then 13 else 0
  | [], left, h => by rw [if_neg (by simp only [sumT]; omega)]; rfl
  | c :: r, left, h => by
    rw [lngL]
    by_cases h1 : (c.2.2.size : Int) > left
    · rw [if_pos h1, if_pos (by simp only [sumT]; omega)]
    · rw [if_neg h1, lng_is2 (by omega)]
      by_cases h2 : (sumT r : Int) > left - c.2.2.size
      · rw [if_pos h2, if_pos (by simp only [sumT]; omega)]
      · rw [if_neg h2, if_neg (by simp only [sumT]; omega)]

theorem built_cells {base : Int} {l : List El} (h : (bldD base l).2.2 = 0) : cells (bldD base l).2.1 = chC 0 l ++ cellsC (bld [] 0 l).2 (base - (bld [] 0 l).2).toNat := by
  obtain ⟨c1, c2, c3, c4, c5, c6, c7, c8, c9, c10⟩ := built_ok (s := []) h
  have hm : Made base [] 0 := ⟨trivial, by simp [lastTo], by omega, by omega⟩
  obtain ⟨m1, m2⟩ := bld_cells hm c3 c4 c5 (fun p hp => by cases hp) (fun _ => rfl)
  have f2 := cells_copy m1 m1.2.2.2
  unfold bldD at h ⊢
  split at h
  · rename_i h1; exact absurd h h1
  · rename_i h1
    split at h
    · cases h
    · rename_i h2
      rw [if_neg h1, if_neg h2, f2, m2]; rfl

/-- One change. -/
theorem one_is {n a b : Nat} {t : ByteArray} (h1 : a ≤ b) (h2 : b ≤ n) (hn : n ≤ 10000) (ht : t.size ≤ 1000) : (uvalid t = false → (bldD n [((a : Int), ((b : Int), t))]).2.2 = 12) ∧
    (uvalid t = true → (bldD n [((a : Int), ((b : Int), t))]).2.2 = 0 ∧ (bldD n [((a : Int), ((b : Int), t))]).1 = n ∧ isD n (bldD n [((a : Int), ((b : Int), t))]).2.1 = true ∧ cells (bldD n [((a : Int), ((b : Int), t))]).2.1 = cellsC 0 a ++ (cellsT t ++ cellsC b (n - b))) := by
  have r1 : rngL n [((a : Int), ((b : Int), t))] = true := by simp [rngL]; omega
  have r2 : ordL none [((a : Int), ((b : Int), t))] = true := rfl
  have hv : valL [((a : Int), ((b : Int), t))] = uvalid t := by simp [valL]
  have hc : chk n [((a : Int), ((b : Int), t))] = if uvalid t = false then 12 else 0 := by
    unfold chk
    rw [if_neg (by omega), r1, r2, hv, if_neg (by simp), if_neg (by simp)]
    cases uvalid t with
    | false => rfl
    | true =>
      rw [if_neg (by simp), if_neg (by simp), lng_is2 (by simp only [sumK]; omega), if_neg (by simp only [sumK, sumT]; omega)]
  have hbl : bld [] 0 [((a : Int), ((b : Int), t))] = (mkPut (mkCopy [] 0 a) t, (b : Int)) := rfl
  constructor
  · intro h
    unfold bldD
    rw [hc, if_pos h, if_pos (by omega)]
  · intro h
    have hz : (bldD n [((a : Int), ((b : Int), t))]).2.2 = 0 := by
      have l1 := mkCopy_len (l := []) (f := 0) (t := a)
      have l2 := mkPut_len (l := mkCopy [] 0 a) (s := t)
      have l3 := mkCopy_len (l := mkPut (mkCopy [] 0 a) t) (f := b) (t := n)
      simp only [List.length_nil] at l1
      unfold bldD
      rw [hc, if_neg (show ¬ uvalid t = false by simp [h]), if_neg (show ¬ (0 : Int) ≠ 0 by simp), hbl]
      simp only
      rw [if_neg (by omega)]
    obtain ⟨c1, c2, c3, c4, c5, c6, c7, c8, c9, c10⟩ := built_ok (s := []) hz
    refine ⟨hz, c6, c7, ?_⟩
    rw [built_cells hz, hbl]
    simp only [chC, List.append_nil, List.append_assoc]
    rw [show ((a : Int) - 0).toNat = a by omega, show ((n : Int) - (b : Int)).toNat = n - b by omega]

/-- No two elements could be one. -/
def nrm : Option El → List El → Prop
  | _, [] => True
  | pre, x :: r => ((x.2.2.size = 0 ∧ 0 ≤ x.1 ∧ x.1 < x.2.1 ∧ ∀ p, pre = some p → p.2.2.size = 0 → p.2.1 ≠ x.1) ∨ (x.2.2.size ≠ 0 ∧ x.1 = 0 ∧ x.2.1 = 0 ∧ ∀ p, pre = some p → p.2.2.size = 0)) ∧ nrm (some x) r

def lastN : Option El → List El → Option El
  | p, [] => p
  | _, x :: r => lastN (some x) r

theorem nrm_app : ∀ {l r : List El} {pre : Option El}, nrm pre (l ++ r) ↔ nrm pre l ∧ nrm (lastN pre l) r
  | [], r, pre => by simp [nrm, lastN]
  | x :: l, r, pre => by simp only [List.cons_append, nrm, lastN, nrm_app, and_assoc]

theorem lastN_app : ∀ {l : List El} {x : El} {pre : Option El}, lastN pre (l ++ [x]) = some x
  | [], _, _ => rfl
  | _ :: l, x, _ => by rw [List.cons_append, lastN, lastN_app]

theorem cellsT_empty : cellsT ByteArray.empty = [] := cellsT_nil rfl

theorem nrm_copy {l : List El} {f t : Int} (h : nrm none l) (h0 : 0 ≤ f) (h1 : f ≤ t) : nrm none (mkCopy l f t) ∧ cells (mkCopy l f t) = cells l ++ cellsC f (t - f).toNat := by
  by_cases he : l = []
  · subst he; rw [mkCopy_nil]; split
    · rename_i h; rw [h]; simp [cells, cellsC, nrm]
    · simp only [nrm, cells, cellsT_empty]
      exact ⟨⟨.inl ⟨empty_size, h0, by omega, fun p hp => by cases hp⟩, trivial⟩, by simp⟩
  · obtain ⟨m, p, rfl⟩ := split_last he
    rw [mkCopy_app]
    have h2 := nrm_app.1 h
    split
    · rename_i h'; subst h'; exact ⟨h, by simp [cellsC]⟩
    · split
      · rename_i hp
        have i2 := h2.2.1
        rcases i2 with i2 | i2
        · refine ⟨nrm_app.2 ⟨h2.1, .inl ⟨hp.1, i2.2.1, by simp only; omega, i2.2.2.2⟩, trivial⟩, ?_⟩
          have htz := cellsT_nil hp.1
          rw [cells_app, cells_app]
          simp only [cells, htz, List.append_nil, List.nil_append, List.append_assoc]
          congr 1
          rw [hp.2, show (t - p.1).toNat = (f - p.1).toNat + (t - f).toNat by omega, cellsC_add, show p.1 + ((f - p.1).toNat : Int) = f by omega]
        · exact absurd hp.1 i2.1
      · rename_i hp
        refine ⟨nrm_app.2 ⟨h, .inl ⟨empty_size, h0, by simp only; omega, fun q hq hz => ?_⟩, trivial⟩, ?_⟩
        · rw [lastN_app] at hq
          cases hq
          simp only
          exact fun e => hp ⟨hz, e⟩
        · rw [cells_app]; simp [cells, cellsT_empty]

theorem nrm_put {l : List El} {s : ByteArray} (h : nrm none l) : nrm none (mkPut l s) ∧ cells (mkPut l s) = cells l ++ cellsT s := by
  by_cases he : l = []
  · subst he; rw [mkPut_nil]; split
    · rename_i h; rw [cellsT_nil h]; simp [cells, nrm]
    · rename_i hz
      simp only [nrm, cells]
      exact ⟨⟨.inr ⟨hz, by simp, by simp, fun p hp => by cases hp⟩, trivial⟩, by simp [cellsC]⟩
  · obtain ⟨m, p, rfl⟩ := split_last he
    rw [mkPut_app]
    have h2 := nrm_app.1 h
    split
    · rename_i h'; rw [cellsT_nil h']; simp; exact h
    · split
      · rename_i hs hp
        refine ⟨nrm_app.2 ⟨h, .inr ⟨hs, by simp, by simp, fun q hq => ?_⟩, trivial⟩, ?_⟩
        · rw [lastN_app] at hq; cases hq; exact hp
        · rw [cells_app]; simp [cells, cellsC]
      · rename_i hs hp
        rcases h2.2.1 with i2 | i2
        · exact absurd i2.1 hp
        · refine ⟨nrm_app.2 ⟨h2.1, .inr ⟨by rw [bsize_app]; omega, i2.2.1, i2.2.2.1, i2.2.2.2⟩, trivial⟩, ?_⟩
          rw [cells_app, cells_app]
          simp [cells, cellsT_app, i2.2.1, i2.2.2.1, cellsC]

theorem isS_nrm {base : Int} : ∀ {l : List El} {to : Int} {pre : Option Bool} {q : Option El}, 0 ≤ to → isS base to pre l → pre = q.map (fun p => decide (p.2.2.size = 0)) → (∀ p, q = some p → p.2.2.size = 0 → p.2.1 = to) → nrm q l
  | [], _, _, _, _, _, _, _ => trivial
  | x :: r, to, pre, q, h0, h, hq, ht => by
    rw [isS] at h
    split at h
    · rename_i hz
      refine ⟨.inl ⟨hz, by have := h.1.1; omega, h.1.2.2.1, fun p hp hpz => ?_⟩, isS_nrm (by have := h.1.1; have := h.1.2.2.1; omega) h.2 (by rw [Option.map_some, decide_eq_true hz]) (fun p hp hpz => by cases hp; rfl)⟩
      have h3 := ht p hp hpz
      rcases h.1.2.1 with h4 | h4
      · omega
      · subst hp; exact absurd (by rw [hq, Option.map_some, decide_eq_true hpz]) h4
    · rename_i hz
      refine ⟨.inr ⟨hz, h.1.1, h.1.2.1, fun p hp => ?_⟩, isS_nrm h0 h.2 (by rw [Option.map_some, decide_eq_false hz]) (fun p hp hpz => by cases hp; exact absurd hpz hz)⟩
      have h4 := h.1.2.2.1
      subst hp
      by_cases hpz : p.2.2.size = 0
      · exact hpz
      · exact absurd (by rw [hq, Option.map_some, decide_eq_false hpz]) h4

theorem isD_nrm {base : Int} {l : List El} (h : isD base l = true) : nrm none l := isS_nrm (Int.le_refl 0) (isD_isS h) rfl (fun p hp => by cases hp)

/-- Cells of a text's parts and of places in order. -/
def incC (base : Int) : Int → List Ce → Prop
  | _, [] => True
  | to, c :: r => if c.1 < 0 then c.1 = -1 ∧ incC base to r else to ≤ c.1 ∧ c.1 < base ∧ incC base (c.1 + 1) r

def endC : Int → List Ce → Int
  | to, [] => to
  | to, c :: r => endC (if c.1 < 0 then to else c.1 + 1) r

theorem incC_app {base : Int} : ∀ {l r : List Ce} {to : Int}, incC base to (l ++ r) ↔ incC base to l ∧ incC base (endC to l) r
  | [], r, to => by simp [incC, endC]
  | c :: l, r, to => by
    simp only [List.cons_append, incC, endC]
    split
    · rw [incC_app, and_assoc]
    · rw [incC_app]; constructor
      · rintro ⟨a, b, c, d⟩; exact ⟨⟨a, b, c⟩, d⟩
      · rintro ⟨⟨a, b, c⟩, d⟩; exact ⟨a, b, c, d⟩

theorem incC_T {base to : Int} {l : List Int} : incC base to (l.map fun b => ((-1 : Int), b)) ∧ endC to (l.map fun b => ((-1 : Int), b)) = to := by
  induction l with
  | nil => exact ⟨trivial, rfl⟩
  | cons b l ih => simp only [List.map_cons, incC, endC]; rw [if_pos (by omega), if_pos (by omega)]; exact ⟨⟨trivial, ih.1⟩, ih.2⟩

theorem incC_C {base : Int} : ∀ {m : Nat} {to f : Int}, 0 ≤ f → (0 < m → to ≤ f) → (0 < m → f + m ≤ base) → incC base to (cellsC f m) ∧ endC to (cellsC f m) = if m = 0 then to else f + m
  | 0, to, f, _, _, _ => ⟨trivial, rfl⟩
  | m + 1, to, f, h0, h1, h2 => by
    have := h1 (by omega)
    have := h2 (by omega)
    obtain ⟨a, b⟩ := incC_C (base := base) (m := m) (to := f + 1) (f := f + 1) (by omega) (fun _ => by omega) (fun _ => by omega)
    simp only [cellsC, incC, endC]
    rw [if_neg (by omega), if_neg (by omega), if_neg (by omega)]
    refine ⟨⟨by omega, by omega, a⟩, ?_⟩
    rw [b]
    split
    · omega
    · omega

theorem incC_Cinv {base : Int} : ∀ {m : Nat} {to f : Int}, 0 ≤ f → 0 < m → incC base to (cellsC f m) → to ≤ f ∧ f + m ≤ base
  | m + 1, to, f, h0, _, h => by
    rw [cellsC, incC, if_neg (by simp only; omega)] at h
    by_cases hm : m = 0
    · subst hm; have := h.2.1; simp only at this; exact ⟨h.1, by omega⟩
    · have := incC_Cinv (by omega) (by omega) h.2.2
      exact ⟨h.1, by omega⟩

theorem nrm_isS {base : Int} : ∀ {l : List El} {to : Int} {q : Option El}, 0 ≤ to → nrm q l → incC base to (cells l) → valL l = true → (∀ p, q = some p → p.2.2.size = 0 → p.2.1 = to) → isS base to (q.map (fun p => decide (p.2.2.size = 0))) l
  | [], _, _, _, _, _, _, _ => trivial
  | x :: r, to, q, h0, h, hi, hv, hq => by
    rw [show valL (x :: r) = (uvalid x.2.2 && valL r) from rfl, Bool.and_eq_true] at hv
    rw [isS]
    rw [cells] at hi
    rcases h.1 with h1 | h1
    · rw [if_pos h1.1]
      rw [cellsT_nil h1.1, List.nil_append, incC_app] at hi
      have hin := incC_Cinv h1.2.1 (by have := h1.2.2.1; omega) hi.1
      have hb := incC_C (base := base) (m := (x.2.1 - x.1).toNat) (to := to) (f := x.1) (by omega) (by omega) (by omega)
      have hlt := h1.2.2.1
      rw [hb.2, if_neg (by omega), show x.1 + ((x.2.1 - x.1).toNat : Int) = x.2.1 by omega] at hi
      refine ⟨⟨hin.1, ?_, h1.2.2.1, by omega⟩, ?_⟩
      · cases q with
        | none => right; simp
        | some p =>
          by_cases hz : p.2.2.size = 0
          · left
            have := h1.2.2.2 p rfl hz
            have := hq p rfl hz
            omega
          · right; rw [Option.map_some, decide_eq_false hz]; simp
      · have := nrm_isS (q := some x) (to := x.2.1) (by omega) h.2 hi.2 hv.2 (fun p hp _ => by cases hp; rfl)
        rwa [Option.map_some, decide_eq_true h1.1] at this
    · rw [if_neg h1.1]
      rw [h1.2.1, h1.2.2.1, show ((0 : Int) - 0).toNat = 0 from rfl, cellsC, List.append_nil] at hi
      unfold cellsT at hi
      rw [incC_app, (incC_T (base := base)).2] at hi
      refine ⟨⟨h1.2.1, h1.2.2.1, ?_, hv.1⟩, ?_⟩
      · cases q with
        | none => simp
        | some p => rw [Option.map_some, decide_eq_true (h1.2.2.2 p rfl)]; simp
      · have := nrm_isS (q := some x) (to := to) h0 h.2 hi.2 hv.2 (fun p hp hz => by cases hp; exact absurd hz h1.1)
        rwa [Option.map_some, decide_eq_false h1.1] at this

theorem nrm_len : ∀ {r : List El} {pre : Option El}, nrm pre r → r.length ≤ (cells r).length ∧ (∀ e ∈ r, e.2.2.size ≤ (cells r).length) ∧ sumT r ≤ (cells r).length ∧ sumK r + sumT r = (cells r).length ∧ 0 ≤ sumK r
  | [], _, _ => ⟨Nat.le_refl _, by simp, by simp [sumT], by simp [sumK, sumT, cells], by simp [sumK]⟩
  | x :: r, pre, h => by
    obtain ⟨h1, h2, h3, h4, h5⟩ := nrm_len h.2
    have e1 := cellsT_len (t := x.2.2)
    have e2 := cellsC_len (m := (x.2.1 - x.1).toNat) (f := x.1)
    have hl : (cells (x :: r)).length = x.2.2.size + (x.2.1 - x.1).toNat + (cells r).length := by rw [cells, List.length_append, List.length_append, e1, e2]
    have h0 : x.1 ≤ x.2.1 ∧ (x.2.2.size = 0 → x.1 < x.2.1) := by
      rcases h.1 with h1 | h1
      · exact ⟨by omega, fun _ => h1.2.2.1⟩
      · exact ⟨by omega, fun hz => absurd hz h1.1⟩
    refine ⟨?_, fun e he => ?_, ?_, ?_, ?_⟩
    · rw [List.length_cons, hl]
      by_cases hz : x.2.2.size = 0
      · have := h0.2 hz; omega
      · omega
    · rw [hl]
      rcases List.mem_cons.1 he with rfl | he
      · omega
      · have := h2 e he; omega
    · rw [sumT, hl]; omega
    · rw [sumK, sumT, hl]; omega
    · rw [sumK]; omega

/-- What is a delta, by its cells. -/
theorem isD_of {base : Int} {l : List El} (h : nrm none l) (hi : incC base 0 (cells l)) (hv : valL l = true) (h0 : 0 ≤ base) (h1 : base ≤ 20000) (hl : l.length ≤ 60) (hc : (cells l).length ≤ 20000) : isD base l = true := by
  have := nrm_isS (Int.le_refl 0) h hi hv (fun p hp => by cases hp)
  have hk := nrm_len h
  unfold isD
  rw [Bool.and_eq_true, decide_eq_true_eq]
  exact ⟨⟨h0, h1, hl⟩, isS_isL this (by omega)⟩

theorem cells_firstN : ∀ {r : List El} {pre : Option El}, nrm pre r → ∀ c R, cells r = c :: R → (c.1 = -1 ∧ ∀ p, pre = some p → p.2.2.size = 0) ∨ (0 ≤ c.1 ∧ ∀ p, pre = some p → p.2.2.size = 0 → p.2.1 ≠ c.1)
  | [], pre, h, c, R, e => by simp [cells] at e
  | x :: r, pre, h, c, R, e => by
    rw [cells] at e
    rcases h.1 with h1 | h1
    · obtain ⟨m, hm⟩ : ∃ m, (x.2.1 - x.1).toNat = m + 1 := ⟨(x.2.1 - x.1).toNat - 1, by have := h1.2.2.1; omega⟩
      rw [cellsT_nil h1.1, hm, cellsC] at e
      simp only [List.nil_append, List.cons_append, List.cons.injEq] at e
      right
      rw [← e.1]
      exact ⟨h1.2.1, h1.2.2.2⟩
    · left
      have hl : 0 < (txt x.2.2).length := by rw [txt_len]; have := h1.1; omega
      obtain ⟨b, l, hb⟩ := List.exists_cons_of_length_pos hl
      unfold cellsT at e
      rw [hb] at e
      simp only [List.map_cons, List.cons_append, List.cons.injEq] at e
      rw [← e.1]
      exact ⟨rfl, h1.2.2.2⟩

theorem told_cellsN : ∀ {r : List El} {pre : Option El} {m : Nat}, nrm pre r → (cells r).length ≤ m → told m (cells r) = r
  | [], pre, m, h, hm => by cases m <;> rfl
  | x :: r, pre, m, h, hm => by
    rw [cells] at hm ⊢
    have hf := cells_firstN h.2
    rcases h.1 with h1 | h1
    · have hz := h1.1
      have q2 := h1.2.2.1
      obtain ⟨n, hn⟩ : ∃ n, (x.2.1 - x.1).toNat = n + 1 := ⟨(x.2.1 - x.1).toNat - 1, by omega⟩
      rw [cellsT_nil hz, hn, cellsC] at hm ⊢
      simp only [List.nil_append, List.cons_append, List.length_cons, List.length_append, cellsC_len] at hm ⊢
      obtain ⟨m, rfl⟩ : ∃ k, m = k + 1 := ⟨m - 1, by omega⟩
      have hrun : runC x.1 (cellsC (x.1 + 1) n ++ cells r) = n := runC_C fun c R e => by
        rcases hf c R e with h' | h'
        · have := h'.1; have := h1.2.1; omega
        · have := h'.2 x rfl hz; omega
      have h10 := h1.2.1
      rw [told, if_neg (by simp only; omega)]
      simp only
      have hdrop : (cellsC (x.1 + 1) n ++ cells r).drop n = cells r := by
        have := List.drop_left (l₁ := cellsC (x.1 + 1) n) (l₂ := cells r)
        rwa [cellsC_len] at this
      have hx3 : x.2.2 = ByteArray.empty := size_zero.2 hz
      rw [hrun, hdrop, told_cellsN h.2 (by omega), show x.1 + (n : Int) + 1 = x.2.1 by omega, ← hx3]
    · have hl : 0 < (txt x.2.2).length := by rw [txt_len]; have := h1.1; omega
      obtain ⟨b, l, hb⟩ := List.exists_cons_of_length_pos hl
      have hll : l.length + 1 = x.2.2.size := by rw [← txt_len, hb]; rfl
      have hcc : cellsC x.1 (x.2.1 - x.1).toNat = [] := by rw [h1.2.1, h1.2.2.1]; rfl
      have hT : cellsT x.2.2 = (-1, b) :: l.map (fun b => (-1, b)) := by unfold cellsT; rw [hb]; rfl
      have hrun0 : ∀ (l : List Int), runT (l.map (fun b => ((-1 : Int), b)) ++ cells r) = l.length := by
        intro l
        induction l with
        | nil =>
          cases hR : cells r with
          | nil => rfl
          | cons c R =>
            simp only [List.map_nil, List.nil_append, runT]
            rw [if_neg]
            · rfl
            · rcases hf c R hR with h' | h'
              · exact absurd (h'.2 x rfl) h1.1
              · have := h'.1; omega
        | cons b l ih => simp only [List.map_cons, List.cons_append, runT]; rw [if_pos (by omega), ih]; rfl
      rw [hcc, hT, List.append_nil] at hm ⊢
      simp only [List.cons_append, List.length_cons, List.length_append, List.length_map] at hm ⊢
      obtain ⟨m, rfl⟩ : ∃ k, m = k + 1 := ⟨m - 1, by omega⟩
      rw [told, if_pos (by simp only; omega)]
      simp only
      have e1 : (l.map (fun b => ((-1 : Int), b)) ++ cells r).drop l.length = cells r := by
        have := List.drop_left (l₁ := l.map (fun b => ((-1 : Int), b))) (l₂ := cells r)
        rwa [List.length_map] at this
      have e2 : (l.map (fun b => ((-1 : Int), b)) ++ cells r).take l.length = l.map (fun b => ((-1 : Int), b)) := by
        have := List.take_left (l₁ := l.map (fun b => ((-1 : Int), b))) (l₂ := cells r)
        rwa [List.length_map] at this
      have e3 : ofBytes (b :: l) = x.2.2 := by rw [← hb, ofBytes_txt]
      rw [hrun0, e1, e2, map_snd_cellsT, e3, told_cellsN h.2 (by omega)]
      obtain ⟨x1, x2, x3⟩ := x
      simp only at h1 ⊢
      rw [h1.2.1, h1.2.2.1]

theorem cells_inj {a b : List El} (ha : nrm none a) (hb : nrm none b) (h : cells a = cells b) : a = b := by
  rw [← told_cellsN ha (Nat.le_refl _), h, told_cellsN hb (Nat.le_refl _)]

def cE (x : El) : List Ce := cellsT x.2.2 ++ cellsC x.1 (x.2.1 - x.1).toNat

theorem cells_cons {x : El} {r : List El} : cells (x :: r) = cE x ++ cells r := by rw [cells, cE]

theorem cE_len {x : El} : (cE x).length = x.2.2.size + (x.2.1 - x.1).toNat := by rw [cE, List.length_append, cellsT_len, cellsC_len]

theorem cellsC_cons {f : Int} {m : Nat} : cellsC f (m + 1) = (f, 0) :: cellsC (f + 1) m := rfl

theorem keep_cells {n : Int} (h0 : 0 ≤ n) : nrm none (mkCopy [] 0 n) ∧ cells (mkCopy [] 0 n) = cellsC 0 n.toNat := by
  have := nrm_copy (l := []) (f := 0) (t := n) trivial (Int.le_refl 0) h0
  exact ⟨this.1, by rw [this.2, Int.sub_zero]; rfl⟩

theorem keep_D {n : Int} (h0 : 0 ≤ n) (h1 : n ≤ 20000) : isD n (mkCopy [] 0 n) = true := by
  obtain ⟨e1, e2⟩ := keep_cells h0
  refine isD_of e1 ?_ ?_ h0 h1 ?_ (by rw [e2, cellsC_len]; omega)
  · rw [e2]; exact (incC_C (Int.le_refl 0) (fun _ => Int.le_refl 0) (fun _ => by omega)).1
  · rw [mkCopy_nil]; split
    · rfl
    · rw [show valL [((0 : Int), (n, ByteArray.empty))] = (uvalid ByteArray.empty && true) from rfl]; decide +kernel
  · rw [mkCopy_nil]; split <;> simp

theorem keepN_is {K : Nat} {n : Int} (h0 : 0 ≤ n) (h1 : n ≤ 20000) : delta_Keep K n = some (n, mkCopy [] 0 n) := by
  rw [keep_is, show max 0 (min n 20000) = n by omega]

theorem mkCopy_val {l : List El} {f t : Int} (h : valL l = true) : valL (mkCopy l f t) = true := by
  by_cases he : l = []
  · subst he; rw [mkCopy_nil]; split
    · rfl
    · rw [show valL [(f, (t, ByteArray.empty))] = (uvalid ByteArray.empty && true) from rfl]; decide +kernel
  · obtain ⟨m, p, rfl⟩ := split_last he
    unfold valL at h
    rw [List.all_append, Bool.and_eq_true] at h
    rw [mkCopy_app]
    unfold valL
    split
    · rw [List.all_append, Bool.and_eq_true]; exact h
    · split
      · rw [List.all_append, Bool.and_eq_true]; exact h
      · rw [List.all_append, List.all_append, h.1, h.2, show ([(f, (t, ByteArray.empty))] : List El).all (fun c => uvalid c.2.2) = (uvalid ByteArray.empty && true) from rfl]; decide +kernel

theorem mkPut_val {l : List El} {s : ByteArray} (h : valL l = true) (hs : uvalid s = true) : valL (mkPut l s) = true := by
  by_cases he : l = []
  · subst he; rw [mkPut_nil]; split
    · rfl
    · rw [show valL [((0 : Int), ((0 : Int), s))] = (uvalid s && true) from rfl, hs]; rfl
  · obtain ⟨m, p, rfl⟩ := split_last he
    unfold valL at h
    rw [List.all_append, Bool.and_eq_true] at h
    rw [mkPut_app]
    unfold valL
    split
    · rw [List.all_append, Bool.and_eq_true]; exact h
    · split
      · rw [List.all_append, List.all_append, h.1, h.2]; simp [hs]
      · rw [List.all_append, h.1]
        have h2 := h.2
        simp only [List.all_cons, List.all_nil, Bool.and_true] at h2 ⊢
        rw [uvalid_app h2 hs]; rfl

theorem mkPut_0 {l : List El} {s : ByteArray} (h : s.size = 0) : mkPut l s = l := by
  by_cases he : l = []
  · subst he; rw [mkPut_nil, if_pos h]
  · obtain ⟨m, p, rfl⟩ := split_last he
    rw [mkPut_app, if_pos h]

theorem bldD_is {base : Int} {l : List El} (h : (bldD base l).2.2 = 0) : (bldD base l).2.1 = mkCopy (bld [] 0 l).1 (bld [] 0 l).2 base := by
  unfold bldD at h ⊢
  split at h
  · rename_i q1; exact absurd h q1
  · rename_i q1
    split at h
    · cases h
    · rename_i q2
      rw [if_neg q1, if_neg q2]

theorem packA_len : ∀ {l acc : List (Int × Int)} {len : Int} {x : List (Int × Int) × Int}, packA acc len l = some x → x.1.length ≤ acc.length + l.length
  | [], acc, len, x, h => by
    unfold packA at h; cases h; simp
  | g :: l, acc, len, x, h => by
    unfold packA at h
    split at h
    · have := packA_len h; rw [List.length_cons]; omega
    · split at h
      · cases h
      · have := packA_len h
        have hp := push_len (acc := acc) (g := g)
        rw [List.length_cons]; omega

/-- Runs that were put together are no more than they were. -/
theorem rle_runs {l : List (Int × Int)} (hn : ∀ p ∈ l, 0 ≤ p.1) (hs : sumL l ≤ 20000) : (rle (expand l)).length ≤ l.length := by
  have h := packA_rle (l := l) (e := []) (len := 0) hn (by omega)
  rw [List.nil_append] at h
  have := packA_len h
  simpa [rle] using this

def dl (base : Int) : Int → List El → List Int
  | a, [] => List.replicate (base - a).toNat 1
  | a, x :: r => if x.2.2.size = 0 then (List.replicate (x.1 - a).toNat 1 ++ List.replicate (x.2.1 - x.1).toNat 0) ++ dl base x.2.1 r else dl base a r

/-- The runs of what goes. -/
def dlS (base : Int) : Int → List El → List (Int × Int)
  | a, [] => [(base - a, 1)]
  | a, x :: r => if x.2.2.size = 0 then (x.1 - a, 1) :: (x.2.1 - x.1, 0) :: dlS base x.2.1 r else dlS base a r

theorem dlS_is {base : Int} : ∀ {r : List El} {a : Int} {pre : Option Bool}, isS base a pre r → 0 ≤ a → a ≤ base → expand (dlS base a r) = dl base a r ∧ (∀ p ∈ dlS base a r, 0 ≤ p.1) ∧ sumL (dlS base a r) = base - a ∧ (dlS base a r).length ≤ 2 * r.length + 1
  | [], a, pre, h, h0, h1 => ⟨by simp [dlS, dl, expand], by intro p hp; rw [List.mem_singleton.1 hp]; simp only; omega, by simp [dlS, sumL], by simp [dlS]⟩
  | x :: r, a, pre, h, h0, h1 => by
    rw [isS] at h
    rw [dlS, dl]
    by_cases hz : x.2.2.size = 0
    · rw [if_pos hz] at h
      have q1 := h.1.1
      have q2 := h.1.2.2.1
      have q3 := h.1.2.2.2
      obtain ⟨e1, e2, e3, e4⟩ := dlS_is (a := x.2.1) h.2 (by omega) q3
      rw [if_pos hz, if_pos hz]
      refine ⟨?_, ?_, ?_, ?_⟩
      · simp only [expand, e1, List.append_assoc]
      · intro p hp
        rcases List.mem_cons.1 hp with rfl | hp
        · simp only; omega
        · rcases List.mem_cons.1 hp with rfl | hp
          · simp only; omega
          · exact e2 p hp
      · simp only [sumL, e3]; omega
      · simp only [List.length_cons]; omega
    · rw [if_neg hz] at h
      obtain ⟨e1, e2, e3, e4⟩ := dlS_is (a := a) h.2 h0 h1
      rw [if_neg hz, if_neg hz]
      exact ⟨e1, e2, e3, by simp only [List.length_cons]; omega⟩

theorem dl_len {base : Int} {r : List El} {a : Int} {pre : Option Bool} (h : isS base a pre r) (h0 : 0 ≤ a) (h1 : a ≤ base) : ((dl base a r).length : Int) = base - a := by
  obtain ⟨e1, e2, e3, e4⟩ := dlS_is h h0 h1
  rw [← e1, expand_len e2, e3]

theorem pos_dl {base : Int} : ∀ {r : List El} {a : Int} {pre : Option Bool}, isS base a pre r → 0 ≤ a → a ≤ base → pos (dl base a r) = base - a - sumK r
  | [], a, pre, h, h0, h1 => by rw [dl, pos_reps, if_pos (by omega), sumK]; omega
  | x :: r, a, pre, h, h0, h1 => by
    rw [isS] at h
    rw [dl, sumK]
    by_cases hz : x.2.2.size = 0
    · rw [if_pos hz] at h ⊢
      have q1 := h.1.1
      have q2 := h.1.2.2.1
      have q3 := h.1.2.2.2
      rw [pos_app, pos_app, pos_reps, pos_reps, if_pos (by omega), if_neg (by omega), pos_dl h.2 (by omega) q3]; omega
    · rw [if_neg hz] at h ⊢
      rw [pos_dl h.2 h0 h1, h.1.1, h.1.2.1]; omega

theorem deleted_loop {K : Nat} {d : List El} {base : Int} (hb : base ≤ 20000) (hl : d.length ≤ 1000) : ∀ (rest : List El) (j k : Nat) (out : List (Int × Int)) (a : Int) (pre : Option Bool), d.drop j = rest → rest.length < k → isS base a pre rest → 0 ≤ a → a ≤ base → out.length ≤ 2 * j →
    ∃ out' a', factor_Deleted.l0 K d k out a (j : Int) = some (out', a') ∧ 0 ≤ a' ∧ a' ≤ base ∧ out'.length ≤ 2 * d.length + 2 * j ∧ out' ++ [(base - a', 1)] = out ++ dlS base a rest
  | [], j, k, out, a, pre, hd, hk, hs, h0, h1, ho => by
    obtain ⟨k, rfl⟩ : ∃ m, k = m + 1 := ⟨k - 1, by simp at hk; omega⟩
    have := drop_nil hd
    rw [factor_Deleted.l0, if_neg (by simp; omega)]
    exact ⟨out, a, rfl, h0, h1, by omega, rfl⟩
  | x :: rest, j, k, out, a, pre, hd, hk, hs, h0, h1, ho => by
    obtain ⟨k, rfl⟩ : ∃ m, k = m + 1 := ⟨k - 1, by simp at hk; omega⟩
    obtain ⟨hj, hgd, hd'⟩ := drop_cons hd el0
    have hk' : rest.length < k := by simp at hk; omega
    have hw : IntKind.wrap .i64 ((j : Int) + 1) = ((j + 1 : Nat) : Int) := by rw [w64 (by omega) (by omega)]; omega
    rw [isS] at hs
    rw [factor_Deleted.l0]
    simp only [Int.toNat_natCast, hgd, hw]
    rw [if_pos (by simpa using hj), if_pos ⟨by omega, by omega⟩, isCopy_is, Option.bind_some, dlS]
    by_cases hz : x.2.2.size = 0
    · rw [if_pos hz] at hs ⊢
      have q1 := hs.1.1
      have q2 := hs.1.2.2.1
      have q3 := hs.1.2.2.2
      rw [decide_eq_true hz, if_neg (by simp), if_pos (by simp; omega), w64 (n := x.1 - a) (by omega) (by omega), w64 (n := x.2.1 - x.1) (by omega) (by omega)]
      obtain ⟨out', a', e1, e2, e3, e4, e5⟩ := deleted_loop (K := K) (d := d) hb hl rest (j + 1) k (out ++ [(x.1 - a, 1), (x.2.1 - x.1, 0)]) x.2.1 (some true) hd' hk' hs.2 (by omega) q3 (by simp; omega)
      refine ⟨out', a', e1, e2, e3, ?_, by rw [e5]; simp⟩
      have : (out' ++ [(base - a', (1 : Int))]).length = (out ++ [(x.1 - a, 1), (x.2.1 - x.1, (0 : Int))] ++ dlS base x.2.1 rest).length := by rw [e5]
      have e6 := (dlS_is (a := x.2.1) hs.2 (by omega) q3).2.2.2
      simp only [List.length_append, List.length_cons, List.length_nil] at this
      have hrl : rest.length + (j + 1) = d.length := by rw [← hd', List.length_drop]; omega
      omega
    · rw [if_neg hz] at hs ⊢
      rw [decide_eq_false hz, if_pos (by rfl)]
      obtain ⟨out', a', e1, e2, e3, e4, e5⟩ := deleted_loop (K := K) (d := d) hb hl rest (j + 1) k out a (some false) hd' hk' hs.2 h0 h1 (by omega)
      refine ⟨out', a', e1, e2, e3, ?_, e5⟩
      have : (out' ++ [(base - a', (1 : Int))]).length = (out ++ dlS base a rest).length := by rw [e5]
      have e6 := (dlS_is (a := a) hs.2 h0 h1).2.2.2
      simp only [List.length_append, List.length_cons, List.length_nil] at this
      have hrl : rest.length + (j + 1) = d.length := by rw [← hd', List.length_drop]; omega
      omega

theorem deleted_is {K : Nat} {d : List El} {base : Int} (hK : 100000 ≤ K) (h : isD base d = true) : factor_Deleted K base d = some (sub (dl base 0 d), 0) ∧ (dl base 0 d).length ≤ 20000 ∧ (rle (dl base 0 d)).length ≤ 200 := by
  obtain ⟨h1, h2, h3, h4, h5⟩ := isD_ok h
  obtain ⟨e1, e2, e3, e4⟩ := dlS_is (isD_isS h) (Int.le_refl 0) h1
  have hlen := dl_len (isD_isS h) (Int.le_refl 0) h1
  have hr : (rle (dl base 0 d)).length ≤ 200 := by
    rw [← e1]
    have := rle_runs e2 (by omega)
    omega
  refine ⟨?_, by omega, hr⟩
  unfold factor_Deleted
  obtain ⟨out', a', f1, f2, f3, f4, f5⟩ := deleted_loop (K := K) (d := d) h2 (by omega) d 0 K [] 0 none rfl (by omega) (isD_isS h) (Int.le_refl 0) h1 (by simp)
  rw [Int.natCast_zero] at f1
  rw [List.nil_append] at f5
  rw [is_is (by omega), Option.bind_some, h, if_neg (by simp), f1, Option.bind_some]
  simp only
  rw [w64 (n := base - a') (by omega) (by omega), f5, pack_is (by omega) (by omega) e2, Option.bind_some, if_pos (by simp; omega), e1, packed_small (by omega) hr]

/-- Which cells were put in. -/
def insC (l : List Ce) : List Int := l.map fun c => if c.1 < 0 then 1 else 0

theorem insC_T {t : ByteArray} : insC (cellsT t) = List.replicate t.size 1 := by
  unfold insC cellsT
  rw [List.map_map]
  have : ((fun c : Ce => if c.1 < 0 then (1 : Int) else 0) ∘ fun b : Int => ((-1 : Int), b)) = fun _ => 1 := by funext b; simp
  rw [this, List.map_const', txt_len]

theorem insC_C : ∀ {m : Nat} {f : Int}, 0 ≤ f → insC (cellsC f m) = List.replicate m 0
  | 0, _, _ => rfl
  | m + 1, f, h => by
    rw [cellsC_cons]
    unfold insC
    rw [List.map_cons, if_neg (by simp only; omega), List.replicate_succ]
    congr 1
    exact insC_C (by omega)

theorem insC_app {a b : List Ce} : insC (a ++ b) = insC a ++ insC b := by unfold insC; rw [List.map_append]

def inS2 : List El → List (Int × Int)
  | [] => []
  | x :: r => (x.2.1 - x.1, 0) :: ((x.2.2.size : Int), 1) :: inS2 r

theorem inS2_is {base : Int} : ∀ {r : List El}, (∀ x ∈ r, okE base x) → expand (inS2 r) = insC (cells r) ∧ (∀ p ∈ inS2 r, 0 ≤ p.1) ∧ sumL (inS2 r) = sumK r + sumT r ∧ (inS2 r).length = 2 * r.length
  | [], _ => ⟨rfl, ⟨fun p hp => (List.not_mem_nil hp).elim, rfl, rfl⟩⟩
  | x :: r, h => by
    obtain ⟨o1, o2, o3, o4⟩ := h x (by simp)
    obtain ⟨e1, e2, e3, e4⟩ := inS2_is (r := r) (fun y hy => h y (by simp [hy]))
    refine ⟨?_, ?_, ?_, ?_⟩
    · rw [inS2, cells_cons, cE, insC_app, insC_app, insC_T, insC_C o1, ← e1]
      simp only [expand, Int.toNat_natCast]
      rcases o4 with o4 | o4
      · rw [o4]; simp
      · rw [o4.1, o4.2]; simp
    · intro p hp
      rcases List.mem_cons.1 hp with rfl | hp
      · simp only; omega
      · rcases List.mem_cons.1 hp with rfl | hp
        · simp only; omega
        · exact e2 p hp
    · simp only [inS2, sumL, sumK, sumT, e3]; omega
    · simp only [inS2, List.length_cons, e4]; omega

theorem inserted_loop {K : Nat} {d : List El} {base : Int} (hb : base ≤ 20000) (hl : d.length ≤ 1000) : ∀ (rest : List El) (j k : Nat) (out : List (Int × Int)), d.drop j = rest → rest.length < k → (∀ x ∈ rest, okE base x) → out.length ≤ 2 * j →
    factor_Inserted.l0 K d k out (j : Int) = some (out ++ inS2 rest)
  | [], j, k, out, hd, hk, hs, ho => by
    obtain ⟨k, rfl⟩ : ∃ m, k = m + 1 := ⟨k - 1, by simp at hk; omega⟩
    have := drop_nil hd
    rw [factor_Inserted.l0, if_neg (by simp; omega)]
    simp [inS2]
  | x :: rest, j, k, out, hd, hk, hs, ho => by
    obtain ⟨k, rfl⟩ : ∃ m, k = m + 1 := ⟨k - 1, by simp at hk; omega⟩
    obtain ⟨hj, hgd, hd'⟩ := drop_cons hd el0
    have hk' : rest.length < k := by simp at hk; omega
    have hw : IntKind.wrap .i64 ((j : Int) + 1) = ((j + 1 : Nat) : Int) := by rw [w64 (by omega) (by omega)]; omega
    obtain ⟨o1, o2, o3, o4⟩ := hs x (by simp)
    rw [factor_Inserted.l0]
    simp only [Int.toNat_natCast, hgd, hw]
    rw [if_pos (by simpa using hj), if_pos ⟨by omega, by omega, by simp; omega⟩, w64 (n := x.2.1 - x.1) (by omega) (by omega), inserted_loop hb hl rest (j + 1) k _ hd' hk' (fun y hy => hs y (by simp [hy])) (by simp; omega)]
    simp [inS2]

theorem inserted_is {K : Nat} {d : List El} {base : Int} (hK : 100000 ≤ K) (h : isD base d = true) : factor_Inserted K base d = some (sub (insC (cells d)), 0) ∧ (insC (cells d)).length ≤ 20000 ∧ (rle (insC (cells d))).length ≤ 200 := by
  obtain ⟨h1, h2, h3, h4, h5⟩ := isD_ok h
  obtain ⟨e1, e2, e3, e4⟩ := inS2_is h4
  have hlen : (insC (cells d)).length ≤ 20000 := by
    have := cells_len h4
    unfold insC
    rw [List.length_map]; omega
  have hr : (rle (insC (cells d))).length ≤ 200 := by
    rw [← e1]
    have := rle_runs e2 (by omega)
    omega
  refine ⟨?_, hlen, hr⟩
  unfold factor_Inserted
  have hloop := inserted_loop (K := K) (d := d) h2 (by omega) d 0 K [] rfl (by omega) h4 (by simp)
  rw [Int.natCast_zero, List.nil_append] at hloop
  rw [is_is (by omega), Option.bind_some, h, if_neg (by simp), hloop, Option.bind_some, pack_is (by omega) (by omega) e2, Option.bind_some, e1, packed_small hlen hr]

def refC (base : Int) : Int → List El → List Ce
  | p, [] => cellsC p (base - p).toNat
  | p, x :: r => if x.2.2.size = 0 then cellsC p (x.2.1 - p).toNat ++ refC base x.2.1 r else cellsT x.2.2 ++ refC base p r

theorem cellsC_join {a b c : Int} (h1 : a ≤ b) (h2 : b ≤ c) : cellsC a (b - a).toNat ++ cellsC b (c - b).toNat = cellsC a (c - a).toNat := by
  rw [show (c - a).toNat = (b - a).toNat + (c - b).toNat by omega, cellsC_add]
  congr 2
  omega

theorem split_loop {K : Nat} {d : List El} {base : Int} (hb : base ≤ 20000) (hl : d.length ≤ 1000) : ∀ (rest : List El) (j k : Nat) (acc : List El) (a to : Int) (pre : Option Bool), d.drop j = rest → rest.length < k → isS base to pre rest → nrm none acc → valL acc = true → 0 ≤ a → a ≤ to → to ≤ base → (cells acc).length + sumT rest ≤ a + 20000 →
    ∃ acc' a', factor_Split.l0 K d base k acc a to (j : Int) = some (acc', a') ∧ nrm none acc' ∧ valL acc' = true ∧ 0 ≤ a' ∧ a' ≤ base ∧ (cells acc').length ≤ 40000 ∧ cells acc' ++ cellsC a' (base - a').toNat = cells acc ++ (cellsC a (to - a).toNat ++ refC base to rest)
  | [], j, k, acc, a, to, pre, hd, hk, hs, hn, hv, h0, h1, h2, h3 => by
    obtain ⟨k, rfl⟩ : ∃ m, k = m + 1 := ⟨k - 1, by simp at hk; omega⟩
    have := drop_nil hd
    rw [factor_Split.l0, if_neg (by simp; omega)]
    exact ⟨acc, a, rfl, hn, hv, h0, by omega, by omega, by rw [refC, cellsC_join h1 h2]⟩
  | x :: rest, j, k, acc, a, to, pre, hd, hk, hs, hn, hv, h0, h1, h2, h3 => by
    obtain ⟨k, rfl⟩ : ∃ m, k = m + 1 := ⟨k - 1, by simp at hk; omega⟩
    obtain ⟨hj, hgd, hd'⟩ := drop_cons hd el0
    have hk' : rest.length < k := by simp at hk; omega
    have hw : IntKind.wrap .i64 ((j : Int) + 1) = ((j + 1 : Nat) : Int) := by rw [w64 (by omega) (by omega)]; omega
    have hn1 := nrm_len hn
    rw [isS] at hs
    rw [sumT] at h3
    rw [factor_Split.l0]
    simp only [Int.toNat_natCast, hgd, hw]
    rw [if_pos (by simpa using hj), if_pos ⟨by omega, by omega⟩, isCopy_is, Option.bind_some, refC]
    by_cases hz : x.2.2.size = 0
    · rw [if_pos hz] at hs ⊢
      have q1 := hs.1.1
      have q2 := hs.1.2.2.1
      have q3 := hs.1.2.2.2
      rw [decide_eq_true hz, if_pos rfl]
      obtain ⟨acc', a', e1, e2, e3, e4, e5, e6, e7⟩ := split_loop (K := K) (d := d) hb hl rest (j + 1) k acc a x.2.1 (some true) hd' hk' hs.2 hn hv h0 (by omega) q3 (by omega)
      refine ⟨acc', a', e1, e2, e3, e4, e5, e6, ?_⟩
      rw [e7, ← List.append_assoc (cellsC a _), cellsC_join h1 (by omega)]
    · rw [if_neg hz] at hs ⊢
      rw [decide_eq_false hz, if_neg (by simp), copy_is (by omega), Option.bind_some]
      obtain ⟨n1, n2⟩ := nrm_copy (f := a) (t := to) hn h0 h1
      have hc1 : (cells (mkCopy acc a to)).length = (cells acc).length + (to - a).toNat := by rw [n2, List.length_append, cellsC_len]
      have hn2 := nrm_len n1
      rw [putm_is (by omega) (by omega), Option.bind_some]
      obtain ⟨p1, p2⟩ := nrm_put (s := x.2.2) n1
      have hc2 : (cells (mkPut (mkCopy acc a to) x.2.2)).length = (cells acc).length + (to - a).toNat + x.2.2.size := by rw [p2, List.length_append, cellsT_len, hc1]
      obtain ⟨acc', a', e1, e2, e3, e4, e5, e6, e7⟩ := split_loop (K := K) (d := d) hb hl rest (j + 1) k _ to to (some false) hd' hk' hs.2 p1 (mkPut_val (mkCopy_val hv) hs.1.2.2.2) (by omega) (by omega) h2 (by omega)
      refine ⟨acc', a', e1, e2, e3, e4, e5, e6, ?_⟩
      rw [e7, p2, n2, Int.sub_self, show (0 : Int).toNat = 0 from rfl]
      simp only [cellsC, List.nil_append, List.append_assoc]

theorem split_is {K : Nat} {d : List El} {base : Int} (hK : 100000 ≤ K) (h : isD base d = true) (hs : base + sumT d ≤ 20000) :
    ∃ r, nrm none r ∧ valL r = true ∧ cells r = refC base 0 d ∧ (cells r).length ≤ 60000 ∧ factor_Split K base d = some (if r.length > 60 then (0, ([], (none, 70))) else (base, (r, (sub (dl base 0 d), 0)))) := by
  obtain ⟨h1, h2, h3, h4, h5⟩ := isD_ok h
  obtain ⟨acc', a', e1, e2, e3, e4, e5, e6, e7⟩ := split_loop (K := K) (d := d) h2 (by omega) d 0 K [] 0 0 none rfl (by omega) (isD_isS h) trivial rfl (Int.le_refl 0) (Int.le_refl 0) h1 (by simp [cells]; omega)
  rw [Int.natCast_zero] at e1
  obtain ⟨n1, n2⟩ := nrm_copy (f := a') (t := base) e2 e4 e5
  have hn := nrm_len e2
  have hc : (cells (mkCopy acc' a' base)).length ≤ 60000 := by rw [n2, List.length_append, cellsC_len]; omega
  refine ⟨_, n1, mkCopy_val e3, ?_, hc, ?_⟩
  · rw [n2, e7]; simp [cells, cellsC]
  · unfold factor_Split
    rw [(deleted_is hK h).1, Option.bind_some, if_neg (by simp), adds_is (by omega), Option.bind_some, if_pos h, w64 (by omega) (by omega), if_neg (by simp; omega)]
    unfold delta_NewMaker
    rw [Option.bind_some, e1, Option.bind_some]
    simp only
    rw [copy_is (by omega), Option.bind_some]
    unfold delta_Maker_Delta_b_ee1c6
    by_cases h6 : (mkCopy acc' a' base).length > 60
    · rw [if_pos (by simp; omega), Option.bind_some, if_pos (by rfl), if_pos h6]
    · rw [if_neg (by simp; omega), Option.bind_some, if_neg (by simp), if_neg h6]

def keepC (e : List Int) (c : Ce) : Bool := decide (c.1 < 0) || decide (e.getD c.1.toNat 0 = 0)

theorem keep_T {e : List Int} {t : ByteArray} : (cellsT t).filter (keepC e) = cellsT t := by
  apply List.filter_eq_self.2
  intro c hc
  obtain ⟨b, _, rfl⟩ := List.mem_map.1 hc
  rfl

theorem keep_C {e : List Int} {v : Int} {R : List Int} : ∀ {m a : Nat}, e.drop a = List.replicate m v ++ R → (cellsC a m).filter (keepC e) = if v = 0 then cellsC a m else []
  | 0, a, h => by simp [cellsC]
  | m + 1, a, h => by
    rw [List.replicate_succ, List.cons_append] at h
    obtain ⟨h1, h2, h3⟩ := drop_cons h 0
    have ih := keep_C (m := m) (a := a + 1) h3
    rw [cellsC_cons, show (a : Int) + 1 = ((a + 1 : Nat) : Int) by omega, List.filter_cons, ih]
    have : keepC e ((a : Int), 0) = decide (v = 0) := by
      unfold keepC
      simp only [Int.toNat_natCast]
      rw [decide_eq_false (by omega), Bool.false_or, decide_eq_decide, h2]
    rw [this]
    by_cases hv : v = 0
    · rw [decide_eq_true hv, if_pos rfl, if_pos hv, if_pos hv]
    · rw [decide_eq_false hv, if_neg (by simp), if_neg hv, if_neg hv]

theorem cellsC_two {a : Int} {m n : Nat} : cellsC a (m + n) = cellsC a m ++ cellsC (a + m) n := cellsC_add

theorem join1_loop {K : Nat} {d : List El} {e : List Int} {i : Nat} {x : El} {m : Int} (hx : d.getD i el0 = x) (hK : 100000 ≤ K) (he : e.length ≤ 20000) (h1 : x.2.1 ≤ e.length) : ∀ (n k : Nat) (l : List (Int × Int)) (acc : List El) (a : Nat), (a : Int) + n = x.2.1 → n < k → (∀ p ∈ l, 1 ≤ p.1) → sumL l ≤ 20000 → expand l = e.drop a → nrm none acc → valL acc = true → (cells acc).length + n ≤ 100000 →
    ∃ l' acc', factor_Join.l1 K d (i : Int) m k l acc (a : Int) = some (l', acc') ∧ (∀ p ∈ l', 1 ≤ p.1) ∧ sumL l' ≤ 20000 ∧ expand l' = e.drop (a + n) ∧ nrm none acc' ∧ valL acc' = true ∧ cells acc' = cells acc ++ (cellsC a n).filter (keepC e) := by
  intro n
  induction n using Nat.strongRecOn with
  | _ n ih =>
    intro k l acc a ha hk hp hsl hex hn hv hb
    obtain ⟨k, rfl⟩ : ∃ q, k = q + 1 := ⟨k - 1, by omega⟩
    rw [factor_Join.l1]
    simp only [Int.toNat_natCast, hx]
    by_cases hn0 : n = 0
    · subst hn0
      rw [if_neg (by simp; omega)]
      exact ⟨l, acc, rfl, hp, hsl, by simpa using hex, hn, hv, by simp [cellsC]⟩
    · have hal : a < e.length := by omega
      cases l with
      | nil =>
        have : e.drop a = [] := by rw [← hex]; rfl
        have := drop_nil this
        omega
      | cons g l =>
        have hg := hp g (by simp)
        have hexl := expand_len (l := g :: l) (fun p hq => by have := hp p hq; omega)
        have hgl : g.1 ≤ 20000 := by
          have : 0 ≤ sumL l := by
            have := expand_len (l := l) (fun p hq => by have := hp p (by simp [hq]); omega)
            omega
          rw [sumL] at hsl; omega
        have hw1 : IntKind.wrap .i64 (x.2.1 - (a : Int)) = x.2.1 - a := w64 (by omega) (by omega)
        rw [if_pos (by simp; omega), if_pos (by simp)]
        simp only [List.getD_cons_zero, List.set_cons_zero, hw1, mn2_eq]
        obtain ⟨q, hq⟩ : ∃ q : Nat, min g.1 (x.2.1 - (a : Int)) = q := ⟨(min g.1 (x.2.1 - (a : Int))).toNat, by omega⟩
        rw [hq]
        have hw2 : IntKind.wrap .i64 ((a : Int) + (q : Int)) = ((a + q : Nat) : Int) := by rw [w64 (by omega) (by omega)]; omega
        have hw3 : IntKind.wrap .i64 (g.1 - (q : Int)) = g.1 - q := w64 (by omega) (by omega)
        rw [hw2, hw3]
        have hlx := less_expand (g := g) (r := l) (n := q) (by omega) (by omega)
        rw [hex, Int.toNat_natCast] at hlx
        have hkc := keep_C hlx
        have hsum := less_sum (g := g) (r := l) (n := q)
        have hpos := less_pos (r := l) (n := q) hp (by omega)
        have hdr : expand (less g l q) = e.drop (a + q) := by
          rw [← List.drop_drop, hlx, List.drop_left' (by simp)]
        obtain ⟨r, hr⟩ : ∃ r, n = q + r := ⟨n - q, by omega⟩
        have hnl := nrm_len hn
        -- what is laid
        have hlay : ∃ acc1, (if (g.2 == 0) = true then (delta_Maker_Copy_bgg_11dec K m acc (a : Int) ((a + q : Nat) : Int)).bind fun r_116 => some r_116 else some acc) = some acc1 ∧ nrm none acc1 ∧ valL acc1 = true ∧ cells acc1 = cells acc ++ (cellsC a q).filter (keepC e) := by
          by_cases hg0 : g.2 = 0
          · obtain ⟨n1, n2⟩ := nrm_copy (f := (a : Int)) (t := ((a + q : Nat) : Int)) hn (by omega) (by omega)
            refine ⟨mkCopy acc a ((a + q : Nat) : Int), by rw [if_pos (by simpa using hg0), copy_is (by omega)]; rfl, n1, mkCopy_val hv, ?_⟩
            rw [n2, hkc, if_pos hg0, show (((a + q : Nat) : Int) - (a : Int)).toNat = q by omega]
          · exact ⟨acc, by rw [if_neg (by simpa using hg0)], hn, hv, by rw [hkc, if_neg hg0, List.append_nil]⟩
        obtain ⟨acc1, f1, f2, f3, f4⟩ := hlay
        have hfl : ((cellsC (a : Int) q).filter (keepC e)).length ≤ q := by
          have := List.length_filter_le (keepC e) (cellsC (a : Int) q)
          rw [cellsC_len] at this; exact this
        obtain ⟨l', acc', g1, g2, g3, g4, g5, g6, g7⟩ := ih r (by omega) k (less g l q) acc1 (a + q) (by omega) (by omega) hpos (by omega) hdr f2 f3 (by rw [f4, List.length_append]; omega)
        have hcc : cells acc' = cells acc ++ (cellsC a n).filter (keepC e) := by
          rw [g7, f4, hr, cellsC_two, List.filter_append, List.append_assoc, show (a : Int) + (q : Int) = ((a + q : Nat) : Int) by omega]
        rw [f1, Option.bind_some, if_pos (by simp)]
        refine ⟨l', acc', ?_, g2, g3, by rw [g4]; congr 1; omega, g5, g6, hcc⟩
        unfold less at g1
        by_cases hz : g.1 - (q : Int) = 0
        · rw [if_pos hz] at g1
          rw [if_pos (by simpa using hz), if_pos (by simp; omega)]
          have : List.take (((g.1 - (q : Int), g.2) :: l).length - 1) (List.drop 1 ((g.1 - (q : Int), g.2) :: l)) = l := by simp
          rw [this]
          exact g1
        · rw [if_neg hz] at g1
          rw [if_neg (by simpa using hz)]
          exact g1

theorem sumK_le {base : Int} : ∀ {r : List El} {to : Int} {pre : Option Bool}, isS base to pre r → to ≤ base → sumK r ≤ base - to
  | [], _, _, _, h => by simp only [sumK]; omega
  | x :: r, to, pre, h, h1 => by
    rw [isS] at h
    rw [sumK]
    split at h
    · have := sumK_le h.2 h.1.2.2.2
      have := h.1.1
      omega
    · have := sumK_le h.2 h1
      rw [h.1.1, h.1.2.1]; omega

theorem join_loop {K : Nat} {d : List El} {e : List Int} {base : Int} (hK : 100000 ≤ K) (he : e.length ≤ 20000) (hb : base = e.length) (hl : d.length ≤ 1000) : ∀ (rest : List El) (j k : Nat) (l : List (Int × Int)) (acc : List El) (to : Nat) (pre : Option Bool), d.drop j = rest → rest.length < k → isS base to pre rest → sumK rest = base - to → (to : Int) ≤ base → (∀ p ∈ l, 1 ≤ p.1) → sumL l ≤ 20000 → expand l = e.drop to → nrm none acc → valL acc = true → (cells acc).length + (cells rest).length ≤ 90000 →
    ∃ acc', factor_Join.l0 K d base k l acc (j : Int) = some acc' ∧ nrm none acc' ∧ valL acc' = true ∧ cells acc' = cells acc ++ (cells rest).filter (keepC e)
  | [], j, k, l, acc, to, pre, hd, hk, hs, hsk, hto, hp, hsl, hex, hn, hv, hcl => by
    obtain ⟨k, rfl⟩ : ∃ m, k = m + 1 := ⟨k - 1, by simp at hk; omega⟩
    have := drop_nil hd
    rw [factor_Join.l0, if_neg (by simp; omega)]
    exact ⟨acc, rfl, hn, hv, by simp [cells]⟩
  | x :: rest, j, k, l, acc, to, pre, hd, hk, hs, hsk, hto, hp, hsl, hex, hn, hv, hcl => by
    obtain ⟨k, rfl⟩ : ∃ m, k = m + 1 := ⟨k - 1, by simp at hk; omega⟩
    obtain ⟨hj, hgd, hd'⟩ := drop_cons hd el0
    have hk' : rest.length < k := by simp at hk; omega
    have hw : IntKind.wrap .i64 ((j : Int) + 1) = ((j + 1 : Nat) : Int) := by rw [w64 (by omega) (by omega)]; omega
    have hn1 := nrm_len hn
    rw [isS] at hs
    rw [sumK] at hsk
    rw [cells_cons, List.length_append, cE_len] at hcl
    rw [factor_Join.l0]
    simp only [hw]
    rw [if_pos (by simpa using hj), if_pos ⟨by omega, by omega⟩]
    simp only [Int.toNat_natCast, hgd]
    rw [putm_is (by omega) (by omega), Option.bind_some]
    obtain ⟨p1, p2⟩ := nrm_put (s := x.2.2) hn
    have hcp : (cells (mkPut acc x.2.2)).length = (cells acc).length + x.2.2.size := by rw [p2, List.length_append, cellsT_len]
    by_cases hz : x.2.2.size = 0
    · rw [if_pos hz] at hs
      have q1 := hs.1.1
      have q2 := hs.1.2.2.1
      have q3 := hs.1.2.2.2
      have hle := sumK_le hs.2 q3
      have hx1 : x.1 = to := by omega
      obtain ⟨q, hq⟩ : ∃ q : Nat, x.2.1 = q := ⟨x.2.1.toNat, by omega⟩
      obtain ⟨l', acc1, e1, e2, e3, e4, e5, e6, e7⟩ := join1_loop (K := K) (d := d) (e := e) (i := j) (x := x) (m := base) hgd hK he (by omega) (q - to) K l (mkPut acc x.2.2) to (by omega) (by omega) hp hsl hex p1 (by rw [mkPut_0 hz]; exact hv) (by omega)
      rw [hx1, e1, Option.bind_some]
      simp only
      have hfl : ((cellsC (to : Int) (q - to)).filter (keepC e)).length ≤ q - to := by
        have := List.length_filter_le (keepC e) (cellsC (to : Int) (q - to))
        rw [cellsC_len] at this; exact this
      obtain ⟨acc', f1, f2, f3, f4⟩ := join_loop (K := K) (d := d) hK he hb hl rest (j + 1) k l' acc1 q (some true) hd' hk' (by rw [← hq]; exact hs.2) (by omega) (by omega) e2 e3 (by rw [e4]; congr 1; omega) e5 e6 (by rw [e7, List.length_append, hcp]; omega)
      refine ⟨acc', f1, f2, f3, ?_⟩
      rw [f4, e7, p2, cells_cons, cE, List.filter_append, List.filter_append, keep_T, hx1, hq, show ((q : Int) - (to : Int)).toNat = q - to by omega]
      simp only [List.append_assoc]
    · rw [if_neg hz] at hs
      have hK1 : K = (K - 1) + 1 := by omega
      have hl1 : factor_Join.l1 K d (j : Int) base K l (mkPut acc x.2.2) x.1 = some (l, mkPut acc x.2.2) := by
        rw [show factor_Join.l1 K d (j : Int) base K l (mkPut acc x.2.2) x.1 = factor_Join.l1 K d (j : Int) base ((K - 1) + 1) l (mkPut acc x.2.2) x.1 by rw [← hK1], factor_Join.l1]
        simp only [Int.toNat_natCast, hgd]
        rw [if_neg (by rw [hs.1.1, hs.1.2.1]; simp)]
      rw [hl1, Option.bind_some]
      simp only
      obtain ⟨acc', f1, f2, f3, f4⟩ := join_loop (K := K) (d := d) hK he hb hl rest (j + 1) k l (mkPut acc x.2.2) to (some false) hd' hk' hs.2 (by rw [hs.1.1, hs.1.2.1] at hsk; omega) hto hp hsl hex p1 (mkPut_val hv hs.1.2.2.2) (by omega)
      refine ⟨acc', f1, f2, f3, ?_⟩
      rw [f4, p2, cells_cons, cE, List.filter_append, List.filter_append, keep_T, hs.1.1, hs.1.2.1, show ((0 : Int) - 0).toNat = 0 from rfl]
      simp [cellsC]

theorem places_is {K : Nat} {e : List Int} (hl : e.length ≤ 20000) (hr : (rle e).length ≤ 200) : factor_places K (sub e) = some ((e.length : Int), rle e) := by
  unfold factor_places
  rw [if_neg (by simp [sub]), segs_is hl hr, Option.bind_some, if_pos ⟨by omega, by omega, by omega, by omega⟩, Option.bind_some, len_is, Option.bind_some]
  congr 2
  unfold putAt
  rw [Int.toNat_natCast, List.length_replicate, List.take_of_length_le (Nat.le_refl _), List.take_zero, List.nil_append, List.drop_of_length_le (by rw [List.length_replicate]; omega), List.append_nil]

theorem join_is {K : Nat} {d : List El} {e : List Int} {base : Int} (hK : 100000 ≤ K) (h : isD base d = true) (hk : sumK d = base) (he : (e.length : Int) = base) (hr : (rle e).length ≤ 200) :
    ∃ r, nrm none r ∧ valL r = true ∧ cells r = (cells d).filter (keepC e) ∧ factor_Join K base d (sub e) = some (if r.length > 60 then (0, ([], 70)) else (base, (r, 0))) := by
  obtain ⟨h1, h2, h3, h4, h5⟩ := isD_ok h
  have hcd := cells_len h4
  obtain ⟨f1, f2, f3⟩ := rle_facts e
  unfold factor_Join
  obtain ⟨r, r1, r2, r3, r4⟩ := join_loop (K := K) (d := d) (e := e) (base := base) hK (by omega) he.symm (by omega) d 0 K (rle e) [] 0 none rfl (by omega) (isD_isS h) (by rw [hk]; simp) (by omega) (rle_pos e) (by omega) (by rw [f2]; rfl) trivial rfl (by simp [cells]; omega)
  rw [Int.natCast_zero] at r1
  refine ⟨r, r2, r3, by rw [r4]; rfl, ?_⟩
  rw [is_is (by omega), Option.bind_some, h, if_neg (by simp), drops_is (by omega), Option.bind_some, if_pos h, Option.bind_some, if_neg (by simp; omega), places_is (by omega) hr, Option.bind_some, if_neg (by simpa using he)]
  unfold delta_NewMaker
  rw [Option.bind_some]
  simp only
  rw [r1, Option.bind_some]
  unfold delta_Maker_Delta_b_ee1c6
  by_cases h6 : r.length > 60
  · rw [if_pos (by simp; omega), Option.bind_some, if_pos h6]
  · rw [if_neg (by simp; omega), Option.bind_some, if_neg h6]

theorem joinBad_is {K : Nat} {d : List El} {base : Int} {s : Sub} (hK : 100000 ≤ K) (h : ¬ (isD base d = true ∧ sumK d = base)) : factor_Join K base d s = some (0, ([], 12)) := by
  unfold factor_Join
  rw [is_is (by omega), Option.bind_some]
  by_cases hd : isD base d = true
  · have hle := sumK_le (isD_isS hd) (isD_ok hd).1
    have hne : sumK d ≠ base := fun e => h ⟨hd, e⟩
    rw [hd, if_neg (by simp), drops_is (by omega), Option.bind_some, if_pos hd, Option.bind_some, if_pos (by simp; omega)]
  · rw [Bool.not_eq_true] at hd
    rw [hd, if_pos (by rfl), Option.bind_some, if_pos rfl]

theorem joinLen_is {K : Nat} {d : List El} {e : List Int} {base : Int} (hK : 100000 ≤ K) (h : isD base d = true) (hk : sumK d = base) (hl : e.length ≤ 20000) (hr : (rle e).length ≤ 200) (he : (e.length : Int) ≠ base) : factor_Join K base d (sub e) = some (0, ([], 80)) := by
  unfold factor_Join
  rw [is_is (by omega), Option.bind_some, h, if_neg (by simp), drops_is (by omega), Option.bind_some, if_pos h, Option.bind_some, if_neg (by simp; omega), places_is hl hr, Option.bind_some, if_pos (by rw [bne_iff_ne]; exact he)]

theorem deln_is {K : Nat} : factor_Deleted_sgn K (-1) = some (none, 12) := by
  unfold factor_Deleted_sgn
  rw [isn_is, Option.bind_some, if_pos (by rfl)]

theorem known12 {K : Nat} (hK : 100000 ≤ K) : palinodelaw12_known K = some true := by
  have b1 : bldD 3 [((1 : Int), ((2 : Int), (ByteArray.mk #[120])))] = (3, ([(0, (1, ByteArray.empty)), (0, (0, ByteArray.mk #[120])), (2, (3, ByteArray.empty))], 0)) := by decide +kernel
  have e1 : delta_Build_gr K 3 [((1 : Int), ((2 : Int), (ByteArray.mk #[120])))] = some (3, ([(0, (1, ByteArray.empty)), (0, (0, ByteArray.mk #[120])), (2, (3, ByteArray.empty))], 0)) := by
    rw [build_is (by simp) (by simp; omega) (by intro x hx; simp only [List.mem_singleton] at hx; subst hx; show 1 + 10 ≤ K ∧ 1 ≤ 1000000000000; omega), b1]
  have d1 : isD 3 [(0, (1, ByteArray.empty)), (0, (0, ByteArray.mk #[120])), (2, (3, ByteArray.empty))] = true := by decide +kernel
  have d2 : isD 3 [(0, (1, ByteArray.empty)), (0, (0, ByteArray.mk #[120])), (1, (3, ByteArray.empty))] = true := by decide +kernel
  obtain ⟨r, r1, r2, r3, r4, r5⟩ := split_is hK d1 (by decide +kernel)
  have hr : r = [(0, (1, ByteArray.empty)), (0, (0, ByteArray.mk #[120])), (1, (3, ByteArray.empty))] := cells_inj r1 (isD_nrm d2) (by rw [r3]; decide +kernel)
  have hdl : dl 3 0 [(0, (1, ByteArray.empty)), (0, (0, ByteArray.mk #[120])), (2, (3, ByteArray.empty))] = [0, 1, 0] := by decide +kernel
  rw [hr, hdl, if_neg (by simp)] at r5
  obtain ⟨j, j1, j2, j3, j4⟩ := join_is (e := [0, 1, 0]) hK d2 (by decide +kernel) rfl (by decide +kernel)
  have hj : j = [(0, (1, ByteArray.empty)), (0, (0, ByteArray.mk #[120])), (2, (3, ByteArray.empty))] := cells_inj j1 (isD_nrm d1) (by rw [j3]; decide +kernel)
  rw [hj, if_neg (by simp)] at j4
  have hbad := joinBad_is (s := sub [0, 1, 0]) hK (d := [(0, (1, ByteArray.empty)), (0, (0, ByteArray.mk #[120])), (2, (3, ByteArray.empty))]) (base := 3) (by rintro ⟨_, h⟩; revert h; decide +kernel)
  have hins := (inserted_is hK d1).1
  have hi : insC (cells [(0, (1, ByteArray.empty)), (0, (0, ByteArray.mk #[120])), (2, (3, ByteArray.empty))]) = [0, 1, 0] := by decide +kernel
  rw [hi] at hins
  have hc := count_is (K := K) (e := [0, 1, 0]) (i := 1) (by omega) (by simp) (by decide +kernel)
  have hs := size_is (K := K) (e := [0, 1, 0]) (by omega) (by simp) (by decide +kernel)
  have c1 : at_ [0, 1, 0] 1 = 1 := by decide +kernel
  have s1 : pos [0, 1, 0] = 1 := by decide +kernel
  unfold palinodelaw12_known
  rw [e1, Option.bind_some]
  simp only
  rw [if_neg (by simp), r5, Option.bind_some]
  simp only
  rw [j4, Option.bind_some, hbad, Option.bind_some, hins, Option.bind_some, deln_is, Option.bind_some]
  simp only
  rw [hc, hs, c1, s1, dsame_is (by simp) (by simp) (by simp; omega)]
  simp

/-- Ones ahead of a place, then noughts. -/
def f1 (x : Int) : Int → Nat → List Int
  | _, 0 => []
  | a, n + 1 => (if a < x then 1 else 0) :: f1 x (a + 1) n

theorem refC_keep2 {base : Int} : ∀ {r : List El} {p : Nat} {pre : Option Bool} {P : List Int}, isS base p pre r → (p : Int) ≤ base → P.length = p → (refC base p r).filter (keepC (P ++ dl base p r)) = cells r
  | [], p, pre, P, h, h1, hP => by
    rw [refC, dl]
    have := keep_C (e := P ++ List.replicate (base - (p : Int)).toNat 1) (v := 1) (R := []) (m := (base - (p : Int)).toNat) (a := p) (by rw [List.append_nil, List.drop_left' hP])
    rw [this, if_neg (by omega)]; rfl
  | x :: r, p, pre, P, h, h1, hP => by
    rw [isS] at h
    rw [refC, dl, cells_cons, cE]
    by_cases hz : x.2.2.size = 0
    · rw [if_pos hz] at h ⊢
      have q1 := h.1.1
      have q2 := h.1.2.2.1
      have q3 := h.1.2.2.2
      obtain ⟨f, hf⟩ : ∃ f : Nat, x.1 = f := ⟨x.1.toNat, by omega⟩
      obtain ⟨t, ht⟩ : ∃ t : Nat, x.2.1 = t := ⟨x.2.1.toNat, by omega⟩
      rw [if_pos hz, hf, ht, show ((t : Int) - (p : Int)).toNat = (f - p) + (t - f) by omega, show ((f : Int) - (p : Int)).toNat = f - p by omega, show ((t : Int) - (f : Int)).toNat = t - f by omega, cellsC_add, show (p : Int) + ((f - p : Nat) : Int) = (f : Int) by omega, List.filter_append, List.filter_append]
      have ih := refC_keep2 (r := r) (p := t) (P := P ++ (List.replicate (f - p) 1 ++ List.replicate (t - f) 0)) (by rw [← ht]; exact h.2) (by omega) (by simp; omega)
      rw [List.append_assoc P] at ih
      have k1 := keep_C (e := P ++ (List.replicate (f - p) 1 ++ List.replicate (t - f) 0 ++ dl base t r)) (v := 1) (R := List.replicate (t - f) 0 ++ dl base t r) (m := f - p) (a := p) (by rw [List.drop_left' hP, List.append_assoc])
      have k2 := keep_C (e := P ++ (List.replicate (f - p) 1 ++ List.replicate (t - f) 0 ++ dl base t r)) (v := 0) (R := dl base t r) (m := t - f) (a := f) (by rw [← List.append_assoc, ← List.append_assoc, List.append_assoc (P ++ _), List.drop_left' (by simp; omega)])
      rw [k1, k2, ih, if_neg (by omega), if_pos rfl, cellsT_nil hz, List.nil_append]
    · rw [if_neg hz] at h ⊢
      rw [if_neg hz, List.filter_append, keep_T, refC_keep2 h.2 h1 hP, h.1.1, h.1.2.1, show ((0 : Int) - 0).toNat = 0 from rfl]
      simp [cellsC]

theorem refC_all {base : Int} : ∀ {r : List El} {p : Int} {pre : Option Bool}, isS base p pre r → 0 ≤ p → p ≤ base → sumK r = base - p → refC base p r = cells r ∧ dl base p r = List.replicate (base - p).toNat 0
  | [], p, pre, h, h0, h1, hk => by
    rw [sumK] at hk
    rw [refC, dl, show (base - p).toNat = 0 by omega]
    exact ⟨rfl, rfl⟩
  | x :: r, p, pre, h, h0, h1, hk => by
    rw [isS] at h
    rw [sumK] at hk
    rw [refC, dl, cells_cons, cE]
    by_cases hz : x.2.2.size = 0
    · rw [if_pos hz] at h
      have q1 := h.1.1
      have q2 := h.1.2.2.1
      have q3 := h.1.2.2.2
      have hle := sumK_le h.2 q3
      have hx : x.1 = p := by omega
      obtain ⟨e1, e2⟩ := refC_all (p := x.2.1) h.2 (by omega) q3 (by omega)
      rw [if_pos hz, if_pos hz, e1, e2, hx, cellsT_nil hz, List.nil_append]
      refine ⟨rfl, ?_⟩
      rw [show (p - p).toNat = 0 by omega, List.replicate_zero, List.nil_append, List.replicate_append_replicate]
      congr 1
      omega
    · rw [if_neg hz] at h
      obtain ⟨e1, e2⟩ := refC_all (p := p) h.2 h0 h1 (by rw [h.1.1, h.1.2.1] at hk; omega)
      rw [if_neg hz, if_neg hz, e1, e2, h.1.1, h.1.2.1]
      refine ⟨?_, rfl⟩
      rw [show ((0 : Int) - 0).toNat = 0 from rfl]
      simp [cellsC]

theorem refC_copy {base : Int} : ∀ {r : List El} {p : Int} {pre : Option Bool}, isS base p pre r → 0 ≤ p → p ≤ base → sumT r = 0 → refC base p r = cellsC p (base - p).toNat
  | [], p, pre, h, h0, h1, hk => by rw [refC]
  | x :: r, p, pre, h, h0, h1, hk => by
    rw [isS] at h
    rw [sumT] at hk
    have hz : x.2.2.size = 0 := by omega
    rw [if_pos hz] at h
    have q1 := h.1.1
    have q2 := h.1.2.2.1
    have q3 := h.1.2.2.2
    rw [refC, if_pos hz, refC_copy (p := x.2.1) h.2 (by omega) q3 (by omega), cellsC_join (by omega) q3]

theorem joinNil_is {K : Nat} (hK : 100000 ≤ K) : factor_Join_sgrp K 0 [] = some (0, ([], 0)) := by
  unfold factor_Join_sgrp
  have h : isD 0 [] = true := by decide +kernel
  obtain ⟨k, rfl⟩ : ∃ k, K = k + 1 := ⟨K - 1, by omega⟩
  rw [is_is (by omega), Option.bind_some, h, if_neg (by simp), drops_is (by omega), Option.bind_some, if_pos h, Option.bind_some]
  unfold factor_places_p delta_NewMaker delta_Maker_Delta_b_ee1c6
  rw [if_neg (by decide), Option.bind_some]
  simp only
  rw [if_neg (by simp), Option.bind_some, factor_Join_sgrp.l0, if_neg (by simp), Option.bind_some, if_neg (by simp), Option.bind_some]

theorem build2_is {K : Nat} {n a b : Int} {t : ByteArray} (hK : t.size + 10 ≤ K) (ht : t.size ≤ 1000) : delta_Build_gr K n [(a, (b, t))] = some (bldD n [(a, (b, t))]) :=
  build_is (by simp) (by simp; omega) (by intro z hz; rw [List.mem_singleton.1 hz]; show t.size + 10 ≤ K ∧ t.size ≤ 1000000000000; omega)

theorem one3_len {n : Int} {p q : Int} {t : ByteArray} (h : (bldD n [(p, (q, t))]).2.2 = 0) : (bldD n [(p, (q, t))]).2.1.length ≤ 3 := by
  rw [bldD_is h]
  have l1 := mkCopy_len (l := []) (f := 0) (t := p)
  have l2 := mkPut_len (l := mkCopy [] 0 p) (s := t)
  have l3 := mkCopy_len (l := mkPut (mkCopy [] 0 p) t) (f := q) (t := n)
  simp only [List.length_nil] at l1
  show (mkCopy (mkPut (mkCopy [] 0 p) t) q n).length ≤ 3
  omega

/-- What only puts in. -/
theorem plainP {K k a : Nat} {t : ByteArray} (hK : 100000 ≤ K) (hk : k ≤ 200) (ha : a ≤ k) (ht : t.size ≤ 40) (hv : uvalid t = true) :
    factor_Split K k (bldD k [((a : Int), ((a : Int), t))]).2.1 = some ((k : Int), ((bldD k [((a : Int), ((a : Int), t))]).2.1, (sub (List.replicate k 0), 0))) := by
  obtain ⟨a1, a2, a3, a4⟩ := (one_is (n := k) (a := a) (b := a) (t := t) (Nat.le_refl _) ha (by omega) (by omega)).2 hv
  obtain ⟨c1, c2, c3, c4, c5, c6, c7, c8, c9, c10⟩ := built_ok (s := []) a1
  have hsk : sumK (bldD k [((a : Int), ((a : Int), t))]).2.1 = k := by rw [c9]; simp [sumK]
  have hst : sumT (bldD k [((a : Int), ((a : Int), t))]).2.1 = t.size := by rw [c8]; simp [sumT]
  have l3 := one3_len a1
  obtain ⟨r, r1, r2, r3, r4, r5⟩ := split_is hK a3 (by rw [hst]; omega)
  obtain ⟨e1, e2⟩ := refC_all (isD_isS a3) (Int.le_refl 0) (by omega) (by omega)
  have hr : r = (bldD k [((a : Int), ((a : Int), t))]).2.1 := cells_inj r1 (isD_nrm a3) (by rw [r3, e1])
  rw [r5, hr, if_neg (by omega), e2, Int.sub_zero, Int.toNat_natCast]

/-- What only takes away. -/
theorem plainQ {K k a b : Nat} (hK : 100000 ≤ K) (hk : k ≤ 200) (hab : a ≤ b) (hb : b ≤ k) :
    ∃ e, factor_Split K k (bldD k [((a : Int), ((b : Int), ByteArray.empty))]).2.1 = some ((k : Int), (mkCopy [] 0 k, (sub e, 0))) ∧ e.length = k ∧ (rle e).length ≤ 200 ∧ pos e = b - a ∧ factor_Join K k (mkCopy [] 0 k) (sub e) = some ((k : Int), ((bldD k [((a : Int), ((b : Int), ByteArray.empty))]).2.1, 0)) := by
  obtain ⟨a1, a2, a3, a4⟩ := (one_is (n := k) (a := a) (b := b) (t := ByteArray.empty) hab hb (by omega) (by rw [empty_size]; omega)).2 rfl
  obtain ⟨c1, c2, c3, c4, c5, c6, c7, c8, c9, c10⟩ := built_ok (s := []) a1
  have hsk : sumK (bldD k [((a : Int), ((b : Int), ByteArray.empty))]).2.1 = k - (b - a) := by rw [c9]; simp [sumK]
  have hst : sumT (bldD k [((a : Int), ((b : Int), ByteArray.empty))]).2.1 = 0 := by rw [c8]; simp [sumT]
  have l3 := one3_len a1
  have hS := isD_isS a3
  obtain ⟨r, r1, r2, r3, r4, r5⟩ := split_is hK a3 (by rw [hst]; omega)
  have e1 := refC_copy hS (Int.le_refl 0) (by omega) hst
  obtain ⟨k1, k2⟩ := keep_cells (n := (k : Int)) (by omega)
  have hr : r = mkCopy [] 0 k := cells_inj r1 k1 (by rw [r3, e1, k2, Int.sub_zero])
  obtain ⟨d1, d2, d3⟩ := deleted_is hK a3
  have hdl := dl_len hS (Int.le_refl 0) (by omega)
  have hp := pos_dl hS (Int.le_refl 0) (by omega)
  have hkl : (mkCopy [] 0 (k : Int)).length ≤ 1 := by rw [mkCopy_nil]; split <;> simp
  rw [hr, if_neg (by omega)] at r5
  refine ⟨dl k 0 (bldD k [((a : Int), ((b : Int), ByteArray.empty))]).2.1, r5, by omega, d3, by omega, ?_⟩
  have hkD := keep_D (n := (k : Int)) (by omega) (by omega)
  have hkk : sumK (mkCopy [] 0 (k : Int)) = k := by rw [mkCopy_sumK]; simp [sumK]
  obtain ⟨j, j1, j2, j3, j4⟩ := join_is (K := K) (e := dl k 0 (bldD k [((a : Int), ((b : Int), ByteArray.empty))]).2.1) hK hkD hkk (by omega) d3
  have hj : j = (bldD k [((a : Int), ((b : Int), ByteArray.empty))]).2.1 := by
    apply cells_inj j1 (isD_nrm a3)
    have hkp := refC_keep2 (base := (k : Int)) (r := (bldD k [((a : Int), ((b : Int), ByteArray.empty))]).2.1) (p := 0) (P := []) (by rw [Int.natCast_zero]; exact hS) (by omega) rfl
    rw [Int.natCast_zero, e1, List.nil_append, Int.sub_zero] at hkp
    rw [j3, k2, hkp]
  rw [j4, hj, if_neg (by omega)]

theorem FactorPlain_pure (n f t : Int) (s : ByteArray) (on : Kd.ok (.int .u8) n) (of : Kd.ok (.int .u8) f) (ot : Kd.ok (.int .u8) t) (os : Kd.ok .str s) : ∃ K, palinodelaw12_FactorPlain K n f t s = some true := by
  refine ⟨200000, ?_⟩
  have hn := tmod_u8 (m := 100) (bounds_u8 on).1 (by omega)
  have bf := bounds_u8 of
  have bt := bounds_u8 ot
  clear on of ot os
  unfold palinodelaw12_FactorPlain
  rw [known12 (by omega), Option.bind_some, if_neg (by simp)]
  by_cases hs : s.size > 40
  · rw [if_pos (by simp; omega)]
  · rw [if_neg (by simp; omega), w64 (n := Int.tmod n 100) (by omega) (by omega), w64 (n := Int.tmod n 100 + 1) (by omega) (by omega), w64 (n := Int.tmod n 100 + 1 + 1) (by omega) (by omega), w64 (n := f) (by omega) (by omega), w64 (n := t) (by omega) (by omega)]
    obtain ⟨k, hk⟩ : ∃ k : Nat, Int.tmod n 100 + 1 = k := ⟨(Int.tmod n 100 + 1).toNat, by omega⟩
    rw [hk]
    have hf := tmod_u8 (m := (k : Int) + 1) bf.1 (by omega)
    have ht := tmod_u8 (m := (k : Int) + 1) bt.1 (by omega)
    have hab : 0 ≤ mn2 (Int.tmod f ((k : Int) + 1)) (Int.tmod t ((k : Int) + 1)) ∧ mn2 (Int.tmod f ((k : Int) + 1)) (Int.tmod t ((k : Int) + 1)) ≤ mx2 (Int.tmod f ((k : Int) + 1)) (Int.tmod t ((k : Int) + 1)) ∧ mx2 (Int.tmod f ((k : Int) + 1)) (Int.tmod t ((k : Int) + 1)) ≤ k := by
      rw [mn2_eq, mx2_eq]; omega
    generalize mn2 (Int.tmod f ((k : Int) + 1)) (Int.tmod t ((k : Int) + 1)) = a at hab ⊢
    generalize mx2 (Int.tmod f ((k : Int) + 1)) (Int.tmod t ((k : Int) + 1)) = b at hab ⊢
    obtain ⟨a, rfl⟩ : ∃ m : Nat, a = m := ⟨a.toNat, by omega⟩
    obtain ⟨b, rfl⟩ : ∃ m : Nat, b = m := ⟨b.toNat, by omega⟩
    have hone := one_is (n := k) (a := a) (b := a) (t := s) (Nat.le_refl _) (by omega) (by omega) (by omega)
    have hcut := (one_is (n := k) (a := a) (b := b) (t := ByteArray.empty) (by omega) (by omega) (by omega) (by rw [empty_size]; omega)).2 rfl
    rw [if_pos (by omega), build2_is (by omega) (by omega), Option.bind_some, build2_is (by rw [empty_size]; omega) (by rw [empty_size]; omega), Option.bind_some]
    cases hv : uvalid s with
    | false =>
      have h12 := hone.1 hv
      rw [h12, if_pos (by rfl), Option.bind_some, if_pos rfl]
      rfl
    | true =>
      obtain ⟨a1, a2, a3, a4⟩ := hone.2 hv
      obtain ⟨b1, b2, b3, b4⟩ := hcut
      have hP := plainP (K := 200000) (k := k) (a := a) (t := s) (by omega) (by omega) (by omega) (by omega) hv
      obtain ⟨e, q1, q2, q3, q4, q5⟩ := plainQ (K := 200000) (k := k) (a := a) (b := b) (by omega) (by omega) (by omega) (by omega)
      have l1 := one3_len a1
      have l2 := one3_len b1
      have hkD := keep_D (n := (k : Int)) (by omega) (by omega)
      have hkk : sumK (mkCopy [] 0 (k : Int)) = k := by rw [mkCopy_sumK]; simp [sumK]
      have hkl : (mkCopy [] 0 (k : Int)).length ≤ 1 := by rw [mkCopy_nil]; split <;> simp
      have hlen := joinLen_is (K := 200000) (e := List.replicate (k + 1) 0) (by omega) hkD hkk (by simp; omega) (Nat.le_trans rle_reps (by omega)) (by simp; omega)
      have hz : mkCopy [] 0 (0 : Int) = [] := by rw [mkCopy_nil, if_pos rfl]
      have hsz := size_is (K := 200000) (e := e) (by omega) (by omega) q3
      have hem := empty_is (K := 200000) (e := List.replicate k 0) (by omega) (by simp; omega) (Nat.le_trans rle_reps (by omega))
      have hnw := new_is (K := 200000) (n := (k : Int) + 1) (by omega) (by omega) (by omega)
      rw [show ((k : Int) + 1).toNat = k + 1 by omega] at hnw
      rw [if_neg (by simpa using a1), Option.bind_some, if_neg (by simpa using b1), a2, b2, hP, Option.bind_some, q1, Option.bind_some, keepN_is (by omega) (by omega), Option.bind_some]
      simp only
      rw [q5, Option.bind_some, Option.bind_some, hnw, Option.bind_some, hlen, Option.bind_some, keepN_is (Int.le_refl 0) (by omega), Option.bind_some]
      simp only
      rw [hz, joinNil_is (by omega), Option.bind_some, hem, hsz, len_is]
      simp only [beq_self_eq_true, if_true, Option.bind_some]
      rw [dsame_is (by omega) (by omega) (by omega), Option.bind_some, decide_eq_true ⟨rfl, rfl⟩, if_pos rfl]
      rw [show (pos (List.replicate k (0 : Int)) == 0) = true by rw [pos_reps]; simp, if_pos rfl, if_pos (by simp), dsame_is (by omega) (by omega) (by omega), Option.bind_some, decide_eq_true ⟨rfl, rfl⟩, if_pos rfl, w64 (by omega) (by omega), if_pos (by rw [beq_iff_eq]; omega), dsame_is (by omega) (by omega) (by omega), Option.bind_some, decide_eq_true ⟨rfl, rfl⟩, if_pos rfl, dsame_is (by simp) (by simp) (by simp), Option.bind_some]
      simp

end Go.Pal
