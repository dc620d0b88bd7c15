/- Whatever runs, whatever places changed: each error; counts, runs, sizes, behind each, are those of the row of counts beside it; elder ones stay. -/
import Derived.Test.YtlogcamkdjdocaaFunSubsetPlays
namespace Go.Pal
open Go
theorem w64 {n : Int} (h1 : -9223372036854775808 ≤ n) (h2 : n < 9223372036854775808) : IntKind.wrap .i64 n = n := by
  simp only [IntKind.wrap, IntKind.bits, IntKind.signed]
  simp
  omega

theorem drop_cons {α : Type} {l : List α} {j : Nat} {g : α} {r : List α} (h : l.drop j = g :: r) (d : α) : j < l.length ∧ l.getD j d = g ∧ l.drop (j + 1) = r := by
  have hj : j < l.length := by
    rcases Nat.lt_or_ge j l.length with h' | h'
    · exact h'
    · rw [List.drop_eq_nil_of_le h'] at h; cases h
  rw [List.drop_eq_getElem_cons hj] at h
  obtain ⟨h1, h2⟩ := List.cons.inj h
  exact ⟨hj, by simp [List.getD, hj, h1], h2⟩

theorem drop_nil {α : Type} {l : List α} {j : Nat} (h : l.drop j = []) : l.length ≤ j := List.drop_eq_nil_iff.1 h

/-- One run more behind a row of runs. -/
def push (acc : List (Int × Int)) (g : Int × Int) : List (Int × Int) :=
  if acc ≠ [] ∧ (acc.getD (acc.length - 1) (0, 0)).2 = g.2 then acc.set (acc.length - 1) ((acc.getD (acc.length - 1) (0, 0)).1 + g.1, (acc.getD (acc.length - 1) (0, 0)).2) else acc ++ [g]

def packA : List (Int × Int) → Int → List (Int × Int) → Option (List (Int × Int) × Int)
  | acc, len, [] => some (acc, len)
  | acc, len, g :: rest => if g.1 = 0 then packA acc len rest else if g.1 > 20000 - len then none else packA (push acc g) (len + g.1) rest

theorem push_nil (g : Int × Int) : push [] g = [g] := rfl

theorem push_app (l : List (Int × Int)) (p g : Int × Int) : push (l ++ [p]) g = if p.2 = g.2 then l ++ [(p.1 + g.1, p.2)] else l ++ [p] ++ [g] := by
  unfold push
  have e1 : (l ++ [p]).length - 1 = l.length := by simp
  have e2 : (l ++ [p]).getD l.length (0, 0) = p := by simp [List.getD]
  rw [e1, e2]
  by_cases h : p.2 = g.2
  · rw [if_pos ⟨by simp, h⟩, if_pos h, List.set_append_right _ _ (Nat.le_refl _)]
    simp
  · rw [if_neg (fun h' => h h'.2), if_neg h]

theorem split_last {α : Type} : ∀ {l : List α}, l ≠ [] → ∃ m x, l = m ++ [x] := by
  intro l h
  exact ⟨l.dropLast, l.getLast h, (List.dropLast_concat_getLast h).symm⟩

theorem push_len {acc : List (Int × Int)} {g : Int × Int} : (push acc g).length ≤ acc.length + 1 := by
  unfold push; split <;> simp

def sumL : List (Int × Int) → Int
  | [] => 0
  | p :: l => p.1 + sumL l

theorem sumL_app : ∀ {l r : List (Int × Int)}, sumL (l ++ r) = sumL l + sumL r
  | [], r => by simp [sumL]
  | p :: l, r => by simp only [List.cons_append, sumL, sumL_app]; omega

theorem sumL_push {acc : List (Int × Int)} {g : Int × Int} : sumL (push acc g) = sumL acc + g.1 := by
  by_cases h : acc = []
  · subst h; simp [push_nil, sumL]
  · obtain ⟨l, p, rfl⟩ := split_last h
    rw [push_app]
    split <;> simp only [sumL_app, sumL] <;> omega

theorem nonneg_push {acc : List (Int × Int)} {g : Int × Int} (ha : ∀ p ∈ acc, 0 ≤ p.1) (hg : 0 ≤ g.1) : ∀ p ∈ push acc g, 0 ≤ p.1 := by
  by_cases h : acc = []
  · subst h; simp [push_nil]; exact hg
  · obtain ⟨l, p, rfl⟩ := split_last h
    have hp := ha p (by simp)
    have hl : ∀ q ∈ l, 0 ≤ q.1 := fun q hq => ha q (by simp [hq])
    rw [push_app]
    intro q hq
    split at hq
    · rcases List.mem_append.1 hq with hq | hq
      · exact hl q hq
      · simp only [List.mem_singleton] at hq; subst hq; show 0 ≤ p.1 + g.1; omega
    · rcases List.mem_append.1 hq with hq | hq
      · exact ha q hq
      · simp only [List.mem_singleton] at hq; subst hq; exact hg

theorem le_sumL : ∀ {l : List (Int × Int)}, (∀ p ∈ l, 0 ≤ p.1) → 0 ≤ sumL l ∧ ∀ p ∈ l, p.1 ≤ sumL l
  | [], _ => ⟨by simp [sumL], fun p hp => by cases hp⟩
  | q :: l, h => by
    obtain ⟨h1, h2⟩ := le_sumL (l := l) fun p hp => h p (by simp [hp])
    have hq := h q (by simp)
    refine ⟨by simp only [sumL]; omega, fun p hp => ?_⟩
    simp only [sumL]
    rcases List.mem_cons.1 hp with rfl | hp
    · omega
    · have := h2 p hp; omega

theorem pack_loop {K : Nat} {segs : List (Int × Int)} : ∀ (rest : List (Int × Int)) (j k : Nat) (acc : List (Int × Int)) (len : Int), segs.drop j = rest → rest.length < k → acc.length ≤ j → segs.length < 1000000000000 → 0 ≤ len → len ≤ 20000 → (∀ g ∈ rest, 0 ≤ g.1) →
    (∀ p ∈ acc, 0 ≤ p.1) → sumL acc = len → subset_Pack_r.l0 K segs k acc len (j : Int) = some (match packA acc len rest with | none => Sum.inl (none, 70) | some x => Sum.inr x)
  | [], j, k, acc, len, hd, hk, ha, hs, h0, h1, hg, hp0, hsum => by
    obtain ⟨k, rfl⟩ : ∃ m, k = m + 1 := ⟨k - 1, by simp at hk; omega⟩
    have := drop_nil hd
    rw [subset_Pack_r.l0]
    rw [if_neg (by simp; omega)]
    rfl
  | g :: rest, j, k, acc, len, hd, hk, ha, hs, h0, h1, hg, hp0, hsum => by
    obtain ⟨k, rfl⟩ : ∃ m, k = m + 1 := ⟨k - 1, by simp at hk; omega⟩
    obtain ⟨hj, hgd, hd'⟩ := drop_cons hd (0, 0)
    have hg0 : 0 ≤ g.1 := hg g (by simp)
    have hrest : ∀ g ∈ rest, 0 ≤ g.1 := fun g h => hg g (by simp [h])
    have hk' : rest.length < k := by simp at hk; omega
    have hw : IntKind.wrap .i64 ((j : Int) + 1) = ((j + 1 : Nat) : Int) := by rw [w64 (by omega) (by omega)]; omega
    have hl : IntKind.wrap .i64 ((((List.length acc) : Nat) : Int) - (1 : Int)) = (acc.length : Int) - 1 := w64 (by omega) (by omega)
    have hpl := push_len (acc := acc) (g := g)
    have hnext := fun (hb : ¬ g.1 > 20000 - len) => pack_loop (K := K) rest (j + 1) k (push acc g) (len + g.1) hd' hk' (by omega) hs (by omega) (by omega) hrest (nonneg_push hp0 hg0) (by rw [sumL_push, hsum])
    rw [subset_Pack_r.l0]
    rw [if_pos (by simpa using hj), if_pos ⟨by omega, by omega⟩]
    simp only [Int.toNat_natCast, hgd, hw, hl]
    rw [packA]
    by_cases hz : g.1 = 0
    · rw [if_pos (by simpa using hz), if_pos hz]
      exact pack_loop rest (j + 1) k acc len hd' hk' (by omega) hs h0 h1 hrest hp0 hsum
    · rw [if_neg (by simpa using hz), if_neg hz, w64 (by omega) (by omega)]
      by_cases hb : g.1 > 20000 - len
      · rw [if_pos (by simpa using hb), if_pos hb]
      · rw [if_neg (by simpa using hb), if_neg hb, ← hnext hb, w64 (n := len + g.1) (by omega) (by omega)]
        by_cases he : acc = []
        · subst he
          simp [push_nil]
        · have hp : 0 < acc.length := List.length_pos_iff.2 he
          rw [if_pos (by simp; omega), if_pos ⟨by omega, by omega⟩, Option.bind_some]
          have hn : ((acc.length : Int) - 1).toNat = acc.length - 1 := by omega
          rw [hn]
          have hlast : 0 ≤ (acc.getD (acc.length - 1) (0, 0)).1 ∧ (acc.getD (acc.length - 1) (0, 0)).1 ≤ len := by
            have hm : acc.getD (acc.length - 1) (0, 0) ∈ acc := by
              rw [List.getD, List.getElem?_eq_getElem (by omega)]
              simp
            exact ⟨hp0 _ hm, by rw [← hsum]; exact (le_sumL hp0).2 _ hm⟩
          by_cases hq : (acc.getD (acc.length - 1) (0, 0)).2 = g.2
          · rw [if_pos (by simpa using hq), if_pos ⟨by omega, by omega⟩, w64 (n := (acc.getD (acc.length - 1) (0, 0)).1 + g.1) (by omega) (by omega)]
            unfold push
            rw [if_pos ⟨he, hq⟩]
          · rw [if_neg (by simpa using hq), if_pos (by simp; omega)]
            unfold push
            rw [if_neg (fun h => hq h.2)]

/-- Pack, told. -/
theorem pack_eq {K : Nat} {segs : List (Int × Int)} (hK : segs.length < K) (hs : segs.length < 1000000000000) (hg : ∀ g ∈ segs, 0 ≤ g.1) :
    subset_Pack_r K segs = some (match packA [] 0 segs with | none => (none, 70) | some x => if x.1.length > 200 then (none, 70) else (some x, 0)) := by
  unfold subset_Pack_r
  have h := pack_loop (K := K) segs 0 K [] 0 rfl hK (by simp) hs (by omega) (by omega) hg (by simp) rfl
  rw [Int.natCast_zero] at h
  rw [h, Option.bind_some]
  cases packA [] 0 segs with
  | none => rfl
  | some x =>
    simp only [Sum.elim_inr]
    by_cases h : x.1.length > 200
    · rw [if_pos (by simp; omega), if_pos h]
    · rw [if_neg (by simp; omega), if_neg h]

abbrev Sub := Option (List (Int × Int) × Int)

def partA (f t : Int) : Int → List (Int × Int) → List (Int × Int)
  | _, [] => []
  | x, g :: rest => (if max x f < min (x + g.1) t then [(min (x + g.1) t - max x f, g.2)] else []) ++ partA f t (x + g.1) rest

theorem mx2_eq (a b : Int) : mx2 a b = max a b := by unfold mx2; split <;> omega

theorem mn2_eq (a b : Int) : mn2 a b = min a b := by unfold mn2; split <;> omega

theorem part_loop {K : Nat} {segs : List (Int × Int)} {n f t : Int} : ∀ (rest : List (Int × Int)) (j k : Nat) (out : List (Int × Int)) (x : Int), segs.drop j = rest → rest.length < k → out.length ≤ j → segs.length < 1000000000000 → 0 ≤ x → (∀ g ∈ rest, 0 ≤ g.1) → x + sumL rest ≤ 20000 →
    subset_Subset_part.l0 K (some (segs, n)) f t k out x (j : Int) = some (out ++ partA f t x rest)
  | [], j, k, out, x, hd, hk, ho, hs, h0, hg, hsum => by
    obtain ⟨k, rfl⟩ : ∃ m, k = m + 1 := ⟨k - 1, by simp at hk; omega⟩
    have := drop_nil hd
    rw [subset_Subset_part.l0]
    simp only [Option.getD_some]
    rw [if_neg (by simp; omega)]
    simp [partA]
  | g :: rest, j, k, out, x, hd, hk, ho, hs, h0, hg, hsum => by
    obtain ⟨k, rfl⟩ : ∃ m, k = m + 1 := ⟨k - 1, by simp at hk; omega⟩
    obtain ⟨hj, hgd, hd'⟩ := drop_cons hd (0, 0)
    have hg0 : 0 ≤ g.1 := hg g (by simp)
    have hrest : ∀ g ∈ rest, 0 ≤ g.1 := fun g h => hg g (by simp [h])
    have hk' : rest.length < k := by simp at hk; omega
    have hr0 := (le_sumL hrest).1
    simp only [sumL] at hsum
    have hw : IntKind.wrap .i64 ((j : Int) + 1) = ((j + 1 : Nat) : Int) := by rw [w64 (by omega) (by omega)]; omega
    rw [subset_Subset_part.l0]
    simp only [Option.getD_some, Int.toNat_natCast, hgd, hw, mx2_eq, mn2_eq]
    rw [w64 (n := x + g.1) (by omega) (by omega)]
    rw [if_pos (by simpa using hj), if_pos ⟨by omega, by omega⟩]
    rw [partA]
    by_cases hc : max x f < min (x + g.1) t
    · rw [if_pos (by simpa using hc), if_pos (by simp; omega), if_pos hc, w64 (n := min (x + g.1) t - max x f) (by omega) (by omega), part_loop rest (j + 1) k _ _ hd' hk' (by simp; omega) hs (by omega) hrest (by omega)]
      simp
    · rw [if_neg (by simpa using hc), if_neg hc, part_loop rest (j + 1) k _ _ hd' hk' (by omega) hs (by omega) hrest (by omega)]
      simp

theorem part_eq {K : Nat} {segs : List (Int × Int)} {n f t : Int} (hK : segs.length < K) (hs : segs.length < 1000000000000) (hg : ∀ g ∈ segs, 0 ≤ g.1) (hsum : sumL segs ≤ 20000) :
    subset_Subset_part K (some (segs, n)) f t = some (partA f t 0 segs) := by
  unfold subset_Subset_part
  rw [if_pos (show Option.isSome (some (segs, n)) = true from rfl)]
  have h := part_loop (K := K) (n := n) (f := f) (t := t) segs 0 K [] 0 rfl hK (by simp) hs (by omega) hg (by omega)
  rw [Int.natCast_zero] at h
  rw [h]; simp

theorem part_nonneg {f t : Int} : ∀ {l : List (Int × Int)} {x : Int}, ∀ p ∈ partA f t x l, 0 ≤ p.1
  | [], _, p, hp => by cases hp
  | g :: l, x, p, hp => by
    rw [partA] at hp
    rcases List.mem_append.1 hp with hp | hp
    · split at hp
      · simp only [List.mem_singleton] at hp; subst hp; simp only; omega
      · cases hp
    · exact part_nonneg p hp

theorem part_len {f t : Int} : ∀ {l : List (Int × Int)} {x : Int}, (partA f t x l).length ≤ l.length
  | [], _ => by simp [partA]
  | g :: l, x => by
    rw [partA]
    have := part_len (f := f) (t := t) (l := l) (x := x + g.1)
    simp only [List.length_append, List.length_cons]
    split <;> simp <;> omega

/-- What a row of runs stands for: a count for each place. -/
def expand : List (Int × Int) → List Int
  | [] => []
  | p :: l => List.replicate p.1.toNat p.2 ++ expand l

theorem expand_app : ∀ {l r : List (Int × Int)}, expand (l ++ r) = expand l ++ expand r
  | [], r => rfl
  | p :: l, r => by simp [expand, expand_app]

theorem expand_push {acc : List (Int × Int)} {g : Int × Int} (ha : ∀ p ∈ acc, 0 ≤ p.1) (hg : 0 ≤ g.1) : expand (push acc g) = expand acc ++ List.replicate g.1.toNat g.2 := by
  by_cases h : acc = []
  · subst h; simp [push_nil, expand]
  · obtain ⟨l, p, rfl⟩ := split_last h
    have hp := ha p (by simp)
    rw [push_app]
    split
    · rename_i he
      simp only [expand_app, expand, List.append_nil, List.append_assoc]
      rw [Int.toNat_add hp hg, ← List.replicate_append_replicate, he]
    · simp [expand_app, expand]

theorem expand_len : ∀ {l : List (Int × Int)}, (∀ p ∈ l, 0 ≤ p.1) → ((expand l).length : Int) = sumL l
  | [], _ => rfl
  | p :: l, h => by
    have := expand_len (l := l) fun q hq => h q (by simp [hq])
    have hp := h p (by simp)
    simp only [expand, sumL, List.length_append, List.length_replicate]
    omega

theorem expand_part {f t : Int} (hf : 0 ≤ f) : ∀ {l : List (Int × Int)} {x : Int}, 0 ≤ x → (∀ p ∈ l, 0 ≤ p.1) → expand (partA f t x l) = ((expand l).take (t - x).toNat).drop (f - x).toNat
  | [], x, _, _ => by simp [partA, expand]
  | g :: l, x, hx, hl => by
    have hg := hl g (by simp)
    have hl' : ∀ p ∈ l, 0 ≤ p.1 := fun p hp => hl p (by simp [hp])
    rw [partA, expand_app, expand_part hf (by omega) hl', expand, List.take_append, List.drop_append, List.length_take, List.take_replicate, List.drop_replicate]
    simp only [List.length_replicate]
    congr 1
    · split
      · rename_i h
        simp only [expand, List.append_nil]
        congr 1
        omega
      · rename_i h
        have : min (t - x).toNat g.1.toNat - (f - x).toNat = 0 := by omega
        rw [this]; rfl
    · rw [show ((t - (x + g.1)).toNat) = (t - x).toNat - g.1.toNat by omega]
      rcases Int.le_total (t - x) g.1 with h | h
      · have : (t - x).toNat - g.1.toNat = 0 := by omega
        rw [this]; simp
      · congr 1
        omega

def pushC (acc : List (Int × Int)) (c : Int) : List (Int × Int) := push acc (1, c)

/-- The least runs. -/
def rle (e : List Int) : List (Int × Int) := e.foldl pushC []

/-- The subset that has these counts. -/
def sub (e : List Int) : Sub := some (rle e, (e.length : Int))

theorem push_push {acc : List (Int × Int)} {a b c : Int} : push (push acc (a, c)) (b, c) = push acc (a + b, c) := by
  by_cases h : acc = []
  · subst h
    rw [push_nil, push_nil]
    have := push_app [] (a, c) (b, c)
    simpa using this
  · obtain ⟨l, p, rfl⟩ := split_last h
    rw [push_app l p (a, c), push_app l p (a + b, c)]
    by_cases he : p.2 = c
    · rw [if_pos he, if_pos he, push_app, if_pos he, Int.add_assoc]
    · rw [if_neg he, if_neg he, push_app, if_pos rfl]

theorem push_reps : ∀ {n : Nat} {acc : List (Int × Int)} {c : Int}, (List.replicate (n + 1) c).foldl pushC acc = push acc ((n : Int) + 1, c)
  | 0, acc, c => rfl
  | n + 1, acc, c => by
    rw [List.replicate_succ, List.foldl_cons, push_reps, pushC, push_push]
    congr 2
    omega

theorem packA_rle : ∀ {l : List (Int × Int)} {e : List Int} {len : Int}, (∀ p ∈ l, 0 ≤ p.1) → len + sumL l ≤ 20000 → packA (rle e) len l = some (rle (e ++ expand l), len + sumL l)
  | [], e, len, _, _ => by simp [packA, expand, sumL]
  | g :: l, e, len, hl, h => by
    have hg := hl g (by simp)
    have hl' : ∀ p ∈ l, 0 ≤ p.1 := fun p hp => hl p (by simp [hp])
    have h0 := (le_sumL hl').1
    simp only [sumL] at h ⊢
    rw [packA, expand]
    by_cases hz : g.1 = 0
    · rw [if_pos hz, packA_rle hl' (by omega), hz]; simp
    · rw [if_neg hz, if_neg (by omega)]
      have hp : push (rle e) g = rle (e ++ List.replicate g.1.toNat g.2) := by
        obtain ⟨n, hn⟩ : ∃ n : Nat, g.1 = (n : Int) + 1 := ⟨g.1.toNat - 1, by omega⟩
        have : g.1.toNat = n + 1 := by omega
        rw [this, rle, rle, List.foldl_append, push_reps, ← hn]
      rw [hp, packA_rle hl' (by omega)]
      rw [List.append_assoc]
      congr 2
      omega

theorem packA_none : ∀ {l acc : List (Int × Int)} {len : Int}, (∀ p ∈ l, 0 ≤ p.1) → len ≤ 20000 → 20000 < len + sumL l → packA acc len l = none
  | [], _, _, _, h, h' => by simp [sumL] at h'; omega
  | g :: l, acc, len, hl, h, h' => by
    have hg := hl g (by simp)
    have hl' : ∀ p ∈ l, 0 ≤ p.1 := fun p hp => hl p (by simp [hp])
    simp only [sumL] at h'
    rw [packA]
    by_cases hz : g.1 = 0
    · rw [if_pos hz]; exact packA_none hl' h (by omega)
    · rw [if_neg hz]
      by_cases hb : g.1 > 20000 - len
      · rw [if_pos hb]
      · rw [if_neg hb]; exact packA_none hl' (by omega) (by omega)

theorem rle_facts : ∀ (e : List Int), (∀ p ∈ rle e, 0 ≤ p.1) ∧ expand (rle e) = e ∧ sumL (rle e) = e.length := by
  intro e
  have key : ∀ (e : List Int) (acc : List (Int × Int)), (∀ p ∈ acc, 0 ≤ p.1) → (∀ p ∈ e.foldl pushC acc, 0 ≤ p.1) ∧ expand (e.foldl pushC acc) = expand acc ++ e ∧ sumL (e.foldl pushC acc) = sumL acc + e.length := by
    intro e
    induction e with
    | nil => intro acc h; exact ⟨h, by simp, by simp⟩
    | cons c e ih =>
      intro acc h
      obtain ⟨h1, h2, h3⟩ := ih (pushC acc c) (nonneg_push h (by simp))
      refine ⟨h1, ?_, ?_⟩
      · rw [List.foldl_cons, h2, pushC, expand_push h (by simp)]; simp
      · rw [List.foldl_cons, h3, pushC, sumL_push]; simp only [List.length_cons]; omega
  obtain ⟨h1, h2, h3⟩ := key e [] (by simp)
  exact ⟨h1, by rw [rle]; simpa [expand] using h2, by rw [rle]; simpa [sumL] using h3⟩

/-- What Pack answers. -/
def packed (e : List Int) : Sub × Int := if e.length > 20000 then (none, 70) else if (rle e).length > 200 then (none, 70) else (sub e, 0)

theorem pack_is {K : Nat} {segs : List (Int × Int)} (hK : segs.length < K) (hs : segs.length < 1000000000000) (hg : ∀ g ∈ segs, 0 ≤ g.1) : subset_Pack_r K segs = some (packed (expand segs)) := by
  rw [pack_eq hK hs hg]
  have hl := expand_len hg
  unfold packed
  by_cases h : sumL segs ≤ 20000
  · have := packA_rle (e := []) (len := 0) hg (by omega)
    rw [show rle [] = [] from rfl] at this
    rw [this, if_neg (by omega)]
    simp only [List.nil_append, Int.zero_add]
    rw [← hl]
    rfl
  · rw [packA_none hg (by omega) (by omega), if_pos (by omega)]

theorem new_is {K : Nat} {n : Int} (hK : 1 < K) (h0 : 0 ≤ n) (h1 : n ≤ 20000) : subset_New K n = some (sub (List.replicate n.toNat 0)) := by
  unfold subset_New
  rw [mx2_eq, mn2_eq, pack_is (by simpa using hK) (by simp) (by intro g hg; simp only [List.mem_singleton] at hg; subst hg; simp only; omega), Option.bind_some]
  rw [show min (max n 0) 20000 = n by omega]
  simp only [expand, List.append_nil]
  unfold packed
  rw [if_neg (by simp; omega), if_neg]
  have : (rle (List.replicate n.toNat (0 : Int))).length ≤ 1 := by
    cases hn : n.toNat with
    | zero => simp [rle]
    | succ m => rw [rle, push_reps, push_nil]; simp
  omega

theorem count_ok {K : Nat} {n : Int} : subset_isCount K n = some (decide (0 ≤ n ∧ n ≤ 100)) := by
  unfold subset_isCount
  by_cases h : 0 ≤ n
  · rw [if_pos (by simpa using h)]; simp [h]
  · rw [if_neg (by simpa using h)]; simp [h]

/-- The counts of e, those from f to t told anew. -/
def put (e : List Int) (f t c : Int) : List Int := e.take f.toNat ++ List.replicate (t - f).toNat c ++ e.drop t.toNat

theorem with_is {K : Nat} {e : List Int} {f t c : Int} (hK : 1000 ≤ K) (hl : e.length ≤ 20000) (hr : (rle e).length ≤ 200) : subset_Subset_With K (sub e) f t c =
    some (if f < 0 ∨ f > t ∨ t > e.length then (none, 10) else if ¬ (0 ≤ c ∧ c ≤ 100) then (none, 12) else packed (put e f t c)) := by
  obtain ⟨hn, hx, hsum⟩ := rle_facts e
  unfold subset_Subset_With sub
  simp only [Option.getD_some]
  by_cases h1 : f < 0
  · rw [if_pos (by simpa using h1), Option.bind_some, if_pos rfl, if_pos (.inl h1)]
  · rw [if_neg (by simpa using h1)]
    by_cases h2 : f > t
    · rw [if_pos (by simpa using h2), Option.bind_some, if_pos rfl, if_pos (.inr (.inl h2))]
    · rw [if_neg (by simpa using h2), if_pos (show Option.isSome (some _) = true from rfl), Option.bind_some]
      by_cases h3 : t > e.length
      · rw [if_pos (by simpa using h3), if_pos (.inr (.inr h3))]
      · rw [if_neg (by simpa using h3), if_neg (by omega), count_ok, Option.bind_some]
        by_cases h4 : 0 ≤ c ∧ c ≤ 100
        · rw [if_neg (by simp [h4]), if_neg (by simp [h4]), part_eq (by omega) (by omega) hn (by omega), Option.bind_some, w64 (by omega) (by omega)]
          have p1 := part_len (f := 0) (t := f) (l := rle e) (x := 0)
          have p2 := part_len (f := t) (t := e.length) (l := rle e) (x := 0)
          rw [if_pos (by simp; omega), part_eq (by omega) (by omega) hn (by omega), Option.bind_some, pack_is (by simp; omega) (by simp; omega), Option.bind_some, if_pos ⟨rfl, by simp; omega⟩]
          · rw [expand_app, expand_app, expand_part (by omega) (by omega) hn, expand_part (by omega) (by omega) hn, hx]
            have e1 : ∀ x : Sub × Int, some (x.1, x.2) = some x := fun x => rfl
            rw [e1]
            congr 2
            unfold put
            simp only [expand, List.append_nil]
            congr 1
            · congr 1
              rw [show (f - 0).toNat = f.toNat by omega]
              simp
            · rw [show (t - 0).toNat = t.toNat by omega, show ((e.length : Int) - 0).toNat = e.length by omega, List.take_length]
          · intro g hg
            rcases List.mem_append.1 hg with hg | hg
            · rcases List.mem_append.1 hg with hg | hg
              · exact part_nonneg g hg
              · simp only [List.mem_singleton] at hg; subst hg; simp only; omega
            · exact part_nonneg g hg
        · rw [if_pos (by simp; omega), if_pos h4]

/-- How many places have a count above nothing. -/
def pos (e : List Int) : Int := ((e.filter fun c => decide (c > 0)).length : Nat)

theorem pos_app {a b : List Int} : pos (a ++ b) = pos a + pos b := by simp [pos]

theorem pos_reps {n : Nat} {c : Int} : pos (List.replicate n c) = if c > 0 then (n : Int) else 0 := by
  unfold pos
  split
  · rename_i h; rw [List.filter_replicate_of_pos (by simpa using h)]; simp
  · rename_i h; rw [List.filter_replicate_of_neg (by simpa using h)]; simp

theorem size_loop {K : Nat} {segs : List (Int × Int)} {m : Int} : ∀ (rest : List (Int × Int)) (j k : Nat) (n : Int), segs.drop j = rest → rest.length < k → segs.length < 1000000000000 → 0 ≤ n → (∀ g ∈ rest, 0 ≤ g.1) → n + sumL rest ≤ 1000000000000 →
    subset_Subset_Size.l0 K (some (segs, m)) k n (j : Int) = some (n + pos (expand rest))
  | [], j, k, n, hd, hk, hs, h0, hg, hsum => by
    obtain ⟨k, rfl⟩ : ∃ m, k = m + 1 := ⟨k - 1, by simp at hk; omega⟩
    have := drop_nil hd
    rw [subset_Subset_Size.l0]
    simp only [Option.getD_some]
    rw [if_neg (by simp; omega)]
    simp [expand, pos]
  | g :: rest, j, k, n, hd, hk, hs, h0, hg, hsum => by
    obtain ⟨k, rfl⟩ : ∃ m, k = m + 1 := ⟨k - 1, by simp at hk; omega⟩
    obtain ⟨hj, hgd, hd'⟩ := drop_cons hd (0, 0)
    have hg0 : 0 ≤ g.1 := hg g (by simp)
    have hrest : ∀ g ∈ rest, 0 ≤ g.1 := fun g h => hg g (by simp [h])
    have hk' : rest.length < k := by simp at hk; omega
    have hr0 := (le_sumL hrest).1
    simp only [sumL] at hsum
    have hw : IntKind.wrap .i64 ((j : Int) + 1) = ((j + 1 : Nat) : Int) := by rw [w64 (by omega) (by omega)]; omega
    rw [subset_Subset_Size.l0]
    simp only [Option.getD_some, Int.toNat_natCast, hgd, hw]
    rw [if_pos (by simpa using hj), if_pos ⟨by omega, by omega⟩, expand, pos_app, pos_reps]
    by_cases hc : g.2 > 0
    · rw [if_pos (by simpa using hc), if_pos hc, w64 (n := n + g.1) (by omega) (by omega), size_loop rest (j + 1) k _ hd' hk' hs (by omega) hrest (by omega)]
      congr 1; omega
    · rw [if_neg (by simpa using hc), if_neg hc, size_loop rest (j + 1) k _ hd' hk' hs (by omega) hrest (by omega)]
      congr 1; omega

theorem size_is {K : Nat} {e : List Int} (hK : 1000 ≤ K) (hl : e.length ≤ 20000) (hr : (rle e).length ≤ 200) : subset_Subset_Size K (sub e) = some (pos e) := by
  obtain ⟨hn, hx, hsum⟩ := rle_facts e
  unfold subset_Subset_Size sub
  rw [if_pos (show Option.isSome (some _) = true from rfl)]
  have h := size_loop (K := K) (segs := rle e) (m := e.length) (rle e) 0 K 0 rfl (by omega) (by omega) (by omega) hn (by omega)
  rw [Int.natCast_zero] at h
  rw [h, hx]; simp

theorem empty_is {K : Nat} {e : List Int} (hK : 1000 ≤ K) (hl : e.length ≤ 20000) (hr : (rle e).length ≤ 200) : subset_Subset_Empty K (sub e) = some (pos e == 0) := by
  unfold subset_Subset_Empty
  rw [size_is hK hl hr]; rfl

theorem len_is {K : Nat} {e : List Int} : subset_Subset_Len K (sub e) = some (e.length : Int) := rfl

theorem count_loop {K : Nat} {segs : List (Int × Int)} {m : Int} : ∀ (rest : List (Int × Int)) (j k : Nat) (x : Int), segs.drop j = rest → rest.length < k → segs.length < 1000000000000 → 0 ≤ x → x ≤ 1000000000000 → (∀ g ∈ rest, 0 ≤ g.1) → sumL rest ≤ 1000000000000 →
    subset_Subset_Count.l0 K (some (segs, m)) k x (j : Int) = some ((expand rest).getD x.toNat 0)
  | [], j, k, x, hd, hk, hs, h0, h1, hg, hsum => by
    obtain ⟨k, rfl⟩ : ∃ m, k = m + 1 := ⟨k - 1, by simp at hk; omega⟩
    have := drop_nil hd
    rw [subset_Subset_Count.l0]
    simp only [Option.getD_some]
    rw [if_neg (by simp; omega)]
    simp [expand]
  | g :: rest, j, k, x, hd, hk, hs, h0, h1, hg, hsum => by
    obtain ⟨k, rfl⟩ : ∃ m, k = m + 1 := ⟨k - 1, by simp at hk; omega⟩
    obtain ⟨hj, hgd, hd'⟩ := drop_cons hd (0, 0)
    have hg0 : 0 ≤ g.1 := hg g (by simp)
    have hrest : ∀ g ∈ rest, 0 ≤ g.1 := fun g h => hg g (by simp [h])
    have hk' : rest.length < k := by simp at hk; omega
    have hr0 := (le_sumL hrest).1
    simp only [sumL] at hsum
    have hw : IntKind.wrap .i64 ((j : Int) + 1) = ((j + 1 : Nat) : Int) := by rw [w64 (by omega) (by omega)]; omega
    rw [subset_Subset_Count.l0]
    simp only [Option.getD_some, Int.toNat_natCast, hgd, hw]
    rw [if_pos (by simpa using hj), if_pos ⟨by omega, by omega⟩, expand]
    by_cases hc : x < g.1
    · rw [if_pos (by simpa using hc)]
      have : x.toNat < g.1.toNat := by omega
      simp [List.getD, List.getElem?_append_left, this]
    · rw [if_neg (by simpa using hc), w64 (n := x - g.1) (by omega) (by omega), count_loop rest (j + 1) k _ hd' hk' hs (by omega) (by omega) hrest (by omega)]
      rw [List.getD, List.getD, List.getElem?_append_right (by simp; omega)]
      simp only [List.length_replicate]
      rw [show (x - g.1).toNat = x.toNat - g.1.toNat by omega]

/-- The count at a place, nothing outside. -/
def at_ (e : List Int) (i : Int) : Int := if i < 0 ∨ i ≥ e.length then 0 else e.getD i.toNat 0

theorem count_is {K : Nat} {e : List Int} {i : Int} (hK : 1000 ≤ K) (hl : e.length ≤ 20000) (hr : (rle e).length ≤ 200) : subset_Subset_Count K (sub e) i = some (at_ e i) := by
  obtain ⟨hn, hx, hsum⟩ := rle_facts e
  unfold subset_Subset_Count sub at_
  by_cases h1 : i < 0
  · rw [if_pos (by simpa using h1), Option.bind_some, if_pos rfl, if_pos (.inl h1)]
  · rw [if_neg (by simpa using h1), if_pos (show Option.isSome (some _) = true from rfl), Option.bind_some]
    simp only [Option.getD_some]
    by_cases h2 : i ≥ e.length
    · rw [if_pos (by simpa using h2), if_pos (.inr h2)]
    · rw [if_neg (by simpa using h2), if_pos (show Option.isSome (some _) = true from rfl), if_neg (by omega)]
      have h := count_loop (K := K) (segs := rle e) (m := e.length) (rle e) 0 K i rfl (by omega) (by omega) (by omega) (by omega) hn (by omega)
      rw [Int.natCast_zero] at h
      rw [h, hx]

theorem has_is {K : Nat} {e : List Int} {i : Int} (hK : 1000 ≤ K) (hl : e.length ≤ 20000) (hr : (rle e).length ≤ 200) : subset_Subset_Has K (sub e) i = some (decide (at_ e i > 0)) := by
  unfold subset_Subset_Has
  rw [count_is hK hl hr]; rfl

/-- A row of runs that is none. -/
def bad : Option Int → List (Int × Int) → Bool
  | _, [] => false
  | q, g :: l => decide (g.1 < 1) || !decide (0 ≤ g.2 ∧ g.2 ≤ 100) || (q == some g.2) || bad (some g.2) l

theorem of_loop {K : Nat} {segs : List (Int × Int)} : ∀ (rest : List (Int × Int)) (j k : Nat), segs.drop j = rest → rest.length < k → segs.length < 1000000000000 →
    subset_Of_r.l0 K segs k (j : Int) = some (if bad (if j = 0 then none else some (segs.getD (j - 1) (0, 0)).2) rest = true then Sum.inl (none, 12) else Sum.inr ())
  | [], j, k, hd, hk, hs => by
    obtain ⟨k, rfl⟩ : ∃ m, k = m + 1 := ⟨k - 1, by simp at hk; omega⟩
    have := drop_nil hd
    rw [subset_Of_r.l0, if_neg (by simp; omega)]
    simp [bad]
  | g :: rest, j, k, hd, hk, hs => by
    obtain ⟨k, rfl⟩ : ∃ m, k = m + 1 := ⟨k - 1, by simp at hk; omega⟩
    obtain ⟨hj, hgd, hd'⟩ := drop_cons hd (0, 0)
    have hk' : rest.length < k := by simp at hk; omega
    have hw : IntKind.wrap .i64 ((j : Int) + 1) = ((j + 1 : Nat) : Int) := by rw [w64 (by omega) (by omega)]; omega
    have hwm : IntKind.wrap .i64 ((j : Int) - 1) = (j : Int) - 1 := w64 (by omega) (by omega)
    have hnext := of_loop (K := K) rest (j + 1) k hd' hk' hs
    rw [show (if j + 1 = 0 then none else some (segs.getD (j + 1 - 1) (0, 0)).2) = some g.2 by rw [if_neg (by omega), Nat.add_sub_cancel, hgd]] at hnext
    rw [subset_Of_r.l0]
    simp only [Int.toNat_natCast, hgd, hw, hwm, count_ok, Option.bind_some]
    rw [if_pos (by simpa using hj), if_pos ⟨by omega, by omega⟩, bad]
    by_cases h1 : g.1 < 1
    · rw [if_pos (by simpa using h1), Option.bind_some, if_pos rfl, if_pos (by simp [h1])]
    · rw [if_neg (by simpa using h1)]
      by_cases h2 : 0 ≤ g.2 ∧ g.2 ≤ 100
      · rw [if_neg (by simp [h2])]
        by_cases h3 : j = 0
        · subst h3
          rw [if_neg (by simp), Option.bind_some, if_neg (by simp), hnext]
          simp [h1, h2]
        · rw [if_pos (by simp; omega), if_pos ⟨by omega, by omega⟩, Option.bind_some, show ((j : Int) - 1).toNat = j - 1 by omega, if_neg h3]
          by_cases h4 : g.2 = (segs.getD (j - 1) (0, 0)).2
          · rw [if_pos (by simpa using h4), if_pos (by simp [h4])]
          · rw [if_neg (by simpa using h4), hnext]
            have h4' : (some (segs.getD (j - 1) (0, 0)).2 == some g.2) = false := by
              simpa [beq_eq_false_iff_ne] using fun h => h4 h.symm
            rw [h4']
            simp [h1, h2]
      · rw [if_pos (by simp; omega), Option.bind_some, if_pos rfl, if_pos (by simp [h2])]

theorem bad_nonneg : ∀ {l : List (Int × Int)} {q : Option Int}, bad q l = false → ∀ p ∈ l, 0 ≤ p.1
  | [], _, _, p, hp => by cases hp
  | g :: l, q, h, p, hp => by
    simp only [bad, Bool.or_eq_false_iff, decide_eq_false_iff_not] at h
    rcases List.mem_cons.1 hp with rfl | hp
    · omega
    · exact bad_nonneg h.2 p hp

theorem of_is {K : Nat} {segs : List (Int × Int)} (hK : segs.length < K) (hs : segs.length < 1000000000000) : subset_Of_r K segs = some (if bad none segs = true then (none, 12) else packed (expand segs)) := by
  unfold subset_Of_r
  have h := of_loop (K := K) segs 0 K rfl hK hs
  rw [Int.natCast_zero, if_pos rfl] at h
  rw [h, Option.bind_some]
  by_cases hb : bad none segs = true
  · rw [if_pos hb, if_pos hb]; rfl
  · rw [if_neg hb, if_neg hb]
    simp only [Sum.elim_inr]
    rw [pack_is hK hs (bad_nonneg (by simpa using hb)), Option.bind_some]

theorem known7 {K : Nat} (hK : 1000 ≤ K) : palinodelaw7_known K = some true := by
  unfold palinodelaw7_known
  have e1 : subset_Of_r K [(2, 0), (1, 3)] = some (sub [0, 0, 3], 0) := by rw [of_is (by simp; omega) (by simp)]; decide
  have e2 : subset_Of_r K [(1, 0), (1, 0)] = some (none, 12) := by rw [of_is (by simp; omega) (by simp)]; decide
  have e3 : subset_Subset_With K (sub [0, 0, 3]) 0 1 3 = some (sub [3, 0, 3], 0) := by rw [with_is hK (by simp) (by decide)]; decide
  have e4 : subset_Subset_With K (sub [0, 0, 3]) 2 4 1 = some (none, 10) := by rw [with_is hK (by simp) (by decide)]; decide
  have e5 : subset_New K 4 = some (sub [0, 0, 0, 0]) := by rw [new_is (by omega) (by omega) (by omega)]; decide
  rw [e1, Option.bind_some]
  simp only [e2, e3, e4, e5, Option.bind_some, len_is, count_is hK (e := [0, 0, 3]) (by simp) (by decide), size_is hK (e := [0, 0, 3]) (by simp) (by decide), size_is hK (e := [3, 0, 3]) (by simp) (by decide),
    has_is hK (e := [0, 0, 3]) (by simp) (by decide), empty_is hK (e := [0, 0, 3]) (by simp) (by decide), empty_is hK (e := [0, 0, 0, 0]) (by simp) (by decide)]
  decide

theorem put_len {e : List Int} {f t c : Int} (h0 : 0 ≤ f) (h1 : f ≤ t) (h2 : t ≤ e.length) : (put e f t c).length = e.length := by
  simp [put]; omega

theorem push_other {acc : List (Int × Int)} {g : Int × Int} (h : ∀ l p, acc = l ++ [p] → p.2 ≠ g.2) : push acc g = acc ++ [g] := by
  by_cases he : acc = []
  · subst he; rfl
  · obtain ⟨l, p, rfl⟩ := split_last he
    rw [push_app, if_neg (h l p rfl)]

/-- Good runs are the least ones. -/
theorem rle_good : ∀ {l acc : List (Int × Int)} {q : Option Int}, (∀ m p, acc = m ++ [p] → q = some p.2) → bad q l = false → (expand l).foldl pushC acc = acc ++ l
  | [], acc, q, _, _ => by simp [expand]
  | g :: l, acc, q, hq, hb => by
    simp only [bad, Bool.or_eq_false_iff, decide_eq_false_iff_not, beq_eq_false_iff_ne] at hb
    obtain ⟨⟨⟨h1, h2⟩, h3⟩, h4⟩ := hb
    obtain ⟨n, hn⟩ : ∃ n : Nat, g.1 = (n : Int) + 1 := ⟨g.1.toNat - 1, by omega⟩
    have ht : g.1.toNat = n + 1 := by omega
    rw [expand, ht, List.foldl_append, push_reps, ← hn, push_other (fun m p e => by
      have := hq m p e
      intro h
      exact h3 (by rw [this, h])), rle_good (q := some g.2) (fun m p e => by
        have := List.append_inj_right' e rfl
        simp only [List.cons.injEq, and_true] at this
        rw [← this]) h4]
    simp

theorem rle_expand {l : List (Int × Int)} (h : bad none l = false) : rle (expand l) = l := by
  have := rle_good (acc := []) (q := none) (fun m p e => by simp at e) h
  simpa [rle] using this

theorem segs_is {K : Nat} {e : List Int} (hl : e.length ≤ 20000) (hr : (rle e).length ≤ 200) : subset_Subset_Segs K (sub e) = some (rle e) := by
  unfold subset_Subset_Segs sub
  simp only [Option.getD_some]
  rw [if_pos (by refine ⟨rfl, ?_⟩; omega)]
  congr 1
  simp [putAt]

theorem equal_loop {K : Nat} {a b : List (Int × Int)} (hl : a.length = b.length) (hs : a.length < 1000000000000) : ∀ (d j k : Nat), j + d = a.length → d < k →
    slices_EqualFunc_ggcsubsetSubsetSame1.l0 K a b k (j : Int) = some (a.drop j == b.drop j) := by
  intro d
  induction d with
  | zero =>
    intro j k hj hk
    obtain ⟨k, rfl⟩ : ∃ m, k = m + 1 := ⟨k - 1, by omega⟩
    rw [slices_EqualFunc_ggcsubsetSubsetSame1.l0, if_neg (by simp; omega), List.drop_eq_nil_of_le (by omega), List.drop_eq_nil_of_le (by omega)]
    rfl
  | succ d ih =>
    intro j k hj hk
    obtain ⟨k, rfl⟩ : ∃ m, k = m + 1 := ⟨k - 1, by omega⟩
    have hw : IntKind.wrap .i64 ((j : Int) + 1) = ((j + 1 : Nat) : Int) := by rw [w64 (by omega) (by omega)]; omega
    have ha : j < a.length := by omega
    have hb : j < b.length := by omega
    have ga : a.getD j (0, 0) = a[j] := by simp [List.getD, ha]
    have gb : b.getD j (0, 0) = b[j] := by simp [List.getD, hb]
    rw [slices_EqualFunc_ggcsubsetSubsetSame1.l0, if_pos (by simp; omega), if_pos ⟨by omega, by omega, by omega⟩]
    simp only [Int.toNat_natCast, hw, ga, gb, subset_Subset_Same_1, Option.bind_some]
    rw [ih (j + 1) k (by omega) (by omega), List.drop_eq_getElem_cons ha, List.drop_eq_getElem_cons hb, List.cons_beq_cons]
    have e : (a[j] == b[j]) = ((a[j].1 == b[j].1) && (a[j].2 == b[j].2)) := rfl
    rw [e]
    cases (a[j].1 == b[j].1) && (a[j].2 == b[j].2) <;> simp

theorem same_is {K : Nat} {a b : List Int} (hK : 1000 ≤ K) (ha : (rle a).length ≤ 200) : subset_Subset_Same K (sub a) (sub b) = some (decide (a = b)) := by
  have fa := rle_facts a
  have fb := rle_facts b
  unfold subset_Subset_Same sub
  rw [if_neg (by simp)]
  simp only [Option.getD_some]
  by_cases h : (a.length : Int) = b.length
  · rw [if_pos (by simpa using h)]
    have key : slices_EqualFunc_ggcsubsetSubsetSame1 K (rle a) (rle b) = some (rle a == rle b) := by
      unfold slices_EqualFunc_ggcsubsetSubsetSame1
      by_cases hl : (rle a).length = (rle b).length
      · rw [if_neg (by simp [hl])]
        have := equal_loop (K := K) hl (by omega) (rle a).length 0 K (by omega) (by omega)
        rw [Int.natCast_zero] at this
        rw [this]; simp
      · rw [if_pos (by simp; omega)]
        congr 1
        symm
        rw [beq_eq_false_iff_ne]
        intro e; exact hl (by rw [e])
    rw [key, Option.bind_some, if_pos ⟨rfl, rfl⟩]
    congr 1
    by_cases e : a = b
    · subst e; simp
    · have : rle a ≠ rle b := fun h' => e (by rw [← fa.2.1, ← fb.2.1, h'])
      simp [e, this]
  · rw [if_neg (by simpa using h), if_pos ⟨rfl, rfl⟩]
    congr 1
    symm
    simp only [decide_eq_false_iff_not]
    intro e; exact h (by rw [e])

theorem segs7_loop {K : Nat} {l : List Int} (hs : l.length < 1000000000000) : ∀ (rest : List Int) (j k : Nat) (out : List (Int × Int)), l.drop j = rest → rest.length < k → out.length ≤ j → (∀ p ∈ out, 0 ≤ p.1) → sumL out = j →
    palinoderef7_Segs_r.l0 K l k out (j : Int) = some (rest.foldl pushC out)
  | [], j, k, out, hd, hk, ho, hp, hsum => by
    obtain ⟨k, rfl⟩ : ∃ m, k = m + 1 := ⟨k - 1, by simp at hk; omega⟩
    have := drop_nil hd
    rw [palinoderef7_Segs_r.l0, if_neg (by simp; omega)]
    rfl
  | c :: rest, j, k, out, hd, hk, ho, hp, hsum => by
    obtain ⟨k, rfl⟩ : ∃ m, k = m + 1 := ⟨k - 1, by simp at hk; omega⟩
    obtain ⟨hj, hgd, hd'⟩ := drop_cons hd 0
    have hk' : rest.length < k := by simp at hk; omega
    have hw : IntKind.wrap .i64 ((j : Int) + 1) = ((j + 1 : Nat) : Int) := by rw [w64 (by omega) (by omega)]; omega
    have hl : IntKind.wrap .i64 ((((List.length out) : Nat) : Int) - (1 : Int)) = (out.length : Int) - 1 := w64 (by omega) (by omega)
    have hpl := push_len (acc := out) (g := (1, c))
    rw [palinoderef7_Segs_r.l0]
    simp only [Int.toNat_natCast, hgd, hw, hl]
    rw [if_pos (by simpa using hj), List.foldl_cons, ← segs7_loop (K := K) hs rest (j + 1) k (pushC out c) hd' hk' (by unfold pushC; omega) (nonneg_push hp (by simp)) (by unfold pushC; rw [sumL_push, hsum]; simp)]
    unfold pushC
    by_cases he : out = []
    · subst he
      rw [if_neg (by simp), Option.bind_some, if_neg (by simp), if_pos ⟨by omega, by omega, by simp⟩]
      rfl
    · have hpos : 0 < out.length := List.length_pos_iff.2 he
      have hm : out.getD (out.length - 1) (0, 0) ∈ out := by
        rw [List.getD, List.getElem?_eq_getElem (by omega)]
        simp
      have h0 := hp _ hm
      have h1 := (le_sumL hp).2 _ hm
      rw [if_pos (by simp; omega), if_pos ⟨by omega, by omega, by omega, by omega⟩, Option.bind_some]
      have hn : ((out.length : Int) - 1).toNat = out.length - 1 := by omega
      rw [hn]
      by_cases hq : (out.getD (out.length - 1) (0, 0)).2 = c
      · rw [if_pos (by simpa using hq), if_pos ⟨by omega, by omega⟩, w64 (n := (out.getD (out.length - 1) (0, 0)).1 + 1) (by omega) (by omega)]
        unfold push
        rw [if_pos ⟨he, hq⟩]
      · rw [if_neg (by simpa using hq), if_pos ⟨by omega, by omega, by simp; omega⟩]
        unfold push
        rw [if_neg (fun h => hq h.2)]

theorem segs7_is {K : Nat} {l : List Int} (hs : l.length < 1000000000000) (hK : l.length < K) : palinoderef7_Segs_r K l = some (rle l) := by
  unfold palinoderef7_Segs_r
  have h := segs7_loop (K := K) hs l 0 K [] rfl hK (by simp) (by simp) rfl
  rw [Int.natCast_zero] at h
  rw [h]; rfl

theorem told7_is {K : Nat} {l : List Int} (hs : l.length < 1000000000000) (hK : l.length < K) : palinoderef7_Told_r K l = some (if (rle l).length > 200 then ([], 70) else (l, 0)) := by
  unfold palinoderef7_Told_r
  rw [segs7_is hs hK, Option.bind_some]
  by_cases h : (rle l).length > 200
  · rw [if_pos (by simp; omega), if_pos h]
  · rw [if_neg (by simp; omega), if_neg h]

theorem at_out {e : List Int} {i : Int} (h : i < 0 ∨ i ≥ e.length) : at_ e i = 0 := by
  unfold at_
  rw [if_pos h]

theorem at_getD {e : List Int} {i : Nat} (h : i < e.length) : at_ e (i : Int) = e.getD i 0 := by
  unfold at_
  rw [if_neg (by omega), Int.toNat_natCast]

theorem pos_cons {c : Int} {e : List Int} : pos (c :: e) = (if c > 0 then 1 else 0) + pos e := by
  unfold pos
  by_cases h : c > 0 <;> simp [h]; omega

theorem same_gr_loop {K : Nat} (hK : 1000 ≤ K) {e : List Int} (hl : e.length ≤ 20000) (hr : (rle e).length ≤ 200) : ∀ (rest : List Int) (j k : Nat) (n : Int), e.drop j = rest → rest.length < k → 0 ≤ n → n ≤ j → palinodelaw7_same_gr.l0 K e (sub e) k n (j : Int) = some (Sum.inr (n + pos rest))
  | [], j, k, n, hd, hk, h0, h1 => by
    obtain ⟨k, rfl⟩ : ∃ m, k = m + 1 := ⟨k - 1, by simp at hk; omega⟩
    have := drop_nil hd
    rw [palinodelaw7_same_gr.l0, if_neg (by simp; omega)]
    simp [pos]
  | c :: rest, j, k, n, hd, hk, h0, h1 => by
    obtain ⟨k, rfl⟩ : ∃ m, k = m + 1 := ⟨k - 1, by simp at hk; omega⟩
    obtain ⟨hj, hgd, hd'⟩ := drop_cons hd 0
    have hk' : rest.length < k := by simp at hk; omega
    have hw : IntKind.wrap .i64 ((j : Int) + 1) = ((j + 1 : Nat) : Int) := by rw [w64 (by omega) (by omega)]; omega
    rw [palinodelaw7_same_gr.l0]
    simp only [Int.toNat_natCast, hgd, hw, count_is hK hl hr, has_is hK hl hr, at_getD hj, Option.bind_some]
    rw [if_pos (by simpa using hj), if_neg (by simp), if_pos ⟨by omega, by omega⟩, Option.bind_some, if_neg (by simp), if_pos ⟨by omega, by omega⟩, pos_cons]
    by_cases hc : c > 0
    · rw [if_pos (by simpa using hc), if_pos hc, w64 (n := n + 1) (by omega) (by omega), same_gr_loop hK hl hr rest (j + 1) k _ hd' hk' (by omega) (by omega)]
      congr 2; omega
    · rw [if_neg (by simpa using hc), if_neg hc, same_gr_loop hK hl hr rest (j + 1) k _ hd' hk' (by omega) (by omega)]
      congr 2; omega

theorem same_gr_loop1 {K : Nat} {r : List (Int × Int)} (hr : r.length < 1000000) : ∀ (d j k : Nat), j + d = r.length → d < k → palinodelaw7_same_gr.l1 K r r k (j : Int) = some true := by
  intro d
  induction d with
  | zero =>
    intro j k hj hk
    obtain ⟨k, rfl⟩ : ∃ m, k = m + 1 := ⟨k - 1, by omega⟩
    rw [palinodelaw7_same_gr.l1, if_neg (by simp; omega)]
  | succ d ih =>
    intro j k hj hk
    obtain ⟨k, rfl⟩ : ∃ m, k = m + 1 := ⟨k - 1, by omega⟩
    have hw : IntKind.wrap .i64 ((j : Int) + 1) = ((j + 1 : Nat) : Int) := by rw [w64 (by omega) (by omega)]; omega
    rw [palinodelaw7_same_gr.l1, if_pos (by simp; omega), if_pos ⟨by omega, by omega, by omega⟩, if_neg (by simp), hw]
    exact ih (j + 1) k (by omega) (by omega)

theorem same_gr_is {K : Nat} {e : List Int} (hK : 1000 ≤ K) (hKl : e.length < K) (hl : e.length ≤ 20000) (hr : (rle e).length ≤ 200) : palinodelaw7_same_gr K (sub e) e = some true := by
  have h := same_gr_loop hK hl hr e 0 K 0 rfl hKl (by omega) (by omega)
  rw [Int.natCast_zero] at h
  have h1 := same_gr_loop1 (K := K) (r := rle e) (by omega) (rle e).length 0 K (by omega) (by omega)
  rw [Int.natCast_zero] at h1
  unfold palinodelaw7_same_gr
  rw [len_is, Option.bind_some, if_neg (by simp), h, Option.bind_some]
  simp only [Sum.elim_inr]
  rw [segs_is hl hr, Option.bind_some, segs7_is (by omega) hKl, Option.bind_some, size_is hK hl hr, empty_is hK hl hr, count_is hK hl hr, count_is hK hl hr, has_is hK hl hr, at_out (.inl (by omega)), at_out (.inr (by omega))]
  simp [h1]

theorem equal7_loop {K : Nat} {a b : List Int} (hl : a.length = b.length) (hs : a.length < 1000000000000) : ∀ (d j k : Nat), j + d = a.length → d < k →
    palinodelaw7_equal_gr.l0 K a b k (j : Int) = some (a.drop j == b.drop j) := by
  intro d
  induction d with
  | zero =>
    intro j k hj hk
    obtain ⟨k, rfl⟩ : ∃ m, k = m + 1 := ⟨k - 1, by omega⟩
    rw [palinodelaw7_equal_gr.l0, if_neg (by simp; omega), List.drop_eq_nil_of_le (by omega), List.drop_eq_nil_of_le (by omega)]
    rfl
  | succ d ih =>
    intro j k hj hk
    obtain ⟨k, rfl⟩ : ∃ m, k = m + 1 := ⟨k - 1, by omega⟩
    have hw : IntKind.wrap .i64 ((j : Int) + 1) = ((j + 1 : Nat) : Int) := by rw [w64 (by omega) (by omega)]; omega
    have ha : j < a.length := by omega
    have hb : j < b.length := by omega
    have ga : a.getD j 0 = a[j] := by simp [List.getD, ha]
    have gb : b.getD j 0 = b[j] := by simp [List.getD, hb]
    rw [palinodelaw7_equal_gr.l0, if_pos (by simp; omega), if_pos ⟨by omega, by omega, by omega⟩]
    simp only [Int.toNat_natCast, hw, ga, gb]
    rw [ih (j + 1) k (by omega) (by omega), List.drop_eq_getElem_cons ha, List.drop_eq_getElem_cons hb, List.cons_beq_cons]
    by_cases h : a[j] = b[j]
    · rw [if_neg (by simp [h])]; simp [h]
    · rw [if_pos (by simpa using h)]; simp [h]

theorem equal7_is {K : Nat} {a b : List Int} (hl : a.length = b.length) (hs : a.length < 1000000000000) (hK : a.length < K) : palinodelaw7_equal_gr K a b = some (decide (a = b)) := by
  unfold palinodelaw7_equal_gr
  have h := equal7_loop (K := K) hl hs a.length 0 K (by omega) (by omega)
  rw [Int.natCast_zero] at h
  rw [h]
  congr 1
  rw [List.drop_zero, List.drop_zero]
  by_cases e : a = b <;> simp [e]

def sumP : List (Int × Int) → Int
  | [] => 0
  | p :: l => max 0 p.1 + sumP l

theorem sumP_eq : ∀ {l : List (Int × Int)}, (∀ g ∈ l, 0 ≤ g.1) → sumP l = sumL l
  | [], _ => rfl
  | p :: l, h => by
    have := sumP_eq (l := l) fun g hg => h g (by simp [hg])
    have := h p (by simp)
    simp only [sumP, sumL]; omega

theorem few_loop {K : Nat} {segs : List (Int × Int)} (hs : segs.length ≤ 8796093022208) (hg : ∀ g ∈ segs, -9223372036854775808 ≤ g.1) : ∀ (rest : List (Int × Int)) (j k : Nat) (n : Int), segs.drop j = rest → rest.length < k → 0 ≤ n → n ≤ 300 * j →
    palinodelaw7_few.l0 K segs k n (j : Int) = some (Sum.inl false) ∨ ∃ m, palinodelaw7_few.l0 K segs k n (j : Int) = some (Sum.inr m) ∧ (∀ g ∈ rest, g.1 ≤ 300) ∧ n + sumP rest = m
  | [], j, k, n, hd, hk, h0, h1 => by
    obtain ⟨k, rfl⟩ : ∃ m, k = m + 1 := ⟨k - 1, by simp at hk; omega⟩
    have := drop_nil hd
    rw [palinodelaw7_few.l0, if_neg (by simp; omega)]
    exact .inr ⟨n, rfl, by simp, by simp [sumP]⟩
  | g :: rest, j, k, n, hd, hk, h0, h1 => by
    obtain ⟨k, rfl⟩ : ∃ m, k = m + 1 := ⟨k - 1, by simp at hk; omega⟩
    obtain ⟨hj, hgd, hd'⟩ := drop_cons hd (0, 0)
    have hk' : rest.length < k := by simp at hk; omega
    have hw : IntKind.wrap .i64 ((j : Int) + 1) = ((j + 1 : Nat) : Int) := by rw [w64 (by omega) (by omega)]; omega
    rw [palinodelaw7_few.l0]
    simp only [Int.toNat_natCast, hgd, hw, mx2_eq]
    rw [if_pos (by simpa using hj), if_pos ⟨by omega, by omega⟩]
    by_cases h : g.1 > 300
    · rw [if_pos (by simpa using h)]; exact .inl rfl
    · rw [if_neg (by simpa using h), w64 (n := n + max 0 g.1) (by omega) (by omega)]
      rcases few_loop hs hg rest (j + 1) k (n + max 0 g.1) hd' hk' (by omega) (by omega) with h' | ⟨m, h', e1, e2⟩
      · exact .inl h'
      · refine .inr ⟨m, h', fun q hq => ?_, by simp only [sumP]; omega⟩
        rcases List.mem_cons.1 hq with rfl | hq
        · omega
        · exact e1 q hq

theorem few_is {K : Nat} {segs : List (Int × Int)} (hs : segs.length ≤ 8796093022208) (hg : ∀ g ∈ segs, -9223372036854775808 ≤ g.1) (hK : segs.length < K) :
    palinodelaw7_few K segs = some false ∨ palinodelaw7_few K segs = some true ∧ (∀ g ∈ segs, g.1 ≤ 300) ∧ sumP segs ≤ 600 ∧ segs.length ≤ 250 := by
  unfold palinodelaw7_few
  have h := few_loop (K := K) hs hg segs 0 K 0 rfl hK (by omega) (by omega)
  rw [Int.natCast_zero] at h
  rcases h with h | ⟨m, h, e1, e2⟩
  · rw [h]; exact .inl rfl
  · rw [h, Option.bind_some]
    simp only [Sum.elim_inr]
    by_cases h6 : m ≤ 600
    · rw [if_pos (by simpa using h6)]
      by_cases h7 : segs.length ≤ 250
      · exact .inr ⟨by simp; omega, e1, by omega, h7⟩
      · left; simp; omega
    · rw [if_neg (by simpa using h6)]; exact .inl rfl

theorem of7_loop {K : Nat} {segs : List (Int × Int)} : ∀ (rest : List (Int × Int)) (j k : Nat), segs.drop j = rest → rest.length < k → segs.length < 1000000000000 →
    palinoderef7_Of.l0 K segs k (j : Int) = some (if bad (if j = 0 then none else some (segs.getD (j - 1) (0, 0)).2) rest = true then Sum.inl ([], 12) else Sum.inr ())
  | [], j, k, hd, hk, hs => by
    obtain ⟨k, rfl⟩ : ∃ m, k = m + 1 := ⟨k - 1, by simp at hk; omega⟩
    have := drop_nil hd
    rw [palinoderef7_Of.l0, if_neg (by simp; omega)]
    simp [bad]
  | g :: rest, j, k, hd, hk, hs => by
    obtain ⟨k, rfl⟩ : ∃ m, k = m + 1 := ⟨k - 1, by simp at hk; omega⟩
    obtain ⟨hj, hgd, hd'⟩ := drop_cons hd (0, 0)
    have hk' : rest.length < k := by simp at hk; omega
    have hw : IntKind.wrap .i64 ((j : Int) + 1) = ((j + 1 : Nat) : Int) := by rw [w64 (by omega) (by omega)]; omega
    have hwm : IntKind.wrap .i64 ((j : Int) - 1) = (j : Int) - 1 := w64 (by omega) (by omega)
    have hnext := of7_loop (K := K) rest (j + 1) k hd' hk' hs
    rw [show (if j + 1 = 0 then none else some (segs.getD (j + 1 - 1) (0, 0)).2) = some g.2 by rw [if_neg (by omega), Nat.add_sub_cancel, hgd]] at hnext
    have hin : 0 ≤ (j : Int) ∧ (j : Int) < ((segs.length : Nat) : Int) := ⟨by omega, by omega⟩
    rw [palinoderef7_Of.l0]
    simp only [Int.toNat_natCast, hgd, hw, hwm, if_pos hin]
    rw [if_pos (by simpa using hj), bad]
    by_cases h1 : g.1 < 1
    · rw [if_pos (by simpa using h1), Option.bind_some, if_pos rfl, if_pos (by simp [h1])]
    · rw [if_neg (by simpa using h1)]
      by_cases h2 : g.2 < 0
      · rw [if_pos (by simpa using h2), Option.bind_some, if_pos rfl, if_pos (by simp; omega)]
      · rw [if_neg (by simpa using h2)]
        by_cases h2' : g.2 > 100
        · rw [if_pos (by simpa using h2'), Option.bind_some, if_pos rfl, if_pos (by simp; omega)]
        · rw [if_neg (by simpa using h2')]
          have hok : 0 ≤ g.2 ∧ g.2 ≤ 100 := by omega
          by_cases h3 : j = 0
          · subst h3
            rw [if_neg (by simp), Option.bind_some, if_neg (by simp), hnext]
            simp [h1, hok]
          · rw [if_pos (by simp; omega), if_pos ⟨by omega, by omega, by omega, by omega⟩, Option.bind_some, show ((j : Int) - 1).toNat = j - 1 by omega, if_neg h3]
            by_cases h4 : g.2 = (segs.getD (j - 1) (0, 0)).2
            · rw [if_pos (by simpa using h4), if_pos (by simp [h4])]
            · rw [if_neg (by simpa using h4), hnext]
              have h4' : (some (segs.getD (j - 1) (0, 0)).2 == some g.2) = false := by
                simpa [beq_eq_false_iff_ne] using fun h => h4 h.symm
              rw [h4']
              simp [h1, hok]

theorem of7_loop1 {K : Nat} {segs : List (Int × Int)} (hs : segs.length < 1000000000000) : ∀ (rest : List (Int × Int)) (j k : Nat) (n : Int), segs.drop j = rest → rest.length < k → 0 ≤ n → (∀ g ∈ rest, 0 ≤ g.1) → n + sumL rest ≤ 20000 →
    palinoderef7_Of.l1 K segs k n (j : Int) = some (Sum.inr ())
  | [], j, k, n, hd, hk, h0, hg, hsum => by
    obtain ⟨k, rfl⟩ : ∃ m, k = m + 1 := ⟨k - 1, by simp at hk; omega⟩
    have := drop_nil hd
    rw [palinoderef7_Of.l1, if_neg (by simp; omega)]
  | g :: rest, j, k, n, hd, hk, h0, hg, hsum => by
    obtain ⟨k, rfl⟩ : ∃ m, k = m + 1 := ⟨k - 1, by simp at hk; omega⟩
    obtain ⟨hj, hgd, hd'⟩ := drop_cons hd (0, 0)
    have hg0 : 0 ≤ g.1 := hg g (by simp)
    have hrest : ∀ g ∈ rest, 0 ≤ g.1 := fun g h => hg g (by simp [h])
    have hk' : rest.length < k := by simp at hk; omega
    have hr0 := (le_sumL hrest).1
    simp only [sumL] at hsum
    have hw : IntKind.wrap .i64 ((j : Int) + 1) = ((j + 1 : Nat) : Int) := by rw [w64 (by omega) (by omega)]; omega
    rw [palinoderef7_Of.l1]
    simp only [Int.toNat_natCast, hgd, hw]
    rw [if_pos (by simpa using hj), if_pos ⟨by omega, by omega⟩, w64 (n := 20000 - n) (by omega) (by omega), if_neg (by simp; omega), w64 (n := n + g.1) (by omega) (by omega)]
    exact of7_loop1 hs rest (j + 1) k _ hd' hk' (by omega) hrest (by omega)

theorem of7_loop3 {K : Nat} {segs : List (Int × Int)} {i : Nat} (hi : i < segs.length) {g : Int × Int} (hgd : segs.getD i (0, 0) = g) (hg : g.1 ≤ 20000) : ∀ (d k : Nat) (l : List Int) (m : Int), 0 ≤ m → m + d = g.1 → d < k → l.length + d ≤ 100000 →
    palinoderef7_Of.l3 K i segs k l m = some (l ++ List.replicate d g.2) := by
  intro d
  induction d with
  | zero =>
    intro k l m h0 hm hk hl
    obtain ⟨k, rfl⟩ : ∃ m, k = m + 1 := ⟨k - 1, by omega⟩
    rw [palinoderef7_Of.l3, Int.toNat_natCast, hgd, if_pos ⟨by omega, by omega⟩, if_neg (by simp; omega)]
    simp
  | succ d ih =>
    intro k l m h0 hm hk hl
    obtain ⟨k, rfl⟩ : ∃ m, k = m + 1 := ⟨k - 1, by omega⟩
    rw [palinoderef7_Of.l3, Int.toNat_natCast, hgd, if_pos ⟨by omega, by omega⟩, if_pos (by simp; omega), if_pos (by simp; omega), w64 (by omega) (by omega), ih k _ _ (by omega) (by omega) (by omega) (by simp; omega)]
    simp [List.replicate_succ]

theorem of7_loop2 {K : Nat} {segs : List (Int × Int)} (hs : segs.length < 1000000000000) (hK : 100000 < K) : ∀ (rest : List (Int × Int)) (j k : Nat) (l : List Int), segs.drop j = rest → rest.length < k → (∀ g ∈ rest, 0 ≤ g.1) → l.length + sumL rest ≤ 20000 →
    palinoderef7_Of.l2 K segs k l (j : Int) = some (l ++ expand rest, 0)
  | [], j, k, l, hd, hk, hg, hsum => by
    obtain ⟨k, rfl⟩ : ∃ m, k = m + 1 := ⟨k - 1, by simp at hk; omega⟩
    have := drop_nil hd
    rw [palinoderef7_Of.l2, if_neg (by simp; omega)]
    simp [expand]
  | g :: rest, j, k, l, hd, hk, hg, hsum => by
    obtain ⟨k, rfl⟩ : ∃ m, k = m + 1 := ⟨k - 1, by simp at hk; omega⟩
    obtain ⟨hj, hgd, hd'⟩ := drop_cons hd (0, 0)
    have hg0 : 0 ≤ g.1 := hg g (by simp)
    have hrest : ∀ g ∈ rest, 0 ≤ g.1 := fun g h => hg g (by simp [h])
    have hk' : rest.length < k := by simp at hk; omega
    have hr0 := (le_sumL hrest).1
    simp only [sumL] at hsum
    have hw : IntKind.wrap .i64 ((j : Int) + 1) = ((j + 1 : Nat) : Int) := by rw [w64 (by omega) (by omega)]; omega
    rw [palinoderef7_Of.l2, if_pos (by simpa using hj), of7_loop3 hj hgd (by omega) g.1.toNat K l 0 (by omega) (by omega) (by omega) (by omega), Option.bind_some, hw, of7_loop2 hs hK rest (j + 1) k _ hd' hk' hrest (by simp; omega)]
    simp [expand]

theorem of7_is {K : Nat} {segs : List (Int × Int)} (hs : segs.length ≤ 250) (hK : 100000 < K) (hsum : bad none segs = false → sumL segs ≤ 600) : palinoderef7_Of K segs = some (if bad none segs = true then ([], 12) else if segs.length > 200 then ([], 70) else (expand segs, 0)) := by
  unfold palinoderef7_Of
  have h := of7_loop (K := K) segs 0 K rfl (by omega) (by omega)
  rw [Int.natCast_zero, if_pos rfl] at h
  rw [h, Option.bind_some]
  by_cases hb : bad none segs = true
  · rw [if_pos hb, if_pos hb]; rfl
  · rw [if_neg hb, if_neg hb]
    have hb' : bad none segs = false := by simpa using hb
    have hn := bad_nonneg hb'
    have hsm := hsum hb'
    simp only [Sum.elim_inr]
    by_cases h2 : segs.length > 200
    · rw [if_pos (by simp; omega), if_pos h2]
    · rw [if_neg (by simp; omega), if_neg h2]
      have h1 := of7_loop1 (K := K) (segs := segs) (by omega) segs 0 K 0 rfl (by omega) (by omega) hn (by omega)
      have h3 := of7_loop2 (K := K) (segs := segs) (by omega) hK segs 0 K [] rfl (by omega) hn (by simp; omega)
      rw [Int.natCast_zero] at h1 h3
      rw [h1, Option.bind_some]
      simp only [Sum.elim_inr]
      rw [h3]; rfl

theorem packed_mid {e : List Int} (h : e.length ≤ 20000) : packed e = if (rle e).length > 200 then (none, 70) else (sub e, 0) := by
  unfold packed
  rw [if_neg (by omega)]

theorem put_empty {e : List Int} {f c : Int} (h0 : 0 ≤ f) (h1 : f ≤ e.length) : put e f f c = e := by
  unfold put
  rw [Int.sub_self]
  simp

theorem put_succ {e : List Int} {f c : Int} {k : Nat} (h0 : 0 ≤ f) (h1 : f ≤ k) (h2 : k < e.length) : (put e f k c).set k c = put e f ((k + 1 : Nat) : Int) c := by
  unfold put
  have e1 : (List.take f.toNat e ++ List.replicate ((k : Int) - f).toNat c).length = k := by simp; omega
  rw [Int.toNat_natCast, Int.toNat_natCast, List.set_append_right _ _ (by omega), e1, Nat.sub_self, List.drop_eq_getElem_cons h2, List.set_cons_zero, show (((k + 1 : Nat) : Int) - f).toNat = ((k : Int) - f).toNat + 1 by omega, List.replicate_succ']
  simp

theorem put_loop {K : Nat} {l : List (Int × (Int × Int))} {i : Int} {e : List Int} {f t c : Int} (hx : l.getD i.toNat (0, (0, 0)) = (f, t, c)) (he : e.length < 1000000) (h0 : 0 ≤ f) (h2 : t ≤ e.length) : ∀ (d j k : Nat), f ≤ j → (j : Int) + d = t → d < k →
    palinodelaw7_SubsetPlays.l1 K l i k (put e f j c) (j : Int) = some (put e f t c) := by
  intro d
  induction d with
  | zero =>
    intro j k hf hj hk
    obtain ⟨k, rfl⟩ : ∃ m, k = m + 1 := ⟨k - 1, by omega⟩
    have : t = j := by omega
    rw [palinodelaw7_SubsetPlays.l1, hx, if_neg (by simp; omega), this]
  | succ d ih =>
    intro j k hf hj hk
    obtain ⟨k, rfl⟩ : ∃ m, k = m + 1 := ⟨k - 1, by omega⟩
    have hw : IntKind.wrap .i64 ((j : Int) + 1) = ((j + 1 : Nat) : Int) := by rw [w64 (by omega) (by omega)]; omega
    have hp := put_len (e := e) (f := f) (t := j) (c := c) h0 hf (by omega)
    rw [palinodelaw7_SubsetPlays.l1, hx, if_pos (by simp; omega), if_pos ⟨by omega, by omega⟩, hw, Int.toNat_natCast]
    simp only
    rw [put_succ h0 hf (by omega)]
    exact ih (j + 1) k (by omega) (by omega) (by omega)

theorem plays_loop {K : Nat} (hK : 100000 < K) {l : List (Int × (Int × Int))} (hl : l.length ≤ 20) : ∀ (d j k : Nat) (e : List Int), j + d = l.length → d < k → e.length ≤ 600 → (rle e).length ≤ 200 →
    ∃ e', palinodelaw7_SubsetPlays.l0 K l k (sub e) e (j : Int) = some (Sum.inr (sub e', e')) ∧ e'.length ≤ 600 ∧ (rle e').length ≤ 200 := by
  intro d
  induction d with
  | zero =>
    intro j k e hj hk he hr
    obtain ⟨k, rfl⟩ : ∃ m, k = m + 1 := ⟨k - 1, by omega⟩
    refine ⟨e, ?_, he, hr⟩
    rw [palinodelaw7_SubsetPlays.l0, if_neg (by simp; omega)]
  | succ d ih =>
    intro j k e hj hk he hr
    obtain ⟨k, rfl⟩ : ∃ m, k = m + 1 := ⟨k - 1, by omega⟩
    have hw : IntKind.wrap .i64 ((j : Int) + 1) = ((j + 1 : Nat) : Int) := by rw [w64 (by omega) (by omega)]; omega
    have hjl : j < l.length := by omega
    obtain ⟨f, t, c, hx⟩ : ∃ f t c, l.getD j (0, (0, 0)) = (f, t, c) := ⟨_, _, _, rfl⟩
    rw [palinodelaw7_SubsetPlays.l0, if_pos (by simp; omega), if_pos ⟨by omega, by omega, by omega⟩, hw]
    simp only [Int.toNat_natCast, hx]
    rw [with_is (by omega) (by omega) hr]
    by_cases h1 : f < 0 ∨ f > t ∨ t > e.length
    · have c1 : (if decide (f < 0) = true then some true else if decide (t < f) = true then some true else some (decide (t > ((e.length : Nat) : Int)))) = some true := by
        by_cases a1 : f < 0
        · rw [if_pos (by simpa using a1)]
        · rw [if_neg (by simpa using a1)]
          by_cases a2 : t < f
          · rw [if_pos (by simpa using a2)]
          · rw [if_neg (by simpa using a2)]; simp; omega
      rw [c1, Option.bind_some, if_pos rfl, Option.bind_some, if_pos h1, Option.bind_some]
      simp only [same_gr_is (K := K) (e := e) (by omega) (by omega) (by omega) hr]
      simp
      exact ih (j + 1) k e (by omega) (by omega) he hr
    · have c1 : (if decide (f < 0) = true then some true else if decide (t < f) = true then some true else some (decide (t > ((e.length : Nat) : Int)))) = some false := by
        rw [if_neg (by simp; omega), if_neg (by simp; omega)]; simp; omega
      rw [c1, Option.bind_some, if_neg (by simp), if_neg h1]
      by_cases h2 : 0 ≤ c ∧ c ≤ 100
      · have c2 : (if decide (c < 0) = true then some true else some (decide (c > 100))) = some false := by
          rw [if_neg (by simp; omega)]; simp; omega
        obtain ⟨f', rfl⟩ : ∃ m : Nat, f = m := ⟨f.toNat, by omega⟩
        have hlp := put_loop (K := K) (l := l) (i := (j : Int)) (e := e) (f := f') (t := t) (c := c) (by rw [Int.toNat_natCast, hx]) (by omega) (by omega) (by omega) (t - f').toNat f' K (by omega) (by omega) (by omega)
        rw [put_empty (by omega) (by omega)] at hlp
        have hp := put_len (e := e) (f := f') (t := t) (c := c) (by omega) (by omega) (by omega)
        rw [c2, Option.bind_some, if_neg (by simp), hlp, Option.bind_some, told7_is (by omega) (by omega), Option.bind_some, Option.bind_some, if_neg (by simpa using h2), Option.bind_some]
        generalize put e f' t c = e' at hp ⊢
        rw [packed_mid (by omega)]
        by_cases h3 : (rle e').length > 200
        · rw [if_pos h3, if_pos h3]
          simp only [same_gr_is (K := K) (e := e) (by omega) (by omega) (by omega) hr]
          simp
          exact ih (j + 1) k e (by omega) (by omega) he hr
        · rw [if_neg h3, if_neg h3]
          simp only [same_gr_is (K := K) (e := e) (by omega) (by omega) (by omega) hr, same_gr_is (K := K) (e := e') (by omega) (by omega) (by omega) (by omega), same_is (K := K) (a := e') (b := e) (by omega) (by omega), same_is (K := K) (a := e') (b := e') (by omega) (by omega),
            equal7_is (K := K) (a := e') (b := e) (by omega) (by omega) (by omega)]
          simp [sub]
          exact ih (j + 1) k e' (by omega) (by omega) (by omega) (by omega)
      · have c2 : (if decide (c < 0) = true then some true else some (decide (c > 100))) = some true := by
          by_cases a1 : c < 0
          · rw [if_pos (by simpa using a1)]
          · rw [if_neg (by simpa using a1)]; simp; omega
        rw [c2, Option.bind_some, if_pos rfl, Option.bind_some, if_pos h2, Option.bind_some]
        simp only [same_gr_is (K := K) (e := e) (by omega) (by omega) (by omega) hr]
        simp
        exact ih (j + 1) k e (by omega) (by omega) he hr

theorem SubsetPlays_pure (segs : List (Int × Int)) (l : List (Int × (Int × Int))) (os : Kd.ok (.slice (.pair (.int .i64) (.int .i64))) segs) (ol : Kd.ok (.slice (.pair (.int .i64) (.pair (.int .i64) (.int .i64)))) l) : ∃ K, palinodelaw7_SubsetPlays K segs l = some true := by
  refine ⟨segs.length + 100001, ?_⟩
  generalize hK : segs.length + 100001 = K
  have hsl : segs.length ≤ 8796093022208 := by
    have := os.1
    simp only [Kd.bytes, IntKind.bits] at this
    omega
  unfold palinodelaw7_SubsetPlays
  rw [known7 (by omega), Option.bind_some, if_neg (by simp)]
  rcases few_is (K := K) hsl (fun g hg => (bounds_i64 (os.2 g hg).1).1) (by omega) with h | ⟨h, h1, h2, h3⟩
  · rw [h]; simp
  · rw [h, Option.bind_some, if_neg (by simp), Option.bind_some]
    by_cases hl : l.length > 20
    · rw [if_pos (by simp; omega)]
    · rw [if_neg (by simp; omega)]
      have hsum : bad none segs = false → sumL segs ≤ 600 := fun hb => by rw [← sumP_eq (bad_nonneg hb)]; exact h2
      rw [of_is (by omega) (by omega), Option.bind_some, of7_is h3 (by omega) hsum, Option.bind_some]
      by_cases hb : bad none segs = true
      · rw [if_pos hb, if_pos hb]; simp
      · rw [if_neg hb, if_neg hb]
        have hb' : bad none segs = false := by simpa using hb
        have hx := expand_len (bad_nonneg hb')
        have hs6 := hsum hb'
        have hrl := rle_expand hb'
        rw [packed_mid (by omega), hrl]
        by_cases h4 : segs.length > 200
        · rw [if_pos h4, if_pos h4]; simp
        · rw [if_neg h4, if_neg h4]
          obtain ⟨e', he, hl', hr'⟩ := plays_loop (K := K) (by omega) (l := l) (by omega) l.length 0 K (expand segs) (by omega) (by omega) (by omega) (by rw [hrl]; omega)
          rw [Int.natCast_zero] at he
          simp only
          rw [he]
          simp [sub]
          exact same_gr_is (by omega) (by omega) (by omega) (by omega)

end Go.Pal
