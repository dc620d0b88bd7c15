/- Whatever places and counts: places changed one after the other come to the same in whatever order, if they lie apart. -/
import Derived.Test.YtlogcamkdjdocaaFunSubsetOrder
namespace Go.Pal
open Go
theorem w64 {n : Int} (h1 : -9223372036854775808 ≤ n) (h2 : n < 9223372036854775808) : IntKind.wrap .i64 n = n := by
  simp only [IntKind.wrap, IntKind.bits, IntKind.signed]
  simp
  omega

theorem drop_cons {α : Type} {l : List α} {j : Nat} {g : α} {r : List α} (h : l.drop j = g :: r) (d : α) : j < l.length ∧ l.getD j d = g ∧ l.drop (j + 1) = r := by
  have hj : j < l.length := by
    rcases Nat.lt_or_ge j l.length with h' | h'
    · exact h'
    · rw [List.drop_eq_nil_of_le h'] at h; cases h
  rw [List.drop_eq_getElem_cons hj] at h
  obtain ⟨h1, h2⟩ := List.cons.inj h
  exact ⟨hj, by simp [List.getD, hj, h1], h2⟩

theorem drop_nil {α : Type} {l : List α} {j : Nat} (h : l.drop j = []) : l.length ≤ j := List.drop_eq_nil_iff.1 h

/-- One run more behind a row of runs. -/
def push (acc : List (Int × Int)) (g : Int × Int) : List (Int × Int) :=
  if acc ≠ [] ∧ (acc.getD (acc.length - 1) (0, 0)).2 = g.2 then acc.set (acc.length - 1) ((acc.getD (acc.length - 1) (0, 0)).1 + g.1, (acc.getD (acc.length - 1) (0, 0)).2) else acc ++ [g]

def packA : List (Int × Int) → Int → List (Int × Int) → Option (List (Int × Int) × Int)
  | acc, len, [] => some (acc, len)
  | acc, len, g :: rest => if g.1 = 0 then packA acc len rest else if g.1 > 20000 - len then none else packA (push acc g) (len + g.1) rest

theorem push_nil (g : Int × Int) : push [] g = [g] := rfl

theorem push_app (l : List (Int × Int)) (p g : Int × Int) : push (l ++ [p]) g = if p.2 = g.2 then l ++ [(p.1 + g.1, p.2)] else l ++ [p] ++ [g] := by
  unfold push
  have e1 : (l ++ [p]).length - 1 = l.length := by simp
  have e2 : (l ++ [p]).getD l.length (0, 0) = p := by simp [List.getD]
  rw [e1, e2]
  by_cases h : p.2 = g.2
  · rw [if_pos ⟨by simp, h⟩, if_pos h, List.set_append_right _ _ (Nat.le_refl _)]
    simp
  · rw [if_neg (fun h' => h h'.2), if_neg h]

theorem split_last {α : Type} : ∀ {l : List α}, l ≠ [] → ∃ m x, l = m ++ [x] := by
  intro l h
  exact ⟨l.dropLast, l.getLast h, (List.dropLast_concat_getLast h).symm⟩

theorem push_len {acc : List (Int × Int)} {g : Int × Int} : (push acc g).length ≤ acc.length + 1 := by
  unfold push; split <;> simp

def sumL : List (Int × Int) → Int
  | [] => 0
  | p :: l => p.1 + sumL l

theorem sumL_app : ∀ {l r : List (Int × Int)}, sumL (l ++ r) = sumL l + sumL r
  | [], r => by simp [sumL]
  | p :: l, r => by simp only [List.cons_append, sumL, sumL_app]; omega

theorem sumL_push {acc : List (Int × Int)} {g : Int × Int} : sumL (push acc g) = sumL acc + g.1 := by
  by_cases h : acc = []
  · subst h; simp [push_nil, sumL]
  · obtain ⟨l, p, rfl⟩ := split_last h
    rw [push_app]
    split <;> simp only [sumL_app, sumL] <;> omega

theorem nonneg_push {acc : List (Int × Int)} {g : Int × Int} (ha : ∀ p ∈ acc, 0 ≤ p.1) (hg : 0 ≤ g.1) : ∀ p ∈ push acc g, 0 ≤ p.1 := by
  by_cases h : acc = []
  · subst h; simp [push_nil]; exact hg
  · obtain ⟨l, p, rfl⟩ := split_last h
    have hp := ha p (by simp)
    have hl : ∀ q ∈ l, 0 ≤ q.1 := fun q hq => ha q (by simp [hq])
    rw [push_app]
    intro q hq
    split at hq
    · rcases List.mem_append.1 hq with hq | hq
      · exact hl q hq
      · simp only [List.mem_singleton] at hq; subst hq; show 0 ≤ p.1 + g.1; omega
    · rcases List.mem_append.1 hq with hq | hq
      · exact ha q hq
      · simp only [List.mem_singleton] at hq; subst hq; exact hg

theorem le_sumL : ∀ {l : List (Int × Int)}, (∀ p ∈ l, 0 ≤ p.1) → 0 ≤ sumL l ∧ ∀ p ∈ l, p.1 ≤ sumL l
  | [], _ => ⟨by simp [sumL], fun p hp => by cases hp⟩
  | q :: l, h => by
    obtain ⟨h1, h2⟩ := le_sumL (l := l) fun p hp => h p (by simp [hp])
    have hq := h q (by simp)
    refine ⟨by simp only [sumL]; omega, fun p hp => ?_⟩
    simp only [sumL]
    rcases List.mem_cons.1 hp with rfl | hp
    · omega
    · have := h2 p hp; omega

theorem pack_loop {K : Nat} {segs : List (Int × Int)} : ∀ (rest : List (Int × Int)) (j k : Nat) (acc : List (Int × Int)) (len : Int), segs.drop j = rest → rest.length < k → acc.length ≤ j → segs.length < 1000000000000 → 0 ≤ len → len ≤ 20000 → (∀ g ∈ rest, 0 ≤ g.1) →
    (∀ p ∈ acc, 0 ≤ p.1) → sumL acc = len → subset_Pack_r.l0 K segs k acc len (j : Int) = some (match packA acc len rest with | none => Sum.inl (none, 70) | some x => Sum.inr x)
  | [], j, k, acc, len, hd, hk, ha, hs, h0, h1, hg, hp0, hsum => by
    obtain ⟨k, rfl⟩ : ∃ m, k = m + 1 := ⟨k - 1, by simp at hk; omega⟩
    have := drop_nil hd
    rw [subset_Pack_r.l0]
    rw [if_neg (by simp; omega)]
    rfl
  | g :: rest, j, k, acc, len, hd, hk, ha, hs, h0, h1, hg, hp0, hsum => by
    obtain ⟨k, rfl⟩ : ∃ m, k = m + 1 := ⟨k - 1, by simp at hk; omega⟩
    obtain ⟨hj, hgd, hd'⟩ := drop_cons hd (0, 0)
    have hg0 : 0 ≤ g.1 := hg g (by simp)
    have hrest : ∀ g ∈ rest, 0 ≤ g.1 := fun g h => hg g (by simp [h])
    have hk' : rest.length < k := by simp at hk; omega
    have hw : IntKind.wrap .i64 ((j : Int) + 1) = ((j + 1 : Nat) : Int) := by rw [w64 (by omega) (by omega)]; omega
    have hl : IntKind.wrap .i64 ((((List.length acc) : Nat) : Int) - (1 : Int)) = (acc.length : Int) - 1 := w64 (by omega) (by omega)
    have hpl := push_len (acc := acc) (g := g)
    have hnext := fun (hb : ¬ g.1 > 20000 - len) => pack_loop (K := K) rest (j + 1) k (push acc g) (len + g.1) hd' hk' (by omega) hs (by omega) (by omega) hrest (nonneg_push hp0 hg0) (by rw [sumL_push, hsum])
    rw [subset_Pack_r.l0]
    rw [if_pos (by simpa using hj), if_pos ⟨by omega, by omega⟩]
    simp only [Int.toNat_natCast, hgd, hw, hl]
    rw [packA]
    by_cases hz : g.1 = 0
    · rw [if_pos (by simpa using hz), if_pos hz]
      exact pack_loop rest (j + 1) k acc len hd' hk' (by omega) hs h0 h1 hrest hp0 hsum
    · rw [if_neg (by simpa using hz), if_neg hz, w64 (by omega) (by omega)]
      by_cases hb : g.1 > 20000 - len
      · rw [if_pos (by simpa using hb), if_pos hb]
      · rw [if_neg (by simpa using hb), if_neg hb, ← hnext hb, w64 (n := len + g.1) (by omega) (by omega)]
        by_cases he : acc = []
        · subst he
          simp [push_nil]
        · have hp : 0 < acc.length := List.length_pos_iff.2 he
          rw [if_pos (by simp; omega), if_pos ⟨by omega, by omega⟩, Option.bind_some]
          have hn : ((acc.length : Int) - 1).toNat = acc.length - 1 := by omega
          rw [hn]
          have hlast : 0 ≤ (acc.getD (acc.length - 1) (0, 0)).1 ∧ (acc.getD (acc.length - 1) (0, 0)).1 ≤ len := by
            have hm : acc.getD (acc.length - 1) (0, 0) ∈ acc := by
              rw [List.getD, List.getElem?_eq_getElem (by omega)]
              simp
            exact ⟨hp0 _ hm, by rw [← hsum]; exact (le_sumL hp0).2 _ hm⟩
          by_cases hq : (acc.getD (acc.length - 1) (0, 0)).2 = g.2
          · rw [if_pos (by simpa using hq), if_pos ⟨by omega, by omega⟩, w64 (n := (acc.getD (acc.length - 1) (0, 0)).1 + g.1) (by omega) (by omega)]
            unfold push
            rw [if_pos ⟨he, hq⟩]
          · rw [if_neg (by simpa using hq), if_pos (by simp; omega)]
            unfold push
            rw [if_neg (fun h => hq h.2)]

/-- Pack, told. -/
theorem pack_eq {K : Nat} {segs : List (Int × Int)} (hK : segs.length < K) (hs : segs.length < 1000000000000) (hg : ∀ g ∈ segs, 0 ≤ g.1) :
    subset_Pack_r K segs = some (match packA [] 0 segs with | none => (none, 70) | some x => if x.1.length > 200 then (none, 70) else (some x, 0)) := by
  unfold subset_Pack_r
  have h := pack_loop (K := K) segs 0 K [] 0 rfl hK (by simp) hs (by omega) (by omega) hg (by simp) rfl
  rw [Int.natCast_zero] at h
  rw [h, Option.bind_some]
  cases packA [] 0 segs with
  | none => rfl
  | some x =>
    simp only [Sum.elim_inr]
    by_cases h : x.1.length > 200
    · rw [if_pos (by simp; omega), if_pos h]
    · rw [if_neg (by simp; omega), if_neg h]

abbrev Sub := Option (List (Int × Int) × Int)

def partA (f t : Int) : Int → List (Int × Int) → List (Int × Int)
  | _, [] => []
  | x, g :: rest => (if max x f < min (x + g.1) t then [(min (x + g.1) t - max x f, g.2)] else []) ++ partA f t (x + g.1) rest

theorem mx2_eq (a b : Int) : mx2 a b = max a b := by unfold mx2; split <;> omega

theorem mn2_eq (a b : Int) : mn2 a b = min a b := by unfold mn2; split <;> omega

theorem part_loop {K : Nat} {segs : List (Int × Int)} {n f t : Int} : ∀ (rest : List (Int × Int)) (j k : Nat) (out : List (Int × Int)) (x : Int), segs.drop j = rest → rest.length < k → out.length ≤ j → segs.length < 1000000000000 → 0 ≤ x → (∀ g ∈ rest, 0 ≤ g.1) → x + sumL rest ≤ 20000 →
    subset_Subset_part.l0 K (some (segs, n)) f t k out x (j : Int) = some (out ++ partA f t x rest)
  | [], j, k, out, x, hd, hk, ho, hs, h0, hg, hsum => by
    obtain ⟨k, rfl⟩ : ∃ m, k = m + 1 := ⟨k - 1, by simp at hk; omega⟩
    have := drop_nil hd
    rw [subset_Subset_part.l0]
    simp only [Option.getD_some]
    rw [if_neg (by simp; omega)]
    simp [partA]
  | g :: rest, j, k, out, x, hd, hk, ho, hs, h0, hg, hsum => by
    obtain ⟨k, rfl⟩ : ∃ m, k = m + 1 := ⟨k - 1, by simp at hk; omega⟩
    obtain ⟨hj, hgd, hd'⟩ := drop_cons hd (0, 0)
    have hg0 : 0 ≤ g.1 := hg g (by simp)
    have hrest : ∀ g ∈ rest, 0 ≤ g.1 := fun g h => hg g (by simp [h])
    have hk' : rest.length < k := by simp at hk; omega
    have hr0 := (le_sumL hrest).1
    simp only [sumL] at hsum
    have hw : IntKind.wrap .i64 ((j : Int) + 1) = ((j + 1 : Nat) : Int) := by rw [w64 (by omega) (by omega)]; omega
    rw [subset_Subset_part.l0]
    simp only [Option.getD_some, Int.toNat_natCast, hgd, hw, mx2_eq, mn2_eq]
    rw [w64 (n := x + g.1) (by omega) (by omega)]
    rw [if_pos (by simpa using hj), if_pos ⟨by omega, by omega⟩]
    rw [partA]
    by_cases hc : max x f < min (x + g.1) t
    · rw [if_pos (by simpa using hc), if_pos (by simp; omega), if_pos hc, w64 (n := min (x + g.1) t - max x f) (by omega) (by omega), part_loop rest (j + 1) k _ _ hd' hk' (by simp; omega) hs (by omega) hrest (by omega)]
      simp
    · rw [if_neg (by simpa using hc), if_neg hc, part_loop rest (j + 1) k _ _ hd' hk' (by omega) hs (by omega) hrest (by omega)]
      simp

theorem part_eq {K : Nat} {segs : List (Int × Int)} {n f t : Int} (hK : segs.length < K) (hs : segs.length < 1000000000000) (hg : ∀ g ∈ segs, 0 ≤ g.1) (hsum : sumL segs ≤ 20000) :
    subset_Subset_part K (some (segs, n)) f t = some (partA f t 0 segs) := by
  unfold subset_Subset_part
  rw [if_pos (show Option.isSome (some (segs, n)) = true from rfl)]
  have h := part_loop (K := K) (n := n) (f := f) (t := t) segs 0 K [] 0 rfl hK (by simp) hs (by omega) hg (by omega)
  rw [Int.natCast_zero] at h
  rw [h]; simp

theorem part_nonneg {f t : Int} : ∀ {l : List (Int × Int)} {x : Int}, ∀ p ∈ partA f t x l, 0 ≤ p.1
  | [], _, p, hp => by cases hp
  | g :: l, x, p, hp => by
    rw [partA] at hp
    rcases List.mem_append.1 hp with hp | hp
    · split at hp
      · simp only [List.mem_singleton] at hp; subst hp; simp only; omega
      · cases hp
    · exact part_nonneg p hp

theorem part_len {f t : Int} : ∀ {l : List (Int × Int)} {x : Int}, (partA f t x l).length ≤ l.length
  | [], _ => by simp [partA]
  | g :: l, x => by
    rw [partA]
    have := part_len (f := f) (t := t) (l := l) (x := x + g.1)
    simp only [List.length_append, List.length_cons]
    split <;> simp <;> omega

/-- What a row of runs stands for: a count for each place. -/
def expand : List (Int × Int) → List Int
  | [] => []
  | p :: l => List.replicate p.1.toNat p.2 ++ expand l

theorem expand_app : ∀ {l r : List (Int × Int)}, expand (l ++ r) = expand l ++ expand r
  | [], r => rfl
  | p :: l, r => by simp [expand, expand_app]

theorem expand_push {acc : List (Int × Int)} {g : Int × Int} (ha : ∀ p ∈ acc, 0 ≤ p.1) (hg : 0 ≤ g.1) : expand (push acc g) = expand acc ++ List.replicate g.1.toNat g.2 := by
  by_cases h : acc = []
  · subst h; simp [push_nil, expand]
  · obtain ⟨l, p, rfl⟩ := split_last h
    have hp := ha p (by simp)
    rw [push_app]
    split
    · rename_i he
      simp only [expand_app, expand, List.append_nil, List.append_assoc]
      rw [Int.toNat_add hp hg, ← List.replicate_append_replicate, he]
    · simp [expand_app, expand]

theorem expand_len : ∀ {l : List (Int × Int)}, (∀ p ∈ l, 0 ≤ p.1) → ((expand l).length : Int) = sumL l
  | [], _ => rfl
  | p :: l, h => by
    have := expand_len (l := l) fun q hq => h q (by simp [hq])
    have hp := h p (by simp)
    simp only [expand, sumL, List.length_append, List.length_replicate]
    omega

theorem expand_part {f t : Int} (hf : 0 ≤ f) : ∀ {l : List (Int × Int)} {x : Int}, 0 ≤ x → (∀ p ∈ l, 0 ≤ p.1) → expand (partA f t x l) = ((expand l).take (t - x).toNat).drop (f - x).toNat
  | [], x, _, _ => by simp [partA, expand]
  | g :: l, x, hx, hl => by
    have hg := hl g (by simp)
    have hl' : ∀ p ∈ l, 0 ≤ p.1 := fun p hp => hl p (by simp [hp])
    rw [partA, expand_app, expand_part hf (by omega) hl', expand, List.take_append, List.drop_append, List.length_take, List.take_replicate, List.drop_replicate]
    simp only [List.length_replicate]
    congr 1
    · split
      · rename_i h
        simp only [expand, List.append_nil]
        congr 1
        omega
      · rename_i h
        have : min (t - x).toNat g.1.toNat - (f - x).toNat = 0 := by omega
        rw [this]; rfl
    · rw [show ((t - (x + g.1)).toNat) = (t - x).toNat - g.1.toNat by omega]
      rcases Int.le_total (t - x) g.1 with h | h
      · have : (t - x).toNat - g.1.toNat = 0 := by omega
        rw [this]; simp
      · congr 1
        omega

def pushC (acc : List (Int × Int)) (c : Int) : List (Int × Int) := push acc (1, c)

/-- The least runs. -/
def rle (e : List Int) : List (Int × Int) := e.foldl pushC []

/-- The subset that has these counts. -/
def sub (e : List Int) : Sub := some (rle e, (e.length : Int))

theorem push_push {acc : List (Int × Int)} {a b c : Int} : push (push acc (a, c)) (b, c) = push acc (a + b, c) := by
  by_cases h : acc = []
  · subst h
    rw [push_nil, push_nil]
    have := push_app [] (a, c) (b, c)
    simpa using this
  · obtain ⟨l, p, rfl⟩ := split_last h
    rw [push_app l p (a, c), push_app l p (a + b, c)]
    by_cases he : p.2 = c
    · rw [if_pos he, if_pos he, push_app, if_pos he, Int.add_assoc]
    · rw [if_neg he, if_neg he, push_app, if_pos rfl]

theorem push_reps : ∀ {n : Nat} {acc : List (Int × Int)} {c : Int}, (List.replicate (n + 1) c).foldl pushC acc = push acc ((n : Int) + 1, c)
  | 0, acc, c => rfl
  | n + 1, acc, c => by
    rw [List.replicate_succ, List.foldl_cons, push_reps, pushC, push_push]
    congr 2
    omega

theorem packA_rle : ∀ {l : List (Int × Int)} {e : List Int} {len : Int}, (∀ p ∈ l, 0 ≤ p.1) → len + sumL l ≤ 20000 → packA (rle e) len l = some (rle (e ++ expand l), len + sumL l)
  | [], e, len, _, _ => by simp [packA, expand, sumL]
  | g :: l, e, len, hl, h => by
    have hg := hl g (by simp)
    have hl' : ∀ p ∈ l, 0 ≤ p.1 := fun p hp => hl p (by simp [hp])
    have h0 := (le_sumL hl').1
    simp only [sumL] at h ⊢
    rw [packA, expand]
    by_cases hz : g.1 = 0
    · rw [if_pos hz, packA_rle hl' (by omega), hz]; simp
    · rw [if_neg hz, if_neg (by omega)]
      have hp : push (rle e) g = rle (e ++ List.replicate g.1.toNat g.2) := by
        obtain ⟨n, hn⟩ : ∃ n : Nat, g.1 = (n : Int) + 1 := ⟨g.1.toNat - 1, by omega⟩
        have : g.1.toNat = n + 1 := by omega
        rw [this, rle, rle, List.foldl_append, push_reps, ← hn]
      rw [hp, packA_rle hl' (by omega)]
      rw [List.append_assoc]
      congr 2
      omega

theorem packA_none : ∀ {l acc : List (Int × Int)} {len : Int}, (∀ p ∈ l, 0 ≤ p.1) → len ≤ 20000 → 20000 < len + sumL l → packA acc len l = none
  | [], _, _, _, h, h' => by simp [sumL] at h'; omega
  | g :: l, acc, len, hl, h, h' => by
    have hg := hl g (by simp)
    have hl' : ∀ p ∈ l, 0 ≤ p.1 := fun p hp => hl p (by simp [hp])
    simp only [sumL] at h'
    rw [packA]
    by_cases hz : g.1 = 0
    · rw [if_pos hz]; exact packA_none hl' h (by omega)
    · rw [if_neg hz]
      by_cases hb : g.1 > 20000 - len
      · rw [if_pos hb]
      · rw [if_neg hb]; exact packA_none hl' (by omega) (by omega)

theorem rle_facts : ∀ (e : List Int), (∀ p ∈ rle e, 0 ≤ p.1) ∧ expand (rle e) = e ∧ sumL (rle e) = e.length := by
  intro e
  have key : ∀ (e : List Int) (acc : List (Int × Int)), (∀ p ∈ acc, 0 ≤ p.1) → (∀ p ∈ e.foldl pushC acc, 0 ≤ p.1) ∧ expand (e.foldl pushC acc) = expand acc ++ e ∧ sumL (e.foldl pushC acc) = sumL acc + e.length := by
    intro e
    induction e with
    | nil => intro acc h; exact ⟨h, by simp, by simp⟩
    | cons c e ih =>
      intro acc h
      obtain ⟨h1, h2, h3⟩ := ih (pushC acc c) (nonneg_push h (by simp))
      refine ⟨h1, ?_, ?_⟩
      · rw [List.foldl_cons, h2, pushC, expand_push h (by simp)]; simp
      · rw [List.foldl_cons, h3, pushC, sumL_push]; simp only [List.length_cons]; omega
  obtain ⟨h1, h2, h3⟩ := key e [] (by simp)
  exact ⟨h1, by rw [rle]; simpa [expand] using h2, by rw [rle]; simpa [sumL] using h3⟩

/-- What Pack answers. -/
def packed (e : List Int) : Sub × Int := if e.length > 20000 then (none, 70) else if (rle e).length > 200 then (none, 70) else (sub e, 0)

theorem pack_is {K : Nat} {segs : List (Int × Int)} (hK : segs.length < K) (hs : segs.length < 1000000000000) (hg : ∀ g ∈ segs, 0 ≤ g.1) : subset_Pack_r K segs = some (packed (expand segs)) := by
  rw [pack_eq hK hs hg]
  have hl := expand_len hg
  unfold packed
  by_cases h : sumL segs ≤ 20000
  · have := packA_rle (e := []) (len := 0) hg (by omega)
    rw [show rle [] = [] from rfl] at this
    rw [this, if_neg (by omega)]
    simp only [List.nil_append, Int.zero_add]
    rw [← hl]
    rfl
  · rw [packA_none hg (by omega) (by omega), if_pos (by omega)]

theorem new_is {K : Nat} {n : Int} (hK : 1 < K) (h0 : 0 ≤ n) (h1 : n ≤ 20000) : subset_New K n = some (sub (List.replicate n.toNat 0)) := by
  unfold subset_New
  rw [mx2_eq, mn2_eq, pack_is (by simpa using hK) (by simp) (by intro g hg; simp only [List.mem_singleton] at hg; subst hg; simp only; omega), Option.bind_some]
  rw [show min (max n 0) 20000 = n by omega]
  simp only [expand, List.append_nil]
  unfold packed
  rw [if_neg (by simp; omega), if_neg]
  have : (rle (List.replicate n.toNat (0 : Int))).length ≤ 1 := by
    cases hn : n.toNat with
    | zero => simp [rle]
    | succ m => rw [rle, push_reps, push_nil]; simp
  omega

theorem count_ok {K : Nat} {n : Int} : subset_isCount K n = some (decide (0 ≤ n ∧ n ≤ 100)) := by
  unfold subset_isCount
  by_cases h : 0 ≤ n
  · rw [if_pos (by simpa using h)]; simp [h]
  · rw [if_neg (by simpa using h)]; simp [h]

/-- The counts of e, those from f to t told anew. -/
def put (e : List Int) (f t c : Int) : List Int := e.take f.toNat ++ List.replicate (t - f).toNat c ++ e.drop t.toNat

theorem with_is {K : Nat} {e : List Int} {f t c : Int} (hK : 1000 ≤ K) (hl : e.length ≤ 20000) (hr : (rle e).length ≤ 200) : subset_Subset_With K (sub e) f t c =
    some (if f < 0 ∨ f > t ∨ t > e.length then (none, 10) else if ¬ (0 ≤ c ∧ c ≤ 100) then (none, 12) else packed (put e f t c)) := by
  obtain ⟨hn, hx, hsum⟩ := rle_facts e
  unfold subset_Subset_With sub
  simp only [Option.getD_some]
  by_cases h1 : f < 0
  · rw [if_pos (by simpa using h1), Option.bind_some, if_pos rfl, if_pos (.inl h1)]
  · rw [if_neg (by simpa using h1)]
    by_cases h2 : f > t
    · rw [if_pos (by simpa using h2), Option.bind_some, if_pos rfl, if_pos (.inr (.inl h2))]
    · rw [if_neg (by simpa using h2), if_pos (show Option.isSome (some _) = true from rfl), Option.bind_some]
      by_cases h3 : t > e.length
      · rw [if_pos (by simpa using h3), if_pos (.inr (.inr h3))]
      · rw [if_neg (by simpa using h3), if_neg (by omega), count_ok, Option.bind_some]
        by_cases h4 : 0 ≤ c ∧ c ≤ 100
        · rw [if_neg (by simp [h4]), if_neg (by simp [h4]), part_eq (by omega) (by omega) hn (by omega), Option.bind_some, w64 (by omega) (by omega)]
          have p1 := part_len (f := 0) (t := f) (l := rle e) (x := 0)
          have p2 := part_len (f := t) (t := e.length) (l := rle e) (x := 0)
          rw [if_pos (by simp; omega), part_eq (by omega) (by omega) hn (by omega), Option.bind_some, pack_is (by simp; omega) (by simp; omega), Option.bind_some, if_pos ⟨rfl, by simp; omega⟩]
          · rw [expand_app, expand_app, expand_part (by omega) (by omega) hn, expand_part (by omega) (by omega) hn, hx]
            have e1 : ∀ x : Sub × Int, some (x.1, x.2) = some x := fun x => rfl
            rw [e1]
            congr 2
            unfold put
            simp only [expand, List.append_nil]
            congr 1
            · congr 1
              rw [show (f - 0).toNat = f.toNat by omega]
              simp
            · rw [show (t - 0).toNat = t.toNat by omega, show ((e.length : Int) - 0).toNat = e.length by omega, List.take_length]
          · intro g hg
            rcases List.mem_append.1 hg with hg | hg
            · rcases List.mem_append.1 hg with hg | hg
              · exact part_nonneg g hg
              · simp only [List.mem_singleton] at hg; subst hg; simp only; omega
            · exact part_nonneg g hg
        · rw [if_pos (by simp; omega), if_pos h4]

/-- How many places have a count above nothing. -/
def pos (e : List Int) : Int := ((e.filter fun c => decide (c > 0)).length : Nat)

theorem pos_app {a b : List Int} : pos (a ++ b) = pos a + pos b := by simp [pos]

theorem pos_reps {n : Nat} {c : Int} : pos (List.replicate n c) = if c > 0 then (n : Int) else 0 := by
  unfold pos
  split
  · rename_i h; rw [List.filter_replicate_of_pos (by simpa using h)]; simp
  · rename_i h; rw [List.filter_replicate_of_neg (by simpa using h)]; simp

theorem size_loop {K : Nat} {segs : List (Int × Int)} {m : Int} : ∀ (rest : List (Int × Int)) (j k : Nat) (n : Int), segs.drop j = rest → rest.length < k → segs.length < 1000000000000 → 0 ≤ n → (∀ g ∈ rest, 0 ≤ g.1) → n + sumL rest ≤ 1000000000000 →
    subset_Subset_Size.l0 K (some (segs, m)) k n (j : Int) = some (n + pos (expand rest))
  | [], j, k, n, hd, hk, hs, h0, hg, hsum => by
    obtain ⟨k, rfl⟩ : ∃ m, k = m + 1 := ⟨k - 1, by simp at hk; omega⟩
    have := drop_nil hd
    rw [subset_Subset_Size.l0]
    simp only [Option.getD_some]
    rw [if_neg (by simp; omega)]
    simp [expand, pos]
  | g :: rest, j, k, n, hd, hk, hs, h0, hg, hsum => by
    obtain ⟨k, rfl⟩ : ∃ m, k = m + 1 := ⟨k - 1, by simp at hk; omega⟩
    obtain ⟨hj, hgd, hd'⟩ := drop_cons hd (0, 0)
    have hg0 : 0 ≤ g.1 := hg g (by simp)
    have hrest : ∀ g ∈ rest, 0 ≤ g.1 := fun g h => hg g (by simp [h])
    have hk' : rest.length < k := by simp at hk; omega
    have hr0 := (le_sumL hrest).1
    simp only [sumL] at hsum
    have hw : IntKind.wrap .i64 ((j : Int) + 1) = ((j + 1 : Nat) : Int) := by rw [w64 (by omega) (by omega)]; omega
    rw [subset_Subset_Size.l0]
    simp only [Option.getD_some, Int.toNat_natCast, hgd, hw]
    rw [if_pos (by simpa using hj), if_pos ⟨by omega, by omega⟩, expand, pos_app, pos_reps]
    by_cases hc : g.2 > 0
    · rw [if_pos (by simpa using hc), if_pos hc, w64 (n := n + g.1) (by omega) (by omega), size_loop rest (j + 1) k _ hd' hk' hs (by omega) hrest (by omega)]
      congr 1; omega
    · rw [if_neg (by simpa using hc), if_neg hc, size_loop rest (j + 1) k _ hd' hk' hs (by omega) hrest (by omega)]
      congr 1; omega

theorem size_is {K : Nat} {e : List Int} (hK : 1000 ≤ K) (hl : e.length ≤ 20000) (hr : (rle e).length ≤ 200) : subset_Subset_Size K (sub e) = some (pos e) := by
  obtain ⟨hn, hx, hsum⟩ := rle_facts e
  unfold subset_Subset_Size sub
  rw [if_pos (show Option.isSome (some _) = true from rfl)]
  have h := size_loop (K := K) (segs := rle e) (m := e.length) (rle e) 0 K 0 rfl (by omega) (by omega) (by omega) hn (by omega)
  rw [Int.natCast_zero] at h
  rw [h, hx]; simp

theorem empty_is {K : Nat} {e : List Int} (hK : 1000 ≤ K) (hl : e.length ≤ 20000) (hr : (rle e).length ≤ 200) : subset_Subset_Empty K (sub e) = some (pos e == 0) := by
  unfold subset_Subset_Empty
  rw [size_is hK hl hr]; rfl

theorem len_is {K : Nat} {e : List Int} : subset_Subset_Len K (sub e) = some (e.length : Int) := rfl

theorem count_loop {K : Nat} {segs : List (Int × Int)} {m : Int} : ∀ (rest : List (Int × Int)) (j k : Nat) (x : Int), segs.drop j = rest → rest.length < k → segs.length < 1000000000000 → 0 ≤ x → x ≤ 1000000000000 → (∀ g ∈ rest, 0 ≤ g.1) → sumL rest ≤ 1000000000000 →
    subset_Subset_Count.l0 K (some (segs, m)) k x (j : Int) = some ((expand rest).getD x.toNat 0)
  | [], j, k, x, hd, hk, hs, h0, h1, hg, hsum => by
    obtain ⟨k, rfl⟩ : ∃ m, k = m + 1 := ⟨k - 1, by simp at hk; omega⟩
    have := drop_nil hd
    rw [subset_Subset_Count.l0]
    simp only [Option.getD_some]
    rw [if_neg (by simp; omega)]
    simp [expand]
  | g :: rest, j, k, x, hd, hk, hs, h0, h1, hg, hsum => by
    obtain ⟨k, rfl⟩ : ∃ m, k = m + 1 := ⟨k - 1, by simp at hk; omega⟩
    obtain ⟨hj, hgd, hd'⟩ := drop_cons hd (0, 0)
    have hg0 : 0 ≤ g.1 := hg g (by simp)
    have hrest : ∀ g ∈ rest, 0 ≤ g.1 := fun g h => hg g (by simp [h])
    have hk' : rest.length < k := by simp at hk; omega
    have hr0 := (le_sumL hrest).1
    simp only [sumL] at hsum
    have hw : IntKind.wrap .i64 ((j : Int) + 1) = ((j + 1 : Nat) : Int) := by rw [w64 (by omega) (by omega)]; omega
    rw [subset_Subset_Count.l0]
    simp only [Option.getD_some, Int.toNat_natCast, hgd, hw]
    rw [if_pos (by simpa using hj), if_pos ⟨by omega, by omega⟩, expand]
    by_cases hc : x < g.1
    · rw [if_pos (by simpa using hc)]
      have : x.toNat < g.1.toNat := by omega
      simp [List.getD, List.getElem?_append_left, this]
    · rw [if_neg (by simpa using hc), w64 (n := x - g.1) (by omega) (by omega), count_loop rest (j + 1) k _ hd' hk' hs (by omega) (by omega) hrest (by omega)]
      rw [List.getD, List.getD, List.getElem?_append_right (by simp; omega)]
      simp only [List.length_replicate]
      rw [show (x - g.1).toNat = x.toNat - g.1.toNat by omega]

/-- The count at a place, nothing outside. -/
def at_ (e : List Int) (i : Int) : Int := if i < 0 ∨ i ≥ e.length then 0 else e.getD i.toNat 0

theorem count_is {K : Nat} {e : List Int} {i : Int} (hK : 1000 ≤ K) (hl : e.length ≤ 20000) (hr : (rle e).length ≤ 200) : subset_Subset_Count K (sub e) i = some (at_ e i) := by
  obtain ⟨hn, hx, hsum⟩ := rle_facts e
  unfold subset_Subset_Count sub at_
  by_cases h1 : i < 0
  · rw [if_pos (by simpa using h1), Option.bind_some, if_pos rfl, if_pos (.inl h1)]
  · rw [if_neg (by simpa using h1), if_pos (show Option.isSome (some _) = true from rfl), Option.bind_some]
    simp only [Option.getD_some]
    by_cases h2 : i ≥ e.length
    · rw [if_pos (by simpa using h2), if_pos (.inr h2)]
    · rw [if_neg (by simpa using h2), if_pos (show Option.isSome (some _) = true from rfl), if_neg (by omega)]
      have h := count_loop (K := K) (segs := rle e) (m := e.length) (rle e) 0 K i rfl (by omega) (by omega) (by omega) (by omega) hn (by omega)
      rw [Int.natCast_zero] at h
      rw [h, hx]

theorem has_is {K : Nat} {e : List Int} {i : Int} (hK : 1000 ≤ K) (hl : e.length ≤ 20000) (hr : (rle e).length ≤ 200) : subset_Subset_Has K (sub e) i = some (decide (at_ e i > 0)) := by
  unfold subset_Subset_Has
  rw [count_is hK hl hr]; rfl

/-- A row of runs that is none. -/
def bad : Option Int → List (Int × Int) → Bool
  | _, [] => false
  | q, g :: l => decide (g.1 < 1) || !decide (0 ≤ g.2 ∧ g.2 ≤ 100) || (q == some g.2) || bad (some g.2) l

theorem of_loop {K : Nat} {segs : List (Int × Int)} : ∀ (rest : List (Int × Int)) (j k : Nat), segs.drop j = rest → rest.length < k → segs.length < 1000000000000 →
    subset_Of_r.l0 K segs k (j : Int) = some (if bad (if j = 0 then none else some (segs.getD (j - 1) (0, 0)).2) rest = true then Sum.inl (none, 12) else Sum.inr ())
  | [], j, k, hd, hk, hs => by
    obtain ⟨k, rfl⟩ : ∃ m, k = m + 1 := ⟨k - 1, by simp at hk; omega⟩
    have := drop_nil hd
    rw [subset_Of_r.l0, if_neg (by simp; omega)]
    simp [bad]
  | g :: rest, j, k, hd, hk, hs => by
    obtain ⟨k, rfl⟩ : ∃ m, k = m + 1 := ⟨k - 1, by simp at hk; omega⟩
    obtain ⟨hj, hgd, hd'⟩ := drop_cons hd (0, 0)
    have hk' : rest.length < k := by simp at hk; omega
    have hw : IntKind.wrap .i64 ((j : Int) + 1) = ((j + 1 : Nat) : Int) := by rw [w64 (by omega) (by omega)]; omega
    have hwm : IntKind.wrap .i64 ((j : Int) - 1) = (j : Int) - 1 := w64 (by omega) (by omega)
    have hnext := of_loop (K := K) rest (j + 1) k hd' hk' hs
    rw [show (if j + 1 = 0 then none else some (segs.getD (j + 1 - 1) (0, 0)).2) = some g.2 by rw [if_neg (by omega), Nat.add_sub_cancel, hgd]] at hnext
    rw [subset_Of_r.l0]
    simp only [Int.toNat_natCast, hgd, hw, hwm, count_ok, Option.bind_some]
    rw [if_pos (by simpa using hj), if_pos ⟨by omega, by omega⟩, bad]
    by_cases h1 : g.1 < 1
    · rw [if_pos (by simpa using h1), Option.bind_some, if_pos rfl, if_pos (by simp [h1])]
    · rw [if_neg (by simpa using h1)]
      by_cases h2 : 0 ≤ g.2 ∧ g.2 ≤ 100
      · rw [if_neg (by simp [h2])]
        by_cases h3 : j = 0
        · subst h3
          rw [if_neg (by simp), Option.bind_some, if_neg (by simp), hnext]
          simp [h1, h2]
        · rw [if_pos (by simp; omega), if_pos ⟨by omega, by omega⟩, Option.bind_some, show ((j : Int) - 1).toNat = j - 1 by omega, if_neg h3]
          by_cases h4 : g.2 = (segs.getD (j - 1) (0, 0)).2
          · rw [if_pos (by simpa using h4), if_pos (by simp [h4])]
          · rw [if_neg (by simpa using h4), hnext]
            have h4' : (some (segs.getD (j - 1) (0, 0)).2 == some g.2) = false := by
              simpa [beq_eq_false_iff_ne] using fun h => h4 h.symm
            rw [h4']
            simp [h1, h2]
      · rw [if_pos (by simp; omega), Option.bind_some, if_pos rfl, if_pos (by simp [h2])]

theorem bad_nonneg : ∀ {l : List (Int × Int)} {q : Option Int}, bad q l = false → ∀ p ∈ l, 0 ≤ p.1
  | [], _, _, p, hp => by cases hp
  | g :: l, q, h, p, hp => by
    simp only [bad, Bool.or_eq_false_iff, decide_eq_false_iff_not] at h
    rcases List.mem_cons.1 hp with rfl | hp
    · omega
    · exact bad_nonneg h.2 p hp

theorem of_is {K : Nat} {segs : List (Int × Int)} (hK : segs.length < K) (hs : segs.length < 1000000000000) : subset_Of_r K segs = some (if bad none segs = true then (none, 12) else packed (expand segs)) := by
  unfold subset_Of_r
  have h := of_loop (K := K) segs 0 K rfl hK hs
  rw [Int.natCast_zero, if_pos rfl] at h
  rw [h, Option.bind_some]
  by_cases hb : bad none segs = true
  · rw [if_pos hb, if_pos hb]; rfl
  · rw [if_neg hb, if_neg hb]
    simp only [Sum.elim_inr]
    rw [pack_is hK hs (bad_nonneg (by simpa using hb)), Option.bind_some]

theorem packed_small {e : List Int} (h1 : e.length ≤ 20000) (h2 : (rle e).length ≤ 200) : packed e = (sub e, 0) := by
  unfold packed
  rw [if_neg (by omega), if_neg (by omega)]

theorem known7 {K : Nat} (hK : 1000 ≤ K) : palinodelaw7_known K = some true := by
  unfold palinodelaw7_known
  have e1 : subset_Of_r K [(2, 0), (1, 3)] = some (sub [0, 0, 3], 0) := by rw [of_is (by simp; omega) (by simp)]; decide
  have e2 : subset_Of_r K [(1, 0), (1, 0)] = some (none, 12) := by rw [of_is (by simp; omega) (by simp)]; decide
  have e3 : subset_Subset_With K (sub [0, 0, 3]) 0 1 3 = some (sub [3, 0, 3], 0) := by rw [with_is hK (by simp) (by decide)]; decide
  have e4 : subset_Subset_With K (sub [0, 0, 3]) 2 4 1 = some (none, 10) := by rw [with_is hK (by simp) (by decide)]; decide
  have e5 : subset_New K 4 = some (sub [0, 0, 0, 0]) := by rw [new_is (by omega) (by omega) (by omega)]; decide
  rw [e1, Option.bind_some]
  simp only [e2, e3, e4, e5, Option.bind_some, len_is, count_is hK (e := [0, 0, 3]) (by simp) (by decide), size_is hK (e := [0, 0, 3]) (by simp) (by decide), size_is hK (e := [3, 0, 3]) (by simp) (by decide),
    has_is hK (e := [0, 0, 3]) (by simp) (by decide), empty_is hK (e := [0, 0, 3]) (by simp) (by decide), empty_is hK (e := [0, 0, 0, 0]) (by simp) (by decide)]
  decide

theorem rle_len_le : ∀ (e : List Int), (rle e).length ≤ e.length := by
  intro e
  have key : ∀ (e : List Int) (acc : List (Int × Int)), (e.foldl pushC acc).length ≤ acc.length + e.length := by
    intro e
    induction e with
    | nil => intro acc; simp
    | cons c e ih =>
      intro acc
      have := ih (pushC acc c)
      have h2 := push_len (acc := acc) (g := (1, c))
      rw [List.foldl_cons]
      unfold pushC at *
      simp only [List.length_cons]
      omega
  simpa [rle] using key e []

theorem put_len {e : List Int} {f t c : Int} (h0 : 0 ≤ f) (h1 : f ≤ t) (h2 : t ≤ e.length) : (put e f t c).length = e.length := by
  simp [put]; omega

theorem tmod_u8 {n m : Int} (h0 : 0 ≤ n) (hm : 0 < m) : 0 ≤ Int.tmod n m ∧ Int.tmod n m < m := by
  rw [Int.tmod_eq_emod_of_nonneg h0]
  exact ⟨Int.emod_nonneg _ (by omega), Int.emod_lt_of_pos _ hm⟩

theorem equal_loop {K : Nat} {a b : List (Int × Int)} (hl : a.length = b.length) (hs : a.length < 1000000000000) : ∀ (d j k : Nat), j + d = a.length → d < k →
    slices_EqualFunc_ggcsubsetSubsetSame1.l0 K a b k (j : Int) = some (a.drop j == b.drop j) := by
  intro d
  induction d with
  | zero =>
    intro j k hj hk
    obtain ⟨k, rfl⟩ : ∃ m, k = m + 1 := ⟨k - 1, by omega⟩
    rw [slices_EqualFunc_ggcsubsetSubsetSame1.l0, if_neg (by simp; omega), List.drop_eq_nil_of_le (by omega), List.drop_eq_nil_of_le (by omega)]
    rfl
  | succ d ih =>
    intro j k hj hk
    obtain ⟨k, rfl⟩ : ∃ m, k = m + 1 := ⟨k - 1, by omega⟩
    have hw : IntKind.wrap .i64 ((j : Int) + 1) = ((j + 1 : Nat) : Int) := by rw [w64 (by omega) (by omega)]; omega
    have ha : j < a.length := by omega
    have hb : j < b.length := by omega
    have ga : a.getD j (0, 0) = a[j] := by simp [List.getD, ha]
    have gb : b.getD j (0, 0) = b[j] := by simp [List.getD, hb]
    rw [slices_EqualFunc_ggcsubsetSubsetSame1.l0, if_pos (by simp; omega), if_pos ⟨by omega, by omega, by omega⟩]
    simp only [Int.toNat_natCast, hw, ga, gb, subset_Subset_Same_1, Option.bind_some]
    rw [ih (j + 1) k (by omega) (by omega), List.drop_eq_getElem_cons ha, List.drop_eq_getElem_cons hb, List.cons_beq_cons]
    have e : (a[j] == b[j]) = ((a[j].1 == b[j].1) && (a[j].2 == b[j].2)) := rfl
    rw [e]
    cases (a[j].1 == b[j].1) && (a[j].2 == b[j].2) <;> simp

theorem same_is {K : Nat} {a b : List Int} (hK : 1000 ≤ K) (ha : (rle a).length ≤ 200) : subset_Subset_Same K (sub a) (sub b) = some (decide (a = b)) := by
  have fa := rle_facts a
  have fb := rle_facts b
  unfold subset_Subset_Same sub
  rw [if_neg (by simp)]
  simp only [Option.getD_some]
  by_cases h : (a.length : Int) = b.length
  · rw [if_pos (by simpa using h)]
    have key : slices_EqualFunc_ggcsubsetSubsetSame1 K (rle a) (rle b) = some (rle a == rle b) := by
      unfold slices_EqualFunc_ggcsubsetSubsetSame1
      by_cases hl : (rle a).length = (rle b).length
      · rw [if_neg (by simp [hl])]
        have := equal_loop (K := K) hl (by omega) (rle a).length 0 K (by omega) (by omega)
        rw [Int.natCast_zero] at this
        rw [this]; simp
      · rw [if_pos (by simp; omega)]
        congr 1
        symm
        rw [beq_eq_false_iff_ne]
        intro e; exact hl (by rw [e])
    rw [key, Option.bind_some, if_pos ⟨rfl, rfl⟩]
    congr 1
    by_cases e : a = b
    · subst e; simp
    · have : rle a ≠ rle b := fun h' => e (by rw [← fa.2.1, ← fb.2.1, h'])
      simp [e, this]
  · rw [if_neg (by simpa using h), if_pos ⟨rfl, rfl⟩]
    congr 1
    symm
    simp only [decide_eq_false_iff_not]
    intro e; exact h (by rw [e])

theorem put_take {e : List Int} {f t c : Int} {m : Nat} (h2 : f ≤ e.length) (hm : (m : Int) ≤ f) : (put e f t c).take m = e.take m := by
  unfold put
  rw [List.append_assoc, List.take_append_of_le_length (by simp; omega), List.take_take]
  congr 1
  omega

theorem put_take2 {e : List Int} {f t c : Int} (h0 : 0 ≤ f) (h1 : f ≤ t) (h2 : t ≤ e.length) : (put e f t c).take t.toNat = e.take f.toNat ++ List.replicate (t - f).toNat c := by
  unfold put
  have : (e.take f.toNat ++ List.replicate (t - f).toNat c).length = t.toNat := by simp; omega
  rw [← this, List.take_left]

theorem put_drop {e : List Int} {f t c : Int} {m : Nat} (h0 : 0 ≤ f) (h1 : f ≤ t) (h2 : t ≤ e.length) (hm : t ≤ m) : (put e f t c).drop m = e.drop m := by
  unfold put
  rw [List.drop_append, List.drop_eq_nil_of_le (by simp; omega), List.drop_drop]
  simp only [List.length_append, List.length_take, List.length_replicate, List.nil_append]
  congr 1
  omega

theorem put_drop2 {e : List Int} {f t c : Int} (h0 : 0 ≤ f) (h2 : f ≤ e.length) : (put e f t c).drop f.toNat = List.replicate (t - f).toNat c ++ e.drop t.toNat := by
  unfold put
  rw [List.append_assoc]
  have : (e.take f.toNat).length = f.toNat := by simp; omega
  conv => lhs; arg 1; rw [← this]
  rw [List.drop_left]

theorem put_apart {e : List Int} {p q r x y : Int} (h0 : 0 ≤ p) (h1 : p ≤ q) (h2 : q ≤ r) (h3 : r ≤ e.length) : put (put e p q x) q r y = put (put e q r y) p q x := by
  rw [put, put_take2 h0 h1 (by omega), put_drop h0 h1 (by omega) (by omega), put, put_take (by omega) (by omega), put_drop2 (by omega) (by omega)]
  simp only [List.append_assoc]

theorem with_small {K : Nat} (hK : 1000 ≤ K) {e : List Int} {x y c : Int} (he : e.length ≤ 200) (h0 : 0 ≤ x) (h1 : x ≤ y) (h2 : y ≤ e.length) (hc : 0 ≤ c ∧ c < 101) : subset_Subset_With K (sub e) x y c = some (sub (put e x y c), 0) := by
  have hr := rle_len_le e
  have hp := put_len (e := e) (c := c) h0 h1 (by omega)
  have hr2 := rle_len_le (put e x y c)
  rw [with_is (by omega) (by omega) (by omega), if_neg (by omega), if_neg (by omega), packed_small (by omega) (by omega)]

theorem SubsetOrder_pure (n a b c x y : Int) (on : Kd.ok (.int .u8) n) (oa : Kd.ok (.int .u8) a) (ob : Kd.ok (.int .u8) b) (oc : Kd.ok (.int .u8) c) (ox : Kd.ok (.int .u8) x) (oy : Kd.ok (.int .u8) y) : ∃ K, palinodelaw7_SubsetOrder K n a b c x y = some true := by
  refine ⟨1000, ?_⟩
  have bn := bounds_u8 on
  have ba := bounds_u8 oa
  have bb := bounds_u8 ob
  have bc := bounds_u8 oc
  have hn := tmod_u8 (m := 60) bn.1 (by omega)
  have hx := tmod_u8 (m := 101) (bounds_u8 ox).1 (by omega)
  have hy := tmod_u8 (m := 101) (bounds_u8 oy).1 (by omega)
  unfold palinodelaw7_SubsetOrder
  rw [known7 (by omega), Option.bind_some, if_neg (by simp)]
  generalize Int.tmod n 60 = k at hn ⊢
  generalize Int.tmod x 101 = x at hx ⊢
  generalize Int.tmod y 101 = y at hy ⊢
  simp (disch := omega) only [w64]
  have hp := tmod_u8 (m := k + 3) ba.1 (by omega)
  generalize Int.tmod a (k + 3) = p at hp ⊢
  simp (disch := omega) only [w64]
  have hq := tmod_u8 (m := k + 3 - p) bb.1 (by omega)
  generalize Int.tmod b (k + 3 - p) = q at hq ⊢
  simp (disch := omega) only [w64]
  have hr := tmod_u8 (m := k + 3 - (p + q) + 1) bc.1 (by omega)
  generalize Int.tmod c (k + 3 - (p + q) + 1) = r at hr ⊢
  simp (disch := omega) only [w64]
  rw [if_pos (by omega), new_is (by omega) (by omega) (by omega), Option.bind_some]
  have hl : (List.replicate (k + 3).toNat (0 : Int)).length = (k + 3).toNat := List.length_replicate
  have h0 : pos (List.replicate (k + 3).toNat (0 : Int)) = 0 := by rw [pos_reps]; simp
  generalize List.replicate (k + 3).toNat (0 : Int) = e at hl h0 ⊢
  have l1 := put_len (e := e) (f := p) (t := p + q) (c := x) (by omega) (by omega) (by omega)
  have l2 := put_len (e := e) (f := p + q) (t := p + q + r) (c := y) (by omega) (by omega) (by omega)
  have l3 := put_len (e := put e p (p + q) x) (f := p + q) (t := p + q + r) (c := y) (by omega) (by omega) (by omega)
  have s1 := with_small (K := 1000) (by omega) (e := e) (x := p) (y := p + q) (c := x) (by omega) (by omega) (by omega) (by omega) hx
  have s2 := with_small (K := 1000) (by omega) (e := put e p (p + q) x) (x := p + q) (y := p + q + r) (c := y) (by omega) (by omega) (by omega) (by omega) hy
  have s3 := with_small (K := 1000) (by omega) (e := e) (x := p + q) (y := p + q + r) (c := y) (by omega) (by omega) (by omega) (by omega) hy
  have s4 := with_small (K := 1000) (by omega) (e := put e (p + q) (p + q + r) y) (x := p) (y := p + q) (c := x) (by omega) (by omega) (by omega) (by omega) hx
  have r1 := rle_len_le e
  have r3 := rle_len_le (put (put e p (p + q) x) (p + q) (p + q + r) y)
  have hs := put_apart (e := e) (x := x) (y := y) (show 0 ≤ p by omega) (show p ≤ p + q by omega) (show p + q ≤ p + q + r by omega) (by omega)
  simp only [s1, s2, s3, s4, Option.bind_some]
  rw [← hs, same_is (by omega) (by omega), empty_is (by omega) (by omega) (by omega), len_is]
  simp only [Option.bind_some, h0, l3, l1, hl]
  simp
  omega

end Go.Pal
