/- A walk through code on symbolic values, part 3 of 3: what is shown of every program, no statement of this one. -/
import Derived.Shelf.Spec.SlicesInsertGrow
import Derived.Test.YtamfofpiclclhaaLibB
set_option linter.unusedVariables false
namespace Go.Pal
open Go Go.Proofs Go.Shelf

theorem setCells_block (b : Nat) : ∀ (vs : List Value) (o : Nat) (w : World) (c : Array Value) (e : TypeId) (fr : Nat × Nat), w.heap[b]? = some (.cells c e fr) →
    ∃ c', (w.setCells b o vs).heap[b]? = some (.cells c' e fr) ∧ c'.size = c.size ∧ (∀ j, j < o ∨ o + vs.length ≤ j → c'[j]? = c[j]?) ∧ (∀ j, j < vs.length → o + j < c.size → c'[o + j]? = vs[j]?)
  | [], o, w, c, e, fr, h => ⟨c, h, rfl, fun _ _ => rfl, fun j hj => by simp at hj⟩
  | v :: vs, o, w, c, e, fr, h => by
    have h1 : (w.setCell ⟨b, o, none⟩ v).heap[b]? = some (.cells (c.setIfInBounds o v) e fr) := by
      simp only [World.setCell, Array.getElem?_modify, h]; simp
    obtain ⟨c', e1, e2, e3, e4⟩ := setCells_block b vs (o + 1) _ _ e fr h1
    rw [Array.size_setIfInBounds] at e2 e4
    refine ⟨c', e1, e2, fun j hj => ?_, fun j hj hs => ?_⟩
    · simp only [List.length_cons] at hj
      rw [e3 j (by omega), Array.getElem?_setIfInBounds_ne (by omega)]
    · simp only [List.length_cons] at hj
      cases j with
      | zero =>
        rw [Nat.add_zero, e3 o (by omega), Array.getElem?_setIfInBounds_self_of_lt (by omega)]; rfl
      | succ j =>
        have := e4 j (by omega) (by omega)
        rw [show o + (j + 1) = o + 1 + j by omega, this]; rfl

theorem setCells_other {b b' : Nat} (hne : b' ≠ b) : ∀ (vs : List Value) (o : Nat) (w : World), (w.setCells b o vs).heap[b']? = w.heap[b']?
  | [], _, _ => rfl
  | v :: vs, o, w => by
    rw [World.setCells, setCells_other hne vs]
    simp only [World.setCell, Array.getElem?_modify]
    rw [if_neg (fun h => hne h.symm)]

theorem setCells_rest (b : Nat) : ∀ (vs : List Value) (o : Nat) (w : World), (w.setCells b o vs).heap.size = w.heap.size ∧ (w.setCells b o vs).os = w.os ∧ (w.setCells b o vs).tape = w.tape ∧ (w.setCells b o vs).output = w.output
  | [], _, _ => ⟨rfl, rfl, rfl, rfl⟩
  | v :: vs, o, w => by
    obtain ⟨h1, h2, h3, h4⟩ := setCells_rest b vs (o + 1) (w.setCell ⟨b, o, none⟩ v)
    exact ⟨by rw [World.setCells, h1]; simp [World.setCell], by rw [World.setCells, h2]; rfl, by rw [World.setCells, h3]; rfl, by rw [World.setCells, h4]; rfl⟩

/-- A row of numbers, by its cells. -/
theorem introw {O : Nat → Prop} {w : World} {ik : IntKind} {xs : List Int} {v : Value} (h : RowR O w (.int ik) xs v) : ∃ A cap, v = .slice A xs.length cap ∧ ((cap = 0 ∧ xs = []) ∨
    ((0 < cap ∧ cap ≤ 9223372036854775807) ∧ xs.length ≤ cap ∧ ∃ b off c e, A = some ⟨b, off, none⟩ ∧ w.heap[b]? = some (.cells c e (0, 0)) ∧ off + cap ≤ c.size ∧ ∀ i, i < xs.length → c[off + i]? = (xs.map (Value.int ik))[i]?)) := by
  obtain ⟨A, cap, hv, h⟩ := h
  refine ⟨A, cap, hv, ?_⟩
  rcases h with h | ⟨h1, h2, b, off, c, e, h3, h4, h5, h6⟩
  · exact .inl h
  · refine .inr ⟨h1, h2, b, off, c, e, h3, h4, by simpa [Kd.sz] using h5, fun i hi => ?_⟩
    obtain ⟨cs, hR, hc⟩ := h6 i hi
    have hR' : cs = [Value.int ik xs[i]] := hR
    subst hR'
    have := hc 0 (by simp [Kd.sz])
    simp only [Kd.sz, Nat.mul_one, Nat.add_zero] at this
    rw [this]
    simp [List.getElem?_map, List.getElem?_eq_getElem hi]

theorem introw_mk {O : Nat → Prop} {w : World} {ik : IntKind} {xs : List Int} {b off cap : Nat} {c : Array Value} {e : TypeId} (hc : 0 < cap ∧ cap ≤ 9223372036854775807) (hl : xs.length ≤ cap) (hh : w.heap[b]? = some (.cells c e (0, 0))) (hs : off + cap ≤ c.size)
    (hcs : ∀ i, i < xs.length → c[off + i]? = (xs.map (Value.int ik))[i]?) : RowR O w (.int ik) xs (.slice (some ⟨b, off, none⟩) xs.length cap) := by
  refine ⟨_, cap, rfl, .inr ⟨hc, hl, b, off, c, e, rfl, hh, by simpa [Kd.sz] using hs, fun i hi => ⟨[Value.int ik xs[i]], rfl, fun j hj => ?_⟩⟩⟩
  have hj0 : j = 0 := by simpa [Kd.sz] using hj
  subst hj0
  have := hcs i hi
  simp only [Kd.sz, Nat.mul_one, Nat.add_zero]
  rw [this]
  simp [List.getElem?_map, List.getElem?_eq_getElem hi]

theorem ins_get {α : Type} {A V B : List α} {j : Nat} : (A ++ (V ++ B))[j]? = if j < A.length then A[j]? else if j < A.length + V.length then V[j - A.length]? else B[j - (A.length + V.length)]? := by
  by_cases h1 : j < A.length
  · rw [if_pos h1, List.getElem?_append_left h1]
  · rw [if_neg h1, List.getElem?_append_right (by omega)]
    by_cases h2 : j < A.length + V.length
    · rw [if_pos h2, List.getElem?_append_left (by omega)]
    · rw [if_neg h2, List.getElem?_append_right (by omega), show j - A.length - V.length = j - (A.length + V.length) by omega]

section
variable {P : Program} {ρ : Ren}

/-- What the walk asks of a call whose world is told: a row changed hands, another is let go. -/
theorem Spec_row2 {G : Nat → Prop} {σ : Nat → Value} {w w' : World} {k0 k1 k2 : Kd} {xs : List k0.ty} {ys : List k1.ty} (zs : List k2.ty) {v : Value} (h : SatW (cx 0 G σ [(0, .row k0 xs), (1, .row k1 ys)] w 2) σ [(0, .row k0 xs), (1, .row k1 ys)] w)
    (hw : ∀ b, b < w.heap.size → blk (σ 0) ≠ some b → w'.heap[b]? = w.heap[b]?) (hs : w.heap.size ≤ w'.heap.size) (hos : w'.os = w.os) (ht : w'.tape = w.tape) (hou : w'.output = w.output)
    (hblk : ∀ b, blk v = some b → blk (σ 0) = some b ∨ w.heap.size ≤ b)
    (hrow : ∀ O', SameOff (Ow G [(0, .row k0 xs), (1, .row k1 ys)] σ) w w' → (∀ b, b < w.heap.size → ¬ Ow G [(0, .row k0 xs), (1, .row k1 ys)] σ b → ¬ O' b) → RowR O' w' k2 zs v) :
    ∃ v' σ', Ending.returned v = Ending.returned v' ∧ SatW (cx 0 G σ [(0, .row k0 xs), (1, .row k1 ys)] w 2) σ' [(2, .row k2 zs)] w' ∧ SVr (Ow G [(2, .row k2 zs)] σ') w' σ' (.c (.h 2)) v' ∧ ∀ n, n < 2 → σ' n = σ n := by
  have hE : EnvR (cx 0 G σ [(0, .row k0 xs), (1, .row k1 ys)] w 2) σ [(0, .row k0 xs), (1, .row k1 ys)] w [] { tmps := #[], defers := [] } := ⟨fun t sv hh => by simp [look] at hh, rfl, rfl⟩
  have hsw := swap_row (w' := w') h hE (m := 0) (nx := 2) (e := .row k0 xs) rfl rfl k2 zs v hw hs hos ht hou hblk hrow
  refine ⟨v, upd σ 2 v, rfl, hsw.1.sub (fun p hp => ?_) (by simp), (upd_same _ _ _).symm, fun n hn => upd_ne (by omega)⟩
  rw [List.mem_singleton.1 hp]; simp

/-- slices.Insert at ints. -/
theorem Insert_spec (L : Lays2.n21 P ρ) (xs ys : List Int) (i : Int) (h0 : 0 ≤ i) (hi : i ≤ xs.length) (hy : 0 < ys.length) (hb : xs.length + ys.length ≤ 1000000) :
    Spec P (ρ.f 21) 2 [.c (.h 0), .c (.val (.int .i64 i)), .c (.h 1)] [(0, .row (.int .i64) xs), (1, .row (.int .i64) ys)] (.c (.h 2)) [(2, .row (.int .i64) (xs.take i.toNat ++ (ys ++ xs.drop i.toNat)))] := by
  intro G σ w us hsat hargs
  obtain ⟨i, rfl⟩ : ∃ n : Nat, i = n := ⟨i.toNat, by omega⟩
  rw [Int.toNat_natCast]
  have hin : i ≤ xs.length := by omega
  match us, hargs with
  | [u0, u1, u2], ⟨a0, a1, a2, _⟩ =>
    have a0' : u0 = σ 0 := a0
    have a1' : u1 = .int .i64 (i : Int) := a1
    have a2' : u2 = σ 1 := a2
    subst a0' a1' a2'
    have e0 : RowR (Ow G [(0, .row (.int .i64) xs), (1, .row (.int .i64) ys)] σ) w (.int .i64) xs (σ 0) := hsat.ent (0, .row (.int .i64) xs) (by simp)
    have e1 : RowR (Ow G [(0, .row (.int .i64) xs), (1, .row (.int .i64) ys)] σ) w (.int .i64) ys (σ 1) := hsat.ent (1, .row (.int .i64) ys) (by simp)
    have hdis := hsat.disj (0, .row (.int .i64) xs) (by simp) (1, .row (.int .i64) ys) (by simp) (by simp)
    obtain ⟨A, cap, hs, hA⟩ := introw e0
    obtain ⟨B, vc, hsv, hB⟩ := introw e1
    rcases hB with ⟨_, hB⟩ | ⟨hvc, hyl, vb, voff, cv, ev, rfl, hhv, hszv, hcv⟩
    · rw [hB] at hy; simp at hy
    have hvs : ∀ j v, (ys.map (Value.int .i64))[j]? = some v → w.cell? ⟨vb, voff + j, none⟩ = some v := fun j v hj => by
      have hjl : j < ys.length := by simpa using (List.getElem?_eq_some_iff.1 hj).1
      rw [cell_of_row w vb _ cv ev (0, 0) hhv, hcv j hjl, hj]
    have h1v : ∀ v ∈ ys.map (Value.int .i64), v.oneCell' = true := fun v hv => by obtain ⟨n, _, rfl⟩ := List.mem_map.1 hv; rfl
    have h1c : ∀ v ∈ xs.map (Value.int .i64), v.oneCell' = true := fun v hv => by obtain ⟨n, _, rfl⟩ := List.mem_map.1 hv; rfl
    have hbv : blk (σ 1) = some vb := by rw [hsv]; simp only [blk]; rw [if_neg (by omega)]
    have hZ : (xs.take i ++ (ys ++ xs.drop i)).length = xs.length + ys.length := by simp only [List.length_append, List.length_take, List.length_drop]; omega
    have hget : ∀ j, j < xs.length + ys.length → ((xs.take i ++ (ys ++ xs.drop i)).map (Value.int .i64))[j]? = if j < i then (xs.map (Value.int .i64))[j]? else if j < i + ys.length then (ys.map (Value.int .i64))[j - i]? else (xs.map (Value.int .i64))[j - ys.length]? := fun j hj => by
      rw [List.getElem?_map, ins_get, List.length_take, show min i xs.length = i by omega]
      by_cases c1 : j < i
      · rw [if_pos c1, if_pos c1, List.getElem?_take_of_lt c1, List.getElem?_map]
      · rw [if_neg c1, if_neg c1]
        by_cases c2 : j < i + ys.length
        · rw [if_pos c2, if_pos c2, List.getElem?_map]
        · rw [if_neg c2, if_neg c2, List.getElem?_drop, List.getElem?_map, show i + (j - (i + ys.length)) = j - ys.length by omega]
    rw [hs, hsv]
    rcases hA with ⟨rfl, hA⟩ | ⟨hcap, hxl, b, off, c, e, rfl, hh, hsz, hc⟩
    · -- nothing was there
      subst hA
      obtain rfl : i = 0 := by simpa using hin
      have hcall := Any2.slices_Insert_int_end_grow L A 0 0 vb voff ys.length vc [] (ys.map (Value.int .i64)) w hy (Nat.le_refl _) (by omega) (by omega) rfl (by simp) (fun _ => rfl) (fun _ _ j v hj => by simp at hj) hvs h1v
      refine hcall.mono ?_
      rintro en w' ⟨rfl, rfl⟩
      have hgc := grownCap_ge w (0 + ys.length) 0 (ρ.t 3)
      have hgm := grownCap_le_maxLen w (0 + ys.length) 0 (ρ.t 3) (by simp only [maxLen]; omega)
      simp only [maxLen] at hgm
      refine Spec_row2 (k2 := .int .i64) (List.take 0 [] ++ (ys ++ List.drop 0 [])) hsat (fun b' hb' _ => heap_alloc_old w.drew _ hb') (by show w.heap.size ≤ (w.heap.push _).size; simp) rfl rfl rfl (fun b' hb' => ?_) (fun O' _ _ => ?_)
      · simp only [blk] at hb'
        rw [if_neg (by omega)] at hb'
        injection hb' with hb'
        exact .inr (by omega)
      · have := introw_mk (O := O') (ik := .i64) (xs := ys) (b := w.heap.size) (off := 0) (cap := grownCap w (0 + ys.length) 0 (ρ.t 3)) (e := ρ.t 3) (by omega) (by omega) (heap_alloc_new w.drew (.cells ((([] : List Value) ++ ys.map (Value.int .i64)).toArray ++ Builtin.zeroCells (Value.int .i64 0).cells (grownCap w (0 + ys.length) 0 (ρ.t 3) - (0 + ys.length))) (ρ.t 3)))
          (by simp [Builtin.zeroCells, Value.cells]; omega) (fun j hj => by
            rw [Nat.zero_add, Array.getElem?_append_left (by simpa using hj)]; simp)
        simpa using this
    · have hb0 : blk (σ 0) = some b := by rw [hs]; simp only [blk]; rw [if_neg (by omega)]
      have hvb : vb ≠ b := fun e => hdis b hb0 (e ▸ hbv)
      have hcs : ∀ j v, (xs.map (Value.int .i64))[j]? = some v → w.cell? ⟨b, off + j, none⟩ = some v := fun j v hj => by
        have hjl : j < xs.length := by simpa using (List.getElem?_eq_some_iff.1 hj).1
        rw [cell_of_row w b _ c e (0, 0) hh, hc j hjl, hj]
      have hsome : ∀ k, k < off + cap → (w.cell? ⟨b, k, none⟩).isSome = true := fun k hk => by
        rw [cell_of_row w b _ c e (0, 0) hh, Array.getElem?_eq_getElem (by omega)]; rfl
      have hfz : ∀ k, w.frozen? ⟨b, k, none⟩ = false := fun k => by simp [World.frozen?, hh]
      have hfv : ∀ k, w.frozen? ⟨vb, k, none⟩ = false := fun k => by simp [World.frozen?, hhv]
      have hbs : b < w.heap.size := (Array.getElem?_eq_some_iff.1 hh).1
      by_cases hroom : xs.length + ys.length ≤ cap
      · by_cases hend : i = xs.length
        · -- room at the end
          subst hend
          have hcall := Any2.slices_Insert_int_end_room L b off xs.length cap vb voff ys.length vc (ys.map (Value.int .i64)) w hy hroom hcap.2 (by simp) (fun j hj => hsome _ (by omega)) (fun j hj => hfz _) hvs h1v
          refine hcall.mono ?_
          rintro en w' ⟨rfl, rfl⟩
          obtain ⟨c', f1, f2, f3, f4⟩ := setCells_block b (ys.map (Value.int .i64)) (off + xs.length) w c e (0, 0) hh
          obtain ⟨r1, r2, r3, r4⟩ := setCells_rest b (ys.map (Value.int .i64)) (off + xs.length) w
          rw [List.length_map] at f3 f4
          refine Spec_row2 (k2 := .int .i64) (xs.take xs.length ++ (ys ++ xs.drop xs.length)) hsat (fun b' _ hb' => setCells_other (fun e => hb' (by rw [e]; exact hb0)) _ _ _) (by omega) r2 r3 r4 (fun b' hb' => .inl ?_) (fun O' _ _ => ?_)
          · rw [hb0, ← hb']; simp only [blk]; rw [if_neg (by omega)]
          · have := introw_mk (O := O') (ik := .i64) (xs := xs.take xs.length ++ (ys ++ xs.drop xs.length)) (b := b) (off := off) (cap := cap) hcap (by omega) f1 (by omega) (fun j hj => by
              rw [hget j (by omega)]
              by_cases c1 : j < xs.length
              · rw [if_pos c1, f3 _ (by omega), hc j c1]
              · rw [if_neg c1, if_pos (by omega), show off + j = off + xs.length + (j - xs.length) by omega, f4 _ (by omega) (by omega)])
            rw [hZ] at this
            exact this
        · -- room between
          have hcall := Any2.slices_Insert_int_shift L b off xs.length cap i vb voff ys.length vc (xs.map (Value.int .i64)) (ys.map (Value.int .i64)) w (by omega) hy hroom hcap.2 hvb (by simp) (by simp) hcs (fun j hj => hsome _ (by omega)) (fun j hj => hfz _) hvs h1c h1v
            ev e cv.size c.size (by simp [World.shape?, hhv]) (by simp [World.shape?, hh]) (by omega) (hfv _) (hfv _)
          refine hcall.mono ?_
          rintro en w' ⟨rfl, rfl⟩
          obtain ⟨c1, f1, f2, f3, f4⟩ := setCells_block b ((xs.map (Value.int .i64)).drop i) (off + (i + ys.length)) w.drew c e (0, 0) hh
          obtain ⟨r1, r2, r3, r4⟩ := setCells_rest b ((xs.map (Value.int .i64)).drop i) (off + (i + ys.length)) w.drew
          obtain ⟨c2, g1, g2, g3, g4⟩ := setCells_block b (ys.map (Value.int .i64)) (off + i) _ c1 e (0, 0) f1
          obtain ⟨s1, s2, s3, s4⟩ := setCells_rest b (ys.map (Value.int .i64)) (off + i) (w.drew.setCells b (off + (i + ys.length)) ((xs.map (Value.int .i64)).drop i))
          rw [List.length_drop, List.length_map] at f3 f4
          rw [List.length_map] at g3 g4
          refine Spec_row2 (k2 := .int .i64) (xs.take i ++ (ys ++ xs.drop i)) hsat (fun b' _ hb' => ?_) (by rw [s1, r1]; exact Nat.le_refl _) (by rw [s2, r2]; rfl) (by rw [s3, r3]; rfl) (by rw [s4, r4]; rfl) (fun b' hb' => .inl ?_) (fun O' _ _ => ?_)
          · rw [setCells_other (fun e => hb' (by rw [e]; exact hb0)), setCells_other (fun e => hb' (by rw [e]; exact hb0))]; rfl
          · rw [hb0, ← hb']; simp only [blk]; rw [if_neg (by omega)]
          · have := introw_mk (O := O') (ik := .i64) (xs := xs.take i ++ (ys ++ xs.drop i)) (b := b) (off := off) (cap := cap) hcap (by omega) g1 (by omega) (fun j hj => by
              rw [hget j (by omega)]
              by_cases d1 : j < i
              · rw [if_pos d1, g3 _ (by omega), f3 _ (by omega), hc j (by omega)]
              · rw [if_neg d1]
                by_cases d2 : j < i + ys.length
                · rw [if_pos d2, show off + j = off + i + (j - i) by omega, g4 _ (by omega) (by omega)]
                · rw [if_neg d2, g3 _ (by omega), show off + j = off + (i + ys.length) + (j - (i + ys.length)) by omega, f4 _ (by omega) (by omega), List.getElem?_drop, show i + (j - (i + ys.length)) = j - ys.length by omega])
            rw [hZ] at this
            exact this
      · by_cases hend : i = xs.length
        · -- no room at the end
          subst hend
          have hcall := Any2.slices_Insert_int_end_grow L (some ⟨b, off, none⟩) xs.length cap vb voff ys.length vc (xs.map (Value.int .i64)) (ys.map (Value.int .i64)) w hy hxl (by omega) (by omega) (by simp) (by simp) (fun h => by cases h) (fun a ha j v hj => by
            injection ha with ha; subst ha; rw [Addr.add_lit]; exact hcs j v hj) hvs h1v
          refine hcall.mono ?_
          rintro en w' ⟨rfl, rfl⟩
          have hgc := grownCap_ge w (xs.length + ys.length) cap (ρ.t 3)
          have hgm := grownCap_le_maxLen w (xs.length + ys.length) cap (ρ.t 3) (by simp only [maxLen]; omega)
          simp only [maxLen] at hgm
          refine Spec_row2 (k2 := .int .i64) (xs.take xs.length ++ (ys ++ xs.drop xs.length)) hsat (fun b' hb' _ => heap_alloc_old w.drew _ hb') (by show w.heap.size ≤ (w.heap.push _).size; simp) rfl rfl rfl (fun b' hb' => ?_) (fun O' _ _ => ?_)
          · simp only [blk] at hb'
            rw [if_neg (by omega)] at hb'
            injection hb' with hb'
            exact .inr (by omega)
          · have := introw_mk (O := O') (ik := .i64) (xs := xs.take xs.length ++ (ys ++ xs.drop xs.length)) (b := w.heap.size) (off := 0) (cap := grownCap w (xs.length + ys.length) cap (ρ.t 3)) (e := ρ.t 3) (by omega) (by omega)
              (heap_alloc_new w.drew (.cells ((xs.map (Value.int .i64) ++ ys.map (Value.int .i64)).toArray ++ Builtin.zeroCells (Value.int .i64 0).cells (grownCap w (xs.length + ys.length) cap (ρ.t 3) - (xs.length + ys.length))) (ρ.t 3)))
              (by simp [Builtin.zeroCells, Value.cells]; omega) (fun j hj => by
                rw [Nat.zero_add, Array.getElem?_append_left (by simp; omega)]
                simp only [List.getElem?_toArray, List.take_length, List.drop_length, List.append_nil, List.map_append])
            rw [hZ] at this
            exact this
        · -- no room between
          have hcall := Any2.slices_Insert_int_grow L b off xs.length cap i vb voff ys.length vc (xs.map (Value.int .i64)) (ys.map (Value.int .i64)) w (by omega) hy hxl (by omega) (by omega) (by simp) (by simp) hcs hvs h1c h1v
          refine hcall.mono ?_
          rintro en w' ⟨rfl, rfl⟩
          have hgc := grownCap_ge w (xs.length + ys.length) cap (ρ.t 3)
          have hgm := grownCap_le_maxLen w (xs.length + ys.length) cap (ρ.t 3) (by simp only [maxLen]; omega)
          simp only [maxLen] at hgm
          obtain ⟨gc, hgcd⟩ : ∃ gc, gc = grownCap w (xs.length + ys.length) cap (ρ.t 3) := ⟨_, rfl⟩
          rw [← hgcd] at hgc hgm ⊢
          obtain ⟨row, hrow⟩ : ∃ row, row = ((xs.map (Value.int .i64)).take i).toArray ++ Builtin.zeroCells (Value.int .i64 0).cells (xs.length + ys.length - i) ++ Builtin.zeroCells (Value.int .i64 0).cells (gc - (xs.length + ys.length)) := ⟨_, rfl⟩
          rw [← hrow]
          have hrs : row.size = gc := by rw [hrow]; simp [Builtin.zeroCells, Value.cells]; omega
          have hrl : ∀ j, j < i → row[j]? = (xs.map (Value.int .i64))[j]? := fun j hj => by
            rw [hrow, Array.append_assoc, Array.getElem?_append_left (by simp; omega), List.getElem?_toArray, List.getElem?_take_of_lt hj]
          have hnew : (w.alloc (.cells row (ρ.t 3))).drew.heap[w.heap.size]? = some (.cells row (ρ.t 3) (0, 0)) := heap_alloc_new w _
          obtain ⟨c1, f1, f2, f3, f4⟩ := setCells_block w.heap.size (ys.map (Value.int .i64)) i _ row (ρ.t 3) (0, 0) hnew
          obtain ⟨r1, r2, r3, r4⟩ := setCells_rest w.heap.size (ys.map (Value.int .i64)) i (w.alloc (.cells row (ρ.t 3))).drew
          obtain ⟨c2, g1, g2, g3, g4⟩ := setCells_block w.heap.size ((xs.map (Value.int .i64)).drop i) (i + ys.length) (((w.alloc (.cells row (ρ.t 3))).drew.setCells w.heap.size i (ys.map (Value.int .i64))).drew) c1 (ρ.t 3) (0, 0) f1
          obtain ⟨s1, s2, s3, s4⟩ := setCells_rest w.heap.size ((xs.map (Value.int .i64)).drop i) (i + ys.length) (((w.alloc (.cells row (ρ.t 3))).drew.setCells w.heap.size i (ys.map (Value.int .i64))).drew)
          rw [List.length_map] at f3 f4
          rw [List.length_drop, List.length_map] at g3 g4
          refine Spec_row2 (k2 := .int .i64) (xs.take i ++ (ys ++ xs.drop i)) hsat (fun b' hb' _ => ?_) ?_ (by rw [s2]; exact r2) (by rw [s3]; exact r3) (by rw [s4]; exact r4) (fun b' hb' => ?_) (fun O' _ _ => ?_)
          · rw [setCells_other (by omega)]
            show ((w.alloc (.cells row (ρ.t 3))).drew.setCells w.heap.size i (ys.map (Value.int .i64))).heap[b']? = _
            rw [setCells_other (by omega)]
            exact heap_alloc_old w _ hb'
          · rw [s1]
            show _ ≤ ((w.alloc (.cells row (ρ.t 3))).drew.setCells w.heap.size i (ys.map (Value.int .i64))).heap.size
            rw [r1]
            show w.heap.size ≤ (w.heap.push _).size
            simp
          · simp only [blk] at hb'
            rw [if_neg (by omega)] at hb'
            injection hb' with hb'
            exact .inr (by omega)
          · have := introw_mk (O := O') (ik := .i64) (xs := xs.take i ++ (ys ++ xs.drop i)) (b := w.heap.size) (off := 0) (cap := gc) (by omega) (by omega) g1 (by omega) (fun j hj => by
              rw [hget j (by omega), Nat.zero_add]
              by_cases d1 : j < i
              · rw [if_pos d1, g3 _ (by omega), f3 _ (by omega), hrl j d1]
              · rw [if_neg d1]
                by_cases d2 : j < i + ys.length
                · rw [if_pos d2, g3 _ (by omega), show j = i + (j - i) by omega, f4 _ (by omega) (by omega), show i + (j - i) - i = j - i by omega]
                · rw [if_neg d2, show j = i + ys.length + (j - (i + ys.length)) by omega, g4 _ (by omega) (by omega), List.getElem?_drop]
                  congr 1
                  omega)
            rw [hZ] at this
            exact this

end
end Go.Pal
