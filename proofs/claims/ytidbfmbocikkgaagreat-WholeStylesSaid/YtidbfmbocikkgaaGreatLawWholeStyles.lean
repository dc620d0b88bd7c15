/- Whatever its arguments, WholeStyles returns true, and what it was given reads as it did. -/
import Derived.Test.YtidbfmbocikkgaaGreatRows
import Derived.Test.YtidbfmbocikkgaaGreatWalkWholeStyles1
import Derived.Test.YtidbfmbocikkgaaGreatPureWholeStyles
namespace Go.Proofs.YtidbfmbocikkgaaGreat.wholeStyles
open Go.ChangeShapes Go.WideShapes Go.ChangeAt Go.RowKit Go.Pal
set_option linter.unusedVariables false
theorem own : ownKnob Tryz.prog.godebug = none := by kernel_rfl
theorem laidOut : laidOutB Tryz.prog = true := by kernel_rfl
set_option maxRecDepth 100000 in
theorem lifted (os : Os) (started : os.Started) (H : Type) (enc : TypeId × Value → H) :
    ReturnsInHanded {} Tryz.checked os 7 .any (Rows.wholeStylesSpec.pre6 enc Tryz.prog Tryz.f7 Rows.wholeStylesRow.domain false) (Rows.wholeStylesSpec.post enc Tryz.prog Tryz.f7 false true false false) := by
  refine returnsInHanded_of_change_sized (C := Tryz.checked) own started (by kernel_rfl) Tryz.func7
    (ChangeSpec.witness6 (enc := enc) (C := Tryz.checked) false ⟨#[], #[.string ByteArray.empty, .int .u8 (0 : Int), .int .u8 (0 : Int), .slice none 0 0], []⟩ 8 (by kernel_rfl) (by kernel_rfl) (by kernel_rfl) (by kernel_rfl)) ?_
  intro W base args ds gs before hval0 hW hcnd hsz0 _
  have hsz : (DataW.weightsEach Tryz.prog (Tryz.f7.params.toList ++ Rows.wholeStylesSpec.plain.varTypes Tryz.prog) (ds ++ gs)).all (· ≤ reachBytes) = true := hsz0
  have hval : ∀ (j : Nat) t v, Tryz.f7.params[j]? = some t → args[j]? = some v → Value.okWide Tryz.prog W .any base t v := hval0
  have hW' := hW
  obtain ⟨p, q, hA0, hV, rfl, hfz, hnd⟩ := hW
  have hA : DataW.TrodAll enc Tryz.prog W 0 (fun _ => true) true Tryz.f7.params.toList args.toList ds p := hA0
  rw [Tryz.params7] at hA hval hsz
  obtain ⟨v0, vs0, d0, ds0, p0, q0, hargs, rfl, rfl, h0, r0⟩ := trodAll_cons hA
  obtain ⟨v1, vs1, d1, ds1, p1, q1, rfl, rfl, rfl, h1, r1⟩ := trodAll_cons r0
  obtain ⟨v2, vs2, d2, ds2, p2, q2, rfl, rfl, rfl, h2, r2⟩ := trodAll_cons r1
  obtain ⟨v3, vs3, d3, ds3, p3, q3, rfl, rfl, rfl, h3, r3⟩ := trodAll_cons r2
  obtain ⟨rfl, rfl, rfl⟩ := trodAll_nil r3
  obtain rfl : args = #[v0, v1, v2, v3] := by cases args; simp_all
  obtain ⟨rfl, rfl⟩ := trodVars_none hV
  have lt0 : ∀ x ∈ p0, x.block < W.heap.size := by obtain ⟨m, hm⟩ := h0; exact DataW.trod_lt m _ _ _ hm
  obtain ⟨y0, R0, o0, b0⟩ := arg_c (f := 12) (k := .str) (by kernel_rfl) (by kernel_rfl) (hval 0 9 v0 rfl rfl) h0 (sized_each hsz (j := 0) (t := 9) rfl rfl)
  have lt1 : ∀ x ∈ p1, x.block < W.heap.size := by obtain ⟨m, hm⟩ := h1; exact DataW.trod_lt m _ _ _ hm
  obtain ⟨y1, R1, o1, b1⟩ := arg_c (f := 12) (k := (.int .u8)) (by kernel_rfl) (by kernel_rfl) (hval 1 5 v1 rfl rfl) h1 (sized_each hsz (j := 1) (t := 5) rfl rfl)
  have lt2 : ∀ x ∈ p2, x.block < W.heap.size := by obtain ⟨m, hm⟩ := h2; exact DataW.trod_lt m _ _ _ hm
  obtain ⟨y2, R2, o2, b2⟩ := arg_c (f := 12) (k := (.int .u8)) (by kernel_rfl) (by kernel_rfl) (hval 2 5 v2 rfl rfl) h2 (sized_each hsz (j := 2) (t := 5) rfl rfl)
  have lt3 : ∀ x ∈ p3, x.block < W.heap.size := by obtain ⟨m, hm⟩ := h3; exact DataW.trod_lt m _ _ _ hm
  obtain ⟨y3, R3, o3, b3⟩ := arg_c (f := 12) (k := (.slice .str)) (by kernel_rfl) (by kernel_rfl) (hval 3 47 v3 rfl rfl) h3 (sized_each hsz (j := 3) (t := 47) rfl rfl)
  obtain ⟨K, hK⟩ := WholeStyles_pure y0 y1 y2 y3 o0 o1 o2 o3
  clear hA0 hval0 hsz0 hsz
  refine (Spec_law (vs := [v0, v1, v2, v3]) (U4 (K := K) true hK) ⟨R0.1, R1.1, R2.1, R3.1, trivial⟩).mono fun e W' ⟨he, bel⟩ => ?_
  subst he
  exact ⟨_, rfl, _, _, _, [], _, [], hW', trodAll_mk1 (shut_bool Tryz.underlying4 _), (trodAll_cons_mk (Below.trod laidOut (by kernel_rfl) (of_decide_eq_true (by kernel_rfl)) h0 bel lt0) (trodAll_cons_mk (Below.trod laidOut (by kernel_rfl) (of_decide_eq_true (by kernel_rfl)) h1 bel lt1) (trodAll_cons_mk (Below.trod laidOut (by kernel_rfl) (of_decide_eq_true (by kernel_rfl)) h2 bel lt2) (trodAll_cons_mk (Below.trod laidOut (by kernel_rfl) (of_decide_eq_true (by kernel_rfl)) h3 bel lt3) trodAll_mk0)))), rfl, bel.frame _, fun h => by cases h⟩
theorem bm {a b : Bool} (h : a = true) (k : b = true) : (a && b) = true := by rw [h, k]; rfl
theorem b10 : (Rows.wholeStylesRow.inPlace == Tryz.pinned.checked.prog.inPlace 7) = true := by kernel_rfl
theorem b11 : (Rows.wholeStylesRow.unfollowed == Tryz.pinned.checked.prog.unfollowed 7) = true := by kernel_rfl
theorem b12 : (Rows.wholeStylesRow.recurses == Tryz.pinned.checked.prog.recurses 7) = true := by kernel_rfl
theorem b13 : (Rows.wholeStylesRow.named == Tryz.pinned.checked.prog.varsNamed 7) = true := by kernel_rfl
theorem b25 : Tryz.pinned.checked.prog.stopsHeard = true := by kernel_rfl
theorem b26 : Tryz.pinned.checked.prog.mayEnter = true := by kernel_rfl
theorem b27 : (Rows.wholeStylesRow.lifted == Tryz.pinned.checked.prog.liftsFinal) = true := by kernel_rfl
theorem b28 : (Tryz.pinned.checked.prog.make == some Rows.wholeStylesRow.make) = true := by kernel_rfl
theorem closed : joinedFacts Tryz.pinned.checked.prog 7 Tryz.f7 Rows.wholeStylesSpec Rows.wholeStylesRow = true := by
  unfold joinedFacts
  exact (bm (bm (bm (bm (bm (bm (bm (bm (bm (bm (bm (bm (bm (bm (bm (bm (bm (bm (bm (bm (bm (bm (bm (bm (bm (bm (bm (bm (bm (bm (bm (by kernel_rfl) laidOut) (by kernel_rfl)) (by kernel_rfl)) (by kernel_rfl)) (by kernel_rfl)) (by kernel_rfl)) (by kernel_rfl)) (by kernel_rfl)) b10) b11) b12) b13) (by kernel_rfl)) (by kernel_rfl)) (by kernel_rfl)) (by kernel_rfl)) (by kernel_rfl)) (by kernel_rfl)) (by kernel_rfl)) (by kernel_rfl)) (by kernel_rfl)) (by kernel_rfl)) (by kernel_rfl)) b25) b26) b27) b28) (by kernel_rfl)) (by kernel_rfl)) (by kernel_rfl)) (by kernel_rfl))
theorem named : Tryz.pinned.checked.prog.funcNamed Rows.wholeStylesRow.func = some 7 := by kernel_rfl
theorem inst : Tryz.f7.isInstance Tryz.pinned.checked.prog Rows.wholeStylesRow.origin Rows.wholeStylesRow.targs := of_decide_eq_true (by kernel_rfl)
theorem wrap : Tryz.f7.isWrapper Tryz.pinned.checked.prog Rows.wholeStylesRow.wrapper Rows.wholeStylesRow.mainSum := by
  unfold Func.isWrapper; first | (rw [if_pos (by decide +kernel)]; kernel_rfl) | (rw [if_neg (by decide +kernel)]; exact ⟨rfl, rfl⟩)
theorem over : Rows.wholeStylesRow.holds Tryz.pinned (OpenSpec.ofChange Rows.wholeStylesSpec) :=
  OpenClaim.holds_of_wide 7 Tryz.f7 rfl rfl rfl rfl rfl rfl rfl ⟨rfl, rfl, rfl, rfl, rfl⟩ rfl rfl rfl rfl rfl named Tryz.func7 closed inst wrap
    (fun os started H enc _ => lifted os started H enc)
theorem proved : Rows.WholeStylesSaid := over
#print axioms proved
end Go.Proofs.YtidbfmbocikkgaaGreat.wholeStyles
namespace Go.Proofs.YtidbfmbocikkgaaGreat
/-- The row, under a short name, for the claim. -/
theorem wholeStyles_holds : Rows.WholeStylesSaid := wholeStyles.proved
end Go.Proofs.YtidbfmbocikkgaaGreat
