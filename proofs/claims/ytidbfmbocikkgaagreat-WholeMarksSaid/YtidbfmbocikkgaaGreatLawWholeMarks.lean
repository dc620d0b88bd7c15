/- Whatever its arguments, WholeMarks returns true, and what it was given reads as it did. -/
import Derived.Test.YtidbfmbocikkgaaGreatRows
import Derived.Test.YtidbfmbocikkgaaGreatWalkWholeMarks1
import Derived.Test.YtidbfmbocikkgaaGreatPureWholeMarks
namespace Go.Proofs.YtidbfmbocikkgaaGreat.wholeMarks
open Go.ChangeShapes Go.WideShapes Go.ChangeAt Go.RowKit Go.Pal
set_option linter.unusedVariables false
theorem own : ownKnob Tryz.prog.godebug = none := by kernel_rfl
theorem laidOut : laidOutB Tryz.prog = true := by kernel_rfl
set_option maxRecDepth 100000 in
theorem lifted (os : Os) (started : os.Started) (H : Type) (enc : TypeId × Value → H) :
    ReturnsInHanded {} Tryz.checked os 9 .any (Rows.wholeMarksSpec.pre6 enc Tryz.prog Tryz.f9 Rows.wholeMarksRow.domain false) (Rows.wholeMarksSpec.post enc Tryz.prog Tryz.f9 false true false false) := by
  refine returnsInHanded_of_change_sized (C := Tryz.checked) own started (by kernel_rfl) Tryz.func9
    (ChangeSpec.witness6 (enc := enc) (C := Tryz.checked) false ⟨#[], #[.slice none 0 0, .int .u8 (0 : Int), .agg #[(.int .i64 (0 : Int)), (.int .i64 (0 : Int)), (.int .i64 (0 : Int)), (.int .i64 (0 : Int)), (.slice none 0 0), (.slice none 0 0), (.slice none 0 0), (.string ByteArray.empty), (.int .i64 (0 : Int)), (.int .i64 (0 : Int)), (.int .i64 (0 : Int))]], []⟩ 8 (by kernel_rfl) (by kernel_rfl) (by kernel_rfl) (by kernel_rfl)) ?_
  intro W base args ds gs before hval0 hW hcnd hsz0 _
  have hsz : (DataW.weightsEach Tryz.prog (Tryz.f9.params.toList ++ Rows.wholeMarksSpec.plain.varTypes Tryz.prog) (ds ++ gs)).all (· ≤ reachBytes) = true := hsz0
  have hval : ∀ (j : Nat) t v, Tryz.f9.params[j]? = some t → args[j]? = some v → Value.okWide Tryz.prog W .any base t v := hval0
  have hW' := hW
  obtain ⟨p, q, hA0, hV, rfl, hfz, hnd⟩ := hW
  have hA : DataW.TrodAll enc Tryz.prog W 0 (fun _ => true) true Tryz.f9.params.toList args.toList ds p := hA0
  rw [Tryz.params9] at hA hval hsz
  obtain ⟨v0, vs0, d0, ds0, p0, q0, hargs, rfl, rfl, h0, r0⟩ := trodAll_cons hA
  obtain ⟨v1, vs1, d1, ds1, p1, q1, rfl, rfl, rfl, h1, r1⟩ := trodAll_cons r0
  obtain ⟨v2, vs2, d2, ds2, p2, q2, rfl, rfl, rfl, h2, r2⟩ := trodAll_cons r1
  obtain ⟨rfl, rfl, rfl⟩ := trodAll_nil r2
  obtain rfl : args = #[v0, v1, v2] := by cases args; simp_all
  obtain ⟨rfl, rfl⟩ := trodVars_none hV
  have lt0 : ∀ x ∈ p0, x.block < W.heap.size := by obtain ⟨m, hm⟩ := h0; exact DataW.trod_lt m _ _ _ hm
  obtain ⟨y0, R0, o0, b0⟩ := arg_c (f := 12) (k := (.slice (.pair (.int .i64) (.pair (.int .i64) (.pair (.int .i64) (.pair (.int .i64) (.pair (.slice (.pair (.int .i64) (.pair (.int .i64) .str))) (.pair (.slice (.int .i64)) (.pair (.slice (.pair (.int .i64) (.int .i64))) (.pair .str (.pair (.int .i64) (.pair (.int .i64) (.int .i64))))))))))))) (by kernel_rfl) (by kernel_rfl) (hval 0 62 v0 rfl rfl) h0 (sized_each hsz (j := 0) (t := 62) rfl rfl)
  have lt1 : ∀ x ∈ p1, x.block < W.heap.size := by obtain ⟨m, hm⟩ := h1; exact DataW.trod_lt m _ _ _ hm
  obtain ⟨y1, R1, o1, b1⟩ := arg_c (f := 12) (k := (.int .u8)) (by kernel_rfl) (by kernel_rfl) (hval 1 5 v1 rfl rfl) h1 (sized_each hsz (j := 1) (t := 5) rfl rfl)
  have lt2 : ∀ x ∈ p2, x.block < W.heap.size := by obtain ⟨m, hm⟩ := h2; exact DataW.trod_lt m _ _ _ hm
  obtain ⟨y2, R2, o2, b2⟩ := arg_agg (f := 12) (k := (.pair (.int .i64) (.pair (.int .i64) (.pair (.int .i64) (.pair (.int .i64) (.pair (.slice (.pair (.int .i64) (.pair (.int .i64) .str))) (.pair (.slice (.int .i64)) (.pair (.slice (.pair (.int .i64) (.int .i64))) (.pair .str (.pair (.int .i64) (.pair (.int .i64) (.int .i64)))))))))))) (by kernel_rfl) (by kernel_rfl) (hval 2 55 v2 rfl rfl) h2 (sized_each hsz (j := 2) (t := 55) rfl rfl)
  obtain ⟨K, hK⟩ := WholeMarks_pure y0 y1 y2 o0 o1 o2
  clear hA0 hval0 hsz0 hsz
  refine (Spec_law (vs := [v0, v1, v2]) (ZP (K := K) true hK) ⟨R0.1, R1.1, R2, trivial⟩).mono fun e W' ⟨he, bel⟩ => ?_
  subst he
  exact ⟨_, rfl, _, _, _, [], _, [], hW', trodAll_mk1 (shut_bool Tryz.underlying4 _), (trodAll_cons_mk (Below.trod laidOut (by kernel_rfl) (of_decide_eq_true (by kernel_rfl)) h0 bel lt0) (trodAll_cons_mk (Below.trod laidOut (by kernel_rfl) (of_decide_eq_true (by kernel_rfl)) h1 bel lt1) (trodAll_cons_mk (Below.trod laidOut (by kernel_rfl) (of_decide_eq_true (by kernel_rfl)) h2 bel lt2) trodAll_mk0))), rfl, bel.frame _, fun h => by cases h⟩
theorem bm {a b : Bool} (h : a = true) (k : b = true) : (a && b) = true := by rw [h, k]; rfl
theorem b10 : (Rows.wholeMarksRow.inPlace == Tryz.pinned.checked.prog.inPlace 9) = true := by kernel_rfl
theorem b11 : (Rows.wholeMarksRow.unfollowed == Tryz.pinned.checked.prog.unfollowed 9) = true := by kernel_rfl
theorem b12 : (Rows.wholeMarksRow.recurses == Tryz.pinned.checked.prog.recurses 9) = true := by kernel_rfl
theorem b13 : (Rows.wholeMarksRow.named == Tryz.pinned.checked.prog.varsNamed 9) = true := by kernel_rfl
theorem b25 : Tryz.pinned.checked.prog.stopsHeard = true := by kernel_rfl
theorem b26 : Tryz.pinned.checked.prog.mayEnter = true := by kernel_rfl
theorem b27 : (Rows.wholeMarksRow.lifted == Tryz.pinned.checked.prog.liftsFinal) = true := by kernel_rfl
theorem b28 : (Tryz.pinned.checked.prog.make == some Rows.wholeMarksRow.make) = true := by kernel_rfl
theorem closed : joinedFacts Tryz.pinned.checked.prog 9 Tryz.f9 Rows.wholeMarksSpec Rows.wholeMarksRow = true := by
  unfold joinedFacts
  exact (bm (bm (bm (bm (bm (bm (bm (bm (bm (bm (bm (bm (bm (bm (bm (bm (bm (bm (bm (bm (bm (bm (bm (bm (bm (bm (bm (bm (bm (bm (bm (by kernel_rfl) laidOut) (by kernel_rfl)) (by kernel_rfl)) (by kernel_rfl)) (by kernel_rfl)) (by kernel_rfl)) (by kernel_rfl)) (by kernel_rfl)) b10) b11) b12) b13) (by kernel_rfl)) (by kernel_rfl)) (by kernel_rfl)) (by kernel_rfl)) (by kernel_rfl)) (by kernel_rfl)) (by kernel_rfl)) (by kernel_rfl)) (by kernel_rfl)) (by kernel_rfl)) (by kernel_rfl)) b25) b26) b27) b28) (by kernel_rfl)) (by kernel_rfl)) (by kernel_rfl)) (by kernel_rfl))
theorem named : Tryz.pinned.checked.prog.funcNamed Rows.wholeMarksRow.func = some 9 := by kernel_rfl
theorem inst : Tryz.f9.isInstance Tryz.pinned.checked.prog Rows.wholeMarksRow.origin Rows.wholeMarksRow.targs := of_decide_eq_true (by kernel_rfl)
theorem wrap : Tryz.f9.isWrapper Tryz.pinned.checked.prog Rows.wholeMarksRow.wrapper Rows.wholeMarksRow.mainSum := by
  unfold Func.isWrapper; first | (rw [if_pos (by decide +kernel)]; kernel_rfl) | (rw [if_neg (by decide +kernel)]; exact ⟨rfl, rfl⟩)
theorem over : Rows.wholeMarksRow.holds Tryz.pinned (OpenSpec.ofChange Rows.wholeMarksSpec) :=
  OpenClaim.holds_of_wide 9 Tryz.f9 rfl rfl rfl rfl rfl rfl rfl ⟨rfl, rfl, rfl, rfl, rfl⟩ rfl rfl rfl rfl rfl named Tryz.func9 closed inst wrap
    (fun os started H enc _ => lifted os started H enc)
theorem proved : Rows.WholeMarksSaid := over
#print axioms proved
end Go.Proofs.YtidbfmbocikkgaaGreat.wholeMarks
namespace Go.Proofs.YtidbfmbocikkgaaGreat
/-- The row, under a short name, for the claim. -/
theorem wholeMarks_holds : Rows.WholeMarksSaid := wholeMarks.proved
end Go.Proofs.YtidbfmbocikkgaaGreat
