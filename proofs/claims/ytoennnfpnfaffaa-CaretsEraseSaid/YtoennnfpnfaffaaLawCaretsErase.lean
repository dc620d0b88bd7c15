/- Whatever its arguments, CaretsErase returns true, and what it was given reads as it did. -/
import Derived.Test.YtoennnfpnfaffaaRows
import Derived.Test.YtoennnfpnfaffaaWalkCaretsErase1
import Derived.Test.YtoennnfpnfaffaaPureCaretsErase
namespace Go.Proofs.Ytoennnfpnfaffaa.caretsErase
open Go.ChangeShapes Go.WideShapes Go.ChangeAt Go.RowKit Go.Pal
set_option linter.unusedVariables false
theorem own : ownKnob Try.prog.godebug = none := by kernel_rfl
theorem laidOut : laidOutB Try.prog = true := by kernel_rfl
set_option maxRecDepth 100000 in
theorem lifted (os : Os) (started : os.Started) (H : Type) (enc : TypeId × Value → H) :
    ReturnsInHanded {} Try.checked os 4 .any (Rows.caretsEraseSpec.pre6 enc Try.prog Try.f4 Rows.caretsEraseRow.domain false) (Rows.caretsEraseSpec.post enc Try.prog Try.f4 false true false false) := by
  refine returnsInHanded_of_change_sized (C := Try.checked) own started (by kernel_rfl) Try.func4
    (ChangeSpec.witness6 (enc := enc) (C := Try.checked) false ⟨#[], #[.slice none 0 0, .string ByteArray.empty], []⟩ 8 (by kernel_rfl) (by kernel_rfl) (by kernel_rfl) (by kernel_rfl)) ?_
  intro W base args ds gs before hval0 hW hcnd hsz0 _
  have hsz : (DataW.weightsEach Try.prog (Try.f4.params.toList ++ Rows.caretsEraseSpec.plain.varTypes Try.prog) (ds ++ gs)).all (· ≤ reachBytes) = true := hsz0
  have hval : ∀ (j : Nat) t v, Try.f4.params[j]? = some t → args[j]? = some v → Value.okWide Try.prog W .any base t v := hval0
  have hW' := hW
  obtain ⟨p, q, hA0, hV, rfl, hfz, hnd⟩ := hW
  have hA : DataW.TrodAll enc Try.prog W 0 (fun _ => true) true Try.f4.params.toList args.toList ds p := hA0
  rw [Try.params4] at hA hval hsz
  obtain ⟨v0, vs0, d0, ds0, p0, q0, hargs, rfl, rfl, h0, r0⟩ := trodAll_cons hA
  obtain ⟨v1, vs1, d1, ds1, p1, q1, rfl, rfl, rfl, h1, r1⟩ := trodAll_cons r0
  obtain ⟨rfl, rfl, rfl⟩ := trodAll_nil r1
  obtain rfl : args = #[v0, v1] := by cases args; simp_all
  obtain ⟨rfl, rfl⟩ := trodVars_none hV
  have lt0 : ∀ x ∈ p0, x.block < W.heap.size := by obtain ⟨m, hm⟩ := h0; exact DataW.trod_lt m _ _ _ hm
  obtain ⟨y0, R0, o0, b0⟩ := arg_c (f := 12) (k := (.slice (.pair (.int .i64) (.int .i64)))) (by kernel_rfl) (by kernel_rfl) (hval 0 22 v0 rfl rfl) h0 (sized_each hsz (j := 0) (t := 22) rfl rfl)
  have lt1 : ∀ x ∈ p1, x.block < W.heap.size := by obtain ⟨m, hm⟩ := h1; exact DataW.trod_lt m _ _ _ hm
  obtain ⟨y1, R1, o1, b1⟩ := arg_c (f := 12) (k := .str) (by kernel_rfl) (by kernel_rfl) (hval 1 9 v1 rfl rfl) h1 (sized_each hsz (j := 1) (t := 9) rfl rfl)
  obtain ⟨K, hK⟩ := CaretsErase_pure y0 y1 o0 o1
  clear hA0 hval0 hsz0 hsz
  refine (Spec_law (vs := [v0, v1]) (palinodelaw25_CaretsErase_spec K y0 y1 true hK) ⟨R0.1, R1.1, trivial⟩).mono fun e W' ⟨he, bel⟩ => ?_
  subst he
  exact ⟨_, rfl, _, _, _, [], _, [], hW', trodAll_mk1 (shut_bool Try.underlying4 _), (trodAll_cons_mk (Below.trod laidOut (by kernel_rfl) (of_decide_eq_true (by kernel_rfl)) h0 bel lt0) (trodAll_cons_mk (Below.trod laidOut (by kernel_rfl) (of_decide_eq_true (by kernel_rfl)) h1 bel lt1) trodAll_mk0)), rfl, bel.frame _, fun h => by cases h⟩
theorem over : Rows.caretsEraseRow.holds Try.pinned (OpenSpec.ofChange Rows.caretsEraseSpec) :=
  OpenClaim.holds_of_wide 4 Try.f4 rfl rfl rfl rfl rfl rfl rfl ⟨rfl, rfl, rfl, rfl, rfl⟩ rfl rfl rfl rfl rfl (by kernel_rfl) Try.func4 (by kernel_rfl)
    (of_decide_eq_true (by kernel_rfl)) (by unfold Func.isWrapper; first | (rw [if_pos (by decide +kernel)]; kernel_rfl) | (rw [if_neg (by decide +kernel)]; exact ⟨rfl, rfl⟩))
    (fun os started H enc _ => lifted os started H enc)
theorem proved : Rows.CaretsEraseSaid := over
#print axioms proved
end Go.Proofs.Ytoennnfpnfaffaa.caretsErase
namespace Go.Proofs.Ytoennnfpnfaffaa
/-- The row, under a short name, for the claim. -/
theorem caretsErase_holds : Rows.CaretsEraseSaid := caretsErase.proved
end Go.Proofs.Ytoennnfpnfaffaa
