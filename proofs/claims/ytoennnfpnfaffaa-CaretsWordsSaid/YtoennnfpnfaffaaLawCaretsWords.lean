/- Whatever its arguments, CaretsWords returns true, and what it was given reads as it did. -/
import Derived.Test.YtoennnfpnfaffaaRows
import Derived.Test.YtoennnfpnfaffaaWalkCaretsWords1
import Derived.Test.YtoennnfpnfaffaaPureCaretsWords
namespace Go.Proofs.Ytoennnfpnfaffaa.caretsWords
open Go.ChangeShapes Go.WideShapes Go.ChangeAt Go.RowKit Go.Pal
set_option linter.unusedVariables false
theorem own : ownKnob Try.prog.godebug = none := by kernel_rfl
theorem laidOut : laidOutB Try.prog = true := by kernel_rfl
set_option maxRecDepth 100000 in
theorem lifted (os : Os) (started : os.Started) (H : Type) (enc : TypeId × Value → H) :
    ReturnsInHanded {} Try.checked os 8 .any (Rows.caretsWordsSpec.pre6 enc Try.prog Try.f8 Rows.caretsWordsRow.domain false) (Rows.caretsWordsSpec.post enc Try.prog Try.f8 false true false false) := by
  refine returnsInHanded_of_change_sized (C := Try.checked) own started (by kernel_rfl) Try.func8
    (ChangeSpec.witness6 (enc := enc) (C := Try.checked) false ⟨#[], #[.string ByteArray.empty], []⟩ 8 (by kernel_rfl) (by kernel_rfl) (by kernel_rfl) (by kernel_rfl)) ?_
  intro W base args ds gs before hval0 hW hcnd hsz0 _
  have hsz : (DataW.weightsEach Try.prog (Try.f8.params.toList ++ Rows.caretsWordsSpec.plain.varTypes Try.prog) (ds ++ gs)).all (· ≤ reachBytes) = true := hsz0
  have hval : ∀ (j : Nat) t v, Try.f8.params[j]? = some t → args[j]? = some v → Value.okWide Try.prog W .any base t v := hval0
  have hW' := hW
  obtain ⟨p, q, hA0, hV, rfl, hfz, hnd⟩ := hW
  have hA : DataW.TrodAll enc Try.prog W 0 (fun _ => true) true Try.f8.params.toList args.toList ds p := hA0
  rw [Try.params8] at hA hval hsz
  obtain ⟨v0, vs0, d0, ds0, p0, q0, hargs, rfl, rfl, h0, r0⟩ := trodAll_cons hA
  obtain ⟨rfl, rfl, rfl⟩ := trodAll_nil r0
  obtain rfl : args = #[v0] := by cases args; simp_all
  obtain ⟨rfl, rfl⟩ := trodVars_none hV
  have lt0 : ∀ x ∈ p0, x.block < W.heap.size := by obtain ⟨m, hm⟩ := h0; exact DataW.trod_lt m _ _ _ hm
  obtain ⟨y0, R0, o0, b0⟩ := arg_c (f := 12) (k := .str) (by kernel_rfl) (by kernel_rfl) (hval 0 9 v0 rfl rfl) h0 (sized_each hsz (j := 0) (t := 9) rfl rfl)
  obtain ⟨K, hK⟩ := CaretsWords_pure y0 o0
  clear hA0 hval0 hsz0 hsz
  refine (Spec_law (vs := [v0]) (palinodelaw25_CaretsWords_spec K y0 true hK) ⟨R0.1, trivial⟩).mono fun e W' ⟨he, bel⟩ => ?_
  subst he
  exact ⟨_, rfl, _, _, _, [], _, [], hW', trodAll_mk1 (shut_bool Try.underlying4 _), (trodAll_cons_mk (Below.trod laidOut (by kernel_rfl) (of_decide_eq_true (by kernel_rfl)) h0 bel lt0) trodAll_mk0), rfl, bel.frame _, fun h => by cases h⟩
theorem over : Rows.caretsWordsRow.holds Try.pinned (OpenSpec.ofChange Rows.caretsWordsSpec) :=
  OpenClaim.holds_of_wide 8 Try.f8 rfl rfl rfl rfl rfl rfl rfl ⟨rfl, rfl, rfl, rfl, rfl⟩ rfl rfl rfl rfl rfl (by kernel_rfl) Try.func8 (by kernel_rfl)
    (of_decide_eq_true (by kernel_rfl)) (by unfold Func.isWrapper; first | (rw [if_pos (by decide +kernel)]; kernel_rfl) | (rw [if_neg (by decide +kernel)]; exact ⟨rfl, rfl⟩))
    (fun os started H enc _ => lifted os started H enc)
theorem proved : Rows.CaretsWordsSaid := over
#print axioms proved
end Go.Proofs.Ytoennnfpnfaffaa.caretsWords
namespace Go.Proofs.Ytoennnfpnfaffaa
/-- The row, under a short name, for the claim. -/
theorem caretsWords_holds : Rows.CaretsWordsSaid := caretsWords.proved
end Go.Proofs.Ytoennnfpnfaffaa
