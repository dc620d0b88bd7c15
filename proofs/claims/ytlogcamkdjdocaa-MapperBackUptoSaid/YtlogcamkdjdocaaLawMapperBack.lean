/- Whatever its arguments, of bulk at most 1048576, MapperBack returns true, and what it was given reads as it did. -/
import Derived.Test.YtlogcamkdjdocaaRows
import Derived.Test.YtlogcamkdjdocaaWalkMapperBack0
import Derived.Test.YtlogcamkdjdocaaPureMapperBack
namespace Go.Proofs.Ytlogcamkdjdocaa.mapperBack
open Go.ChangeShapes Go.WideShapes Go.ChangeAt Go.RowKit Go.Pal
set_option linter.unusedVariables false
theorem own : ownKnob Try.prog.godebug = none := by kernel_rfl
theorem laidOut : laidOutB Try.prog = true := by kernel_rfl
theorem bulkFn (H : Type) : BulkFn (H := H) Rows.uptoBulk Rows.uptoBulkAll := by
  refine ⟨fun d => ?_, fun b => by simp [Rows.uptoBulk], fun e s => by simp [Rows.uptoBulk], fun p => by simp [Rows.uptoBulk], by simp [Rows.uptoBulkAll], fun d r => by simp [Rows.uptoBulkAll]⟩
  cases d with
  | lit l => cases l <;> simp [Rows.uptoBulk]
  | nil => simp [Rows.uptoBulk]
  | ptr d => simp [Rows.uptoBulk]
  | slice elems spare => simp [Rows.uptoBulk]
  | agg parts => simp [Rows.uptoBulk]
  | iface t d => simp [Rows.uptoBulk]
  | map entries => simp [Rows.uptoBulk]
  | held h => simp [Rows.uptoBulk]
set_option maxRecDepth 100000 in
theorem lifted (os : Os) (started : os.Started) (H : Type) (enc : TypeId × Value → H) (F : Stop.Interp) :
    ReturnsInHanded {} Try.checked os 10 .any ((Rows.OpenSpec.upto Rows.mapperBackSpec).pre6 enc Try.prog Try.f10 Rows.mapperBackUptoRow.domain false) (((Rows.OpenSpec.upto Rows.mapperBackSpec).at F).post enc Try.prog Try.f10 false true false false) := by
  refine returnsInHanded_of_cond_sized (C := Try.checked) (s := Rows.OpenSpec.upto Rows.mapperBackSpec) (k := Rows.uptoSmall) rfl own started (by kernel_rfl) Try.func10
    (OpenSpec.witness (enc := enc) (C := Try.checked) (s := Rows.OpenSpec.upto Rows.mapperBackSpec) (k := Rows.uptoSmall) rfl false ⟨#[], #[.slice none 0 0], []⟩ 8 (by kernel_rfl) (by kernel_rfl) (by kernel_rfl) (x := ([.nil], [], [])) (by kernel_rfl) rfl (by kernel_rfl)) ?_
  intro W base args ds gs before hval0 hW hcnd hsm hsz0 _
  have hsz : (DataW.weightsEach Try.prog (Try.f10.params.toList ++ (Rows.OpenSpec.upto Rows.mapperBackSpec).bare.plain.varTypes Try.prog) (ds ++ gs)).all (· ≤ reachBytes) = true := hsz0
  have hval : ∀ (j : Nat) t v, Try.f10.params[j]? = some t → args[j]? = some v → Value.okWide Try.prog W .any base t v := hval0
  have hW' := hW
  obtain ⟨p, q, hA0, hV, rfl, hfz, hnd⟩ := hW
  have hA : DataW.TrodAll enc Try.prog W 0 (fun _ => true) true Try.f10.params.toList args.toList ds p := hA0
  rw [Try.params10] at hA hval hsz
  obtain ⟨v0, vs0, d0, ds0, p0, q0, hargs, rfl, rfl, h0, r0⟩ := trodAll_cons hA
  obtain ⟨rfl, rfl, rfl⟩ := trodAll_nil r0
  obtain rfl : args = #[v0] := by cases args; simp_all
  obtain ⟨rfl, rfl⟩ := trodVars_none hV
  have lt0 : ∀ x ∈ p0, x.block < W.heap.size := by obtain ⟨m, hm⟩ := h0; exact DataW.trod_lt m _ _ _ hm
  obtain ⟨y0, R0, o0, b0⟩ := arg_c (f := 12) (k := (.slice (.int .u8))) (by kernel_rfl) (by kernel_rfl) (hval 0 30 v0 rfl rfl) h0 (sized_each hsz (j := 0) (t := 30) rfl rfl)
  have u : Kd.bulk (.slice (.int .u8)) y0 ≤ 1048576 := by
    have h := of_decide_eq_true hsm
    simp only [List.append_nil, Rows.uptoBulkAll] at h
    have u0 := b0 _ _ (bulkFn H)
    omega
  obtain ⟨K, hK⟩ := MapperBack_pure y0 o0 u
  clear hA0 hval0 hsz0 hsz
  refine (Spec_law (vs := [v0]) (palinodelaw9_MapperBack_spec K y0 true hK) ⟨R0.1, trivial⟩).mono fun e W' ⟨he, bel⟩ => ?_
  subst he
  exact ⟨_, rfl, _, _, _, [], _, [], hW', trodAll_mk1 (shut_bool Try.underlying4 _), (trodAll_cons_mk (Below.trod laidOut (by kernel_rfl) (of_decide_eq_true (by kernel_rfl)) h0 bel lt0) trodAll_mk0), rfl, bel.frame _, fun h => by cases h⟩
theorem proved : Rows.MapperBackUptoSaid :=
  OpenClaim.holds_of_cond 10 Try.f10 rfl rfl rfl rfl rfl rfl rfl ⟨rfl, rfl, rfl, rfl, rfl⟩ rfl rfl rfl rfl rfl (by kernel_rfl) Try.func10 (by kernel_rfl)
    (of_decide_eq_true (by kernel_rfl)) (by unfold Func.isWrapper; first | (rw [if_pos (by decide +kernel)]; kernel_rfl) | (rw [if_neg (by decide +kernel)]; exact ⟨rfl, rfl⟩))
    (fun os started H enc _ F => lifted os started H enc F)
#print axioms proved
end Go.Proofs.Ytlogcamkdjdocaa.mapperBack
namespace Go.Proofs.Ytlogcamkdjdocaa
/-- The row, under a short name, for the claim. -/
theorem mapperBack_holds : Rows.MapperBackUptoSaid := mapperBack.proved
end Go.Proofs.Ytlogcamkdjdocaa
