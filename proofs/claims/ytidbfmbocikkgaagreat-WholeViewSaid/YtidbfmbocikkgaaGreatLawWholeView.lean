/- Whatever its arguments, WholeView returns true, and what it was given reads as it did. -/
import Derived.Test.YtidbfmbocikkgaaGreatRows
import Derived.Test.YtidbfmbocikkgaaGreatWalkWholeView2
import Derived.Test.YtidbfmbocikkgaaGreatPureWholeView
namespace Go.Proofs.YtidbfmbocikkgaaGreat.wholeView
open Go.ChangeShapes Go.WideShapes Go.ChangeAt Go.RowKit Go.Pal
set_option linter.unusedVariables false
theorem own:ownKnob Tryz.prog.godebug=none:=by kernel_rfl
theorem laidOut:laidOutB Tryz.prog=true:=by kernel_rfl
set_option maxRecDepth 100000 in
theorem lifted (os : Os) (started : os.Started) (H : Type) (enc : TypeId × Value → H) :
    ReturnsInHanded {} Tryz.checked os 8 .any (Rows.wholeViewSpec.pre6 enc Tryz.prog Tryz.f8 Rows.wholeViewRow.domain false) (Rows.wholeViewSpec.post enc Tryz.prog Tryz.f8 false true false false):=by
  refine returnsInHanded_of_change_sized (C := Tryz.checked) own started (by kernel_rfl) Tryz.func8
    (ChangeSpec.witness6 (enc:=enc) (C:=Tryz.checked) false ⟨#[], #[.slice none 0 0], []⟩ 8 (by kernel_rfl) (by kernel_rfl) (by kernel_rfl) (by kernel_rfl)) ?_
  intro W base args ds gs before hval0 hW hcnd hsz0 _;have hsz:(DataW.weightsEach Tryz.prog (Tryz.f8.params.toList++Rows.wholeViewSpec.plain.varTypes Tryz.prog) (ds++gs)).all (· <=reachBytes)=true:=hsz0;have hval:∀(j:Nat) t v, Tryz.f8.params[j]? =some t->args[j]? =some v->Value.okWide Tryz.prog W .any base t v:=hval0;have hW':=hW;obtain⟨p, q, hA0, hV, rfl, hfz, hnd⟩:=hW;have hA:DataW.TrodAll enc Tryz.prog W 0 (λ_=>true) true Tryz.f8.params.toList args.toList ds p:=hA0;rw[Tryz.params8] at hA hval hsz;obtain⟨v0, vs0, d0, ds0, p0, q0, hargs, rfl, rfl, h0, r0⟩:=trodAll_cons hA;obtain⟨rfl, rfl, rfl⟩:=trodAll_nil r0;obtain rfl:args = #[v0]:=by cases args;simp_all
  obtain⟨rfl, rfl⟩:=trodVars_none hV;have lt0:∀x∈p0, x.block<W.heap.size:=by obtain⟨m, hm⟩:=h0;exact DataW.trod_lt m _ _ _ hm
  obtain⟨y0, R0, o0, b0⟩:=A5k (f:=12) (k:=(.slice (.pair (.int .i64) (.pair (.int .i64) (.pair (.int .i64) (.pair (.int .i64) (.pair (.slice (.pair (.int .i64) (.pair (.int .i64) .str))) (.pair (.slice (.int .i64)) (.pair (.slice (.pair (.int .i64) (.int .i64))) (.pair .str (.pair (.int .i64) (.pair (.int .i64) (.int .i64))))))))))))) (by kernel_rfl) (by kernel_rfl) (hval 0 62 v0 rfl rfl) h0 (A6x hsz (j:=0) (t:=62) rfl rfl);obtain⟨K, hK⟩:=WholeView_pure y0 o0;clear hA0 hval0 hsz0 hsz;refine(A5J (vs:=[v0]) (mG (K:=K) true hK) ⟨R0.1, trivial⟩).mono λe W' ⟨he, bel⟩=> ?_;subst he;exact⟨_, rfl, _, _, _, [], _, [], hW', trodAll_mk1 (shut_bool Tryz.underlying4 _), (trodAll_cons_mk (Below.trod laidOut (by kernel_rfl) (of_decide_eq_true (by kernel_rfl)) h0 bel lt0) trodAll_mk0), rfl, bel.frame _, λh=>by cases h⟩
theorem bm {a b:Bool} (h:a=true) (k:b=true):(a&&b)=true:=by rw[h, k];rfl
theorem b10:(Rows.wholeViewRow.inPlace==Tryz.pinned.checked.prog.inPlace 8)=true:=by kernel_rfl
theorem b11:(Rows.wholeViewRow.unfollowed==Tryz.pinned.checked.prog.unfollowed 8)=true:=by kernel_rfl
theorem b12:(Rows.wholeViewRow.recurses==Tryz.pinned.checked.prog.recurses 8)=true:=by kernel_rfl
theorem b13:(Rows.wholeViewRow.named==Tryz.pinned.checked.prog.varsNamed 8)=true:=by kernel_rfl
theorem b25:Tryz.pinned.checked.prog.stopsHeard=true:=by kernel_rfl
theorem b26:Tryz.pinned.checked.prog.mayEnter=true:=by kernel_rfl
theorem b27:(Rows.wholeViewRow.lifted==Tryz.pinned.checked.prog.liftsFinal)=true:=by kernel_rfl
theorem b28:(Tryz.pinned.checked.prog.make==some Rows.wholeViewRow.make)=true:=by kernel_rfl
theorem closed : joinedFacts Tryz.pinned.checked.prog 8 Tryz.f8 Rows.wholeViewSpec Rows.wholeViewRow = true := by unfold joinedFacts;exact(bm (bm (bm (bm (bm (bm (bm (bm (bm (bm (bm (bm (bm (bm (bm (bm (bm (bm (bm (bm (bm (bm (bm (bm (bm (bm (bm (bm (bm (bm (bm (by kernel_rfl) laidOut) (by kernel_rfl)) (by kernel_rfl)) (by kernel_rfl)) (by kernel_rfl)) (by kernel_rfl)) (by kernel_rfl)) (by kernel_rfl)) b10) b11) b12) b13) (by kernel_rfl)) (by kernel_rfl)) (by kernel_rfl)) (by kernel_rfl)) (by kernel_rfl)) (by kernel_rfl)) (by kernel_rfl)) (by kernel_rfl)) (by kernel_rfl)) (by kernel_rfl)) (by kernel_rfl)) b25) b26) b27) b28) (by kernel_rfl)) (by kernel_rfl)) (by kernel_rfl)) (by kernel_rfl))
theorem named:Tryz.pinned.checked.prog.funcNamed Rows.wholeViewRow.func=some 8:=by kernel_rfl
theorem inst:Tryz.f8.isInstance Tryz.pinned.checked.prog Rows.wholeViewRow.origin Rows.wholeViewRow.targs:=of_decide_eq_true (by kernel_rfl)
theorem wrap : Tryz.f8.isWrapper Tryz.pinned.checked.prog Rows.wholeViewRow.wrapper Rows.wholeViewRow.mainSum := by unfold Func.isWrapper;first|(rw[if_pos (by decide +kernel)];kernel_rfl)|(rw[if_neg (by decide +kernel)];exact⟨rfl, rfl⟩)
theorem over : Rows.wholeViewRow.holds Tryz.pinned (OpenSpec.ofChange Rows.wholeViewSpec) :=
  OpenClaim.holds_of_wide 8 Tryz.f8 rfl rfl rfl rfl rfl rfl rfl ⟨rfl, rfl, rfl, rfl, rfl⟩ rfl rfl rfl rfl rfl named Tryz.func8 closed inst wrap
    (λos started H enc _=>lifted os started H enc)
theorem proved:Rows.WholeViewSaid:=over
#print axioms proved
end Go.Proofs.YtidbfmbocikkgaaGreat.wholeView
namespace Go.Proofs.YtidbfmbocikkgaaGreat
/-- The row, under a short name, for the claim. -/
theorem wholeView_holds:Rows.WholeViewSaid:=wholeView.proved
end Go.Proofs.YtidbfmbocikkgaaGreat
