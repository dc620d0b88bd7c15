/- The Go functions that AlgebraNone reaches compute what the plain functions say: part 0, printed by a program of this workplace. -/
import Derived.Test.YtbjgcginkkcjcaaChecked
import Derived.Test.YtbjgcginkkcjcaaFunAlgebraNone
namespace Go.Pal
open Go Go.Proofs
set_option maxRecDepth 100000
set_option linter.unusedVariables false

theorem palinoderef7_Segs_r_spec (K : Nat) (l_1 : (List Int)) (r : (List (Int × Int))) (H : palinoderef7_Segs_r K l_1 = some r) : Spec Try.prog 15 1 [.c (.h 0)] [(0, .row (.int .i64) l_1)] (.c (.h 4)) [(0, .row (.int .i64) l_1), (4, .row (.pair (.int .i64) (.int .i64)) r)] := by
  refine Spec_mk (fn := Try.f15) (c := (Try.f15.body).get!) Try.func15 (by kernel_rfl) rfl ?_
  intro C hN hn
  replace hN : C.N = 47 := hN
  unfold palinoderef7_Segs_r at H
  refine V_run hN hn 7 1 [0, 3, 4] [0] ⟨[(0, .c (.h 0)), (3, .c (.val (.slice none 0 0))), (4, .c (.val (.int .i64 (0 : Int))))], [(0, .row (.int .i64) l_1)], 1⟩ [] (by kernel_rfl) rfl rfl ap0 ?_
  refine VL_block ?_
  refine V_ghost [.nilSlot 3 (.pair (.int .i64) (.int .i64))] 1 hn [0, 3, 4] [0, 1] ⟨[(0, .c (.h 0)), (3, .c (.h 1)), (4, .c (.val (.int .i64 (0 : Int))))], [(0, .row (.int .i64) l_1), (1, .row (.pair (.int .i64) (.int .i64)) ([] : List (Int × Int)))], 2⟩ (by kernel_rfl) rfl rfl ?_
  refine V_to [(0, .c (.h 0)), (3, .c (.h 4)), (4, .c (.val (.int .i64 (0 : Int))))] [(0, .row (.int .i64) l_1), (4, .row (.pair (.int .i64) (.int .i64)) ([] : List (Int × Int)))] [(4, 1)] hn (by kernel_rfl) (by kernel_rfl) rfl rfl rfl ?_
  refine VL_loop (X := ((List (Int × Int)) × Int)) (fun x => [(0, .c (.h 0)), (3, .c (.h 4)), (4, .c (.val (.int .i64 x.2)))]) (fun x => [(0, .row (.int .i64) l_1), (4, .row (.pair (.int .i64) (.int .i64)) x.1)]) (fun k x => palinoderef7_Segs_r.l0 K l_1 k x.1 x.2 = some r) K (([] : List (Int × Int)), (0 : Int)) H (fun _ h => no_none h) ?_
  intro k_20 x_20 H_38
  obtain ⟨out_19, i_3⟩ := x_20
  have H_39 : palinoderef7_Segs_r.l0 K l_1 (k_20 + 1) out_19 i_3 = some r := H_38
  rw [palinoderef7_Segs_r.l0] at H_39
  refine V_run hN hn 3 5 [0, 3, 4, 9] [0, 4] ⟨[(0, .c (.h 0)), (3, .c (.h 4)), (4, .c (.val (.int .i64 i_3))), (9, .c (.val (.bool (decide (i_3 < (((List.length l_1) : Nat) : Int))))))], [(0, .row (.int .i64) l_1), (4, .row (.pair (.int .i64) (.int .i64)) out_19)], 5⟩ [] (by kernel_rfl) rfl rfl ap0 ?_
  refine VL_cond ((decide (i_3 < (((List.length l_1) : Nat) : Int)))) (by kernel_rfl) ?_ ?_
  · intro b_22; have H_40 := of_t H_39 b_22
    refine V_run hN hn 2 5 [0, 3, 4, 9] [0, 4] ⟨[(0, .c (.h 0)), (3, .c (.h 4)), (4, .c (.val (.int .i64 i_3))), (9, .c (.val (.bool (decide (i_3 < (((List.length l_1) : Nat) : Int))))))], [(0, .row (.int .i64) l_1), (4, .row (.pair (.int .i64) (.int .i64)) out_19)], 5⟩ [] (by kernel_rfl) rfl rfl ap0 ?_
    refine VL_block ?_
    refine V_run hN hn 3 5 [0, 3, 4, 5] [0, 4] ⟨[(0, .c (.h 0)), (3, .c (.h 4)), (4, .c (.val (.int .i64 i_3))), (5, .c (.val (.int .i64 (((List.length out_19) : Nat) : Int))))], [(0, .row (.int .i64) l_1), (4, .row (.pair (.int .i64) (.int .i64)) out_19)], 5⟩ [] (by kernel_rfl) rfl rfl ap0 ?_
    obtain ⟨q_42, H_43, H_44⟩ := of_bind H_40
    refine V_cut (Y := Bool) (R := Bool) q_42 (fun y => y) (fun y => [(0, .c (.h 0)), (3, .c (.h 4)), (4, .c (.val (.int .i64 i_3))), (5, .c (.val (.int .i64 (((List.length out_19) : Nat) : Int)))), (28, .c (.val (.bool y)))]) (fun y => [(0, .row (.int .i64) l_1), (4, .row (.pair (.int .i64) (.int .i64)) out_19)]) ?_ ?_
    · skip
      rcases Bool.eq_false_or_eq_true ((decide ((((List.length out_19) : Nat) : Int) > (0 : Int)))) with b_25 | b_25
      · have H_46 := of_t H_43 b_25
        obtain ⟨c_26, H_48⟩ := of_if H_46
        refine V_draw hN hn (by kernel_rfl) [] [(16, true)] calls_nil 5 [0, 3, 4, 5, 28] [0, 4] ⟨[(0, .c (.h 0)), (3, .c (.h 4)), (4, .c (.val (.int .i64 i_3))), (5, .c (.val (.int .i64 (((List.length out_19) : Nat) : Int)))), (28, .c (.val (.bool ((List.getD out_19 (Int.toNat (IntKind.wrap .i64 ((((List.length out_19) : Nat) : Int) - (1 : Int)))) ((0 : Int), (0 : Int))).2 == (List.getD l_1 (Int.toNat i_3) (0 : Int))))))], [(0, .row (.int .i64) l_1), (4, .row (.pair (.int .i64) (.int .i64)) out_19)], 5⟩ [(decide ((((List.length out_19) : Nat) : Int) > (0 : Int))) = true, 0 ≤ (IntKind.wrap .i64 ((((List.length out_19) : Nat) : Int) - (1 : Int))), (IntKind.wrap .i64 ((((List.length out_19) : Nat) : Int) - (1 : Int))) < (((List.length out_19) : Nat) : Int), 0 ≤ i_3, i_3 < (((List.length l_1) : Nat) : Int)] (by kernel_rfl) rfl rfl (ap2 b_25 (ap2 c_26.1 (ap2 c_26.2.1 (ap2 c_26.2.2.1 (ap1 c_26.2.2.2))))) (by kernel_rfl) (by kernel_rfl) ?_
        have H_49 := Option.some.inj (show some ((List.getD out_19 (Int.toNat (IntKind.wrap .i64 ((((List.length out_19) : Nat) : Int) - (1 : Int)))) ((0 : Int), (0 : Int))).2 == (List.getD l_1 (Int.toNat i_3) (0 : Int))) = some q_42 from H_48); subst H_49
        refine VL_nil ?_
        exact QP_end ((List.getD out_19 (Int.toNat (IntKind.wrap .i64 ((((List.length out_19) : Nat) : Int) - (1 : Int)))) ((0 : Int), (0 : Int))).2 == (List.getD l_1 (Int.toNat i_3) (0 : Int))) rfl [(4, 4)] hn (by kernel_rfl) (by kernel_rfl) rfl rfl rfl
      · have H_47 := of_f H_43 b_25
        refine V_draw hN hn (by kernel_rfl) [] [(16, false)] calls_nil 5 [0, 3, 4, 5, 28] [0, 4] ⟨[(0, .c (.h 0)), (3, .c (.h 4)), (4, .c (.val (.int .i64 i_3))), (5, .c (.val (.int .i64 (((List.length out_19) : Nat) : Int)))), (28, .c (.val (.bool false)))], [(0, .row (.int .i64) l_1), (4, .row (.pair (.int .i64) (.int .i64)) out_19)], 5⟩ [(decide ((((List.length out_19) : Nat) : Int) > (0 : Int))) = false] (by kernel_rfl) rfl rfl (ap1 b_25) (by kernel_rfl) (by kernel_rfl) ?_
        have H_50 := Option.some.inj (show some false = some q_42 from H_47); subst H_50
        refine VL_nil ?_
        exact QP_end false rfl [(4, 4)] hn (by kernel_rfl) (by kernel_rfl) rfl rfl rfl
    · intro y_45 hy; subst hy
      skip
      skip
      refine VL_cond (y_45) (by kernel_rfl) ?_ ?_
      · intro b_29; have H_51 := of_t H_44 b_29
        obtain ⟨c_30, H_53⟩ := of_if H_51
        refine V_run hN hn 1 5 [0, 3, 4] [0, 4] ⟨[(0, .c (.h 0)), (3, .c (.h 4)), (4, .c (.val (.int .i64 i_3)))], [(0, .row (.int .i64) l_1), (4, .row (.pair (.int .i64) (.int .i64)) (List.set out_19 (Int.toNat (IntKind.wrap .i64 ((((List.length out_19) : Nat) : Int) - (1 : Int)))) ((IntKind.wrap .i64 ((List.getD out_19 (Int.toNat (IntKind.wrap .i64 ((((List.length out_19) : Nat) : Int) - (1 : Int)))) ((0 : Int), (0 : Int))).1 + (1 : Int))), (List.getD out_19 (Int.toNat (IntKind.wrap .i64 ((((List.length out_19) : Nat) : Int) - (1 : Int)))) ((0 : Int), (0 : Int))).2)))], 5⟩ [0 ≤ (IntKind.wrap .i64 ((((List.length out_19) : Nat) : Int) - (1 : Int))), (IntKind.wrap .i64 ((((List.length out_19) : Nat) : Int) - (1 : Int))) < (((List.length out_19) : Nat) : Int), 0 ≤ (IntKind.wrap .i64 ((((List.length out_19) : Nat) : Int) - (1 : Int))), (IntKind.wrap .i64 ((((List.length out_19) : Nat) : Int) - (1 : Int))) < (((List.length out_19) : Nat) : Int)] (by kernel_rfl) rfl rfl (ap2 c_30.1 (ap2 c_30.2 (ap2 c_30.1 (ap1 c_30.2)))) ?_
        refine VL_nil (QB_end ?_)
        refine V_run hN hn 1 5 [0, 3, 4] [0, 4] ⟨[(0, .c (.h 0)), (3, .c (.h 4)), (4, .c (.val (.int .i64 (IntKind.wrap .i64 (i_3 + (1 : Int))))))], [(0, .row (.int .i64) l_1), (4, .row (.pair (.int .i64) (.int .i64)) (List.set out_19 (Int.toNat (IntKind.wrap .i64 ((((List.length out_19) : Nat) : Int) - (1 : Int)))) ((IntKind.wrap .i64 ((List.getD out_19 (Int.toNat (IntKind.wrap .i64 ((((List.length out_19) : Nat) : Int) - (1 : Int)))) ((0 : Int), (0 : Int))).1 + (1 : Int))), (List.getD out_19 (Int.toNat (IntKind.wrap .i64 ((((List.length out_19) : Nat) : Int) - (1 : Int)))) ((0 : Int), (0 : Int))).2)))], 5⟩ [] (by kernel_rfl) rfl rfl ap0 ?_
        refine VL_nil ?_
        exact V_roundEnd ((List.set out_19 (Int.toNat (IntKind.wrap .i64 ((((List.length out_19) : Nat) : Int) - (1 : Int)))) ((IntKind.wrap .i64 ((List.getD out_19 (Int.toNat (IntKind.wrap .i64 ((((List.length out_19) : Nat) : Int) - (1 : Int)))) ((0 : Int), (0 : Int))).1 + (1 : Int))), (List.getD out_19 (Int.toNat (IntKind.wrap .i64 ((((List.length out_19) : Nat) : Int) - (1 : Int)))) ((0 : Int), (0 : Int))).2)), (IntKind.wrap .i64 (i_3 + (1 : Int)))) H_53 [(4, 4)] hn (by kernel_rfl) (by kernel_rfl) rfl rfl rfl
      · intro b_29; have H_52 := of_f H_44 b_29
        obtain ⟨c_32, H_54⟩ := of_if H_52
        refine V_run hN hn 1 5 [0, 3, 4] [0, 6] ⟨[(0, .c (.h 0)), (3, .c (.h 6)), (4, .c (.val (.int .i64 i_3)))], [(0, .row (.int .i64) l_1), (6, .row (.pair (.int .i64) (.int .i64)) (out_19 ++ ([((1 : Int), (List.getD l_1 (Int.toNat i_3) (0 : Int)))] : List (Int × Int))))], 7⟩ [0 ≤ i_3, i_3 < (((List.length l_1) : Nat) : Int), (List.length out_19 + List.length ([((1 : Int), (List.getD l_1 (Int.toNat i_3) (0 : Int)))] : List (Int × Int))) * 16 ≤ 140737488355328] (by kernel_rfl) rfl rfl (ap2 c_32.1 (ap2 c_32.2.1 (ap1 c_32.2.2))) ?_
        refine VL_nil (QB_end ?_)
        refine V_run hN hn 1 7 [0, 3, 4] [0, 6] ⟨[(0, .c (.h 0)), (3, .c (.h 6)), (4, .c (.val (.int .i64 (IntKind.wrap .i64 (i_3 + (1 : Int))))))], [(0, .row (.int .i64) l_1), (6, .row (.pair (.int .i64) (.int .i64)) (out_19 ++ ([((1 : Int), (List.getD l_1 (Int.toNat i_3) (0 : Int)))] : List (Int × Int))))], 7⟩ [] (by kernel_rfl) rfl rfl ap0 ?_
        refine VL_nil ?_
        exact V_roundEnd ((out_19 ++ ([((1 : Int), (List.getD l_1 (Int.toNat i_3) (0 : Int)))] : List (Int × Int))), (IntKind.wrap .i64 (i_3 + (1 : Int)))) H_54 [(4, 6)] hn (by kernel_rfl) (by kernel_rfl) rfl rfl rfl
  · intro b_22; have H_41 := of_f H_39 b_22
    refine VL_exit ?_
    refine QL_exit ?_
    refine QB_here ?_
    refine V_run hN hn 2 5 [2] [0, 4] ⟨[(2, .c (.h 4))], [(0, .row (.int .i64) l_1), (4, .row (.pair (.int .i64) (.int .i64)) out_19)], 5⟩ [] (by kernel_rfl) rfl rfl ap0 ?_
    have H_55 := Option.some.inj (show some out_19 = some r from H_41); subst H_55
    refine VL_ret ?_
    exact P_to [(2, .c (.h 4))] [(0, .row (.int .i64) l_1), (4, .row (.pair (.int .i64) (.int .i64)) out_19)] [(4, 4)] hn (by kernel_rfl) (by kernel_rfl) rfl rfl rfl (QF_retS (by kernel_rfl) (by kernel_rfl) rfl)

theorem subset_isCount_spec (K : Nat) (n_1 : Int) (r : Bool) (H : subset_isCount K n_1 = some r) : Spec Try.prog 52 0 [.c (.val (.int .i64 n_1))] [] (.c (.val (.bool r))) [] := by
  refine Spec_mk (fn := Try.f52) (c := (Try.f52.body).get!) Try.func52 (by kernel_rfl) rfl ?_
  intro C hN hn
  replace hN : C.N = 9 := hN
  unfold subset_isCount at H
  refine V_run hN hn 3 0 [0] [] ⟨[(0, .c (.val (.int .i64 n_1)))], [], 0⟩ [] (by kernel_rfl) rfl rfl ap0 ?_
  rcases Bool.eq_false_or_eq_true ((decide (n_1 ≥ (0 : Int)))) with b_3 | b_3
  · have H_7 := of_t H b_3
    refine V_reg hN hn [] [(5, true)] calls_nil 0 [2] [] ⟨[(2, .c (.val (.bool (decide (n_1 ≤ (100 : Int))))))], [], 0⟩ [(decide (n_1 ≥ (0 : Int))) = true] (by kernel_rfl) rfl rfl (ap1 b_3) (by kernel_rfl) (by kernel_rfl) ?_
    have H_9 := Option.some.inj (show some (decide (n_1 ≤ (100 : Int))) = some r from H_7); subst H_9
    refine VL_ret ?_
    exact P_to [(2, .c (.val (.bool (decide (n_1 ≤ (100 : Int))))))] [] [] hn (by kernel_rfl) (by kernel_rfl) rfl rfl rfl (QF_retS (by kernel_rfl) (by kernel_rfl) rfl)
  · have H_8 := of_f H b_3
    refine V_reg hN hn [] [(5, false)] calls_nil 0 [2] [] ⟨[(2, .c (.val (.bool false)))], [], 0⟩ [(decide (n_1 ≥ (0 : Int))) = false] (by kernel_rfl) rfl rfl (ap1 b_3) (by kernel_rfl) (by kernel_rfl) ?_
    have H_10 := Option.some.inj (show some false = some r from H_8); subst H_10
    refine VL_ret ?_
    exact P_to [(2, .c (.val (.bool false)))] [] [] hn (by kernel_rfl) (by kernel_rfl) rfl rfl rfl (QF_retS (by kernel_rfl) (by kernel_rfl) rfl)

theorem subset_Pack_r_spec (K : Nat) (segs_1 : (List (Int × Int))) (r : ((Option ((List (Int × Int)) × Int)) × Int)) (H : subset_Pack_r K segs_1 = some r) : Spec Try.prog 46 1 [.c (.h 0)] [(0, .row (.pair (.int .i64) (.int .i64)) segs_1)] (.tup [(false, [.imm (.opt (.pair (.slice (.pair (.int .i64) (.int .i64))) (.int .i64))) r.1]), (false, [.val (.int .i64 r.2)])]) [(0, .row (.pair (.int .i64) (.int .i64)) segs_1)] := by
  refine Spec_mk (fn := Try.f46) (c := (Try.f46.body).get!) Try.func46 (by kernel_rfl) rfl ?_
  intro C hN hn
  replace hN : C.N = 88 := hN
  unfold subset_Pack_r at H
  refine V_run hN hn 7 1 [4, 10, 11, 12] [0, 1] ⟨[(4, .c (.h 1)), (10, .c (.h 0)), (11, .c (.val (.int .i64 (((List.length segs_1) : Nat) : Int)))), (12, .c (.val (.int .i64 (0 : Int))))], [(0, .row (.pair (.int .i64) (.int .i64)) segs_1), (1, .box [.val (.slice none 0 0), .val (.int .i64 (0 : Int))])], 2⟩ [] (by kernel_rfl) rfl rfl ap0 ?_
  obtain ⟨q_61, H_62, H_63⟩ := of_bind H
  refine V_cut (Y := ((List (Int × Int)) × Int)) (R := (((Option ((List (Int × Int)) × Int)) × Int) ⊕ ((List (Int × Int)) × Int))) q_61 (fun y => (Sum.inr y)) (fun y => [(4, .c (.h 1))]) (fun y => [(0, .row (.pair (.int .i64) (.int .i64)) segs_1), (1, .box [.h 5, .val (.int .i64 y.2)]), (5, .row (.pair (.int .i64) (.int .i64)) y.1)]) ?_ ?_
  · skip
    refine VL_block ?_
    refine V_ghost [.nilCell 1 0 (.pair (.int .i64) (.int .i64))] 2 hn [4, 10, 11, 12] [0, 1, 2] ⟨[(4, .c (.h 1)), (10, .c (.h 0)), (11, .c (.val (.int .i64 (((List.length segs_1) : Nat) : Int)))), (12, .c (.val (.int .i64 (0 : Int))))], [(0, .row (.pair (.int .i64) (.int .i64)) segs_1), (1, .box [.h 2, .val (.int .i64 (0 : Int))]), (2, .row (.pair (.int .i64) (.int .i64)) ([] : List (Int × Int)))], 3⟩ (by kernel_rfl) rfl rfl ?_
    refine V_to [(4, .c (.h 1)), (10, .c (.h 0)), (11, .c (.val (.int .i64 (((List.length segs_1) : Nat) : Int)))), (12, .c (.val (.int .i64 (0 : Int))))] [(0, .row (.pair (.int .i64) (.int .i64)) segs_1), (1, .box [.h 5, .val (.int .i64 (0 : Int))]), (5, .row (.pair (.int .i64) (.int .i64)) ([] : List (Int × Int)))] [(1, 1), (5, 2)] hn (by kernel_rfl) (by kernel_rfl) rfl rfl rfl ?_
    refine VL_loop (X := ((List (Int × Int)) × Int × Int)) (fun x => [(4, .c (.h 1)), (10, .c (.h 0)), (11, .c (.val (.int .i64 (((List.length segs_1) : Nat) : Int)))), (12, .c (.val (.int .i64 x.2.2)))]) (fun x => [(0, .row (.pair (.int .i64) (.int .i64)) segs_1), (1, .box [.h 5, .val (.int .i64 x.2.1)]), (5, .row (.pair (.int .i64) (.int .i64)) x.1)]) (fun k x => subset_Pack_r.l0 K segs_1 k x.1 x.2.1 x.2.2 = some q_61) K (([] : List (Int × Int)), (0 : Int), (0 : Int)) H_62 (fun _ h => no_none h) ?_
    intro k_24 x_24 H_65
    obtain ⟨x_22, x_23, t_3⟩ := x_24
    have H_66 : subset_Pack_r.l0 K segs_1 (k_24 + 1) x_22 x_23 t_3 = some q_61 := H_65
    rw [subset_Pack_r.l0] at H_66
    refine V_run hN hn 3 6 [4, 10, 11, 12, 13] [0, 1, 5] ⟨[(4, .c (.h 1)), (10, .c (.h 0)), (11, .c (.val (.int .i64 (((List.length segs_1) : Nat) : Int)))), (12, .c (.val (.int .i64 t_3))), (13, .c (.val (.bool (decide (t_3 < (((List.length segs_1) : Nat) : Int))))))], [(0, .row (.pair (.int .i64) (.int .i64)) segs_1), (1, .box [.h 5, .val (.int .i64 x_23)]), (5, .row (.pair (.int .i64) (.int .i64)) x_22)], 6⟩ [] (by kernel_rfl) rfl rfl ap0 ?_
    refine VL_cond ((decide (t_3 < (((List.length segs_1) : Nat) : Int)))) (by kernel_rfl) ?_ ?_
    · intro b_26; have H_67 := of_t H_66 b_26
      refine V_run hN hn 2 6 [4, 10, 11, 12, 13] [0, 1, 5] ⟨[(4, .c (.h 1)), (10, .c (.h 0)), (11, .c (.val (.int .i64 (((List.length segs_1) : Nat) : Int)))), (12, .c (.val (.int .i64 t_3))), (13, .c (.val (.bool (decide (t_3 < (((List.length segs_1) : Nat) : Int))))))], [(0, .row (.pair (.int .i64) (.int .i64)) segs_1), (1, .box [.h 5, .val (.int .i64 x_23)]), (5, .row (.pair (.int .i64) (.int .i64)) x_22)], 6⟩ [] (by kernel_rfl) rfl rfl ap0 ?_
      refine VL_block ?_
      obtain ⟨c_28, H_69⟩ := of_if H_67
      refine V_run hN hn 5 6 [4, 6, 10, 11, 12, 18] [0, 1, 5, 6] ⟨[(4, .c (.h 1)), (6, .c (.h 6)), (10, .c (.h 0)), (11, .c (.val (.int .i64 (((List.length segs_1) : Nat) : Int)))), (12, .c (.val (.int .i64 t_3))), (18, .c (.val (.bool ((List.getD segs_1 (Int.toNat t_3) ((0 : Int), (0 : Int))).1 == (0 : Int)))))], [(0, .row (.pair (.int .i64) (.int .i64)) segs_1), (1, .box [.h 5, .val (.int .i64 x_23)]), (5, .row (.pair (.int .i64) (.int .i64)) x_22), (6, .box [.val (.int .i64 (List.getD segs_1 (Int.toNat t_3) ((0 : Int), (0 : Int))).1), .val (.int .i64 (List.getD segs_1 (Int.toNat t_3) ((0 : Int), (0 : Int))).2)])], 7⟩ [0 ≤ t_3, t_3 < (((List.length segs_1) : Nat) : Int)] (by kernel_rfl) rfl rfl (ap2 c_28.1 (ap1 c_28.2)) ?_
      refine VL_cond (((List.getD segs_1 (Int.toNat t_3) ((0 : Int), (0 : Int))).1 == (0 : Int))) (by kernel_rfl) ?_ ?_
      · intro b_29; have H_70 := of_t H_69 b_29
        refine VL_exit ?_
        refine QB_here ?_
        refine V_run hN hn 1 7 [4, 10, 11, 12] [0, 1, 5] ⟨[(4, .c (.h 1)), (10, .c (.h 0)), (11, .c (.val (.int .i64 (((List.length segs_1) : Nat) : Int)))), (12, .c (.val (.int .i64 (IntKind.wrap .i64 (t_3 + (1 : Int))))))], [(0, .row (.pair (.int .i64) (.int .i64)) segs_1), (1, .box [.h 5, .val (.int .i64 x_23)]), (5, .row (.pair (.int .i64) (.int .i64)) x_22)], 7⟩ [] (by kernel_rfl) rfl rfl ap0 ?_
        refine VL_nil ?_
        exact V_roundEnd (x_22, x_23, (IntKind.wrap .i64 (t_3 + (1 : Int)))) H_70 [(1, 1), (5, 5)] hn (by kernel_rfl) (by kernel_rfl) rfl rfl rfl
      · intro b_29; have H_71 := of_f H_69 b_29
        refine V_run hN hn 3 7 [4, 6, 10, 11, 12, 18] [0, 1, 5, 6] ⟨[(4, .c (.h 1)), (6, .c (.h 6)), (10, .c (.h 0)), (11, .c (.val (.int .i64 (((List.length segs_1) : Nat) : Int)))), (12, .c (.val (.int .i64 t_3))), (18, .c (.val (.bool ((List.getD segs_1 (Int.toNat t_3) ((0 : Int), (0 : Int))).1 == (0 : Int)))))], [(0, .row (.pair (.int .i64) (.int .i64)) segs_1), (1, .box [.h 5, .val (.int .i64 x_23)]), (5, .row (.pair (.int .i64) (.int .i64)) x_22), (6, .box [.val (.int .i64 (List.getD segs_1 (Int.toNat t_3) ((0 : Int), (0 : Int))).1), .val (.int .i64 (List.getD segs_1 (Int.toNat t_3) ((0 : Int), (0 : Int))).2)])], 7⟩ [] (by kernel_rfl) rfl rfl ap0 ?_
        refine V_draw hN hn (by kernel_rfl) [] [] calls_nil 7 [4, 6, 10, 11, 12, 26] [0, 1, 5, 6] ⟨[(4, .c (.h 1)), (6, .c (.h 6)), (10, .c (.h 0)), (11, .c (.val (.int .i64 (((List.length segs_1) : Nat) : Int)))), (12, .c (.val (.int .i64 t_3))), (26, .c (.val (.bool (decide ((List.getD segs_1 (Int.toNat t_3) ((0 : Int), (0 : Int))).1 > (IntKind.wrap .i64 ((20000 : Int) - x_23)))))))], [(0, .row (.pair (.int .i64) (.int .i64)) segs_1), (1, .box [.h 5, .val (.int .i64 x_23)]), (5, .row (.pair (.int .i64) (.int .i64)) x_22), (6, .box [.val (.int .i64 (List.getD segs_1 (Int.toNat t_3) ((0 : Int), (0 : Int))).1), .val (.int .i64 (List.getD segs_1 (Int.toNat t_3) ((0 : Int), (0 : Int))).2)])], 7⟩ [] (by kernel_rfl) rfl rfl ap0 (by kernel_rfl) (by kernel_rfl) ?_
        refine VL_cond ((decide ((List.getD segs_1 (Int.toNat t_3) ((0 : Int), (0 : Int))).1 > (IntKind.wrap .i64 ((20000 : Int) - x_23))))) (by kernel_rfl) ?_ ?_
        · intro b_33; have H_72 := of_t H_71 b_33
          refine V_run hN hn 2 7 [2, 3] [0] ⟨[(2, .c (.val (.pointer none))), (3, .c (.val (.int .i64 (70 : Int))))], [(0, .row (.pair (.int .i64) (.int .i64)) segs_1)], 7⟩ [] (by kernel_rfl) rfl rfl ap0 ?_
          have H_74 := Option.some.inj (show some (Sum.inl ((none : (Option ((List (Int × Int)) × Int))), (70 : Int))) = some q_61 from H_72); subst H_74
          have H_75 := Option.some.inj (show some ((none : (Option ((List (Int × Int)) × Int))), (70 : Int)) = some r from H_63); subst H_75
          refine VL_ret ?_
          refine QB_ret ?_
          refine QL_ret ?_
          refine QB_ret ?_
          refine QP_ret ?_
          refine P_ghost [.read 2 (.opt (.pair (.slice (.pair (.int .i64) (.int .i64))) (.int .i64)))] 7 hn [2, 3] [0] ⟨[(2, .c (.imm (.opt (.pair (.slice (.pair (.int .i64) (.int .i64))) (.int .i64))) (none : (Option ((List (Int × Int)) × Int))))), (3, .c (.val (.int .i64 (70 : Int))))], [(0, .row (.pair (.int .i64) (.int .i64)) segs_1)], 7⟩ (by kernel_rfl) rfl rfl ?_
          exact P_to [(2, .c (.imm (.opt (.pair (.slice (.pair (.int .i64) (.int .i64))) (.int .i64))) (none : (Option ((List (Int × Int)) × Int))))), (3, .c (.val (.int .i64 (70 : Int))))] [(0, .row (.pair (.int .i64) (.int .i64)) segs_1)] [] hn (by kernel_rfl) (by kernel_rfl) rfl rfl rfl (QF_retS (by kernel_rfl) (by kernel_rfl) rfl)
        · intro b_33; have H_73 := of_f H_71 b_33
          refine V_run hN hn 2 7 [4, 6, 10, 11, 12, 26] [0, 1, 5, 6] ⟨[(4, .c (.h 1)), (6, .c (.h 6)), (10, .c (.h 0)), (11, .c (.val (.int .i64 (((List.length segs_1) : Nat) : Int)))), (12, .c (.val (.int .i64 t_3))), (26, .c (.val (.bool (decide ((List.getD segs_1 (Int.toNat t_3) ((0 : Int), (0 : Int))).1 > (IntKind.wrap .i64 ((20000 : Int) - x_23)))))))], [(0, .row (.pair (.int .i64) (.int .i64)) segs_1), (1, .box [.h 5, .val (.int .i64 x_23)]), (5, .row (.pair (.int .i64) (.int .i64)) x_22), (6, .box [.val (.int .i64 (List.getD segs_1 (Int.toNat t_3) ((0 : Int), (0 : Int))).1), .val (.int .i64 (List.getD segs_1 (Int.toNat t_3) ((0 : Int), (0 : Int))).2)])], 7⟩ [] (by kernel_rfl) rfl rfl ap0 ?_
          refine V_draw hN hn (by kernel_rfl) [] [] calls_nil 7 [4, 6, 10, 11, 12] [0, 1, 5, 6] ⟨[(4, .c (.h 1)), (6, .c (.h 6)), (10, .c (.h 0)), (11, .c (.val (.int .i64 (((List.length segs_1) : Nat) : Int)))), (12, .c (.val (.int .i64 t_3)))], [(0, .row (.pair (.int .i64) (.int .i64)) segs_1), (1, .box [.h 5, .val (.int .i64 (IntKind.wrap .i64 (x_23 + (List.getD segs_1 (Int.toNat t_3) ((0 : Int), (0 : Int))).1)))]), (5, .row (.pair (.int .i64) (.int .i64)) x_22), (6, .box [.val (.int .i64 (List.getD segs_1 (Int.toNat t_3) ((0 : Int), (0 : Int))).1), .val (.int .i64 (List.getD segs_1 (Int.toNat t_3) ((0 : Int), (0 : Int))).2)])], 7⟩ [] (by kernel_rfl) rfl rfl ap0 (by kernel_rfl) (by kernel_rfl) ?_
          refine V_run hN hn 4 7 [4, 6, 7, 10, 11, 12] [0, 1, 5, 6] ⟨[(4, .c (.h 1)), (6, .c (.h 6)), (7, .c (.val (.int .i64 (IntKind.wrap .i64 ((((List.length x_22) : Nat) : Int) - (1 : Int)))))), (10, .c (.h 0)), (11, .c (.val (.int .i64 (((List.length segs_1) : Nat) : Int)))), (12, .c (.val (.int .i64 t_3)))], [(0, .row (.pair (.int .i64) (.int .i64)) segs_1), (1, .box [.h 5, .val (.int .i64 (IntKind.wrap .i64 (x_23 + (List.getD segs_1 (Int.toNat t_3) ((0 : Int), (0 : Int))).1)))]), (5, .row (.pair (.int .i64) (.int .i64)) x_22), (6, .box [.val (.int .i64 (List.getD segs_1 (Int.toNat t_3) ((0 : Int), (0 : Int))).1), .val (.int .i64 (List.getD segs_1 (Int.toNat t_3) ((0 : Int), (0 : Int))).2)])], 7⟩ [] (by kernel_rfl) rfl rfl ap0 ?_
          obtain ⟨q_76, H_77, H_78⟩ := of_bind H_73
          refine V_cut (Y := Bool) (R := Bool) q_76 (fun y => y) (fun y => [(4, .c (.h 1)), (6, .c (.h 6)), (7, .c (.val (.int .i64 (IntKind.wrap .i64 ((((List.length x_22) : Nat) : Int) - (1 : Int)))))), (10, .c (.h 0)), (11, .c (.val (.int .i64 (((List.length segs_1) : Nat) : Int)))), (12, .c (.val (.int .i64 t_3))), (56, .c (.val (.bool y)))]) (fun y => [(0, .row (.pair (.int .i64) (.int .i64)) segs_1), (1, .box [.h 5, .val (.int .i64 (IntKind.wrap .i64 (x_23 + (List.getD segs_1 (Int.toNat t_3) ((0 : Int), (0 : Int))).1)))]), (5, .row (.pair (.int .i64) (.int .i64)) x_22), (6, .box [.val (.int .i64 (List.getD segs_1 (Int.toNat t_3) ((0 : Int), (0 : Int))).1), .val (.int .i64 (List.getD segs_1 (Int.toNat t_3) ((0 : Int), (0 : Int))).2)])]) ?_ ?_
          · skip
            rcases Bool.eq_false_or_eq_true ((decide ((IntKind.wrap .i64 ((((List.length x_22) : Nat) : Int) - (1 : Int))) ≥ (0 : Int)))) with b_38 | b_38
            · have H_80 := of_t H_77 b_38
              obtain ⟨c_39, H_82⟩ := of_if H_80
              refine V_draw hN hn (by kernel_rfl) [] [(44, true)] calls_nil 7 [4, 6, 7, 10, 11, 12, 56] [0, 1, 5, 6] ⟨[(4, .c (.h 1)), (6, .c (.h 6)), (7, .c (.val (.int .i64 (IntKind.wrap .i64 ((((List.length x_22) : Nat) : Int) - (1 : Int)))))), (10, .c (.h 0)), (11, .c (.val (.int .i64 (((List.length segs_1) : Nat) : Int)))), (12, .c (.val (.int .i64 t_3))), (56, .c (.val (.bool ((List.getD x_22 (Int.toNat (IntKind.wrap .i64 ((((List.length x_22) : Nat) : Int) - (1 : Int)))) ((0 : Int), (0 : Int))).2 == (List.getD segs_1 (Int.toNat t_3) ((0 : Int), (0 : Int))).2))))], [(0, .row (.pair (.int .i64) (.int .i64)) segs_1), (1, .box [.h 5, .val (.int .i64 (IntKind.wrap .i64 (x_23 + (List.getD segs_1 (Int.toNat t_3) ((0 : Int), (0 : Int))).1)))]), (5, .row (.pair (.int .i64) (.int .i64)) x_22), (6, .box [.val (.int .i64 (List.getD segs_1 (Int.toNat t_3) ((0 : Int), (0 : Int))).1), .val (.int .i64 (List.getD segs_1 (Int.toNat t_3) ((0 : Int), (0 : Int))).2)])], 7⟩ [(decide ((IntKind.wrap .i64 ((((List.length x_22) : Nat) : Int) - (1 : Int))) ≥ (0 : Int))) = true, 0 ≤ (IntKind.wrap .i64 ((((List.length x_22) : Nat) : Int) - (1 : Int))), (IntKind.wrap .i64 ((((List.length x_22) : Nat) : Int) - (1 : Int))) < (((List.length x_22) : Nat) : Int)] (by kernel_rfl) rfl rfl (ap2 b_38 (ap2 c_39.1 (ap1 c_39.2))) (by kernel_rfl) (by kernel_rfl) ?_
              have H_83 := Option.some.inj (show some ((List.getD x_22 (Int.toNat (IntKind.wrap .i64 ((((List.length x_22) : Nat) : Int) - (1 : Int)))) ((0 : Int), (0 : Int))).2 == (List.getD segs_1 (Int.toNat t_3) ((0 : Int), (0 : Int))).2) = some q_76 from H_82); subst H_83
              refine VL_nil ?_
              exact QP_end ((List.getD x_22 (Int.toNat (IntKind.wrap .i64 ((((List.length x_22) : Nat) : Int) - (1 : Int)))) ((0 : Int), (0 : Int))).2 == (List.getD segs_1 (Int.toNat t_3) ((0 : Int), (0 : Int))).2) rfl [(1, 1), (5, 5), (6, 6)] hn (by kernel_rfl) (by kernel_rfl) rfl rfl rfl
            · have H_81 := of_f H_77 b_38
              refine V_draw hN hn (by kernel_rfl) [] [(44, false)] calls_nil 7 [4, 6, 7, 10, 11, 12, 56] [0, 1, 5, 6] ⟨[(4, .c (.h 1)), (6, .c (.h 6)), (7, .c (.val (.int .i64 (IntKind.wrap .i64 ((((List.length x_22) : Nat) : Int) - (1 : Int)))))), (10, .c (.h 0)), (11, .c (.val (.int .i64 (((List.length segs_1) : Nat) : Int)))), (12, .c (.val (.int .i64 t_3))), (56, .c (.val (.bool false)))], [(0, .row (.pair (.int .i64) (.int .i64)) segs_1), (1, .box [.h 5, .val (.int .i64 (IntKind.wrap .i64 (x_23 + (List.getD segs_1 (Int.toNat t_3) ((0 : Int), (0 : Int))).1)))]), (5, .row (.pair (.int .i64) (.int .i64)) x_22), (6, .box [.val (.int .i64 (List.getD segs_1 (Int.toNat t_3) ((0 : Int), (0 : Int))).1), .val (.int .i64 (List.getD segs_1 (Int.toNat t_3) ((0 : Int), (0 : Int))).2)])], 7⟩ [(decide ((IntKind.wrap .i64 ((((List.length x_22) : Nat) : Int) - (1 : Int))) ≥ (0 : Int))) = false] (by kernel_rfl) rfl rfl (ap1 b_38) (by kernel_rfl) (by kernel_rfl) ?_
              have H_84 := Option.some.inj (show some false = some q_76 from H_81); subst H_84
              refine VL_nil ?_
              exact QP_end false rfl [(1, 1), (5, 5), (6, 6)] hn (by kernel_rfl) (by kernel_rfl) rfl rfl rfl
          · intro y_79 hy; subst hy
            skip
            skip
            refine VL_cond (y_79) (by kernel_rfl) ?_ ?_
            · intro b_42; have H_85 := of_t H_78 b_42
              refine V_run hN hn 1 7 [4, 6, 7, 10, 11, 12, 56] [0, 1, 5, 6] ⟨[(4, .c (.h 1)), (6, .c (.h 6)), (7, .c (.val (.int .i64 (IntKind.wrap .i64 ((((List.length x_22) : Nat) : Int) - (1 : Int)))))), (10, .c (.h 0)), (11, .c (.val (.int .i64 (((List.length segs_1) : Nat) : Int)))), (12, .c (.val (.int .i64 t_3))), (56, .c (.val (.bool y_79)))], [(0, .row (.pair (.int .i64) (.int .i64)) segs_1), (1, .box [.h 5, .val (.int .i64 (IntKind.wrap .i64 (x_23 + (List.getD segs_1 (Int.toNat t_3) ((0 : Int), (0 : Int))).1)))]), (5, .row (.pair (.int .i64) (.int .i64)) x_22), (6, .box [.val (.int .i64 (List.getD segs_1 (Int.toNat t_3) ((0 : Int), (0 : Int))).1), .val (.int .i64 (List.getD segs_1 (Int.toNat t_3) ((0 : Int), (0 : Int))).2)])], 7⟩ [] (by kernel_rfl) rfl rfl ap0 ?_
              obtain ⟨c_44, H_87⟩ := of_if H_85
              refine V_draw hN hn (by kernel_rfl) [] [] calls_nil 7 [4, 10, 11, 12] [0, 1, 5] ⟨[(4, .c (.h 1)), (10, .c (.h 0)), (11, .c (.val (.int .i64 (((List.length segs_1) : Nat) : Int)))), (12, .c (.val (.int .i64 t_3)))], [(0, .row (.pair (.int .i64) (.int .i64)) segs_1), (1, .box [.h 5, .val (.int .i64 (IntKind.wrap .i64 (x_23 + (List.getD segs_1 (Int.toNat t_3) ((0 : Int), (0 : Int))).1)))]), (5, .row (.pair (.int .i64) (.int .i64)) (List.set x_22 (Int.toNat (IntKind.wrap .i64 ((((List.length x_22) : Nat) : Int) - (1 : Int)))) ((IntKind.wrap .i64 ((List.getD x_22 (Int.toNat (IntKind.wrap .i64 ((((List.length x_22) : Nat) : Int) - (1 : Int)))) ((0 : Int), (0 : Int))).1 + (List.getD segs_1 (Int.toNat t_3) ((0 : Int), (0 : Int))).1)), (List.getD x_22 (Int.toNat (IntKind.wrap .i64 ((((List.length x_22) : Nat) : Int) - (1 : Int)))) ((0 : Int), (0 : Int))).2)))], 7⟩ [0 ≤ (IntKind.wrap .i64 ((((List.length x_22) : Nat) : Int) - (1 : Int))), (IntKind.wrap .i64 ((((List.length x_22) : Nat) : Int) - (1 : Int))) < (((List.length x_22) : Nat) : Int), 0 ≤ (IntKind.wrap .i64 ((((List.length x_22) : Nat) : Int) - (1 : Int))), (IntKind.wrap .i64 ((((List.length x_22) : Nat) : Int) - (1 : Int))) < (((List.length x_22) : Nat) : Int)] (by kernel_rfl) rfl rfl (ap2 c_44.1 (ap2 c_44.2 (ap2 c_44.1 (ap1 c_44.2)))) (by kernel_rfl) (by kernel_rfl) ?_
              refine VL_exit ?_
              refine QB_here ?_
              refine V_run hN hn 1 7 [4, 10, 11, 12] [0, 1, 5] ⟨[(4, .c (.h 1)), (10, .c (.h 0)), (11, .c (.val (.int .i64 (((List.length segs_1) : Nat) : Int)))), (12, .c (.val (.int .i64 (IntKind.wrap .i64 (t_3 + (1 : Int))))))], [(0, .row (.pair (.int .i64) (.int .i64)) segs_1), (1, .box [.h 5, .val (.int .i64 (IntKind.wrap .i64 (x_23 + (List.getD segs_1 (Int.toNat t_3) ((0 : Int), (0 : Int))).1)))]), (5, .row (.pair (.int .i64) (.int .i64)) (List.set x_22 (Int.toNat (IntKind.wrap .i64 ((((List.length x_22) : Nat) : Int) - (1 : Int)))) ((IntKind.wrap .i64 ((List.getD x_22 (Int.toNat (IntKind.wrap .i64 ((((List.length x_22) : Nat) : Int) - (1 : Int)))) ((0 : Int), (0 : Int))).1 + (List.getD segs_1 (Int.toNat t_3) ((0 : Int), (0 : Int))).1)), (List.getD x_22 (Int.toNat (IntKind.wrap .i64 ((((List.length x_22) : Nat) : Int) - (1 : Int)))) ((0 : Int), (0 : Int))).2)))], 7⟩ [] (by kernel_rfl) rfl rfl ap0 ?_
              refine VL_nil ?_
              exact V_roundEnd ((List.set x_22 (Int.toNat (IntKind.wrap .i64 ((((List.length x_22) : Nat) : Int) - (1 : Int)))) ((IntKind.wrap .i64 ((List.getD x_22 (Int.toNat (IntKind.wrap .i64 ((((List.length x_22) : Nat) : Int) - (1 : Int)))) ((0 : Int), (0 : Int))).1 + (List.getD segs_1 (Int.toNat t_3) ((0 : Int), (0 : Int))).1)), (List.getD x_22 (Int.toNat (IntKind.wrap .i64 ((((List.length x_22) : Nat) : Int) - (1 : Int)))) ((0 : Int), (0 : Int))).2)), (IntKind.wrap .i64 (x_23 + (List.getD segs_1 (Int.toNat t_3) ((0 : Int), (0 : Int))).1)), (IntKind.wrap .i64 (t_3 + (1 : Int)))) H_87 [(1, 1), (5, 5)] hn (by kernel_rfl) (by kernel_rfl) rfl rfl rfl
            · intro b_42; have H_86 := of_f H_78 b_42
              refine V_run hN hn 1 7 [4, 6, 7, 10, 11, 12, 56] [0, 1, 5, 6] ⟨[(4, .c (.h 1)), (6, .c (.h 6)), (7, .c (.val (.int .i64 (IntKind.wrap .i64 ((((List.length x_22) : Nat) : Int) - (1 : Int)))))), (10, .c (.h 0)), (11, .c (.val (.int .i64 (((List.length segs_1) : Nat) : Int)))), (12, .c (.val (.int .i64 t_3))), (56, .c (.val (.bool y_79)))], [(0, .row (.pair (.int .i64) (.int .i64)) segs_1), (1, .box [.h 5, .val (.int .i64 (IntKind.wrap .i64 (x_23 + (List.getD segs_1 (Int.toNat t_3) ((0 : Int), (0 : Int))).1)))]), (5, .row (.pair (.int .i64) (.int .i64)) x_22), (6, .box [.val (.int .i64 (List.getD segs_1 (Int.toNat t_3) ((0 : Int), (0 : Int))).1), .val (.int .i64 (List.getD segs_1 (Int.toNat t_3) ((0 : Int), (0 : Int))).2)])], 7⟩ [] (by kernel_rfl) rfl rfl ap0 ?_
              obtain ⟨c_47, H_88⟩ := of_if H_86
              refine V_draw hN hn (by kernel_rfl) [] [] calls_nil 7 [4, 10, 11, 12] [0, 1, 8] ⟨[(4, .c (.h 1)), (10, .c (.h 0)), (11, .c (.val (.int .i64 (((List.length segs_1) : Nat) : Int)))), (12, .c (.val (.int .i64 t_3)))], [(0, .row (.pair (.int .i64) (.int .i64)) segs_1), (1, .box [.h 8, .val (.int .i64 (IntKind.wrap .i64 (x_23 + (List.getD segs_1 (Int.toNat t_3) ((0 : Int), (0 : Int))).1)))]), (8, .row (.pair (.int .i64) (.int .i64)) (x_22 ++ ([((List.getD segs_1 (Int.toNat t_3) ((0 : Int), (0 : Int))).1, (List.getD segs_1 (Int.toNat t_3) ((0 : Int), (0 : Int))).2)] : List (Int × Int))))], 9⟩ [(List.length x_22 + List.length ([((List.getD segs_1 (Int.toNat t_3) ((0 : Int), (0 : Int))).1, (List.getD segs_1 (Int.toNat t_3) ((0 : Int), (0 : Int))).2)] : List (Int × Int))) * 16 ≤ 140737488355328] (by kernel_rfl) rfl rfl (ap1 c_47) (by kernel_rfl) (by kernel_rfl) ?_
              refine VL_nil (QB_end ?_)
              refine V_run hN hn 1 9 [4, 10, 11, 12] [0, 1, 8] ⟨[(4, .c (.h 1)), (10, .c (.h 0)), (11, .c (.val (.int .i64 (((List.length segs_1) : Nat) : Int)))), (12, .c (.val (.int .i64 (IntKind.wrap .i64 (t_3 + (1 : Int))))))], [(0, .row (.pair (.int .i64) (.int .i64)) segs_1), (1, .box [.h 8, .val (.int .i64 (IntKind.wrap .i64 (x_23 + (List.getD segs_1 (Int.toNat t_3) ((0 : Int), (0 : Int))).1)))]), (8, .row (.pair (.int .i64) (.int .i64)) (x_22 ++ ([((List.getD segs_1 (Int.toNat t_3) ((0 : Int), (0 : Int))).1, (List.getD segs_1 (Int.toNat t_3) ((0 : Int), (0 : Int))).2)] : List (Int × Int))))], 9⟩ [] (by kernel_rfl) rfl rfl ap0 ?_
              refine VL_nil ?_
              exact V_roundEnd ((x_22 ++ ([((List.getD segs_1 (Int.toNat t_3) ((0 : Int), (0 : Int))).1, (List.getD segs_1 (Int.toNat t_3) ((0 : Int), (0 : Int))).2)] : List (Int × Int))), (IntKind.wrap .i64 (x_23 + (List.getD segs_1 (Int.toNat t_3) ((0 : Int), (0 : Int))).1)), (IntKind.wrap .i64 (t_3 + (1 : Int)))) H_88 [(1, 1), (5, 8)] hn (by kernel_rfl) (by kernel_rfl) rfl rfl rfl
    · intro b_26; have H_68 := of_f H_66 b_26
      refine VL_exit ?_
      refine QL_exit ?_
      refine QB_here ?_
      have H_89 := Option.some.inj (show some (Sum.inr (x_22, x_23)) = some q_61 from H_68); subst H_89
      refine VL_nil ?_
      exact QP_end (x_22, x_23) rfl [(1, 1), (5, 5)] hn (by kernel_rfl) (by kernel_rfl) rfl rfl rfl
  · intro y_64 hy; subst hy
    obtain ⟨x_49, x_50⟩ := y_64
    refine V_run hN hn 3 6 [4, 86] [0, 1, 5] ⟨[(4, .c (.h 1)), (86, .c (.val (.bool (decide ((((List.length x_49) : Nat) : Int) > (200 : Int))))))], [(0, .row (.pair (.int .i64) (.int .i64)) segs_1), (1, .box [.h 5, .val (.int .i64 x_50)]), (5, .row (.pair (.int .i64) (.int .i64)) x_49)], 6⟩ [] (by kernel_rfl) rfl rfl ap0 ?_
    refine VL_cond ((decide ((((List.length x_49) : Nat) : Int) > (200 : Int)))) (by kernel_rfl) ?_ ?_
    · intro b_52; have H_90 := of_t H_63 b_52
      refine V_run hN hn 2 6 [2, 3] [0] ⟨[(2, .c (.val (.pointer none))), (3, .c (.val (.int .i64 (70 : Int))))], [(0, .row (.pair (.int .i64) (.int .i64)) segs_1)], 6⟩ [] (by kernel_rfl) rfl rfl ap0 ?_
      have H_92 := Option.some.inj (show some ((none : (Option ((List (Int × Int)) × Int))), (70 : Int)) = some r from H_90); subst H_92
      refine VL_ret ?_
      refine P_ghost [.read 2 (.opt (.pair (.slice (.pair (.int .i64) (.int .i64))) (.int .i64)))] 6 hn [2, 3] [0] ⟨[(2, .c (.imm (.opt (.pair (.slice (.pair (.int .i64) (.int .i64))) (.int .i64))) (none : (Option ((List (Int × Int)) × Int))))), (3, .c (.val (.int .i64 (70 : Int))))], [(0, .row (.pair (.int .i64) (.int .i64)) segs_1)], 6⟩ (by kernel_rfl) rfl rfl ?_
      exact P_to [(2, .c (.imm (.opt (.pair (.slice (.pair (.int .i64) (.int .i64))) (.int .i64))) (none : (Option ((List (Int × Int)) × Int))))), (3, .c (.val (.int .i64 (70 : Int))))] [(0, .row (.pair (.int .i64) (.int .i64)) segs_1)] [] hn (by kernel_rfl) (by kernel_rfl) rfl rfl rfl (QF_retS (by kernel_rfl) (by kernel_rfl) rfl)
    · intro b_52; have H_91 := of_f H_63 b_52
      refine V_run hN hn 3 6 [2, 3] [0, 1, 5] ⟨[(2, .c (.h 1)), (3, .c (.val (.int .i64 (0 : Int))))], [(0, .row (.pair (.int .i64) (.int .i64)) segs_1), (1, .box [.h 5, .val (.int .i64 x_50)]), (5, .row (.pair (.int .i64) (.int .i64)) x_49)], 6⟩ [] (by kernel_rfl) rfl rfl ap0 ?_
      have H_93 := Option.some.inj (show some ((some (x_49, x_50)), (0 : Int)) = some r from H_91); subst H_93
      refine VL_ret ?_
      refine P_ghost [.shut 5, .shutBox 1 (.pair (.slice (.pair (.int .i64) (.int .i64))) (.int .i64)), .read 2 (.opt (.pair (.slice (.pair (.int .i64) (.int .i64))) (.int .i64)))] 6 hn [2, 3] [0] ⟨[(2, .c (.imm (.opt (.pair (.slice (.pair (.int .i64) (.int .i64))) (.int .i64))) (some (x_49, x_50)))), (3, .c (.val (.int .i64 (0 : Int))))], [(0, .row (.pair (.int .i64) (.int .i64)) segs_1)], 6⟩ (by kernel_rfl) rfl rfl ?_
      exact P_to [(2, .c (.imm (.opt (.pair (.slice (.pair (.int .i64) (.int .i64))) (.int .i64))) (some (x_49, x_50)))), (3, .c (.val (.int .i64 (0 : Int))))] [(0, .row (.pair (.int .i64) (.int .i64)) segs_1)] [] hn (by kernel_rfl) (by kernel_rfl) rfl rfl rfl (QF_retS (by kernel_rfl) (by kernel_rfl) rfl)

theorem subset_Of_r_spec (K : Nat) (segs_1 : (List (Int × Int))) (r : ((Option ((List (Int × Int)) × Int)) × Int)) (H : subset_Of_r K segs_1 = some r) : Spec Try.prog 34 1 [.c (.h 0)] [(0, .row (.pair (.int .i64) (.int .i64)) segs_1)] (.tup [(false, [.imm (.opt (.pair (.slice (.pair (.int .i64) (.int .i64))) (.int .i64))) r.1]), (false, [.val (.int .i64 r.2)])]) [(0, .row (.pair (.int .i64) (.int .i64)) segs_1)] := by
  refine Spec_mk (fn := Try.f34) (c := (Try.f34.body).get!) Try.func34 (by kernel_rfl) rfl ?_
  intro C hN hn
  replace hN : C.N = 42 := hN
  unfold subset_Of_r at H
  refine V_run hN hn 5 1 [0, 6, 7, 8] [0] ⟨[(0, .c (.h 0)), (6, .c (.h 0)), (7, .c (.val (.int .i64 (((List.length segs_1) : Nat) : Int)))), (8, .c (.val (.int .i64 (0 : Int))))], [(0, .row (.pair (.int .i64) (.int .i64)) segs_1)], 1⟩ [] (by kernel_rfl) rfl rfl ap0 ?_
  obtain ⟨q_33, H_34, H_35⟩ := of_bind H
  refine V_cut (Y := Unit) (R := (((Option ((List (Int × Int)) × Int)) × Int) ⊕ Unit)) q_33 (fun y => (Sum.inr y)) (fun y => [(0, .c (.h 0))]) (fun y => [(0, .row (.pair (.int .i64) (.int .i64)) segs_1)]) ?_ ?_
  · skip
    refine VL_block ?_
    refine V_to [(0, .c (.h 0)), (6, .c (.h 0)), (7, .c (.val (.int .i64 (((List.length segs_1) : Nat) : Int)))), (8, .c (.val (.int .i64 (0 : Int))))] [(0, .row (.pair (.int .i64) (.int .i64)) segs_1)] [] hn (by kernel_rfl) (by kernel_rfl) rfl rfl rfl ?_
    refine VL_loop (X := Int) (fun x => [(0, .c (.h 0)), (6, .c (.h 0)), (7, .c (.val (.int .i64 (((List.length segs_1) : Nat) : Int)))), (8, .c (.val (.int .i64 x)))]) (fun x => [(0, .row (.pair (.int .i64) (.int .i64)) segs_1)]) (fun k x => subset_Of_r.l0 K segs_1 k x = some q_33) K (0 : Int) H_34 (fun _ h => no_none h) ?_
    intro k_4 t_3 H_37
    have H_38 : subset_Of_r.l0 K segs_1 (k_4 + 1) t_3 = some q_33 := H_37
    rw [subset_Of_r.l0] at H_38
    refine V_run hN hn 3 1 [0, 6, 7, 8, 9] [0] ⟨[(0, .c (.h 0)), (6, .c (.h 0)), (7, .c (.val (.int .i64 (((List.length segs_1) : Nat) : Int)))), (8, .c (.val (.int .i64 t_3))), (9, .c (.val (.bool (decide (t_3 < (((List.length segs_1) : Nat) : Int))))))], [(0, .row (.pair (.int .i64) (.int .i64)) segs_1)], 1⟩ [] (by kernel_rfl) rfl rfl ap0 ?_
    refine VL_cond ((decide (t_3 < (((List.length segs_1) : Nat) : Int)))) (by kernel_rfl) ?_ ?_
    · intro b_6; have H_39 := of_t H_38 b_6
      refine V_run hN hn 2 1 [0, 6, 7, 8, 9] [0] ⟨[(0, .c (.h 0)), (6, .c (.h 0)), (7, .c (.val (.int .i64 (((List.length segs_1) : Nat) : Int)))), (8, .c (.val (.int .i64 t_3))), (9, .c (.val (.bool (decide (t_3 < (((List.length segs_1) : Nat) : Int))))))], [(0, .row (.pair (.int .i64) (.int .i64)) segs_1)], 1⟩ [] (by kernel_rfl) rfl rfl ap0 ?_
      refine VL_block ?_
      obtain ⟨c_8, H_41⟩ := of_if H_39
      refine V_run hN hn 3 1 [0, 4, 5, 6, 7, 8] [0, 1] ⟨[(0, .c (.h 0)), (4, .c (.val (.int .i64 t_3))), (5, .c (.h 1)), (6, .c (.h 0)), (7, .c (.val (.int .i64 (((List.length segs_1) : Nat) : Int)))), (8, .c (.val (.int .i64 t_3)))], [(0, .row (.pair (.int .i64) (.int .i64)) segs_1), (1, .box [.val (.int .i64 (List.getD segs_1 (Int.toNat t_3) ((0 : Int), (0 : Int))).1), .val (.int .i64 (List.getD segs_1 (Int.toNat t_3) ((0 : Int), (0 : Int))).2)])], 2⟩ [0 ≤ t_3, t_3 < (((List.length segs_1) : Nat) : Int)] (by kernel_rfl) rfl rfl (ap2 c_8.1 (ap1 c_8.2)) ?_
      obtain ⟨q_42, H_43, H_44⟩ := of_bind H_41
      refine V_cut (Y := Bool) (R := Bool) q_42 (fun y => y) (fun y => [(0, .c (.h 0)), (6, .c (.h 0)), (7, .c (.val (.int .i64 (((List.length segs_1) : Nat) : Int)))), (8, .c (.val (.int .i64 t_3))), (36, .c (.val (.bool y)))]) (fun y => [(0, .row (.pair (.int .i64) (.int .i64)) segs_1)]) ?_ ?_
      · skip
        rcases Bool.eq_false_or_eq_true ((decide ((List.getD segs_1 (Int.toNat t_3) ((0 : Int), (0 : Int))).1 < (1 : Int)))) with b_9 | b_9
        · have H_46 := of_t H_43 b_9
          refine V_draw hN hn (by kernel_rfl) [] [(16, true)] calls_nil 2 [0, 6, 7, 8, 36] [0] ⟨[(0, .c (.h 0)), (6, .c (.h 0)), (7, .c (.val (.int .i64 (((List.length segs_1) : Nat) : Int)))), (8, .c (.val (.int .i64 t_3))), (36, .c (.val (.bool true)))], [(0, .row (.pair (.int .i64) (.int .i64)) segs_1)], 2⟩ [(decide ((List.getD segs_1 (Int.toNat t_3) ((0 : Int), (0 : Int))).1 < (1 : Int))) = true] (by kernel_rfl) rfl rfl (ap1 b_9) (by kernel_rfl) (by kernel_rfl) ?_
          have H_48 := Option.some.inj (show some true = some q_42 from H_46); subst H_48
          refine VL_nil ?_
          exact QP_end true rfl [] hn (by kernel_rfl) (by kernel_rfl) rfl rfl rfl
        · have H_47 := of_f H_43 b_9
          obtain ⟨r_11, h_12, H_49⟩ := of_bind H_47
          rcases Bool.eq_false_or_eq_true ((!r_11)) with b_13 | b_13
          · have H_50 := of_t H_49 b_13
            refine V_draw hN hn (by kernel_rfl) [(6, ⟨52, 0, [.c (.val (.int .i64 (List.getD segs_1 (Int.toNat t_3) ((0 : Int), (0 : Int))).2))], [], .c (.val (.bool r_11)), [], [], 2⟩)] [(16, false), (22, true)] (calls_cons (subset_isCount_spec K (List.getD segs_1 (Int.toNat t_3) ((0 : Int), (0 : Int))).2 r_11 h_12) (by kernel_rfl) calls_nil) 2 [0, 6, 7, 8, 36] [0] ⟨[(0, .c (.h 0)), (6, .c (.h 0)), (7, .c (.val (.int .i64 (((List.length segs_1) : Nat) : Int)))), (8, .c (.val (.int .i64 t_3))), (36, .c (.val (.bool true)))], [(0, .row (.pair (.int .i64) (.int .i64)) segs_1)], 2⟩ [(decide ((List.getD segs_1 (Int.toNat t_3) ((0 : Int), (0 : Int))).1 < (1 : Int))) = false, (!r_11) = true] (by kernel_rfl) rfl rfl (ap2 b_9 (ap1 b_13)) (by kernel_rfl) (by kernel_rfl) ?_
            have H_52 := Option.some.inj (show some true = some q_42 from H_50); subst H_52
            refine VL_nil ?_
            exact QP_end true rfl [] hn (by kernel_rfl) (by kernel_rfl) rfl rfl rfl
          · have H_51 := of_f H_49 b_13
            rcases Bool.eq_false_or_eq_true ((decide (t_3 > (0 : Int)))) with b_15 | b_15
            · have H_53 := of_t H_51 b_15
              obtain ⟨c_16, H_55⟩ := of_if H_53
              refine V_draw hN hn (by kernel_rfl) [(6, ⟨52, 0, [.c (.val (.int .i64 (List.getD segs_1 (Int.toNat t_3) ((0 : Int), (0 : Int))).2))], [], .c (.val (.bool r_11)), [], [], 2⟩)] [(16, false), (22, false), (25, true)] (calls_cons (subset_isCount_spec K (List.getD segs_1 (Int.toNat t_3) ((0 : Int), (0 : Int))).2 r_11 h_12) (by kernel_rfl) calls_nil) 2 [0, 6, 7, 8, 36] [0] ⟨[(0, .c (.h 0)), (6, .c (.h 0)), (7, .c (.val (.int .i64 (((List.length segs_1) : Nat) : Int)))), (8, .c (.val (.int .i64 t_3))), (36, .c (.val (.bool ((List.getD segs_1 (Int.toNat t_3) ((0 : Int), (0 : Int))).2 == (List.getD segs_1 (Int.toNat (IntKind.wrap .i64 (t_3 - (1 : Int)))) ((0 : Int), (0 : Int))).2))))], [(0, .row (.pair (.int .i64) (.int .i64)) segs_1)], 2⟩ [(decide ((List.getD segs_1 (Int.toNat t_3) ((0 : Int), (0 : Int))).1 < (1 : Int))) = false, (!r_11) = false, (decide (t_3 > (0 : Int))) = true, 0 ≤ (IntKind.wrap .i64 (t_3 - (1 : Int))), (IntKind.wrap .i64 (t_3 - (1 : Int))) < (((List.length segs_1) : Nat) : Int)] (by kernel_rfl) rfl rfl (ap2 b_9 (ap2 b_13 (ap2 b_15 (ap2 c_16.1 (ap1 c_16.2))))) (by kernel_rfl) (by kernel_rfl) ?_
              have H_56 := Option.some.inj (show some ((List.getD segs_1 (Int.toNat t_3) ((0 : Int), (0 : Int))).2 == (List.getD segs_1 (Int.toNat (IntKind.wrap .i64 (t_3 - (1 : Int)))) ((0 : Int), (0 : Int))).2) = some q_42 from H_55); subst H_56
              refine VL_nil ?_
              exact QP_end ((List.getD segs_1 (Int.toNat t_3) ((0 : Int), (0 : Int))).2 == (List.getD segs_1 (Int.toNat (IntKind.wrap .i64 (t_3 - (1 : Int)))) ((0 : Int), (0 : Int))).2) rfl [] hn (by kernel_rfl) (by kernel_rfl) rfl rfl rfl
            · have H_54 := of_f H_51 b_15
              refine V_draw hN hn (by kernel_rfl) [(6, ⟨52, 0, [.c (.val (.int .i64 (List.getD segs_1 (Int.toNat t_3) ((0 : Int), (0 : Int))).2))], [], .c (.val (.bool r_11)), [], [], 2⟩)] [(16, false), (22, false), (25, false)] (calls_cons (subset_isCount_spec K (List.getD segs_1 (Int.toNat t_3) ((0 : Int), (0 : Int))).2 r_11 h_12) (by kernel_rfl) calls_nil) 2 [0, 6, 7, 8, 36] [0] ⟨[(0, .c (.h 0)), (6, .c (.h 0)), (7, .c (.val (.int .i64 (((List.length segs_1) : Nat) : Int)))), (8, .c (.val (.int .i64 t_3))), (36, .c (.val (.bool false)))], [(0, .row (.pair (.int .i64) (.int .i64)) segs_1)], 2⟩ [(decide ((List.getD segs_1 (Int.toNat t_3) ((0 : Int), (0 : Int))).1 < (1 : Int))) = false, (!r_11) = false, (decide (t_3 > (0 : Int))) = false] (by kernel_rfl) rfl rfl (ap2 b_9 (ap2 b_13 (ap1 b_15))) (by kernel_rfl) (by kernel_rfl) ?_
              have H_57 := Option.some.inj (show some false = some q_42 from H_54); subst H_57
              refine VL_nil ?_
              exact QP_end false rfl [] hn (by kernel_rfl) (by kernel_rfl) rfl rfl rfl
      · intro y_45 hy; subst hy
        skip
        skip
        refine VL_cond (y_45) (by kernel_rfl) ?_ ?_
        · intro b_19; have H_58 := of_t H_44 b_19
          refine V_run hN hn 2 2 [2, 3] [0] ⟨[(2, .c (.val (.pointer none))), (3, .c (.val (.int .i64 (12 : Int))))], [(0, .row (.pair (.int .i64) (.int .i64)) segs_1)], 2⟩ [] (by kernel_rfl) rfl rfl ap0 ?_
          have H_60 := Option.some.inj (show some (Sum.inl ((none : (Option ((List (Int × Int)) × Int))), (12 : Int))) = some q_33 from H_58); subst H_60
          have H_61 := Option.some.inj (show some ((none : (Option ((List (Int × Int)) × Int))), (12 : Int)) = some r from H_35); subst H_61
          refine VL_ret ?_
          refine QB_ret ?_
          refine QL_ret ?_
          refine QB_ret ?_
          refine QP_ret ?_
          refine P_ghost [.read 2 (.opt (.pair (.slice (.pair (.int .i64) (.int .i64))) (.int .i64)))] 2 hn [2, 3] [0] ⟨[(2, .c (.imm (.opt (.pair (.slice (.pair (.int .i64) (.int .i64))) (.int .i64))) (none : (Option ((List (Int × Int)) × Int))))), (3, .c (.val (.int .i64 (12 : Int))))], [(0, .row (.pair (.int .i64) (.int .i64)) segs_1)], 2⟩ (by kernel_rfl) rfl rfl ?_
          exact P_to [(2, .c (.imm (.opt (.pair (.slice (.pair (.int .i64) (.int .i64))) (.int .i64))) (none : (Option ((List (Int × Int)) × Int))))), (3, .c (.val (.int .i64 (12 : Int))))] [(0, .row (.pair (.int .i64) (.int .i64)) segs_1)] [] hn (by kernel_rfl) (by kernel_rfl) rfl rfl rfl (QF_retS (by kernel_rfl) (by kernel_rfl) rfl)
        · intro b_19; have H_59 := of_f H_44 b_19
          refine V_run hN hn 1 2 [0, 6, 7, 8, 36] [0] ⟨[(0, .c (.h 0)), (6, .c (.h 0)), (7, .c (.val (.int .i64 (((List.length segs_1) : Nat) : Int)))), (8, .c (.val (.int .i64 t_3))), (36, .c (.val (.bool y_45)))], [(0, .row (.pair (.int .i64) (.int .i64)) segs_1)], 2⟩ [] (by kernel_rfl) rfl rfl ap0 ?_
          refine VL_nil (QB_end ?_)
          refine V_run hN hn 1 2 [0, 6, 7, 8] [0] ⟨[(0, .c (.h 0)), (6, .c (.h 0)), (7, .c (.val (.int .i64 (((List.length segs_1) : Nat) : Int)))), (8, .c (.val (.int .i64 (IntKind.wrap .i64 (t_3 + (1 : Int))))))], [(0, .row (.pair (.int .i64) (.int .i64)) segs_1)], 2⟩ [] (by kernel_rfl) rfl rfl ap0 ?_
          refine VL_nil ?_
          exact V_roundEnd (IntKind.wrap .i64 (t_3 + (1 : Int))) H_59 [] hn (by kernel_rfl) (by kernel_rfl) rfl rfl rfl
    · intro b_6; have H_40 := of_f H_38 b_6
      refine VL_exit ?_
      refine QL_exit ?_
      refine QB_here ?_
      have H_62 := Option.some.inj (show some (Sum.inr ()) = some q_33 from H_40); subst H_62
      refine VL_nil ?_
      exact QP_end () rfl [] hn (by kernel_rfl) (by kernel_rfl) rfl rfl rfl
  · intro y_36 hy; subst hy
    skip
    refine V_run hN hn 1 1 [0] [0] ⟨[(0, .c (.h 0))], [(0, .row (.pair (.int .i64) (.int .i64)) segs_1)], 1⟩ [] (by kernel_rfl) rfl rfl ap0 ?_
    obtain ⟨r_24, h_25, H_63⟩ := of_bind H_35
    refine V_reg hN hn [(1, ⟨46, 1, [.c (.h 0)], [(0, .row (.pair (.int .i64) (.int .i64)) segs_1)], .tup [(false, [.imm (.opt (.pair (.slice (.pair (.int .i64) (.int .i64))) (.int .i64))) r_24.1]), (false, [.val (.int .i64 r_24.2)])], [(0, .row (.pair (.int .i64) (.int .i64)) segs_1)], [(0, 0)], 1⟩)] [] (calls_cons (subset_Pack_r_spec K segs_1 r_24 h_25) (by kernel_rfl) calls_nil) 1 [2, 3] [0] ⟨[(2, .c (.imm (.opt (.pair (.slice (.pair (.int .i64) (.int .i64))) (.int .i64))) r_24.1)), (3, .c (.val (.int .i64 r_24.2)))], [(0, .row (.pair (.int .i64) (.int .i64)) segs_1)], 1⟩ [] (by kernel_rfl) rfl rfl ap0 (by kernel_rfl) (by kernel_rfl) ?_
    have H_64 := Option.some.inj (show some (r_24.1, r_24.2) = some r from H_63); subst H_64
    refine VL_ret ?_
    exact P_to [(2, .c (.imm (.opt (.pair (.slice (.pair (.int .i64) (.int .i64))) (.int .i64))) r_24.1)), (3, .c (.val (.int .i64 r_24.2)))] [(0, .row (.pair (.int .i64) (.int .i64)) segs_1)] [] hn (by kernel_rfl) (by kernel_rfl) rfl rfl rfl (QF_retS (by kernel_rfl) (by kernel_rfl) rfl)

theorem palinodelaw8_made_r_spec (K : Nat) (l_1 : (List Int)) (r : (Option ((List (Int × Int)) × Int))) (H : palinodelaw8_made_r K l_1 = some r) : Spec Try.prog 11 1 [.c (.h 0)] [(0, .row (.int .i64) l_1)] (.c (.imm (.opt (.pair (.slice (.pair (.int .i64) (.int .i64))) (.int .i64))) r)) [(0, .row (.int .i64) l_1)] := by
  refine Spec_mk (fn := Try.f11) (c := (Try.f11.body).get!) Try.func11 (by kernel_rfl) rfl ?_
  intro C hN hn
  replace hN : C.N = 14 := hN
  unfold palinodelaw8_made_r at H
  refine V_run hN hn 3 1 [0] [0] ⟨[(0, .c (.h 0))], [(0, .row (.int .i64) l_1)], 1⟩ [] (by kernel_rfl) rfl rfl ap0 ?_
  obtain ⟨r_3, h_4, H_13⟩ := of_bind H
  obtain ⟨r_5, h_6, H_14⟩ := of_bind H_13
  refine V_reg hN hn [(1, ⟨15, 1, [.c (.h 0)], [(0, .row (.int .i64) l_1)], .c (.h 4), [(0, .row (.int .i64) l_1), (4, .row (.pair (.int .i64) (.int .i64)) r_3)], [(0, 0), (4, 1)], 2⟩), (2, ⟨34, 1, [.c (.h 0)], [(0, .row (.pair (.int .i64) (.int .i64)) r_3)], .tup [(false, [.imm (.opt (.pair (.slice (.pair (.int .i64) (.int .i64))) (.int .i64))) r_5.1]), (false, [.val (.int .i64 r_5.2)])], [(0, .row (.pair (.int .i64) (.int .i64)) r_3)], [(0, 1)], 2⟩)] [] (calls_cons (palinoderef7_Segs_r_spec K l_1 r_3 h_4) (by kernel_rfl) (calls_cons (subset_Of_r_spec K r_3 r_5 h_6) (by kernel_rfl) calls_nil)) 1 [3, 4] [0] ⟨[(3, .c (.imm (.opt (.pair (.slice (.pair (.int .i64) (.int .i64))) (.int .i64))) r_5.1)), (4, .c (.val (.int .i64 r_5.2)))], [(0, .row (.int .i64) l_1)], 2⟩ [] (by kernel_rfl) rfl rfl ap0 (by kernel_rfl) (by kernel_rfl) ?_
  refine V_run hN hn 3 2 [3, 12] [0] ⟨[(3, .c (.imm (.opt (.pair (.slice (.pair (.int .i64) (.int .i64))) (.int .i64))) r_5.1)), (12, .c (.val (.bool (r_5.2 != (0 : Int)))))], [(0, .row (.int .i64) l_1)], 2⟩ [] (by kernel_rfl) rfl rfl ap0 ?_
  refine VL_cond ((r_5.2 != (0 : Int))) (by kernel_rfl) ?_ ?_
  · intro b_9; have H_15 := of_t H_14 b_9
    refine V_run hN hn 2 2 [2] [0] ⟨[(2, .c (.val (.pointer none)))], [(0, .row (.int .i64) l_1)], 2⟩ [] (by kernel_rfl) rfl rfl ap0 ?_
    have H_17 := Option.some.inj (show some (none : (Option ((List (Int × Int)) × Int))) = some r from H_15); subst H_17
    refine VL_ret ?_
    refine P_ghost [.read 2 (.opt (.pair (.slice (.pair (.int .i64) (.int .i64))) (.int .i64)))] 2 hn [2] [0] ⟨[(2, .c (.imm (.opt (.pair (.slice (.pair (.int .i64) (.int .i64))) (.int .i64))) (none : (Option ((List (Int × Int)) × Int)))))], [(0, .row (.int .i64) l_1)], 2⟩ (by kernel_rfl) rfl rfl ?_
    exact P_to [(2, .c (.imm (.opt (.pair (.slice (.pair (.int .i64) (.int .i64))) (.int .i64))) (none : (Option ((List (Int × Int)) × Int)))))] [(0, .row (.int .i64) l_1)] [] hn (by kernel_rfl) (by kernel_rfl) rfl rfl rfl (QF_retS (by kernel_rfl) (by kernel_rfl) rfl)
  · intro b_9; have H_16 := of_f H_14 b_9
    refine V_run hN hn 3 2 [2] [0] ⟨[(2, .c (.imm (.opt (.pair (.slice (.pair (.int .i64) (.int .i64))) (.int .i64))) r_5.1))], [(0, .row (.int .i64) l_1)], 2⟩ [] (by kernel_rfl) rfl rfl ap0 ?_
    have H_18 := Option.some.inj (show some r_5.1 = some r from H_16); subst H_18
    refine VL_ret ?_
    exact P_to [(2, .c (.imm (.opt (.pair (.slice (.pair (.int .i64) (.int .i64))) (.int .i64))) r_5.1))] [(0, .row (.int .i64) l_1)] [] hn (by kernel_rfl) (by kernel_rfl) rfl rfl rfl (QF_retS (by kernel_rfl) (by kernel_rfl) rfl)

theorem subset_Subset_Len_spec (K : Nat) (s_1 : (Option ((List (Int × Int)) × Int))) (r : Int) (H : subset_Subset_Len K s_1 = some r) : Spec Try.prog 33 0 [.c (.imm (.opt (.pair (.slice (.pair (.int .i64) (.int .i64))) (.int .i64))) s_1)] [] (.c (.val (.int .i64 r))) [] := by
  refine Spec_mk (fn := Try.f33) (c := (Try.f33.body).get!) Try.func33 (by kernel_rfl) rfl ?_
  intro C hN hn
  replace hN : C.N = 7 := hN
  unfold subset_Subset_Len at H
  obtain ⟨c_2, H_4⟩ := of_if H
  refine V_run hN hn 4 0 [2] [] ⟨[(2, .c (.val (.int .i64 (Option.getD s_1 (([] : (List (Int × Int))), (0 : Int))).2)))], [], 0⟩ [Option.isSome s_1 = true] (by kernel_rfl) rfl rfl (ap1 c_2) ?_
  have H_5 := Option.some.inj (show some (Option.getD s_1 (([] : (List (Int × Int))), (0 : Int))).2 = some r from H_4); subst H_5
  refine VL_ret ?_
  exact P_to [(2, .c (.val (.int .i64 (Option.getD s_1 (([] : (List (Int × Int))), (0 : Int))).2)))] [] [] hn (by kernel_rfl) (by kernel_rfl) rfl rfl rfl (QF_retS (by kernel_rfl) (by kernel_rfl) rfl)

theorem algebra_size_spec (K : Nat) (s_1 : (Option ((List (Int × Int)) × Int))) (r : Int) (H : algebra_size K s_1 = some r) : Spec Try.prog 35 0 [.c (.imm (.opt (.pair (.slice (.pair (.int .i64) (.int .i64))) (.int .i64))) s_1)] [] (.c (.val (.int .i64 r))) [] := by
  refine Spec_mk (fn := Try.f35) (c := (Try.f35.body).get!) Try.func35 (by kernel_rfl) rfl ?_
  intro C hN hn
  replace hN : C.N = 7 := hN
  unfold algebra_size at H
  refine V_run hN hn 5 0 [0, 4] [] ⟨[(0, .c (.imm (.opt (.pair (.slice (.pair (.int .i64) (.int .i64))) (.int .i64))) s_1)), (4, .c (.val (.bool (Option.isNone s_1))))], [], 0⟩ [] (by kernel_rfl) rfl rfl ap0 ?_
  refine VL_cond ((Option.isNone s_1)) (by kernel_rfl) ?_ ?_
  · intro b_3; have H_10 := of_t H b_3
    refine V_run hN hn 2 0 [2] [] ⟨[(2, .c (.val (.int .i64 (0 : Int))))], [], 0⟩ [] (by kernel_rfl) rfl rfl ap0 ?_
    have H_12 := Option.some.inj (show some (0 : Int) = some r from H_10); subst H_12
    refine VL_ret ?_
    exact P_to [(2, .c (.val (.int .i64 (0 : Int))))] [] [] hn (by kernel_rfl) (by kernel_rfl) rfl rfl rfl (QF_retS (by kernel_rfl) (by kernel_rfl) rfl)
  · intro b_3; have H_11 := of_f H b_3
    refine V_run hN hn 2 0 [0, 4] [] ⟨[(0, .c (.imm (.opt (.pair (.slice (.pair (.int .i64) (.int .i64))) (.int .i64))) s_1)), (4, .c (.val (.bool (Option.isNone s_1))))], [], 0⟩ [] (by kernel_rfl) rfl rfl ap0 ?_
    obtain ⟨r_6, h_7, H_13⟩ := of_bind H_11
    refine V_reg hN hn [(1, ⟨33, 0, [.c (.imm (.opt (.pair (.slice (.pair (.int .i64) (.int .i64))) (.int .i64))) s_1)], [], .c (.val (.int .i64 r_6)), [], [], 0⟩)] [] (calls_cons (subset_Subset_Len_spec K s_1 r_6 h_7) (by kernel_rfl) calls_nil) 0 [2] [] ⟨[(2, .c (.val (.int .i64 r_6)))], [], 0⟩ [] (by kernel_rfl) rfl rfl ap0 (by kernel_rfl) (by kernel_rfl) ?_
    have H_14 := Option.some.inj (show some r_6 = some r from H_13); subst H_14
    refine VL_ret ?_
    exact P_to [(2, .c (.val (.int .i64 r_6)))] [] [] hn (by kernel_rfl) (by kernel_rfl) rfl rfl rfl (QF_retS (by kernel_rfl) (by kernel_rfl) rfl)

theorem subset_Subset_Size_spec (K : Nat) (s_1 : (Option ((List (Int × Int)) × Int))) (r : Int) (H : subset_Subset_Size K s_1 = some r) : Spec Try.prog 31 0 [.c (.imm (.opt (.pair (.slice (.pair (.int .i64) (.int .i64))) (.int .i64))) s_1)] [] (.c (.val (.int .i64 r))) [] := by
  refine Spec_mk (fn := Try.f31) (c := (Try.f31.body).get!) Try.func31 (by kernel_rfl) rfl ?_
  intro C hN hn
  replace hN : C.N = 24 := hN
  unfold subset_Subset_Size at H
  obtain ⟨c_2, H_17⟩ := of_if H
  refine V_run hN hn 7 0 [3, 9, 10, 11] [] ⟨[(3, .c (.val (.int .i64 (0 : Int)))), (9, .c (.imm (.slice (.pair (.int .i64) (.int .i64))) (Option.getD s_1 (([] : (List (Int × Int))), (0 : Int))).1)), (10, .c (.val (.int .i64 (((List.length (Option.getD s_1 (([] : (List (Int × Int))), (0 : Int))).1) : Nat) : Int)))), (11, .c (.val (.int .i64 (0 : Int))))], [], 0⟩ [Option.isSome s_1 = true] (by kernel_rfl) rfl rfl (ap1 c_2) ?_
  refine VL_block ?_
  refine V_to [(3, .c (.val (.int .i64 (0 : Int)))), (9, .c (.imm (.slice (.pair (.int .i64) (.int .i64))) (Option.getD s_1 (([] : (List (Int × Int))), (0 : Int))).1)), (10, .c (.val (.int .i64 (((List.length (Option.getD s_1 (([] : (List (Int × Int))), (0 : Int))).1) : Nat) : Int)))), (11, .c (.val (.int .i64 (0 : Int))))] [] [] hn (by kernel_rfl) (by kernel_rfl) rfl rfl rfl ?_
  refine VL_loop (X := (Int × Int)) (fun x => [(3, .c (.val (.int .i64 x.1))), (9, .c (.imm (.slice (.pair (.int .i64) (.int .i64))) (Option.getD s_1 (([] : (List (Int × Int))), (0 : Int))).1)), (10, .c (.val (.int .i64 (((List.length (Option.getD s_1 (([] : (List (Int × Int))), (0 : Int))).1) : Nat) : Int)))), (11, .c (.val (.int .i64 x.2)))]) (fun x => []) (fun k x => subset_Subset_Size.l0 K s_1 k x.1 x.2 = some r) K ((0 : Int), (0 : Int)) H_17 (fun _ h => no_none h) ?_
  intro k_5 x_5 H_18
  obtain ⟨n_3, t_4⟩ := x_5
  have H_19 : subset_Subset_Size.l0 K s_1 (k_5 + 1) n_3 t_4 = some r := H_18
  rw [subset_Subset_Size.l0] at H_19
  refine V_run hN hn 3 0 [3, 9, 10, 11, 12] [] ⟨[(3, .c (.val (.int .i64 n_3))), (9, .c (.imm (.slice (.pair (.int .i64) (.int .i64))) (Option.getD s_1 (([] : (List (Int × Int))), (0 : Int))).1)), (10, .c (.val (.int .i64 (((List.length (Option.getD s_1 (([] : (List (Int × Int))), (0 : Int))).1) : Nat) : Int)))), (11, .c (.val (.int .i64 t_4))), (12, .c (.val (.bool (decide (t_4 < (((List.length (Option.getD s_1 (([] : (List (Int × Int))), (0 : Int))).1) : Nat) : Int))))))], [], 0⟩ [] (by kernel_rfl) rfl rfl ap0 ?_
  refine VL_cond ((decide (t_4 < (((List.length (Option.getD s_1 (([] : (List (Int × Int))), (0 : Int))).1) : Nat) : Int)))) (by kernel_rfl) ?_ ?_
  · intro b_7; have H_20 := of_t H_19 b_7
    refine V_run hN hn 2 0 [3, 9, 10, 11, 12] [] ⟨[(3, .c (.val (.int .i64 n_3))), (9, .c (.imm (.slice (.pair (.int .i64) (.int .i64))) (Option.getD s_1 (([] : (List (Int × Int))), (0 : Int))).1)), (10, .c (.val (.int .i64 (((List.length (Option.getD s_1 (([] : (List (Int × Int))), (0 : Int))).1) : Nat) : Int)))), (11, .c (.val (.int .i64 t_4))), (12, .c (.val (.bool (decide (t_4 < (((List.length (Option.getD s_1 (([] : (List (Int × Int))), (0 : Int))).1) : Nat) : Int))))))], [], 0⟩ [] (by kernel_rfl) rfl rfl ap0 ?_
    refine VL_block ?_
    obtain ⟨c_9, H_22⟩ := of_if H_20
    refine V_run hN hn 4 0 [3, 5, 9, 10, 11, 17] [0] ⟨[(3, .c (.val (.int .i64 n_3))), (5, .c (.h 0)), (9, .c (.imm (.slice (.pair (.int .i64) (.int .i64))) (Option.getD s_1 (([] : (List (Int × Int))), (0 : Int))).1)), (10, .c (.val (.int .i64 (((List.length (Option.getD s_1 (([] : (List (Int × Int))), (0 : Int))).1) : Nat) : Int)))), (11, .c (.val (.int .i64 t_4))), (17, .c (.val (.bool (decide ((List.getD (Option.getD s_1 (([] : (List (Int × Int))), (0 : Int))).1 (Int.toNat t_4) ((0 : Int), (0 : Int))).2 > (0 : Int))))))], [(0, .box [.val (.int .i64 (List.getD (Option.getD s_1 (([] : (List (Int × Int))), (0 : Int))).1 (Int.toNat t_4) ((0 : Int), (0 : Int))).1), .val (.int .i64 (List.getD (Option.getD s_1 (([] : (List (Int × Int))), (0 : Int))).1 (Int.toNat t_4) ((0 : Int), (0 : Int))).2)])], 1⟩ [0 ≤ t_4, t_4 < (((List.length (Option.getD s_1 (([] : (List (Int × Int))), (0 : Int))).1) : Nat) : Int)] (by kernel_rfl) rfl rfl (ap2 c_9.1 (ap1 c_9.2)) ?_
    refine VL_cond ((decide ((List.getD (Option.getD s_1 (([] : (List (Int × Int))), (0 : Int))).1 (Int.toNat t_4) ((0 : Int), (0 : Int))).2 > (0 : Int)))) (by kernel_rfl) ?_ ?_
    · intro b_10; have H_23 := of_t H_22 b_10
      refine V_run hN hn 1 1 [3, 9, 10, 11] [] ⟨[(3, .c (.val (.int .i64 (IntKind.wrap .i64 (n_3 + (List.getD (Option.getD s_1 (([] : (List (Int × Int))), (0 : Int))).1 (Int.toNat t_4) ((0 : Int), (0 : Int))).1))))), (9, .c (.imm (.slice (.pair (.int .i64) (.int .i64))) (Option.getD s_1 (([] : (List (Int × Int))), (0 : Int))).1)), (10, .c (.val (.int .i64 (((List.length (Option.getD s_1 (([] : (List (Int × Int))), (0 : Int))).1) : Nat) : Int)))), (11, .c (.val (.int .i64 t_4)))], [], 1⟩ [] (by kernel_rfl) rfl rfl ap0 ?_
      refine VL_nil (QB_end ?_)
      refine V_run hN hn 1 1 [3, 9, 10, 11] [] ⟨[(3, .c (.val (.int .i64 (IntKind.wrap .i64 (n_3 + (List.getD (Option.getD s_1 (([] : (List (Int × Int))), (0 : Int))).1 (Int.toNat t_4) ((0 : Int), (0 : Int))).1))))), (9, .c (.imm (.slice (.pair (.int .i64) (.int .i64))) (Option.getD s_1 (([] : (List (Int × Int))), (0 : Int))).1)), (10, .c (.val (.int .i64 (((List.length (Option.getD s_1 (([] : (List (Int × Int))), (0 : Int))).1) : Nat) : Int)))), (11, .c (.val (.int .i64 (IntKind.wrap .i64 (t_4 + (1 : Int))))))], [], 1⟩ [] (by kernel_rfl) rfl rfl ap0 ?_
      refine VL_nil ?_
      exact V_roundEnd ((IntKind.wrap .i64 (n_3 + (List.getD (Option.getD s_1 (([] : (List (Int × Int))), (0 : Int))).1 (Int.toNat t_4) ((0 : Int), (0 : Int))).1)), (IntKind.wrap .i64 (t_4 + (1 : Int)))) H_23 [] hn (by kernel_rfl) (by kernel_rfl) rfl rfl rfl
    · intro b_10; have H_24 := of_f H_22 b_10
      refine V_run hN hn 1 1 [3, 5, 9, 10, 11, 17] [0] ⟨[(3, .c (.val (.int .i64 n_3))), (5, .c (.h 0)), (9, .c (.imm (.slice (.pair (.int .i64) (.int .i64))) (Option.getD s_1 (([] : (List (Int × Int))), (0 : Int))).1)), (10, .c (.val (.int .i64 (((List.length (Option.getD s_1 (([] : (List (Int × Int))), (0 : Int))).1) : Nat) : Int)))), (11, .c (.val (.int .i64 t_4))), (17, .c (.val (.bool (decide ((List.getD (Option.getD s_1 (([] : (List (Int × Int))), (0 : Int))).1 (Int.toNat t_4) ((0 : Int), (0 : Int))).2 > (0 : Int))))))], [(0, .box [.val (.int .i64 (List.getD (Option.getD s_1 (([] : (List (Int × Int))), (0 : Int))).1 (Int.toNat t_4) ((0 : Int), (0 : Int))).1), .val (.int .i64 (List.getD (Option.getD s_1 (([] : (List (Int × Int))), (0 : Int))).1 (Int.toNat t_4) ((0 : Int), (0 : Int))).2)])], 1⟩ [] (by kernel_rfl) rfl rfl ap0 ?_
      refine VL_nil (QB_end ?_)
      refine V_run hN hn 1 1 [3, 9, 10, 11] [] ⟨[(3, .c (.val (.int .i64 n_3))), (9, .c (.imm (.slice (.pair (.int .i64) (.int .i64))) (Option.getD s_1 (([] : (List (Int × Int))), (0 : Int))).1)), (10, .c (.val (.int .i64 (((List.length (Option.getD s_1 (([] : (List (Int × Int))), (0 : Int))).1) : Nat) : Int)))), (11, .c (.val (.int .i64 (IntKind.wrap .i64 (t_4 + (1 : Int))))))], [], 1⟩ [] (by kernel_rfl) rfl rfl ap0 ?_
      refine VL_nil ?_
      exact V_roundEnd (n_3, (IntKind.wrap .i64 (t_4 + (1 : Int)))) H_24 [] hn (by kernel_rfl) (by kernel_rfl) rfl rfl rfl
  · intro b_7; have H_21 := of_f H_19 b_7
    refine VL_exit ?_
    refine QL_exit ?_
    refine QB_here ?_
    refine V_run hN hn 2 0 [2] [] ⟨[(2, .c (.val (.int .i64 n_3)))], [], 0⟩ [] (by kernel_rfl) rfl rfl ap0 ?_
    have H_25 := Option.some.inj (show some n_3 = some r from H_21); subst H_25
    refine VL_ret ?_
    exact P_to [(2, .c (.val (.int .i64 n_3)))] [] [] hn (by kernel_rfl) (by kernel_rfl) rfl rfl rfl (QF_retS (by kernel_rfl) (by kernel_rfl) rfl)

theorem algebra_in_spec (K : Nat) (s_1 : (Option ((List (Int × Int)) × Int))) (r : Int) (H : algebra_in K s_1 = some r) : Spec Try.prog 44 0 [.c (.imm (.opt (.pair (.slice (.pair (.int .i64) (.int .i64))) (.int .i64))) s_1)] [] (.c (.val (.int .i64 r))) [] := by
  refine Spec_mk (fn := Try.f44) (c := (Try.f44.body).get!) Try.func44 (by kernel_rfl) rfl ?_
  intro C hN hn
  replace hN : C.N = 7 := hN
  unfold algebra_in at H
  refine V_run hN hn 5 0 [0, 4] [] ⟨[(0, .c (.imm (.opt (.pair (.slice (.pair (.int .i64) (.int .i64))) (.int .i64))) s_1)), (4, .c (.val (.bool (Option.isNone s_1))))], [], 0⟩ [] (by kernel_rfl) rfl rfl ap0 ?_
  refine VL_cond ((Option.isNone s_1)) (by kernel_rfl) ?_ ?_
  · intro b_3; have H_10 := of_t H b_3
    refine V_run hN hn 2 0 [2] [] ⟨[(2, .c (.val (.int .i64 (0 : Int))))], [], 0⟩ [] (by kernel_rfl) rfl rfl ap0 ?_
    have H_12 := Option.some.inj (show some (0 : Int) = some r from H_10); subst H_12
    refine VL_ret ?_
    exact P_to [(2, .c (.val (.int .i64 (0 : Int))))] [] [] hn (by kernel_rfl) (by kernel_rfl) rfl rfl rfl (QF_retS (by kernel_rfl) (by kernel_rfl) rfl)
  · intro b_3; have H_11 := of_f H b_3
    refine V_run hN hn 2 0 [0, 4] [] ⟨[(0, .c (.imm (.opt (.pair (.slice (.pair (.int .i64) (.int .i64))) (.int .i64))) s_1)), (4, .c (.val (.bool (Option.isNone s_1))))], [], 0⟩ [] (by kernel_rfl) rfl rfl ap0 ?_
    obtain ⟨r_6, h_7, H_13⟩ := of_bind H_11
    refine V_reg hN hn [(1, ⟨31, 0, [.c (.imm (.opt (.pair (.slice (.pair (.int .i64) (.int .i64))) (.int .i64))) s_1)], [], .c (.val (.int .i64 r_6)), [], [], 0⟩)] [] (calls_cons (subset_Subset_Size_spec K s_1 r_6 h_7) (by kernel_rfl) calls_nil) 0 [2] [] ⟨[(2, .c (.val (.int .i64 r_6)))], [], 0⟩ [] (by kernel_rfl) rfl rfl ap0 (by kernel_rfl) (by kernel_rfl) ?_
    have H_14 := Option.some.inj (show some r_6 = some r from H_13); subst H_14
    refine VL_ret ?_
    exact P_to [(2, .c (.val (.int .i64 r_6)))] [] [] hn (by kernel_rfl) (by kernel_rfl) rfl rfl rfl (QF_retS (by kernel_rfl) (by kernel_rfl) rfl)

theorem subset_Subset_Segs_spec (K : Nat) (s_1 : (Option ((List (Int × Int)) × Int))) (r : (List (Int × Int))) (H : subset_Subset_Segs K s_1 = some r) : Spec Try.prog 53 0 [.c (.imm (.opt (.pair (.slice (.pair (.int .i64) (.int .i64))) (.int .i64))) s_1)] [] (.c (.h 0)) [(0, .row (.pair (.int .i64) (.int .i64)) r)] := by
  refine Spec_mk (fn := Try.f53) (c := (Try.f53.body).get!) Try.func53 (by kernel_rfl) rfl ?_
  intro C hN hn
  replace hN : C.N = 17 := hN
  unfold subset_Subset_Segs at H
  obtain ⟨c_2, H_4⟩ := of_if H
  refine V_run hN hn 8 0 [2] [0] ⟨[(2, .c (.h 0))], [(0, .row (.pair (.int .i64) (.int .i64)) (putAt (List.replicate (Int.toNat (((List.length (Option.getD s_1 (([] : (List (Int × Int))), (0 : Int))).1) : Nat) : Int)) ((0 : Int), (0 : Int))) (List.take (List.length (List.replicate (Int.toNat (((List.length (Option.getD s_1 (([] : (List (Int × Int))), (0 : Int))).1) : Nat) : Int)) ((0 : Int), (0 : Int)))) (Option.getD s_1 (([] : (List (Int × Int))), (0 : Int))).1) 0))], 1⟩ [Option.isSome s_1 = true, (0 : Int) ≤ (((List.length (Option.getD s_1 (([] : (List (Int × Int))), (0 : Int))).1) : Nat) : Int), (((List.length (Option.getD s_1 (([] : (List (Int × Int))), (0 : Int))).1) : Nat) : Int) ≤ (((List.length (Option.getD s_1 (([] : (List (Int × Int))), (0 : Int))).1) : Nat) : Int), (((List.length (Option.getD s_1 (([] : (List (Int × Int))), (0 : Int))).1) : Nat) : Int) * 16 ≤ (140737488355328 : Int), (((List.length (Option.getD s_1 (([] : (List (Int × Int))), (0 : Int))).1) : Nat) : Int) ≤ (9223372036854775807 : Int), Option.isSome s_1 = true] (by kernel_rfl) rfl rfl (ap2 c_2.1 (ap2 c_2.2.1 (ap2 c_2.2.2.1 (ap2 c_2.2.2.2.1 (ap2 c_2.2.2.2.2 (ap1 c_2.1)))))) ?_
  have H_5 := Option.some.inj (show some (putAt (List.replicate (Int.toNat (((List.length (Option.getD s_1 (([] : (List (Int × Int))), (0 : Int))).1) : Nat) : Int)) ((0 : Int), (0 : Int))) (List.take (List.length (List.replicate (Int.toNat (((List.length (Option.getD s_1 (([] : (List (Int × Int))), (0 : Int))).1) : Nat) : Int)) ((0 : Int), (0 : Int)))) (Option.getD s_1 (([] : (List (Int × Int))), (0 : Int))).1) 0) = some r from H_4); subst H_5
  refine VL_ret ?_
  exact P_to [(2, .c (.h 0))] [(0, .row (.pair (.int .i64) (.int .i64)) (putAt (List.replicate (Int.toNat (((List.length (Option.getD s_1 (([] : (List (Int × Int))), (0 : Int))).1) : Nat) : Int)) ((0 : Int), (0 : Int))) (List.take (List.length (List.replicate (Int.toNat (((List.length (Option.getD s_1 (([] : (List (Int × Int))), (0 : Int))).1) : Nat) : Int)) ((0 : Int), (0 : Int)))) (Option.getD s_1 (([] : (List (Int × Int))), (0 : Int))).1) 0))] [(0, 0)] hn (by kernel_rfl) (by kernel_rfl) rfl rfl rfl (QF_retS (by kernel_rfl) (by kernel_rfl) rfl)

theorem algebra_segs_spec (K : Nat) (s_1 : (Option ((List (Int × Int)) × Int))) (r : (List (Int × Int))) (H : algebra_segs K s_1 = some r) : Spec Try.prog 36 0 [.c (.imm (.opt (.pair (.slice (.pair (.int .i64) (.int .i64))) (.int .i64))) s_1)] [] (.c (.h 2)) [(2, .row (.pair (.int .i64) (.int .i64)) r)] := by
  refine Spec_mk (fn := Try.f36) (c := (Try.f36.body).get!) Try.func36 (by kernel_rfl) rfl ?_
  intro C hN hn
  replace hN : C.N = 16 := hN
  unfold algebra_segs at H
  refine V_run hN hn 5 0 [0, 6] [] ⟨[(0, .c (.imm (.opt (.pair (.slice (.pair (.int .i64) (.int .i64))) (.int .i64))) s_1)), (6, .c (.val (.bool (Option.isNone s_1))))], [], 0⟩ [] (by kernel_rfl) rfl rfl ap0 ?_
  refine VL_cond ((Option.isNone s_1)) (by kernel_rfl) ?_ ?_
  · intro b_3; have H_11 := of_t H b_3
    refine V_run hN hn 2 0 [2] [] ⟨[(2, .c (.val (.slice none 0 0)))], [], 0⟩ [] (by kernel_rfl) rfl rfl ap0 ?_
    have H_13 := Option.some.inj (show some ([] : List (Int × Int)) = some r from H_11); subst H_13
    refine VL_ret ?_
    refine P_ghost [.nilSlot 2 (.pair (.int .i64) (.int .i64))] 0 hn [2] [0] ⟨[(2, .c (.h 0))], [(0, .row (.pair (.int .i64) (.int .i64)) ([] : List (Int × Int)))], 1⟩ (by kernel_rfl) rfl rfl ?_
    exact P_to [(2, .c (.h 2))] [(2, .row (.pair (.int .i64) (.int .i64)) ([] : List (Int × Int)))] [(2, 0)] hn (by kernel_rfl) (by kernel_rfl) rfl rfl rfl (QF_retS (by kernel_rfl) (by kernel_rfl) rfl)
  · intro b_3; have H_12 := of_f H b_3
    refine V_run hN hn 2 0 [0, 6] [] ⟨[(0, .c (.imm (.opt (.pair (.slice (.pair (.int .i64) (.int .i64))) (.int .i64))) s_1)), (6, .c (.val (.bool (Option.isNone s_1))))], [], 0⟩ [] (by kernel_rfl) rfl rfl ap0 ?_
    obtain ⟨r_6, h_7, H_14⟩ := of_bind H_12
    refine V_reg hN hn [(1, ⟨53, 0, [.c (.imm (.opt (.pair (.slice (.pair (.int .i64) (.int .i64))) (.int .i64))) s_1)], [], .c (.h 0), [(0, .row (.pair (.int .i64) (.int .i64)) r_6)], [(0, 0)], 1⟩)] [] (calls_cons (subset_Subset_Segs_spec K s_1 r_6 h_7) (by kernel_rfl) calls_nil) 0 [3] [0] ⟨[(3, .c (.h 0))], [(0, .row (.pair (.int .i64) (.int .i64)) r_6)], 1⟩ [] (by kernel_rfl) rfl rfl ap0 (by kernel_rfl) (by kernel_rfl) ?_
    obtain ⟨c_9, H_15⟩ := of_if H_14
    refine V_run hN hn 6 1 [2] [1] ⟨[(2, .c (.h 1))], [(1, .row (.pair (.int .i64) (.int .i64)) (putAt (List.replicate (Int.toNat (((List.length r_6) : Nat) : Int)) ((0 : Int), (0 : Int))) (List.take (List.length (List.replicate (Int.toNat (((List.length r_6) : Nat) : Int)) ((0 : Int), (0 : Int)))) r_6) 0))], 2⟩ [(0 : Int) ≤ (((List.length r_6) : Nat) : Int), (((List.length r_6) : Nat) : Int) ≤ (((List.length r_6) : Nat) : Int), (((List.length r_6) : Nat) : Int) * 16 ≤ (140737488355328 : Int), (((List.length r_6) : Nat) : Int) ≤ (9223372036854775807 : Int)] (by kernel_rfl) rfl rfl (ap2 c_9.1 (ap2 c_9.2.1 (ap2 c_9.2.2.1 (ap1 c_9.2.2.2)))) ?_
    have H_16 := Option.some.inj (show some (putAt (List.replicate (Int.toNat (((List.length r_6) : Nat) : Int)) ((0 : Int), (0 : Int))) (List.take (List.length (List.replicate (Int.toNat (((List.length r_6) : Nat) : Int)) ((0 : Int), (0 : Int)))) r_6) 0) = some r from H_15); subst H_16
    refine VL_ret ?_
    exact P_to [(2, .c (.h 2))] [(2, .row (.pair (.int .i64) (.int .i64)) (putAt (List.replicate (Int.toNat (((List.length r_6) : Nat) : Int)) ((0 : Int), (0 : Int))) (List.take (List.length (List.replicate (Int.toNat (((List.length r_6) : Nat) : Int)) ((0 : Int), (0 : Int)))) r_6) 0))] [(2, 1)] hn (by kernel_rfl) (by kernel_rfl) rfl rfl rfl (QF_retS (by kernel_rfl) (by kernel_rfl) rfl)

theorem algebra_less_rg_spec (K : Nat) (l_1 : (List (Int × Int))) (n_2 : Int) (r : (List (Int × Int))) (H : algebra_less_rg K l_1 n_2 = some r) : Spec Try.prog 45 1 [.c (.h 0), .c (.val (.int .i64 n_2))] [(0, .row (.pair (.int .i64) (.int .i64)) l_1)] (.c (.h 2)) [(2, .row (.pair (.int .i64) (.int .i64)) r)] := by
  refine Spec_mk (fn := Try.f45) (c := (Try.f45.body).get!) Try.func45 (by kernel_rfl) rfl ?_
  intro C hN hn
  replace hN : C.N = 21 := hN
  unfold algebra_less_rg at H
  obtain ⟨c_3, H_8⟩ := of_if H
  refine V_run hN hn 7 1 [0, 17] [0] ⟨[(0, .c (.h 0)), (17, .c (.val (.bool ((List.getD (List.set l_1 0 ((IntKind.wrap .i64 ((List.getD l_1 0 ((0 : Int), (0 : Int))).1 - n_2)), (List.getD l_1 0 ((0 : Int), (0 : Int))).2)) 0 ((0 : Int), (0 : Int))).1 == (0 : Int)))))], [(0, .row (.pair (.int .i64) (.int .i64)) (List.set l_1 0 ((IntKind.wrap .i64 ((List.getD l_1 0 ((0 : Int), (0 : Int))).1 - n_2)), (List.getD l_1 0 ((0 : Int), (0 : Int))).2)))], 1⟩ [(0 : Int) ≤ (0 : Int), (0 : Int) < (((List.length l_1) : Nat) : Int), (0 : Int) ≤ (0 : Int), (0 : Int) < (((List.length l_1) : Nat) : Int), (0 : Int) ≤ (0 : Int), (0 : Int) < (((List.length (List.set l_1 0 ((IntKind.wrap .i64 ((List.getD l_1 0 ((0 : Int), (0 : Int))).1 - n_2)), (List.getD l_1 0 ((0 : Int), (0 : Int))).2))) : Nat) : Int)] (by kernel_rfl) rfl rfl (ap2 (by decide) (ap2 c_3.1 (ap2 (by decide) (ap2 c_3.1 (ap2 (by decide) (ap1 c_3.2)))))) ?_
  refine VL_cond (((List.getD (List.set l_1 0 ((IntKind.wrap .i64 ((List.getD l_1 0 ((0 : Int), (0 : Int))).1 - n_2)), (List.getD l_1 0 ((0 : Int), (0 : Int))).2)) 0 ((0 : Int), (0 : Int))).1 == (0 : Int))) (by kernel_rfl) ?_ ?_
  · intro b_4; have H_9 := of_t H_8 b_4
    obtain ⟨c_5, H_11⟩ := of_if H_9
    refine V_run hN hn 2 1 [4] [0] ⟨[(4, .c (.sub 0 2 1 ((List.length (List.set l_1 0 ((IntKind.wrap .i64 ((List.getD l_1 0 ((0 : Int), (0 : Int))).1 - n_2)), (List.getD l_1 0 ((0 : Int), (0 : Int))).2))) - 1)))], [(0, .row (.pair (.int .i64) (.int .i64)) (List.set l_1 0 ((IntKind.wrap .i64 ((List.getD l_1 0 ((0 : Int), (0 : Int))).1 - n_2)), (List.getD l_1 0 ((0 : Int), (0 : Int))).2)))], 1⟩ [(0 : Int) ≤ (1 : Int), (1 : Int) ≤ (((List.length (List.set l_1 0 ((IntKind.wrap .i64 ((List.getD l_1 0 ((0 : Int), (0 : Int))).1 - n_2)), (List.getD l_1 0 ((0 : Int), (0 : Int))).2))) : Nat) : Int)] (by kernel_rfl) rfl rfl (ap2 (by decide) (ap1 c_5)) ?_
    have H_12 := Option.some.inj (show some (List.take ((List.length (List.set l_1 0 ((IntKind.wrap .i64 ((List.getD l_1 0 ((0 : Int), (0 : Int))).1 - n_2)), (List.getD l_1 0 ((0 : Int), (0 : Int))).2))) - 1) (List.drop 1 (List.set l_1 0 ((IntKind.wrap .i64 ((List.getD l_1 0 ((0 : Int), (0 : Int))).1 - n_2)), (List.getD l_1 0 ((0 : Int), (0 : Int))).2)))) = some r from H_11); subst H_12
    refine VL_ret ?_
    refine P_ghost [.own 4] 1 hn [4] [1] ⟨[(4, .c (.h 1))], [(1, .row (.pair (.int .i64) (.int .i64)) (List.take ((List.length (List.set l_1 0 ((IntKind.wrap .i64 ((List.getD l_1 0 ((0 : Int), (0 : Int))).1 - n_2)), (List.getD l_1 0 ((0 : Int), (0 : Int))).2))) - 1) (List.drop 1 (List.set l_1 0 ((IntKind.wrap .i64 ((List.getD l_1 0 ((0 : Int), (0 : Int))).1 - n_2)), (List.getD l_1 0 ((0 : Int), (0 : Int))).2)))))], 2⟩ (by kernel_rfl) rfl rfl ?_
    exact P_to [(4, .c (.h 2))] [(2, .row (.pair (.int .i64) (.int .i64)) (List.take ((List.length (List.set l_1 0 ((IntKind.wrap .i64 ((List.getD l_1 0 ((0 : Int), (0 : Int))).1 - n_2)), (List.getD l_1 0 ((0 : Int), (0 : Int))).2))) - 1) (List.drop 1 (List.set l_1 0 ((IntKind.wrap .i64 ((List.getD l_1 0 ((0 : Int), (0 : Int))).1 - n_2)), (List.getD l_1 0 ((0 : Int), (0 : Int))).2)))))] [(2, 1)] hn (by kernel_rfl) (by kernel_rfl) rfl rfl rfl (QF_retS (by kernel_rfl) (by kernel_rfl) rfl)
  · intro b_4; have H_10 := of_f H_8 b_4
    refine V_run hN hn 3 1 [4] [0] ⟨[(4, .c (.h 0))], [(0, .row (.pair (.int .i64) (.int .i64)) (List.set l_1 0 ((IntKind.wrap .i64 ((List.getD l_1 0 ((0 : Int), (0 : Int))).1 - n_2)), (List.getD l_1 0 ((0 : Int), (0 : Int))).2)))], 1⟩ [] (by kernel_rfl) rfl rfl ap0 ?_
    have H_13 := Option.some.inj (show some (List.set l_1 0 ((IntKind.wrap .i64 ((List.getD l_1 0 ((0 : Int), (0 : Int))).1 - n_2)), (List.getD l_1 0 ((0 : Int), (0 : Int))).2)) = some r from H_10); subst H_13
    refine VL_ret ?_
    exact P_to [(4, .c (.h 2))] [(2, .row (.pair (.int .i64) (.int .i64)) (List.set l_1 0 ((IntKind.wrap .i64 ((List.getD l_1 0 ((0 : Int), (0 : Int))).1 - n_2)), (List.getD l_1 0 ((0 : Int), (0 : Int))).2)))] [(2, 0)] hn (by kernel_rfl) (by kernel_rfl) rfl rfl rfl (QF_retS (by kernel_rfl) (by kernel_rfl) rfl)

theorem algebra_Expand_spec (K : Nat) (a_1 : (Option ((List (Int × Int)) × Int))) (b_2 : (Option ((List (Int × Int)) × Int))) (r : ((Option ((List (Int × Int)) × Int)) × Int)) (H : algebra_Expand K a_1 b_2 = some r) : Spec Try.prog 21 0 [.c (.imm (.opt (.pair (.slice (.pair (.int .i64) (.int .i64))) (.int .i64))) a_1), .c (.imm (.opt (.pair (.slice (.pair (.int .i64) (.int .i64))) (.int .i64))) b_2)] [] (.tup [(false, [.imm (.opt (.pair (.slice (.pair (.int .i64) (.int .i64))) (.int .i64))) r.1]), (false, [.val (.int .i64 r.2)])]) [] := by
  refine Spec_mk (fn := Try.f21) (c := (Try.f21.body).get!) Try.func21 (by kernel_rfl) rfl ?_
  intro C hN hn
  replace hN : C.N = 68 := hN
  unfold algebra_Expand at H
  refine V_run hN hn 4 0 [0, 1] [] ⟨[(0, .c (.imm (.opt (.pair (.slice (.pair (.int .i64) (.int .i64))) (.int .i64))) a_1)), (1, .c (.imm (.opt (.pair (.slice (.pair (.int .i64) (.int .i64))) (.int .i64))) b_2))], [], 0⟩ [] (by kernel_rfl) rfl rfl ap0 ?_
  obtain ⟨r_4, h_5, H_98⟩ := of_bind H
  obtain ⟨r_6, h_7, H_99⟩ := of_bind H_98
  obtain ⟨r_8, h_9, H_100⟩ := of_bind H_99
  refine V_reg hN hn [(1, ⟨35, 0, [.c (.imm (.opt (.pair (.slice (.pair (.int .i64) (.int .i64))) (.int .i64))) b_2)], [], .c (.val (.int .i64 r_4)), [], [], 0⟩), (3, ⟨44, 0, [.c (.imm (.opt (.pair (.slice (.pair (.int .i64) (.int .i64))) (.int .i64))) b_2)], [], .c (.val (.int .i64 r_6)), [], [], 0⟩), (6, ⟨35, 0, [.c (.imm (.opt (.pair (.slice (.pair (.int .i64) (.int .i64))) (.int .i64))) a_1)], [], .c (.val (.int .i64 r_8)), [], [], 0⟩)] [] (calls_cons (algebra_size_spec K b_2 r_4 h_5) (by kernel_rfl) (calls_cons (algebra_in_spec K b_2 r_6 h_7) (by kernel_rfl) (calls_cons (algebra_size_spec K a_1 r_8 h_9) (by kernel_rfl) calls_nil))) 0 [0, 1, 19] [] ⟨[(0, .c (.imm (.opt (.pair (.slice (.pair (.int .i64) (.int .i64))) (.int .i64))) a_1)), (1, .c (.imm (.opt (.pair (.slice (.pair (.int .i64) (.int .i64))) (.int .i64))) b_2)), (19, .c (.val (.bool ((IntKind.wrap .i64 (r_4 - r_6)) != r_8))))], [], 0⟩ [] (by kernel_rfl) rfl rfl ap0 (by kernel_rfl) (by kernel_rfl) ?_
  refine VL_cond (((IntKind.wrap .i64 (r_4 - r_6)) != r_8)) (by kernel_rfl) ?_ ?_
  · intro b_11; have H_101 := of_t H_100 b_11
    refine V_run hN hn 2 0 [4, 5] [] ⟨[(4, .c (.val (.pointer none))), (5, .c (.val (.int .i64 (80 : Int))))], [], 0⟩ [] (by kernel_rfl) rfl rfl ap0 ?_
    have H_103 := Option.some.inj (show some ((none : (Option ((List (Int × Int)) × Int))), (80 : Int)) = some r from H_101); subst H_103
    refine VL_ret ?_
    refine P_ghost [.read 4 (.opt (.pair (.slice (.pair (.int .i64) (.int .i64))) (.int .i64)))] 0 hn [4, 5] [] ⟨[(4, .c (.imm (.opt (.pair (.slice (.pair (.int .i64) (.int .i64))) (.int .i64))) (none : (Option ((List (Int × Int)) × Int))))), (5, .c (.val (.int .i64 (80 : Int))))], [], 0⟩ (by kernel_rfl) rfl rfl ?_
    exact P_to [(4, .c (.imm (.opt (.pair (.slice (.pair (.int .i64) (.int .i64))) (.int .i64))) (none : (Option ((List (Int × Int)) × Int))))), (5, .c (.val (.int .i64 (80 : Int))))] [] [] hn (by kernel_rfl) (by kernel_rfl) rfl rfl rfl (QF_retS (by kernel_rfl) (by kernel_rfl) rfl)
  · intro b_11; have H_102 := of_f H_100 b_11
    refine V_run hN hn 2 0 [0, 1, 19] [] ⟨[(0, .c (.imm (.opt (.pair (.slice (.pair (.int .i64) (.int .i64))) (.int .i64))) a_1)), (1, .c (.imm (.opt (.pair (.slice (.pair (.int .i64) (.int .i64))) (.int .i64))) b_2)), (19, .c (.val (.bool ((IntKind.wrap .i64 (r_4 - r_6)) != r_8))))], [], 0⟩ [] (by kernel_rfl) rfl rfl ap0 ?_
    obtain ⟨r_14, h_15, H_104⟩ := of_bind H_102
    refine V_reg hN hn [(1, ⟨36, 0, [.c (.imm (.opt (.pair (.slice (.pair (.int .i64) (.int .i64))) (.int .i64))) a_1)], [], .c (.h 2), [(2, .row (.pair (.int .i64) (.int .i64)) r_14)], [(2, 0)], 1⟩)] [] (calls_cons (algebra_segs_spec K a_1 r_14 h_15) (by kernel_rfl) calls_nil) 0 [1, 6] [0] ⟨[(1, .c (.imm (.opt (.pair (.slice (.pair (.int .i64) (.int .i64))) (.int .i64))) b_2)), (6, .c (.h 0))], [(0, .row (.pair (.int .i64) (.int .i64)) r_14)], 1⟩ [] (by kernel_rfl) rfl rfl ap0 (by kernel_rfl) (by kernel_rfl) ?_
    refine V_run hN hn 4 1 [1, 6, 7] [0] ⟨[(1, .c (.imm (.opt (.pair (.slice (.pair (.int .i64) (.int .i64))) (.int .i64))) b_2)), (6, .c (.h 0)), (7, .c (.val (.slice none 0 0)))], [(0, .row (.pair (.int .i64) (.int .i64)) r_14)], 1⟩ [] (by kernel_rfl) rfl rfl ap0 ?_
    obtain ⟨r_18, h_19, H_105⟩ := of_bind H_104
    refine V_reg hN hn [(1, ⟨36, 0, [.c (.imm (.opt (.pair (.slice (.pair (.int .i64) (.int .i64))) (.int .i64))) b_2)], [], .c (.h 2), [(2, .row (.pair (.int .i64) (.int .i64)) r_18)], [(2, 1)], 2⟩)] [] (calls_cons (algebra_segs_spec K b_2 r_18 h_19) (by kernel_rfl) calls_nil) 1 [6, 7, 23, 24, 25] [0, 1] ⟨[(6, .c (.h 0)), (7, .c (.val (.slice none 0 0))), (23, .c (.h 1)), (24, .c (.val (.int .i64 (((List.length r_18) : Nat) : Int)))), (25, .c (.val (.int .i64 (0 : Int))))], [(0, .row (.pair (.int .i64) (.int .i64)) r_14), (1, .row (.pair (.int .i64) (.int .i64)) r_18)], 2⟩ [] (by kernel_rfl) rfl rfl ap0 (by kernel_rfl) (by kernel_rfl) ?_
    obtain ⟨q_106, H_107, H_108⟩ := of_bind H_105
    refine V_cut (Y := (List (Int × Int))) (R := (List (Int × Int))) q_106 (fun y => y) (fun y => [(7, .c (.h 12))]) (fun y => [(12, .row (.pair (.int .i64) (.int .i64)) y)]) ?_ ?_
    · skip
      refine VL_block ?_
      refine V_ghost [.nilSlot 7 (.pair (.int .i64) (.int .i64))] 2 hn [6, 7, 23, 24, 25] [0, 1, 2] ⟨[(6, .c (.h 0)), (7, .c (.h 2)), (23, .c (.h 1)), (24, .c (.val (.int .i64 (((List.length r_18) : Nat) : Int)))), (25, .c (.val (.int .i64 (0 : Int))))], [(0, .row (.pair (.int .i64) (.int .i64)) r_14), (1, .row (.pair (.int .i64) (.int .i64)) r_18), (2, .row (.pair (.int .i64) (.int .i64)) ([] : List (Int × Int)))], 3⟩ (by kernel_rfl) rfl rfl ?_
      refine V_to [(6, .c (.h 11)), (7, .c (.h 12)), (23, .c (.h 1)), (24, .c (.val (.int .i64 (((List.length r_18) : Nat) : Int)))), (25, .c (.val (.int .i64 (0 : Int))))] [(1, .row (.pair (.int .i64) (.int .i64)) r_18), (11, .row (.pair (.int .i64) (.int .i64)) r_14), (12, .row (.pair (.int .i64) (.int .i64)) ([] : List (Int × Int)))] [(1, 1), (11, 0), (12, 2)] hn (by kernel_rfl) (by kernel_rfl) rfl rfl rfl ?_
      refine VL_loop (X := ((List (Int × Int)) × (List (Int × Int)) × Int)) (fun x => [(6, .c (.h 11)), (7, .c (.h 12)), (23, .c (.h 1)), (24, .c (.val (.int .i64 (((List.length r_18) : Nat) : Int)))), (25, .c (.val (.int .i64 x.2.2)))]) (fun x => [(1, .row (.pair (.int .i64) (.int .i64)) r_18), (11, .row (.pair (.int .i64) (.int .i64)) x.1), (12, .row (.pair (.int .i64) (.int .i64)) x.2.1)]) (fun k x => algebra_Expand.l0 K r_18 k x.1 x.2.1 x.2.2 = some q_106) K (r_14, ([] : List (Int × Int)), (0 : Int)) H_107 (fun _ h => no_none h) ?_
      intro k_56 x_56 H_110
      obtain ⟨l_54, out_55, t_21⟩ := x_56
      have H_111 : algebra_Expand.l0 K r_18 (k_56 + 1) l_54 out_55 t_21 = some q_106 := H_110
      rw [algebra_Expand.l0] at H_111
      refine V_run hN hn 3 13 [6, 7, 23, 24, 25, 26] [1, 11, 12] ⟨[(6, .c (.h 11)), (7, .c (.h 12)), (23, .c (.h 1)), (24, .c (.val (.int .i64 (((List.length r_18) : Nat) : Int)))), (25, .c (.val (.int .i64 t_21))), (26, .c (.val (.bool (decide (t_21 < (((List.length r_18) : Nat) : Int))))))], [(1, .row (.pair (.int .i64) (.int .i64)) r_18), (11, .row (.pair (.int .i64) (.int .i64)) l_54), (12, .row (.pair (.int .i64) (.int .i64)) out_55)], 13⟩ [] (by kernel_rfl) rfl rfl ap0 ?_
      refine VL_cond ((decide (t_21 < (((List.length r_18) : Nat) : Int)))) (by kernel_rfl) ?_ ?_
      · intro b_58; have H_112 := of_t H_111 b_58
        refine V_run hN hn 2 13 [6, 7, 23, 24, 25, 26] [1, 11, 12] ⟨[(6, .c (.h 11)), (7, .c (.h 12)), (23, .c (.h 1)), (24, .c (.val (.int .i64 (((List.length r_18) : Nat) : Int)))), (25, .c (.val (.int .i64 t_21))), (26, .c (.val (.bool (decide (t_21 < (((List.length r_18) : Nat) : Int))))))], [(1, .row (.pair (.int .i64) (.int .i64)) r_18), (11, .row (.pair (.int .i64) (.int .i64)) l_54), (12, .row (.pair (.int .i64) (.int .i64)) out_55)], 13⟩ [] (by kernel_rfl) rfl rfl ap0 ?_
        obtain ⟨q_114, H_115, H_116⟩ := of_bind H_112
        refine V_cut (Y := ((List (Int × Int)) × (List (Int × Int)))) (R := ((List (Int × Int)) × (List (Int × Int)))) q_114 (fun y => y) (fun y => [(6, .c (.h 19)), (7, .c (.h 20)), (23, .c (.h 1)), (24, .c (.val (.int .i64 (((List.length r_18) : Nat) : Int)))), (25, .c (.val (.int .i64 t_21)))]) (fun y => [(1, .row (.pair (.int .i64) (.int .i64)) r_18), (19, .row (.pair (.int .i64) (.int .i64)) y.1), (20, .row (.pair (.int .i64) (.int .i64)) y.2)]) ?_ ?_
        · skip
          refine VL_block ?_
          obtain ⟨c_60, H_118⟩ := of_if H_115
          refine V_run hN hn 5 13 [6, 7, 9, 23, 24, 25, 31] [1, 11, 12, 13] ⟨[(6, .c (.h 11)), (7, .c (.h 12)), (9, .c (.h 13)), (23, .c (.h 1)), (24, .c (.val (.int .i64 (((List.length r_18) : Nat) : Int)))), (25, .c (.val (.int .i64 t_21))), (31, .c (.val (.bool (decide ((List.getD r_18 (Int.toNat t_21) ((0 : Int), (0 : Int))).2 > (0 : Int))))))], [(1, .row (.pair (.int .i64) (.int .i64)) r_18), (11, .row (.pair (.int .i64) (.int .i64)) l_54), (12, .row (.pair (.int .i64) (.int .i64)) out_55), (13, .box [.val (.int .i64 (List.getD r_18 (Int.toNat t_21) ((0 : Int), (0 : Int))).1), .val (.int .i64 (List.getD r_18 (Int.toNat t_21) ((0 : Int), (0 : Int))).2)])], 14⟩ [0 ≤ t_21, t_21 < (((List.length r_18) : Nat) : Int)] (by kernel_rfl) rfl rfl (ap2 c_60.1 (ap1 c_60.2)) ?_
          refine VL_cond ((decide ((List.getD r_18 (Int.toNat t_21) ((0 : Int), (0 : Int))).2 > (0 : Int)))) (by kernel_rfl) ?_ ?_
          · intro b_61; have H_119 := of_t H_118 b_61
            obtain ⟨c_62, H_121⟩ := of_if H_119
            refine V_run hN hn 2 14 [6, 7, 23, 24, 25] [1, 11, 15] ⟨[(6, .c (.h 11)), (7, .c (.h 15)), (23, .c (.h 1)), (24, .c (.val (.int .i64 (((List.length r_18) : Nat) : Int)))), (25, .c (.val (.int .i64 t_21)))], [(1, .row (.pair (.int .i64) (.int .i64)) r_18), (11, .row (.pair (.int .i64) (.int .i64)) l_54), (15, .row (.pair (.int .i64) (.int .i64)) (out_55 ++ ([((List.getD r_18 (Int.toNat t_21) ((0 : Int), (0 : Int))).1, (0 : Int))] : List (Int × Int))))], 16⟩ [(List.length out_55 + List.length ([((List.getD r_18 (Int.toNat t_21) ((0 : Int), (0 : Int))).1, (0 : Int))] : List (Int × Int))) * 16 ≤ 140737488355328] (by kernel_rfl) rfl rfl (ap1 c_62) ?_
            refine VL_exit ?_
            refine QB_here ?_
            have H_122 := Option.some.inj (show some (l_54, (out_55 ++ ([((List.getD r_18 (Int.toNat t_21) ((0 : Int), (0 : Int))).1, (0 : Int))] : List (Int × Int)))) = some q_114 from H_121); subst H_122
            refine VL_nil ?_
            exact QP_end (l_54, (out_55 ++ ([((List.getD r_18 (Int.toNat t_21) ((0 : Int), (0 : Int))).1, (0 : Int))] : List (Int × Int)))) rfl [(1, 1), (19, 11), (20, 15)] hn (by kernel_rfl) (by kernel_rfl) rfl rfl rfl
          · intro b_61; have H_120 := of_f H_118 b_61
            refine V_run hN hn 3 14 [6, 7, 10, 23, 24, 25] [1, 11, 12] ⟨[(6, .c (.h 11)), (7, .c (.h 12)), (10, .c (.val (.int .i64 (List.getD r_18 (Int.toNat t_21) ((0 : Int), (0 : Int))).1))), (23, .c (.h 1)), (24, .c (.val (.int .i64 (((List.length r_18) : Nat) : Int)))), (25, .c (.val (.int .i64 t_21)))], [(1, .row (.pair (.int .i64) (.int .i64)) r_18), (11, .row (.pair (.int .i64) (.int .i64)) l_54), (12, .row (.pair (.int .i64) (.int .i64)) out_55)], 14⟩ [] (by kernel_rfl) rfl rfl ap0 ?_
            refine VL_block ?_
            refine V_to [(6, .c (.h 17)), (7, .c (.h 18)), (10, .c (.val (.int .i64 (List.getD r_18 (Int.toNat t_21) ((0 : Int), (0 : Int))).1))), (23, .c (.h 1)), (24, .c (.val (.int .i64 (((List.length r_18) : Nat) : Int)))), (25, .c (.val (.int .i64 t_21)))] [(1, .row (.pair (.int .i64) (.int .i64)) r_18), (17, .row (.pair (.int .i64) (.int .i64)) l_54), (18, .row (.pair (.int .i64) (.int .i64)) out_55)] [(1, 1), (17, 11), (18, 12)] hn (by kernel_rfl) (by kernel_rfl) rfl rfl rfl ?_
            refine VL_loop (X := ((List (Int × Int)) × (List (Int × Int)) × Int)) (fun x => [(6, .c (.h 17)), (7, .c (.h 18)), (10, .c (.val (.int .i64 x.2.2))), (23, .c (.h 1)), (24, .c (.val (.int .i64 (((List.length r_18) : Nat) : Int)))), (25, .c (.val (.int .i64 t_21)))]) (fun x => [(1, .row (.pair (.int .i64) (.int .i64)) r_18), (17, .row (.pair (.int .i64) (.int .i64)) x.1), (18, .row (.pair (.int .i64) (.int .i64)) x.2.1)]) (fun k x => algebra_Expand.l1 K k x.1 x.2.1 x.2.2 = some q_114) K (l_54, out_55, (List.getD r_18 (Int.toNat t_21) ((0 : Int), (0 : Int))).1) H_120 (fun _ h => no_none h) ?_
            intro k_76 x_76 H_123
            obtain ⟨l_74, out_75, left_64⟩ := x_76
            have H_124 : algebra_Expand.l1 K (k_76 + 1) l_74 out_75 left_64 = some q_114 := H_123
            rw [algebra_Expand.l1] at H_124
            refine V_run hN hn 3 19 [6, 7, 10, 23, 24, 25, 41] [1, 17, 18] ⟨[(6, .c (.h 17)), (7, .c (.h 18)), (10, .c (.val (.int .i64 left_64))), (23, .c (.h 1)), (24, .c (.val (.int .i64 (((List.length r_18) : Nat) : Int)))), (25, .c (.val (.int .i64 t_21))), (41, .c (.val (.bool (decide (left_64 > (0 : Int))))))], [(1, .row (.pair (.int .i64) (.int .i64)) r_18), (17, .row (.pair (.int .i64) (.int .i64)) l_74), (18, .row (.pair (.int .i64) (.int .i64)) out_75)], 19⟩ [] (by kernel_rfl) rfl rfl ap0 ?_
            refine VL_cond ((decide (left_64 > (0 : Int)))) (by kernel_rfl) ?_ ?_
            · intro b_78; have H_125 := of_t H_124 b_78
              refine V_run hN hn 1 19 [6, 7, 10, 23, 24, 25, 41] [1, 17, 18] ⟨[(6, .c (.h 17)), (7, .c (.h 18)), (10, .c (.val (.int .i64 left_64))), (23, .c (.h 1)), (24, .c (.val (.int .i64 (((List.length r_18) : Nat) : Int)))), (25, .c (.val (.int .i64 t_21))), (41, .c (.val (.bool (decide (left_64 > (0 : Int))))))], [(1, .row (.pair (.int .i64) (.int .i64)) r_18), (17, .row (.pair (.int .i64) (.int .i64)) l_74), (18, .row (.pair (.int .i64) (.int .i64)) out_75)], 19⟩ [] (by kernel_rfl) rfl rfl ap0 ?_
              refine VL_block ?_
              obtain ⟨c_80, H_127⟩ := of_if H_125
              refine V_run hN hn 5 19 [6, 7, 10, 11, 23, 24, 25] [1, 17, 20] ⟨[(6, .c (.h 17)), (7, .c (.h 20)), (10, .c (.val (.int .i64 left_64))), (11, .c (.val (.int .i64 (mn2 left_64 (List.getD l_74 0 ((0 : Int), (0 : Int))).1)))), (23, .c (.h 1)), (24, .c (.val (.int .i64 (((List.length r_18) : Nat) : Int)))), (25, .c (.val (.int .i64 t_21)))], [(1, .row (.pair (.int .i64) (.int .i64)) r_18), (17, .row (.pair (.int .i64) (.int .i64)) l_74), (20, .row (.pair (.int .i64) (.int .i64)) (out_75 ++ ([((mn2 left_64 (List.getD l_74 0 ((0 : Int), (0 : Int))).1), (List.getD l_74 0 ((0 : Int), (0 : Int))).2)] : List (Int × Int))))], 21⟩ [(0 : Int) ≤ (0 : Int), (0 : Int) < (((List.length l_74) : Nat) : Int), (0 : Int) ≤ (0 : Int), (0 : Int) < (((List.length l_74) : Nat) : Int), (List.length out_75 + List.length ([((mn2 left_64 (List.getD l_74 0 ((0 : Int), (0 : Int))).1), (List.getD l_74 0 ((0 : Int), (0 : Int))).2)] : List (Int × Int))) * 16 ≤ 140737488355328] (by kernel_rfl) rfl rfl (ap2 (by decide) (ap2 c_80.1 (ap2 (by decide) (ap2 c_80.1 (ap1 c_80.2))))) ?_
              obtain ⟨r_81, h_82, H_128⟩ := of_bind H_127
              refine V_reg hN hn [(2, ⟨45, 1, [.c (.h 0), .c (.val (.int .i64 (mn2 left_64 (List.getD l_74 0 ((0 : Int), (0 : Int))).1)))], [(0, .row (.pair (.int .i64) (.int .i64)) l_74)], .c (.h 2), [(2, .row (.pair (.int .i64) (.int .i64)) r_81)], [(0, 17), (2, 21)], 22⟩)] [] (calls_cons (algebra_less_rg_spec K l_74 (mn2 left_64 (List.getD l_74 0 ((0 : Int), (0 : Int))).1) r_81 h_82) (by kernel_rfl) calls_nil) 21 [6, 7, 10, 11, 23, 24, 25] [1, 20, 21] ⟨[(6, .c (.h 21)), (7, .c (.h 20)), (10, .c (.val (.int .i64 left_64))), (11, .c (.val (.int .i64 (mn2 left_64 (List.getD l_74 0 ((0 : Int), (0 : Int))).1)))), (23, .c (.h 1)), (24, .c (.val (.int .i64 (((List.length r_18) : Nat) : Int)))), (25, .c (.val (.int .i64 t_21)))], [(1, .row (.pair (.int .i64) (.int .i64)) r_18), (20, .row (.pair (.int .i64) (.int .i64)) (out_75 ++ ([((mn2 left_64 (List.getD l_74 0 ((0 : Int), (0 : Int))).1), (List.getD l_74 0 ((0 : Int), (0 : Int))).2)] : List (Int × Int)))), (21, .row (.pair (.int .i64) (.int .i64)) r_81)], 22⟩ [] (by kernel_rfl) rfl rfl ap0 (by kernel_rfl) (by kernel_rfl) ?_
              refine V_run hN hn 1 22 [6, 7, 10, 23, 24, 25] [1, 20, 21] ⟨[(6, .c (.h 21)), (7, .c (.h 20)), (10, .c (.val (.int .i64 (IntKind.wrap .i64 (left_64 - (mn2 left_64 (List.getD l_74 0 ((0 : Int), (0 : Int))).1)))))), (23, .c (.h 1)), (24, .c (.val (.int .i64 (((List.length r_18) : Nat) : Int)))), (25, .c (.val (.int .i64 t_21)))], [(1, .row (.pair (.int .i64) (.int .i64)) r_18), (20, .row (.pair (.int .i64) (.int .i64)) (out_75 ++ ([((mn2 left_64 (List.getD l_74 0 ((0 : Int), (0 : Int))).1), (List.getD l_74 0 ((0 : Int), (0 : Int))).2)] : List (Int × Int)))), (21, .row (.pair (.int .i64) (.int .i64)) r_81)], 22⟩ [] (by kernel_rfl) rfl rfl ap0 ?_
              refine VL_nil (QB_end ?_)
              refine VL_nil ?_
              exact V_roundEnd (r_81, (out_75 ++ ([((mn2 left_64 (List.getD l_74 0 ((0 : Int), (0 : Int))).1), (List.getD l_74 0 ((0 : Int), (0 : Int))).2)] : List (Int × Int))), (IntKind.wrap .i64 (left_64 - (mn2 left_64 (List.getD l_74 0 ((0 : Int), (0 : Int))).1)))) H_128 [(1, 1), (17, 21), (18, 20)] hn (by kernel_rfl) (by kernel_rfl) rfl rfl rfl
            · intro b_78; have H_126 := of_f H_124 b_78
              refine VL_exit ?_
              refine QL_exit ?_
              refine QB_here ?_
              refine VL_nil (QB_end ?_)
              have H_129 := Option.some.inj (show some (l_74, out_75) = some q_114 from H_126); subst H_129
              refine VL_nil ?_
              exact QP_end (l_74, out_75) rfl [(1, 1), (19, 17), (20, 18)] hn (by kernel_rfl) (by kernel_rfl) rfl rfl rfl
        · intro y_117 hy; subst hy
          obtain ⟨l_85, out_86⟩ := y_117
          refine V_run hN hn 1 21 [6, 7, 23, 24, 25] [1, 19, 20] ⟨[(6, .c (.h 19)), (7, .c (.h 20)), (23, .c (.h 1)), (24, .c (.val (.int .i64 (((List.length r_18) : Nat) : Int)))), (25, .c (.val (.int .i64 (IntKind.wrap .i64 (t_21 + (1 : Int))))))], [(1, .row (.pair (.int .i64) (.int .i64)) r_18), (19, .row (.pair (.int .i64) (.int .i64)) l_85), (20, .row (.pair (.int .i64) (.int .i64)) out_86)], 21⟩ [] (by kernel_rfl) rfl rfl ap0 ?_
          refine VL_nil ?_
          exact V_roundEnd (l_85, out_86, (IntKind.wrap .i64 (t_21 + (1 : Int)))) H_116 [(1, 1), (11, 19), (12, 20)] hn (by kernel_rfl) (by kernel_rfl) rfl rfl rfl
      · intro b_58; have H_113 := of_f H_111 b_58
        refine VL_exit ?_
        refine QL_exit ?_
        refine QB_here ?_
        have H_130 := Option.some.inj (show some out_55 = some q_106 from H_113); subst H_130
        refine VL_nil ?_
        exact QP_end out_55 rfl [(12, 12)] hn (by kernel_rfl) (by kernel_rfl) rfl rfl rfl
    · intro y_109 hy; subst hy
      skip
      skip
      refine V_run hN hn 1 13 [7] [12] ⟨[(7, .c (.h 12))], [(12, .row (.pair (.int .i64) (.int .i64)) y_109)], 13⟩ [] (by kernel_rfl) rfl rfl ap0 ?_
      obtain ⟨r_90, h_91, H_131⟩ := of_bind H_108
      refine V_reg hN hn [(1, ⟨46, 1, [.c (.h 0)], [(0, .row (.pair (.int .i64) (.int .i64)) y_109)], .tup [(false, [.imm (.opt (.pair (.slice (.pair (.int .i64) (.int .i64))) (.int .i64))) r_90.1]), (false, [.val (.int .i64 r_90.2)])], [(0, .row (.pair (.int .i64) (.int .i64)) y_109)], [(0, 12)], 13⟩)] [] (calls_cons (subset_Pack_r_spec K y_109 r_90 h_91) (by kernel_rfl) calls_nil) 13 [4, 5] [] ⟨[(4, .c (.imm (.opt (.pair (.slice (.pair (.int .i64) (.int .i64))) (.int .i64))) r_90.1)), (5, .c (.val (.int .i64 r_90.2)))], [], 13⟩ [] (by kernel_rfl) rfl rfl ap0 (by kernel_rfl) (by kernel_rfl) ?_
      have H_132 := Option.some.inj (show some (r_90.1, r_90.2) = some r from H_131); subst H_132
      refine VL_ret ?_
      exact P_to [(4, .c (.imm (.opt (.pair (.slice (.pair (.int .i64) (.int .i64))) (.int .i64))) r_90.1)), (5, .c (.val (.int .i64 r_90.2)))] [] [] hn (by kernel_rfl) (by kernel_rfl) rfl rfl rfl (QF_retS (by kernel_rfl) (by kernel_rfl) rfl)

theorem algebra_Union_1_spec (K : Nat) (x_1 : Int) (y_2 : Int) (r : Int) (H : algebra_Union_1 K x_1 y_2 = some r) : Spec Try.prog 40 0 [.c (.val (.int .i64 x_1)), .c (.val (.int .i64 y_2))] [] (.c (.val (.int .i64 r))) [] := by
  refine Spec_mk (fn := Try.f40) (c := (Try.f40.body).get!) Try.func40 (by kernel_rfl) rfl ?_
  intro C hN hn
  replace hN : C.N = 9 := hN
  unfold algebra_Union_1 at H
  refine V_run hN hn 4 0 [4] [] ⟨[(4, .c (.val (.int .i64 (mn2 (IntKind.wrap .i64 (x_1 + y_2)) (100 : Int)))))], [], 0⟩ [] (by kernel_rfl) rfl rfl ap0 ?_
  have H_5 := Option.some.inj (show some (mn2 (IntKind.wrap .i64 (x_1 + y_2)) (100 : Int)) = some r from H); subst H_5
  refine VL_ret ?_
  exact P_to [(4, .c (.val (.int .i64 (mn2 (IntKind.wrap .i64 (x_1 + y_2)) (100 : Int)))))] [] [] hn (by kernel_rfl) (by kernel_rfl) rfl rfl rfl (QF_retS (by kernel_rfl) (by kernel_rfl) rfl)

theorem algebra_each_1_gggbb_40575_spec (K : Nat) (n_1 : Int) (x_2 : Int) (y_3 : Int) (p_4 : (List (Int × Int))) (r : (List (Int × Int))) (H : algebra_each_1_gggbb_40575 K n_1 x_2 y_3 p_4 = some r) : Spec Try.prog 54 3 [.c (.val (.int .i64 n_1)), .c (.val (.int .i64 x_2)), .c (.val (.int .i64 y_3)), .c (.h 0), .c (.h 2)] [(0, .box [.h 1]), (1, .row (.pair (.int .i64) (.int .i64)) p_4), (2, .box [.clo 40 []])] (.tup []) [(0, .box [.h 4]), (2, .box [.clo 40 []]), (4, .row (.pair (.int .i64) (.int .i64)) r)] := by
  refine Spec_mk (fn := Try.f54) (c := (Try.f54.body).get!) Try.func54 (by kernel_rfl) rfl ?_
  intro C hN hn
  replace hN : C.N = 17 := hN
  unfold algebra_each_1_gggbb_40575 at H
  obtain ⟨r_5, h_6, H_9⟩ := of_bind H
  obtain ⟨c_7, H_10⟩ := of_if H_9
  refine V_draw hN hn (by kernel_rfl) [(5, ⟨40, 0, [.c (.val (.int .i64 x_2)), .c (.val (.int .i64 y_3))], [], .c (.val (.int .i64 r_5)), [], [], 3⟩)] [] (calls_cons (algebra_Union_1_spec K x_2 y_3 r_5 h_6) (by kernel_rfl) calls_nil) 3 [] [0, 2, 4] ⟨[], [(0, .box [.h 4]), (2, .box [.clo 40 []]), (4, .row (.pair (.int .i64) (.int .i64)) (p_4 ++ ([(n_1, r_5)] : List (Int × Int))))], 5⟩ [(List.length p_4 + List.length ([(n_1, r_5)] : List (Int × Int))) * 16 ≤ 140737488355328] (by kernel_rfl) rfl rfl (ap1 c_7) (by kernel_rfl) (by kernel_rfl) ?_
  have H_11 := Option.some.inj (show some (p_4 ++ ([(n_1, r_5)] : List (Int × Int))) = some r from H_10); subst H_11
  refine VL_nil ?_
  exact P_to [] [(0, .box [.h 4]), (2, .box [.clo 40 []]), (4, .row (.pair (.int .i64) (.int .i64)) (p_4 ++ ([(n_1, r_5)] : List (Int × Int))))] [(4, 4)] hn (by kernel_rfl) (by kernel_rfl) rfl rfl rfl (QF_endS (by kernel_rfl) (by kernel_rfl) rfl)

theorem algebra_both_ggcalgebraeach1_5cbdc_spec (K : Nat) (a_1 : (Option ((List (Int × Int)) × Int))) (b_2 : (Option ((List (Int × Int)) × Int))) (r : (Int × (List (Int × Int)))) (H : algebra_both_ggcalgebraeach1_5cbdc K a_1 b_2 = some r) : Spec Try.prog 47 2 [.c (.imm (.opt (.pair (.slice (.pair (.int .i64) (.int .i64))) (.int .i64))) a_1), .c (.imm (.opt (.pair (.slice (.pair (.int .i64) (.int .i64))) (.int .i64))) b_2), .c (.clo 54 [0, 1])] [(0, .box [.val (.slice none 0 0)]), (1, .box [.clo 40 []])] (.c (.val (.int .i64 r.1))) [(0, .box [.h 9]), (1, .box [.clo 40 []]), (9, .row (.pair (.int .i64) (.int .i64)) r.2)] := by
  refine Spec_mk (fn := Try.f47) (c := (Try.f47.body).get!) Try.func47 (by kernel_rfl) rfl ?_
  intro C hN hn
  replace hN : C.N = 53 := hN
  unfold algebra_both_ggcalgebraeach1_5cbdc at H
  refine V_run hN hn 4 2 [0, 1, 2] [0, 1] ⟨[(0, .c (.imm (.opt (.pair (.slice (.pair (.int .i64) (.int .i64))) (.int .i64))) a_1)), (1, .c (.imm (.opt (.pair (.slice (.pair (.int .i64) (.int .i64))) (.int .i64))) b_2)), (2, .c (.clo 54 [0, 1]))], [(0, .box [.val (.slice none 0 0)]), (1, .box [.clo 40 []])], 2⟩ [] (by kernel_rfl) rfl rfl ap0 ?_
  obtain ⟨r_4, h_5, H_65⟩ := of_bind H
  obtain ⟨r_6, h_7, H_66⟩ := of_bind H_65
  refine V_reg hN hn [(1, ⟨35, 0, [.c (.imm (.opt (.pair (.slice (.pair (.int .i64) (.int .i64))) (.int .i64))) a_1)], [], .c (.val (.int .i64 r_4)), [], [], 2⟩), (3, ⟨35, 0, [.c (.imm (.opt (.pair (.slice (.pair (.int .i64) (.int .i64))) (.int .i64))) b_2)], [], .c (.val (.int .i64 r_6)), [], [], 2⟩)] [] (calls_cons (algebra_size_spec K a_1 r_4 h_5) (by kernel_rfl) (calls_cons (algebra_size_spec K b_2 r_6 h_7) (by kernel_rfl) calls_nil)) 2 [0, 1, 2, 14] [0, 1] ⟨[(0, .c (.imm (.opt (.pair (.slice (.pair (.int .i64) (.int .i64))) (.int .i64))) a_1)), (1, .c (.imm (.opt (.pair (.slice (.pair (.int .i64) (.int .i64))) (.int .i64))) b_2)), (2, .c (.clo 54 [0, 1])), (14, .c (.val (.bool (r_4 != r_6))))], [(0, .box [.val (.slice none 0 0)]), (1, .box [.clo 40 []])], 2⟩ [] (by kernel_rfl) rfl rfl ap0 (by kernel_rfl) (by kernel_rfl) ?_
  refine VL_cond ((r_4 != r_6)) (by kernel_rfl) ?_ ?_
  · intro b_9; have H_67 := of_t H_66 b_9
    refine V_run hN hn 2 2 [6] [0, 1] ⟨[(6, .c (.val (.int .i64 (80 : Int))))], [(0, .box [.val (.slice none 0 0)]), (1, .box [.clo 40 []])], 2⟩ [] (by kernel_rfl) rfl rfl ap0 ?_
    have H_69 := Option.some.inj (show some ((80 : Int), ([] : List (Int × Int))) = some r from H_67); subst H_69
    refine VL_ret ?_
    refine P_ghost [.nilCell 0 0 (.pair (.int .i64) (.int .i64))] 2 hn [6] [0, 1, 2] ⟨[(6, .c (.val (.int .i64 (80 : Int))))], [(0, .box [.h 2]), (1, .box [.clo 40 []]), (2, .row (.pair (.int .i64) (.int .i64)) ([] : List (Int × Int)))], 3⟩ (by kernel_rfl) rfl rfl ?_
    exact P_to [(6, .c (.val (.int .i64 (80 : Int))))] [(0, .box [.h 9]), (1, .box [.clo 40 []]), (9, .row (.pair (.int .i64) (.int .i64)) ([] : List (Int × Int)))] [(9, 2)] hn (by kernel_rfl) (by kernel_rfl) rfl rfl rfl (QF_retS (by kernel_rfl) (by kernel_rfl) rfl)
  · intro b_9; have H_68 := of_f H_66 b_9
    refine V_run hN hn 2 2 [0, 1, 2, 14] [0, 1] ⟨[(0, .c (.imm (.opt (.pair (.slice (.pair (.int .i64) (.int .i64))) (.int .i64))) a_1)), (1, .c (.imm (.opt (.pair (.slice (.pair (.int .i64) (.int .i64))) (.int .i64))) b_2)), (2, .c (.clo 54 [0, 1])), (14, .c (.val (.bool (r_4 != r_6))))], [(0, .box [.val (.slice none 0 0)]), (1, .box [.clo 40 []])], 2⟩ [] (by kernel_rfl) rfl rfl ap0 ?_
    obtain ⟨r_12, h_13, H_70⟩ := of_bind H_68
    obtain ⟨r_14, h_15, H_71⟩ := of_bind H_70
    refine V_reg hN hn [(1, ⟨36, 0, [.c (.imm (.opt (.pair (.slice (.pair (.int .i64) (.int .i64))) (.int .i64))) a_1)], [], .c (.h 2), [(2, .row (.pair (.int .i64) (.int .i64)) r_12)], [(2, 2)], 3⟩), (3, ⟨36, 0, [.c (.imm (.opt (.pair (.slice (.pair (.int .i64) (.int .i64))) (.int .i64))) b_2)], [], .c (.h 2), [(2, .row (.pair (.int .i64) (.int .i64)) r_14)], [(2, 3)], 4⟩)] [] (calls_cons (algebra_segs_spec K a_1 r_12 h_13) (by kernel_rfl) (calls_cons (algebra_segs_spec K b_2 r_14 h_15) (by kernel_rfl) calls_nil)) 2 [2, 7, 8] [0, 1, 2, 3] ⟨[(2, .c (.clo 54 [0, 1])), (7, .c (.h 2)), (8, .c (.h 3))], [(0, .box [.val (.slice none 0 0)]), (1, .box [.clo 40 []]), (2, .row (.pair (.int .i64) (.int .i64)) r_12), (3, .row (.pair (.int .i64) (.int .i64)) r_14)], 4⟩ [] (by kernel_rfl) rfl rfl ap0 (by kernel_rfl) (by kernel_rfl) ?_
    refine V_run hN hn 1 4 [2, 7, 8] [0, 1, 2, 3] ⟨[(2, .c (.clo 54 [0, 1])), (7, .c (.h 2)), (8, .c (.h 3))], [(0, .box [.val (.slice none 0 0)]), (1, .box [.clo 40 []]), (2, .row (.pair (.int .i64) (.int .i64)) r_12), (3, .row (.pair (.int .i64) (.int .i64)) r_14)], 4⟩ [] (by kernel_rfl) rfl rfl ap0 ?_
    refine VL_block ?_
    refine V_ghost [.nilCell 0 0 (.pair (.int .i64) (.int .i64))] 4 hn [2, 7, 8] [0, 1, 2, 3, 4] ⟨[(2, .c (.clo 54 [0, 1])), (7, .c (.h 2)), (8, .c (.h 3))], [(0, .box [.h 4]), (1, .box [.clo 40 []]), (2, .row (.pair (.int .i64) (.int .i64)) r_12), (3, .row (.pair (.int .i64) (.int .i64)) r_14), (4, .row (.pair (.int .i64) (.int .i64)) ([] : List (Int × Int)))], 5⟩ (by kernel_rfl) rfl rfl ?_
    refine V_to [(2, .c (.clo 54 [0, 1])), (7, .c (.h 7)), (8, .c (.h 8))] [(0, .box [.h 4]), (1, .box [.clo 40 []]), (4, .row (.pair (.int .i64) (.int .i64)) ([] : List (Int × Int))), (7, .row (.pair (.int .i64) (.int .i64)) r_12), (8, .row (.pair (.int .i64) (.int .i64)) r_14)] [(4, 4), (7, 2), (8, 3)] hn (by kernel_rfl) (by kernel_rfl) rfl rfl rfl ?_
    refine VL_loop (X := ((List (Int × Int)) × (List (Int × Int)) × (List (Int × Int)))) (fun x => [(2, .c (.clo 54 [0, 1])), (7, .c (.h 7)), (8, .c (.h 8))]) (fun x => [(0, .box [.h 4]), (1, .box [.clo 40 []]), (4, .row (.pair (.int .i64) (.int .i64)) x.1), (7, .row (.pair (.int .i64) (.int .i64)) x.2.1), (8, .row (.pair (.int .i64) (.int .i64)) x.2.2)]) (fun k x => algebra_both_ggcalgebraeach1_5cbdc.l0 K k x.1 x.2.1 x.2.2 = some r) K (([] : List (Int × Int)), r_12, r_14) H_71 (fun _ h => no_none h) ?_
    intro k_41 x_41 H_72
    obtain ⟨x_38, p_39, q_40⟩ := x_41
    have H_73 : algebra_both_ggcalgebraeach1_5cbdc.l0 K (k_41 + 1) x_38 p_39 q_40 = some r := H_72
    rw [algebra_both_ggcalgebraeach1_5cbdc.l0] at H_73
    refine V_run hN hn 2 9 [2, 7, 8] [0, 1, 4, 7, 8] ⟨[(2, .c (.clo 54 [0, 1])), (7, .c (.h 7)), (8, .c (.h 8))], [(0, .box [.h 4]), (1, .box [.clo 40 []]), (4, .row (.pair (.int .i64) (.int .i64)) x_38), (7, .row (.pair (.int .i64) (.int .i64)) p_39), (8, .row (.pair (.int .i64) (.int .i64)) q_40)], 9⟩ [] (by kernel_rfl) rfl rfl ap0 ?_
    obtain ⟨q_74, H_75, H_76⟩ := of_bind H_73
    refine V_cut (Y := Bool) (R := Bool) q_74 (fun y => y) (fun y => [(2, .c (.clo 54 [0, 1])), (7, .c (.h 7)), (8, .c (.h 8)), (26, .c (.val (.bool y)))]) (fun y => [(0, .box [.h 4]), (1, .box [.clo 40 []]), (4, .row (.pair (.int .i64) (.int .i64)) x_38), (7, .row (.pair (.int .i64) (.int .i64)) p_39), (8, .row (.pair (.int .i64) (.int .i64)) q_40)]) ?_ ?_
    · skip
      rcases Bool.eq_false_or_eq_true ((decide ((((List.length p_39) : Nat) : Int) > (0 : Int)))) with b_43 | b_43
      · have H_78 := of_t H_75 b_43
        refine V_reg hN hn [] [(22, true)] calls_nil 9 [2, 7, 8, 26] [0, 1, 4, 7, 8] ⟨[(2, .c (.clo 54 [0, 1])), (7, .c (.h 7)), (8, .c (.h 8)), (26, .c (.val (.bool (decide ((((List.length q_40) : Nat) : Int) > (0 : Int))))))], [(0, .box [.h 4]), (1, .box [.clo 40 []]), (4, .row (.pair (.int .i64) (.int .i64)) x_38), (7, .row (.pair (.int .i64) (.int .i64)) p_39), (8, .row (.pair (.int .i64) (.int .i64)) q_40)], 9⟩ [(decide ((((List.length p_39) : Nat) : Int) > (0 : Int))) = true] (by kernel_rfl) rfl rfl (ap1 b_43) (by kernel_rfl) (by kernel_rfl) ?_
        have H_80 := Option.some.inj (show some (decide ((((List.length q_40) : Nat) : Int) > (0 : Int))) = some q_74 from H_78); subst H_80
        refine VL_nil ?_
        exact QP_end (decide ((((List.length q_40) : Nat) : Int) > (0 : Int))) rfl [(4, 4), (7, 7), (8, 8)] hn (by kernel_rfl) (by kernel_rfl) rfl rfl rfl
      · have H_79 := of_f H_75 b_43
        refine V_reg hN hn [] [(22, false)] calls_nil 9 [2, 7, 8, 26] [0, 1, 4, 7, 8] ⟨[(2, .c (.clo 54 [0, 1])), (7, .c (.h 7)), (8, .c (.h 8)), (26, .c (.val (.bool false)))], [(0, .box [.h 4]), (1, .box [.clo 40 []]), (4, .row (.pair (.int .i64) (.int .i64)) x_38), (7, .row (.pair (.int .i64) (.int .i64)) p_39), (8, .row (.pair (.int .i64) (.int .i64)) q_40)], 9⟩ [(decide ((((List.length p_39) : Nat) : Int) > (0 : Int))) = false] (by kernel_rfl) rfl rfl (ap1 b_43) (by kernel_rfl) (by kernel_rfl) ?_
        have H_81 := Option.some.inj (show some false = some q_74 from H_79); subst H_81
        refine VL_nil ?_
        exact QP_end false rfl [(4, 4), (7, 7), (8, 8)] hn (by kernel_rfl) (by kernel_rfl) rfl rfl rfl
    · intro y_77 hy; subst hy
      skip
      skip
      refine VL_cond (y_77) (by kernel_rfl) ?_ ?_
      · intro b_47; have H_82 := of_t H_76 b_47
        refine V_run hN hn 1 9 [2, 7, 8, 26] [0, 1, 4, 7, 8] ⟨[(2, .c (.clo 54 [0, 1])), (7, .c (.h 7)), (8, .c (.h 8)), (26, .c (.val (.bool y_77)))], [(0, .box [.h 4]), (1, .box [.clo 40 []]), (4, .row (.pair (.int .i64) (.int .i64)) x_38), (7, .row (.pair (.int .i64) (.int .i64)) p_39), (8, .row (.pair (.int .i64) (.int .i64)) q_40)], 9⟩ [] (by kernel_rfl) rfl rfl ap0 ?_
        refine VL_block ?_
        refine V_run hN hn 1 9 [2, 7, 8, 26] [0, 1, 4, 7, 8] ⟨[(2, .c (.clo 54 [0, 1])), (7, .c (.h 7)), (8, .c (.h 8)), (26, .c (.val (.bool y_77)))], [(0, .box [.h 4]), (1, .box [.clo 40 []]), (4, .row (.pair (.int .i64) (.int .i64)) x_38), (7, .row (.pair (.int .i64) (.int .i64)) p_39), (8, .row (.pair (.int .i64) (.int .i64)) q_40)], 9⟩ [] (by kernel_rfl) rfl rfl ap0 ?_
        obtain ⟨c_50, H_84⟩ := of_if H_82
        refine V_draw hN hn (by kernel_rfl) [] [] calls_nil 9 [2, 7, 8, 9] [0, 1, 4, 7, 8] ⟨[(2, .c (.clo 54 [0, 1])), (7, .c (.h 7)), (8, .c (.h 8)), (9, .c (.val (.int .i64 (mn2 (List.getD p_39 0 ((0 : Int), (0 : Int))).1 (List.getD q_40 0 ((0 : Int), (0 : Int))).1))))], [(0, .box [.h 4]), (1, .box [.clo 40 []]), (4, .row (.pair (.int .i64) (.int .i64)) x_38), (7, .row (.pair (.int .i64) (.int .i64)) p_39), (8, .row (.pair (.int .i64) (.int .i64)) q_40)], 9⟩ [(0 : Int) ≤ (0 : Int), (0 : Int) < (((List.length p_39) : Nat) : Int), (0 : Int) ≤ (0 : Int), (0 : Int) < (((List.length q_40) : Nat) : Int)] (by kernel_rfl) rfl rfl (ap2 (by decide) (ap2 c_50.1 (ap2 (by decide) (ap1 c_50.2)))) (by kernel_rfl) (by kernel_rfl) ?_
        refine V_run hN hn 1 9 [2, 7, 8, 9] [0, 1, 4, 7, 8] ⟨[(2, .c (.clo 54 [0, 1])), (7, .c (.h 7)), (8, .c (.h 8)), (9, .c (.val (.int .i64 (mn2 (List.getD p_39 0 ((0 : Int), (0 : Int))).1 (List.getD q_40 0 ((0 : Int), (0 : Int))).1))))], [(0, .box [.h 4]), (1, .box [.clo 40 []]), (4, .row (.pair (.int .i64) (.int .i64)) x_38), (7, .row (.pair (.int .i64) (.int .i64)) p_39), (8, .row (.pair (.int .i64) (.int .i64)) q_40)], 9⟩ [] (by kernel_rfl) rfl rfl ap0 ?_
        obtain ⟨r_52, h_53, H_85⟩ := of_bind H_84
        refine V_draw hN hn (by kernel_rfl) [(10, ⟨54, 3, [.c (.val (.int .i64 (mn2 (List.getD p_39 0 ((0 : Int), (0 : Int))).1 (List.getD q_40 0 ((0 : Int), (0 : Int))).1))), .c (.val (.int .i64 (List.getD p_39 0 ((0 : Int), (0 : Int))).2)), .c (.val (.int .i64 (List.getD q_40 0 ((0 : Int), (0 : Int))).2)), .c (.h 0), .c (.h 2)], [(0, .box [.h 1]), (1, .row (.pair (.int .i64) (.int .i64)) x_38), (2, .box [.clo 40 []])], .tup [], [(0, .box [.h 4]), (2, .box [.clo 40 []]), (4, .row (.pair (.int .i64) (.int .i64)) r_52)], [(0, 0), (1, 4), (2, 1), (4, 9)], 10⟩)] [] (calls_cons (algebra_each_1_gggbb_40575_spec K (mn2 (List.getD p_39 0 ((0 : Int), (0 : Int))).1 (List.getD q_40 0 ((0 : Int), (0 : Int))).1) (List.getD p_39 0 ((0 : Int), (0 : Int))).2 (List.getD q_40 0 ((0 : Int), (0 : Int))).2 x_38 r_52 h_53) (by kernel_rfl) calls_nil) 9 [2, 7, 8, 9] [0, 1, 7, 8, 9] ⟨[(2, .c (.clo 54 [0, 1])), (7, .c (.h 7)), (8, .c (.h 8)), (9, .c (.val (.int .i64 (mn2 (List.getD p_39 0 ((0 : Int), (0 : Int))).1 (List.getD q_40 0 ((0 : Int), (0 : Int))).1))))], [(0, .box [.h 9]), (1, .box [.clo 40 []]), (7, .row (.pair (.int .i64) (.int .i64)) p_39), (8, .row (.pair (.int .i64) (.int .i64)) q_40), (9, .row (.pair (.int .i64) (.int .i64)) r_52)], 10⟩ [(0 : Int) ≤ (0 : Int), (0 : Int) < (((List.length p_39) : Nat) : Int), (0 : Int) ≤ (0 : Int), (0 : Int) < (((List.length q_40) : Nat) : Int)] (by kernel_rfl) rfl rfl (ap2 (by decide) (ap2 c_50.1 (ap2 (by decide) (ap1 c_50.2)))) (by kernel_rfl) (by kernel_rfl) ?_
        obtain ⟨r_55, h_56, H_86⟩ := of_bind H_85
        obtain ⟨r_57, h_58, H_87⟩ := of_bind H_86
        refine V_reg hN hn [(2, ⟨45, 1, [.c (.h 0), .c (.val (.int .i64 (mn2 (List.getD p_39 0 ((0 : Int), (0 : Int))).1 (List.getD q_40 0 ((0 : Int), (0 : Int))).1)))], [(0, .row (.pair (.int .i64) (.int .i64)) p_39)], .c (.h 2), [(2, .row (.pair (.int .i64) (.int .i64)) r_55)], [(0, 7), (2, 10)], 11⟩), (5, ⟨45, 1, [.c (.h 0), .c (.val (.int .i64 (mn2 (List.getD p_39 0 ((0 : Int), (0 : Int))).1 (List.getD q_40 0 ((0 : Int), (0 : Int))).1)))], [(0, .row (.pair (.int .i64) (.int .i64)) q_40)], .c (.h 2), [(2, .row (.pair (.int .i64) (.int .i64)) r_57)], [(0, 8), (2, 11)], 12⟩)] [] (calls_cons (algebra_less_rg_spec K p_39 (mn2 (List.getD p_39 0 ((0 : Int), (0 : Int))).1 (List.getD q_40 0 ((0 : Int), (0 : Int))).1) r_55 h_56) (by kernel_rfl) (calls_cons (algebra_less_rg_spec K q_40 (mn2 (List.getD p_39 0 ((0 : Int), (0 : Int))).1 (List.getD q_40 0 ((0 : Int), (0 : Int))).1) r_57 h_58) (by kernel_rfl) calls_nil)) 10 [2, 7, 8] [0, 1, 9, 10, 11] ⟨[(2, .c (.clo 54 [0, 1])), (7, .c (.h 10)), (8, .c (.h 11))], [(0, .box [.h 9]), (1, .box [.clo 40 []]), (9, .row (.pair (.int .i64) (.int .i64)) r_52), (10, .row (.pair (.int .i64) (.int .i64)) r_55), (11, .row (.pair (.int .i64) (.int .i64)) r_57)], 12⟩ [] (by kernel_rfl) rfl rfl ap0 (by kernel_rfl) (by kernel_rfl) ?_
        refine VL_nil (QB_end ?_)
        refine VL_nil ?_
        exact V_roundEnd (r_52, r_55, r_57) H_87 [(4, 9), (7, 10), (8, 11)] hn (by kernel_rfl) (by kernel_rfl) rfl rfl rfl
      · intro b_47; have H_83 := of_f H_76 b_47
        refine VL_exit ?_
        refine QL_exit ?_
        refine QB_here ?_
        refine V_run hN hn 2 9 [6] [0, 1, 4] ⟨[(6, .c (.val (.int .i64 (0 : Int))))], [(0, .box [.h 4]), (1, .box [.clo 40 []]), (4, .row (.pair (.int .i64) (.int .i64)) x_38)], 9⟩ [] (by kernel_rfl) rfl rfl ap0 ?_
        have H_88 := Option.some.inj (show some ((0 : Int), x_38) = some r from H_83); subst H_88
        refine VL_ret ?_
        exact P_to [(6, .c (.val (.int .i64 (0 : Int))))] [(0, .box [.h 9]), (1, .box [.clo 40 []]), (9, .row (.pair (.int .i64) (.int .i64)) x_38)] [(9, 4)] hn (by kernel_rfl) (by kernel_rfl) rfl rfl rfl (QF_retS (by kernel_rfl) (by kernel_rfl) rfl)

theorem algebra_each_ggcalgebraUnion1_spec (K : Nat) (a_1 : (Option ((List (Int × Int)) × Int))) (b_2 : (Option ((List (Int × Int)) × Int))) (r : ((Option ((List (Int × Int)) × Int)) × Int)) (H : algebra_each_ggcalgebraUnion1 K a_1 b_2 = some r) : Spec Try.prog 37 0 [.c (.imm (.opt (.pair (.slice (.pair (.int .i64) (.int .i64))) (.int .i64))) a_1), .c (.imm (.opt (.pair (.slice (.pair (.int .i64) (.int .i64))) (.int .i64))) b_2), .c (.clo 40 [])] [] (.tup [(false, [.imm (.opt (.pair (.slice (.pair (.int .i64) (.int .i64))) (.int .i64))) r.1]), (false, [.val (.int .i64 r.2)])]) [] := by
  refine Spec_mk (fn := Try.f37) (c := (Try.f37.body).get!) Try.func37 (by kernel_rfl) rfl ?_
  intro C hN hn
  replace hN : C.N = 21 := hN
  unfold algebra_each_ggcalgebraUnion1 at H
  refine V_run hN hn 6 0 [0, 1, 5, 8] [0, 1] ⟨[(0, .c (.imm (.opt (.pair (.slice (.pair (.int .i64) (.int .i64))) (.int .i64))) a_1)), (1, .c (.imm (.opt (.pair (.slice (.pair (.int .i64) (.int .i64))) (.int .i64))) b_2)), (5, .c (.h 0)), (8, .c (.h 1))], [(0, .box [.clo 40 []]), (1, .box [.val (.slice none 0 0)])], 2⟩ [] (by kernel_rfl) rfl rfl ap0 ?_
  obtain ⟨r_4, h_5, H_16⟩ := of_bind H
  refine V_reg hN hn [(3, ⟨47, 2, [.c (.imm (.opt (.pair (.slice (.pair (.int .i64) (.int .i64))) (.int .i64))) a_1), .c (.imm (.opt (.pair (.slice (.pair (.int .i64) (.int .i64))) (.int .i64))) b_2), .c (.clo 54 [0, 1])], [(0, .box [.val (.slice none 0 0)]), (1, .box [.clo 40 []])], .c (.val (.int .i64 r_4.1)), [(0, .box [.h 9]), (1, .box [.clo 40 []]), (9, .row (.pair (.int .i64) (.int .i64)) r_4.2)], [(0, 1), (1, 0), (9, 2)], 3⟩)] [] (calls_cons (algebra_both_ggcalgebraeach1_5cbdc_spec K a_1 b_2 r_4 h_5) (by kernel_rfl) calls_nil) 2 [8, 9] [1, 2] ⟨[(8, .c (.h 1)), (9, .c (.val (.int .i64 r_4.1)))], [(1, .box [.h 2]), (2, .row (.pair (.int .i64) (.int .i64)) r_4.2)], 3⟩ [] (by kernel_rfl) rfl rfl ap0 (by kernel_rfl) (by kernel_rfl) ?_
  refine V_run hN hn 2 3 [8, 9, 15] [1, 2] ⟨[(8, .c (.h 1)), (9, .c (.val (.int .i64 r_4.1))), (15, .c (.val (.bool (r_4.1 != (0 : Int)))))], [(1, .box [.h 2]), (2, .row (.pair (.int .i64) (.int .i64)) r_4.2)], 3⟩ [] (by kernel_rfl) rfl rfl ap0 ?_
  refine VL_cond ((r_4.1 != (0 : Int))) (by kernel_rfl) ?_ ?_
  · intro b_8; have H_17 := of_t H_16 b_8
    refine V_run hN hn 2 3 [6, 7] [] ⟨[(6, .c (.val (.pointer none))), (7, .c (.val (.int .i64 r_4.1)))], [], 3⟩ [] (by kernel_rfl) rfl rfl ap0 ?_
    have H_19 := Option.some.inj (show some ((none : (Option ((List (Int × Int)) × Int))), r_4.1) = some r from H_17); subst H_19
    refine VL_ret ?_
    refine P_ghost [.read 6 (.opt (.pair (.slice (.pair (.int .i64) (.int .i64))) (.int .i64)))] 3 hn [6, 7] [] ⟨[(6, .c (.imm (.opt (.pair (.slice (.pair (.int .i64) (.int .i64))) (.int .i64))) (none : (Option ((List (Int × Int)) × Int))))), (7, .c (.val (.int .i64 r_4.1)))], [], 3⟩ (by kernel_rfl) rfl rfl ?_
    exact P_to [(6, .c (.imm (.opt (.pair (.slice (.pair (.int .i64) (.int .i64))) (.int .i64))) (none : (Option ((List (Int × Int)) × Int))))), (7, .c (.val (.int .i64 r_4.1)))] [] [] hn (by kernel_rfl) (by kernel_rfl) rfl rfl rfl (QF_retS (by kernel_rfl) (by kernel_rfl) rfl)
  · intro b_8; have H_18 := of_f H_16 b_8
    refine V_run hN hn 2 3 [8, 9, 15] [1, 2] ⟨[(8, .c (.h 1)), (9, .c (.val (.int .i64 r_4.1))), (15, .c (.val (.bool (r_4.1 != (0 : Int)))))], [(1, .box [.h 2]), (2, .row (.pair (.int .i64) (.int .i64)) r_4.2)], 3⟩ [] (by kernel_rfl) rfl rfl ap0 ?_
    obtain ⟨r_11, h_12, H_20⟩ := of_bind H_18
    refine V_reg hN hn [(1, ⟨46, 1, [.c (.h 0)], [(0, .row (.pair (.int .i64) (.int .i64)) r_4.2)], .tup [(false, [.imm (.opt (.pair (.slice (.pair (.int .i64) (.int .i64))) (.int .i64))) r_11.1]), (false, [.val (.int .i64 r_11.2)])], [(0, .row (.pair (.int .i64) (.int .i64)) r_4.2)], [(0, 2)], 3⟩)] [] (calls_cons (subset_Pack_r_spec K r_4.2 r_11 h_12) (by kernel_rfl) calls_nil) 3 [6, 7] [] ⟨[(6, .c (.imm (.opt (.pair (.slice (.pair (.int .i64) (.int .i64))) (.int .i64))) r_11.1)), (7, .c (.val (.int .i64 r_11.2)))], [], 3⟩ [] (by kernel_rfl) rfl rfl ap0 (by kernel_rfl) (by kernel_rfl) ?_
    have H_21 := Option.some.inj (show some (r_11.1, r_11.2) = some r from H_20); subst H_21
    refine VL_ret ?_
    exact P_to [(6, .c (.imm (.opt (.pair (.slice (.pair (.int .i64) (.int .i64))) (.int .i64))) r_11.1)), (7, .c (.val (.int .i64 r_11.2)))] [] [] hn (by kernel_rfl) (by kernel_rfl) rfl rfl rfl (QF_retS (by kernel_rfl) (by kernel_rfl) rfl)

theorem algebra_Union_spec (K : Nat) (a_1 : (Option ((List (Int × Int)) × Int))) (b_2 : (Option ((List (Int × Int)) × Int))) (r : ((Option ((List (Int × Int)) × Int)) × Int)) (H : algebra_Union K a_1 b_2 = some r) : Spec Try.prog 16 0 [.c (.imm (.opt (.pair (.slice (.pair (.int .i64) (.int .i64))) (.int .i64))) a_1), .c (.imm (.opt (.pair (.slice (.pair (.int .i64) (.int .i64))) (.int .i64))) b_2)] [] (.tup [(false, [.imm (.opt (.pair (.slice (.pair (.int .i64) (.int .i64))) (.int .i64))) r.1]), (false, [.val (.int .i64 r.2)])]) [] := by
  refine Spec_mk (fn := Try.f16) (c := (Try.f16.body).get!) Try.func16 (by kernel_rfl) rfl ?_
  intro C hN hn
  replace hN : C.N = 11 := hN
  unfold algebra_Union at H
  refine V_run hN hn 3 0 [0, 1] [] ⟨[(0, .c (.imm (.opt (.pair (.slice (.pair (.int .i64) (.int .i64))) (.int .i64))) a_1)), (1, .c (.imm (.opt (.pair (.slice (.pair (.int .i64) (.int .i64))) (.int .i64))) b_2))], [], 0⟩ [] (by kernel_rfl) rfl rfl ap0 ?_
  obtain ⟨r_4, h_5, H_9⟩ := of_bind H
  refine V_reg hN hn [(2, ⟨37, 0, [.c (.imm (.opt (.pair (.slice (.pair (.int .i64) (.int .i64))) (.int .i64))) a_1), .c (.imm (.opt (.pair (.slice (.pair (.int .i64) (.int .i64))) (.int .i64))) b_2), .c (.clo 40 [])], [], .tup [(false, [.imm (.opt (.pair (.slice (.pair (.int .i64) (.int .i64))) (.int .i64))) r_4.1]), (false, [.val (.int .i64 r_4.2)])], [], [], 0⟩)] [] (calls_cons (algebra_each_ggcalgebraUnion1_spec K a_1 b_2 r_4 h_5) (by kernel_rfl) calls_nil) 0 [4, 5] [] ⟨[(4, .c (.imm (.opt (.pair (.slice (.pair (.int .i64) (.int .i64))) (.int .i64))) r_4.1)), (5, .c (.val (.int .i64 r_4.2)))], [], 0⟩ [] (by kernel_rfl) rfl rfl ap0 (by kernel_rfl) (by kernel_rfl) ?_
  have H_10 := Option.some.inj (show some (r_4.1, r_4.2) = some r from H_9); subst H_10
  refine VL_ret ?_
  exact P_to [(4, .c (.imm (.opt (.pair (.slice (.pair (.int .i64) (.int .i64))) (.int .i64))) r_4.1)), (5, .c (.val (.int .i64 r_4.2)))] [] [] hn (by kernel_rfl) (by kernel_rfl) rfl rfl rfl (QF_retS (by kernel_rfl) (by kernel_rfl) rfl)

theorem algebra_Delete_spec (K : Nat) (a_1 : (Option ((List (Int × Int)) × Int))) (s_2 : ByteArray) (r : (ByteArray × Int)) (H : algebra_Delete K a_1 s_2 = some r) : Spec Try.prog 12 0 [.c (.imm (.opt (.pair (.slice (.pair (.int .i64) (.int .i64))) (.int .i64))) a_1), .c (.val (.string s_2))] [] (.tup [(false, [.val (.string r.1)]), (false, [.val (.int .i64 r.2)])]) [] := by
  refine Spec_mk (fn := Try.f12) (c := (Try.f12.body).get!) Try.func12 (by kernel_rfl) rfl ?_
  intro C hN hn
  replace hN : C.N = 51 := hN
  unfold algebra_Delete at H
  refine V_run hN hn 4 0 [0, 1] [] ⟨[(0, .c (.imm (.opt (.pair (.slice (.pair (.int .i64) (.int .i64))) (.int .i64))) a_1)), (1, .c (.val (.string s_2)))], [], 0⟩ [] (by kernel_rfl) rfl rfl ap0 ?_
  obtain ⟨r_4, h_5, H_43⟩ := of_bind H
  refine V_reg hN hn [(1, ⟨35, 0, [.c (.imm (.opt (.pair (.slice (.pair (.int .i64) (.int .i64))) (.int .i64))) a_1)], [], .c (.val (.int .i64 r_4)), [], [], 0⟩)] [] (calls_cons (algebra_size_spec K a_1 r_4 h_5) (by kernel_rfl) calls_nil) 0 [0, 1, 15] [] ⟨[(0, .c (.imm (.opt (.pair (.slice (.pair (.int .i64) (.int .i64))) (.int .i64))) a_1)), (1, .c (.val (.string s_2))), (15, .c (.val (.bool (r_4 != (((ByteArray.size s_2) : Nat) : Int)))))], [], 0⟩ [] (by kernel_rfl) rfl rfl ap0 (by kernel_rfl) (by kernel_rfl) ?_
  refine VL_cond ((r_4 != (((ByteArray.size s_2) : Nat) : Int))) (by kernel_rfl) ?_ ?_
  · intro b_7; have H_44 := of_t H_43 b_7
    refine V_run hN hn 2 0 [4, 5] [] ⟨[(4, .c (.val (.string (ByteArray.mk #[])))), (5, .c (.val (.int .i64 (80 : Int))))], [], 0⟩ [] (by kernel_rfl) rfl rfl ap0 ?_
    have H_46 := Option.some.inj (show some ((ByteArray.mk #[]), (80 : Int)) = some r from H_44); subst H_46
    refine VL_ret ?_
    exact P_to [(4, .c (.val (.string (ByteArray.mk #[])))), (5, .c (.val (.int .i64 (80 : Int))))] [] [] hn (by kernel_rfl) (by kernel_rfl) rfl rfl rfl (QF_retS (by kernel_rfl) (by kernel_rfl) rfl)
  · intro b_7; have H_45 := of_f H_43 b_7
    obtain ⟨c_9, H_47⟩ := of_if H_45
    refine V_run hN hn 7 0 [0, 1, 6, 7, 8] [0] ⟨[(0, .c (.imm (.opt (.pair (.slice (.pair (.int .i64) (.int .i64))) (.int .i64))) a_1)), (1, .c (.val (.string s_2))), (6, .c (.h 0)), (7, .c (.val (.int .i64 (0 : Int)))), (8, .c (.val (.int .i64 (0 : Int))))], [(0, .row (.int .u8) (List.replicate (Int.toNat (((ByteArray.size s_2) : Nat) : Int)) (0 : Int)))], 1⟩ [(0 : Int) ≤ (((ByteArray.size s_2) : Nat) : Int), (((ByteArray.size s_2) : Nat) : Int) ≤ (((ByteArray.size s_2) : Nat) : Int), (((ByteArray.size s_2) : Nat) : Int) * 1 ≤ (140737488355328 : Int), (((ByteArray.size s_2) : Nat) : Int) ≤ (9223372036854775807 : Int)] (by kernel_rfl) rfl rfl (ap2 c_9.1 (ap2 c_9.2.1 (ap2 c_9.2.2.1 (ap1 c_9.2.2.2)))) ?_
    obtain ⟨r_10, h_11, H_48⟩ := of_bind H_47
    refine V_reg hN hn [(1, ⟨36, 0, [.c (.imm (.opt (.pair (.slice (.pair (.int .i64) (.int .i64))) (.int .i64))) a_1)], [], .c (.h 2), [(2, .row (.pair (.int .i64) (.int .i64)) r_10)], [(2, 1)], 2⟩)] [] (calls_cons (algebra_segs_spec K a_1 r_10 h_11) (by kernel_rfl) calls_nil) 1 [1, 6, 7, 8, 20, 21, 22] [0, 1] ⟨[(1, .c (.val (.string s_2))), (6, .c (.h 0)), (7, .c (.val (.int .i64 (0 : Int)))), (8, .c (.val (.int .i64 (0 : Int)))), (20, .c (.h 1)), (21, .c (.val (.int .i64 (((List.length r_10) : Nat) : Int)))), (22, .c (.val (.int .i64 (0 : Int))))], [(0, .row (.int .u8) (List.replicate (Int.toNat (((ByteArray.size s_2) : Nat) : Int)) (0 : Int))), (1, .row (.pair (.int .i64) (.int .i64)) r_10)], 2⟩ [] (by kernel_rfl) rfl rfl ap0 (by kernel_rfl) (by kernel_rfl) ?_
    refine VL_block ?_
    refine V_to [(1, .c (.val (.string s_2))), (6, .c (.h 0)), (7, .c (.val (.int .i64 (0 : Int)))), (8, .c (.val (.int .i64 (0 : Int)))), (20, .c (.h 1)), (21, .c (.val (.int .i64 (((List.length r_10) : Nat) : Int)))), (22, .c (.val (.int .i64 (0 : Int))))] [(0, .row (.int .u8) (List.replicate (Int.toNat (((ByteArray.size s_2) : Nat) : Int)) (0 : Int))), (1, .row (.pair (.int .i64) (.int .i64)) r_10)] [(0, 0), (1, 1)] hn (by kernel_rfl) (by kernel_rfl) rfl rfl rfl ?_
    refine VL_loop (X := ((List Int) × Int × Int × Int)) (fun x => [(1, .c (.val (.string s_2))), (6, .c (.h 0)), (7, .c (.val (.int .i64 x.2.1))), (8, .c (.val (.int .i64 x.2.2.1))), (20, .c (.h 1)), (21, .c (.val (.int .i64 (((List.length r_10) : Nat) : Int)))), (22, .c (.val (.int .i64 x.2.2.2)))]) (fun x => [(0, .row (.int .u8) x.1), (1, .row (.pair (.int .i64) (.int .i64)) r_10)]) (fun k x => algebra_Delete.l0 K r_10 s_2 k x.1 x.2.1 x.2.2.1 x.2.2.2 = some r) K ((List.replicate (Int.toNat (((ByteArray.size s_2) : Nat) : Int)) (0 : Int)), (0 : Int), (0 : Int), (0 : Int)) H_48 (fun _ h => no_none h) ?_
    intro k_29 x_29 H_49
    obtain ⟨out_28, n_13, at_14, t_15⟩ := x_29
    have H_50 : algebra_Delete.l0 K r_10 s_2 (k_29 + 1) out_28 n_13 at_14 t_15 = some r := H_49
    rw [algebra_Delete.l0] at H_50
    refine V_run hN hn 3 3 [1, 6, 7, 8, 20, 21, 22, 23] [0, 1] ⟨[(1, .c (.val (.string s_2))), (6, .c (.h 0)), (7, .c (.val (.int .i64 n_13))), (8, .c (.val (.int .i64 at_14))), (20, .c (.h 1)), (21, .c (.val (.int .i64 (((List.length r_10) : Nat) : Int)))), (22, .c (.val (.int .i64 t_15))), (23, .c (.val (.bool (decide (t_15 < (((List.length r_10) : Nat) : Int))))))], [(0, .row (.int .u8) out_28), (1, .row (.pair (.int .i64) (.int .i64)) r_10)], 3⟩ [] (by kernel_rfl) rfl rfl ap0 ?_
    refine VL_cond ((decide (t_15 < (((List.length r_10) : Nat) : Int)))) (by kernel_rfl) ?_ ?_
    · intro b_31; have H_51 := of_t H_50 b_31
      refine V_run hN hn 2 3 [1, 6, 7, 8, 20, 21, 22, 23] [0, 1] ⟨[(1, .c (.val (.string s_2))), (6, .c (.h 0)), (7, .c (.val (.int .i64 n_13))), (8, .c (.val (.int .i64 at_14))), (20, .c (.h 1)), (21, .c (.val (.int .i64 (((List.length r_10) : Nat) : Int)))), (22, .c (.val (.int .i64 t_15))), (23, .c (.val (.bool (decide (t_15 < (((List.length r_10) : Nat) : Int))))))], [(0, .row (.int .u8) out_28), (1, .row (.pair (.int .i64) (.int .i64)) r_10)], 3⟩ [] (by kernel_rfl) rfl rfl ap0 ?_
      refine VL_block ?_
      obtain ⟨c_33, H_53⟩ := of_if H_51
      refine V_run hN hn 5 3 [1, 6, 7, 8, 10, 20, 21, 22, 28] [0, 1, 3] ⟨[(1, .c (.val (.string s_2))), (6, .c (.h 0)), (7, .c (.val (.int .i64 n_13))), (8, .c (.val (.int .i64 at_14))), (10, .c (.h 3)), (20, .c (.h 1)), (21, .c (.val (.int .i64 (((List.length r_10) : Nat) : Int)))), (22, .c (.val (.int .i64 t_15))), (28, .c (.val (.bool ((List.getD r_10 (Int.toNat t_15) ((0 : Int), (0 : Int))).2 == (0 : Int)))))], [(0, .row (.int .u8) out_28), (1, .row (.pair (.int .i64) (.int .i64)) r_10), (3, .box [.val (.int .i64 (List.getD r_10 (Int.toNat t_15) ((0 : Int), (0 : Int))).1), .val (.int .i64 (List.getD r_10 (Int.toNat t_15) ((0 : Int), (0 : Int))).2)])], 4⟩ [0 ≤ t_15, t_15 < (((List.length r_10) : Nat) : Int)] (by kernel_rfl) rfl rfl (ap2 c_33.1 (ap1 c_33.2)) ?_
      refine VL_cond (((List.getD r_10 (Int.toNat t_15) ((0 : Int), (0 : Int))).2 == (0 : Int))) (by kernel_rfl) ?_ ?_
      · intro b_34; have H_54 := of_t H_53 b_34
        obtain ⟨c_35, H_56⟩ := of_if H_54
        refine V_draw hN hn (by kernel_rfl) [] [] calls_nil 4 [1, 6, 7, 8, 10, 20, 21, 22] [0, 1, 3] ⟨[(1, .c (.val (.string s_2))), (6, .c (.h 0)), (7, .c (.val (.int .i64 (IntKind.wrap .i64 (n_13 + (((List.length (List.take ((List.length out_28) - (Int.toNat n_13)) (List.map (fun b => (UInt8.toNat b : Int)) (Array.toList (ByteArray.data (ByteArray.extract s_2 (Int.toNat at_14) (Int.toNat (IntKind.wrap .i64 (at_14 + (List.getD r_10 (Int.toNat t_15) ((0 : Int), (0 : Int))).1))))))))) : Nat) : Int)))))), (8, .c (.val (.int .i64 at_14))), (10, .c (.h 3)), (20, .c (.h 1)), (21, .c (.val (.int .i64 (((List.length r_10) : Nat) : Int)))), (22, .c (.val (.int .i64 t_15)))], [(0, .row (.int .u8) (putAt out_28 (List.take ((List.length out_28) - (Int.toNat n_13)) (List.map (fun b => (UInt8.toNat b : Int)) (Array.toList (ByteArray.data (ByteArray.extract s_2 (Int.toNat at_14) (Int.toNat (IntKind.wrap .i64 (at_14 + (List.getD r_10 (Int.toNat t_15) ((0 : Int), (0 : Int))).1)))))))) (Int.toNat n_13))), (1, .row (.pair (.int .i64) (.int .i64)) r_10), (3, .box [.val (.int .i64 (List.getD r_10 (Int.toNat t_15) ((0 : Int), (0 : Int))).1), .val (.int .i64 (List.getD r_10 (Int.toNat t_15) ((0 : Int), (0 : Int))).2)])], 4⟩ [(0 : Int) ≤ n_13, n_13 ≤ (((List.length out_28) : Nat) : Int), (0 : Int) ≤ at_14, at_14 ≤ (IntKind.wrap .i64 (at_14 + (List.getD r_10 (Int.toNat t_15) ((0 : Int), (0 : Int))).1)), (IntKind.wrap .i64 (at_14 + (List.getD r_10 (Int.toNat t_15) ((0 : Int), (0 : Int))).1)) ≤ (((ByteArray.size s_2) : Nat) : Int)] (by kernel_rfl) rfl rfl (ap2 c_35.1 (ap2 c_35.2.1 (ap2 c_35.2.2.1 (ap2 c_35.2.2.2.1 (ap1 c_35.2.2.2.2))))) (by kernel_rfl) (by kernel_rfl) ?_
        refine V_run hN hn 1 4 [1, 6, 7, 8, 20, 21, 22] [0, 1] ⟨[(1, .c (.val (.string s_2))), (6, .c (.h 0)), (7, .c (.val (.int .i64 (IntKind.wrap .i64 (n_13 + (((List.length (List.take ((List.length out_28) - (Int.toNat n_13)) (List.map (fun b => (UInt8.toNat b : Int)) (Array.toList (ByteArray.data (ByteArray.extract s_2 (Int.toNat at_14) (Int.toNat (IntKind.wrap .i64 (at_14 + (List.getD r_10 (Int.toNat t_15) ((0 : Int), (0 : Int))).1))))))))) : Nat) : Int)))))), (8, .c (.val (.int .i64 (IntKind.wrap .i64 (at_14 + (List.getD r_10 (Int.toNat t_15) ((0 : Int), (0 : Int))).1))))), (20, .c (.h 1)), (21, .c (.val (.int .i64 (((List.length r_10) : Nat) : Int)))), (22, .c (.val (.int .i64 t_15)))], [(0, .row (.int .u8) (putAt out_28 (List.take ((List.length out_28) - (Int.toNat n_13)) (List.map (fun b => (UInt8.toNat b : Int)) (Array.toList (ByteArray.data (ByteArray.extract s_2 (Int.toNat at_14) (Int.toNat (IntKind.wrap .i64 (at_14 + (List.getD r_10 (Int.toNat t_15) ((0 : Int), (0 : Int))).1)))))))) (Int.toNat n_13))), (1, .row (.pair (.int .i64) (.int .i64)) r_10)], 4⟩ [] (by kernel_rfl) rfl rfl ap0 ?_
        refine VL_nil (QB_end ?_)
        refine V_run hN hn 1 4 [1, 6, 7, 8, 20, 21, 22] [0, 1] ⟨[(1, .c (.val (.string s_2))), (6, .c (.h 0)), (7, .c (.val (.int .i64 (IntKind.wrap .i64 (n_13 + (((List.length (List.take ((List.length out_28) - (Int.toNat n_13)) (List.map (fun b => (UInt8.toNat b : Int)) (Array.toList (ByteArray.data (ByteArray.extract s_2 (Int.toNat at_14) (Int.toNat (IntKind.wrap .i64 (at_14 + (List.getD r_10 (Int.toNat t_15) ((0 : Int), (0 : Int))).1))))))))) : Nat) : Int)))))), (8, .c (.val (.int .i64 (IntKind.wrap .i64 (at_14 + (List.getD r_10 (Int.toNat t_15) ((0 : Int), (0 : Int))).1))))), (20, .c (.h 1)), (21, .c (.val (.int .i64 (((List.length r_10) : Nat) : Int)))), (22, .c (.val (.int .i64 (IntKind.wrap .i64 (t_15 + (1 : Int))))))], [(0, .row (.int .u8) (putAt out_28 (List.take ((List.length out_28) - (Int.toNat n_13)) (List.map (fun b => (UInt8.toNat b : Int)) (Array.toList (ByteArray.data (ByteArray.extract s_2 (Int.toNat at_14) (Int.toNat (IntKind.wrap .i64 (at_14 + (List.getD r_10 (Int.toNat t_15) ((0 : Int), (0 : Int))).1)))))))) (Int.toNat n_13))), (1, .row (.pair (.int .i64) (.int .i64)) r_10)], 4⟩ [] (by kernel_rfl) rfl rfl ap0 ?_
        refine VL_nil ?_
        exact V_roundEnd ((putAt out_28 (List.take ((List.length out_28) - (Int.toNat n_13)) (List.map (fun b => (UInt8.toNat b : Int)) (Array.toList (ByteArray.data (ByteArray.extract s_2 (Int.toNat at_14) (Int.toNat (IntKind.wrap .i64 (at_14 + (List.getD r_10 (Int.toNat t_15) ((0 : Int), (0 : Int))).1)))))))) (Int.toNat n_13)), (IntKind.wrap .i64 (n_13 + (((List.length (List.take ((List.length out_28) - (Int.toNat n_13)) (List.map (fun b => (UInt8.toNat b : Int)) (Array.toList (ByteArray.data (ByteArray.extract s_2 (Int.toNat at_14) (Int.toNat (IntKind.wrap .i64 (at_14 + (List.getD r_10 (Int.toNat t_15) ((0 : Int), (0 : Int))).1))))))))) : Nat) : Int))), (IntKind.wrap .i64 (at_14 + (List.getD r_10 (Int.toNat t_15) ((0 : Int), (0 : Int))).1)), (IntKind.wrap .i64 (t_15 + (1 : Int)))) H_56 [(0, 0), (1, 1)] hn (by kernel_rfl) (by kernel_rfl) rfl rfl rfl
      · intro b_34; have H_55 := of_f H_53 b_34
        refine V_run hN hn 2 4 [1, 6, 7, 8, 20, 21, 22] [0, 1] ⟨[(1, .c (.val (.string s_2))), (6, .c (.h 0)), (7, .c (.val (.int .i64 n_13))), (8, .c (.val (.int .i64 (IntKind.wrap .i64 (at_14 + (List.getD r_10 (Int.toNat t_15) ((0 : Int), (0 : Int))).1))))), (20, .c (.h 1)), (21, .c (.val (.int .i64 (((List.length r_10) : Nat) : Int)))), (22, .c (.val (.int .i64 t_15)))], [(0, .row (.int .u8) out_28), (1, .row (.pair (.int .i64) (.int .i64)) r_10)], 4⟩ [] (by kernel_rfl) rfl rfl ap0 ?_
        refine VL_nil (QB_end ?_)
        refine V_run hN hn 1 4 [1, 6, 7, 8, 20, 21, 22] [0, 1] ⟨[(1, .c (.val (.string s_2))), (6, .c (.h 0)), (7, .c (.val (.int .i64 n_13))), (8, .c (.val (.int .i64 (IntKind.wrap .i64 (at_14 + (List.getD r_10 (Int.toNat t_15) ((0 : Int), (0 : Int))).1))))), (20, .c (.h 1)), (21, .c (.val (.int .i64 (((List.length r_10) : Nat) : Int)))), (22, .c (.val (.int .i64 (IntKind.wrap .i64 (t_15 + (1 : Int))))))], [(0, .row (.int .u8) out_28), (1, .row (.pair (.int .i64) (.int .i64)) r_10)], 4⟩ [] (by kernel_rfl) rfl rfl ap0 ?_
        refine VL_nil ?_
        exact V_roundEnd (out_28, n_13, (IntKind.wrap .i64 (at_14 + (List.getD r_10 (Int.toNat t_15) ((0 : Int), (0 : Int))).1)), (IntKind.wrap .i64 (t_15 + (1 : Int)))) H_55 [(0, 0), (1, 1)] hn (by kernel_rfl) (by kernel_rfl) rfl rfl rfl
    · intro b_31; have H_52 := of_f H_50 b_31
      refine VL_exit ?_
      refine QL_exit ?_
      refine QB_here ?_
      obtain ⟨c_40, H_57⟩ := of_if H_52
      refine V_run hN hn 2 3 [4, 5] [] ⟨[(4, .c (.val (.string (ofBytes (List.take ((Int.toNat n_13) - 0) (List.drop 0 out_28)))))), (5, .c (.val (.int .i64 (0 : Int))))], [], 3⟩ [(0 : Int) ≤ n_13, n_13 ≤ (((List.length out_28) : Nat) : Int)] (by kernel_rfl) rfl rfl (ap2 c_40.1 (ap1 c_40.2)) ?_
      have H_58 := Option.some.inj (show some ((ofBytes (List.take ((Int.toNat n_13) - 0) (List.drop 0 out_28))), (0 : Int)) = some r from H_57); subst H_58
      refine VL_ret ?_
      exact P_to [(4, .c (.val (.string (ofBytes (List.take ((Int.toNat n_13) - 0) (List.drop 0 out_28)))))), (5, .c (.val (.int .i64 (0 : Int))))] [] [] hn (by kernel_rfl) (by kernel_rfl) rfl rfl rfl (QF_retS (by kernel_rfl) (by kernel_rfl) rfl)

theorem algebra_once_spec (K : Nat) (is_1 : Bool) (r : Int) (H : algebra_once K is_1 = some r) : Spec Try.prog 39 0 [.c (.val (.bool is_1))] [] (.c (.val (.int .i64 r))) [] := by
  refine Spec_mk (fn := Try.f39) (c := (Try.f39.body).get!) Try.func39 (by kernel_rfl) rfl ?_
  intro C hN hn
  replace hN : C.N = 4 := hN
  unfold algebra_once at H
  refine V_run hN hn 5 0 [3] [] ⟨[(3, .c (.val (.bool is_1)))], [], 0⟩ [] (by kernel_rfl) rfl rfl ap0 ?_
  refine VL_cond (is_1) (by kernel_rfl) ?_ ?_
  · intro b_3; have H_7 := of_t H b_3
    refine V_run hN hn 2 0 [2] [] ⟨[(2, .c (.val (.int .i64 (1 : Int))))], [], 0⟩ [] (by kernel_rfl) rfl rfl ap0 ?_
    have H_9 := Option.some.inj (show some (1 : Int) = some r from H_7); subst H_9
    refine VL_ret ?_
    exact P_to [(2, .c (.val (.int .i64 (1 : Int))))] [] [] hn (by kernel_rfl) (by kernel_rfl) rfl rfl rfl (QF_retS (by kernel_rfl) (by kernel_rfl) rfl)
  · intro b_3; have H_8 := of_f H b_3
    refine V_run hN hn 3 0 [2] [] ⟨[(2, .c (.val (.int .i64 (0 : Int))))], [], 0⟩ [] (by kernel_rfl) rfl rfl ap0 ?_
    have H_10 := Option.some.inj (show some (0 : Int) = some r from H_8); subst H_10
    refine VL_ret ?_
    exact P_to [(2, .c (.val (.int .i64 (0 : Int))))] [] [] hn (by kernel_rfl) (by kernel_rfl) rfl rfl rfl (QF_retS (by kernel_rfl) (by kernel_rfl) rfl)

theorem algebra_Not_1_spec (K : Nat) (x_1 : Int) (p_2 : Int) (r : Int) (H : algebra_Not_1 K x_1 p_2 = some r) : Spec Try.prog 38 0 [.c (.val (.int .i64 x_1)), .c (.val (.int .i64 p_2))] [] (.c (.val (.int .i64 r))) [] := by
  refine Spec_mk (fn := Try.f38) (c := (Try.f38.body).get!) Try.func38 (by kernel_rfl) rfl ?_
  intro C hN hn
  replace hN : C.N = 8 := hN
  unfold algebra_Not_1 at H
  refine V_run hN hn 3 0 [0] [] ⟨[(0, .c (.val (.int .i64 x_1)))], [], 0⟩ [] (by kernel_rfl) rfl rfl ap0 ?_
  obtain ⟨r_4, h_5, H_8⟩ := of_bind H
  refine V_reg hN hn [(2, ⟨39, 0, [.c (.val (.bool (x_1 == (0 : Int))))], [], .c (.val (.int .i64 r_4)), [], [], 0⟩)] [] (calls_cons (algebra_once_spec K (x_1 == (0 : Int)) r_4 h_5) (by kernel_rfl) calls_nil) 0 [4] [] ⟨[(4, .c (.val (.int .i64 r_4)))], [], 0⟩ [] (by kernel_rfl) rfl rfl ap0 (by kernel_rfl) (by kernel_rfl) ?_
  have H_9 := Option.some.inj (show some r_4 = some r from H_8); subst H_9
  refine VL_ret ?_
  exact P_to [(4, .c (.val (.int .i64 r_4)))] [] [] hn (by kernel_rfl) (by kernel_rfl) rfl rfl rfl (QF_retS (by kernel_rfl) (by kernel_rfl) rfl)

theorem algebra_each_1_gggbb_0c3f5_spec (K : Nat) (n_1 : Int) (x_2 : Int) (y_3 : Int) (p_4 : (List (Int × Int))) (r : (List (Int × Int))) (H : algebra_each_1_gggbb_0c3f5 K n_1 x_2 y_3 p_4 = some r) : Spec Try.prog 54 3 [.c (.val (.int .i64 n_1)), .c (.val (.int .i64 x_2)), .c (.val (.int .i64 y_3)), .c (.h 0), .c (.h 2)] [(0, .box [.h 1]), (1, .row (.pair (.int .i64) (.int .i64)) p_4), (2, .box [.clo 38 []])] (.tup []) [(0, .box [.h 4]), (2, .box [.clo 38 []]), (4, .row (.pair (.int .i64) (.int .i64)) r)] := by
  refine Spec_mk (fn := Try.f54) (c := (Try.f54.body).get!) Try.func54 (by kernel_rfl) rfl ?_
  intro C hN hn
  replace hN : C.N = 17 := hN
  unfold algebra_each_1_gggbb_0c3f5 at H
  obtain ⟨r_5, h_6, H_9⟩ := of_bind H
  obtain ⟨c_7, H_10⟩ := of_if H_9
  refine V_draw hN hn (by kernel_rfl) [(5, ⟨38, 0, [.c (.val (.int .i64 x_2)), .c (.val (.int .i64 y_3))], [], .c (.val (.int .i64 r_5)), [], [], 3⟩)] [] (calls_cons (algebra_Not_1_spec K x_2 y_3 r_5 h_6) (by kernel_rfl) calls_nil) 3 [] [0, 2, 4] ⟨[], [(0, .box [.h 4]), (2, .box [.clo 38 []]), (4, .row (.pair (.int .i64) (.int .i64)) (p_4 ++ ([(n_1, r_5)] : List (Int × Int))))], 5⟩ [(List.length p_4 + List.length ([(n_1, r_5)] : List (Int × Int))) * 16 ≤ 140737488355328] (by kernel_rfl) rfl rfl (ap1 c_7) (by kernel_rfl) (by kernel_rfl) ?_
  have H_11 := Option.some.inj (show some (p_4 ++ ([(n_1, r_5)] : List (Int × Int))) = some r from H_10); subst H_11
  refine VL_nil ?_
  exact P_to [] [(0, .box [.h 4]), (2, .box [.clo 38 []]), (4, .row (.pair (.int .i64) (.int .i64)) (p_4 ++ ([(n_1, r_5)] : List (Int × Int))))] [(4, 4)] hn (by kernel_rfl) (by kernel_rfl) rfl rfl rfl (QF_endS (by kernel_rfl) (by kernel_rfl) rfl)

theorem algebra_both_ggcalgebraeach1_d1c28_spec (K : Nat) (a_1 : (Option ((List (Int × Int)) × Int))) (b_2 : (Option ((List (Int × Int)) × Int))) (r : (Int × (List (Int × Int)))) (H : algebra_both_ggcalgebraeach1_d1c28 K a_1 b_2 = some r) : Spec Try.prog 47 2 [.c (.imm (.opt (.pair (.slice (.pair (.int .i64) (.int .i64))) (.int .i64))) a_1), .c (.imm (.opt (.pair (.slice (.pair (.int .i64) (.int .i64))) (.int .i64))) b_2), .c (.clo 54 [0, 1])] [(0, .box [.val (.slice none 0 0)]), (1, .box [.clo 38 []])] (.c (.val (.int .i64 r.1))) [(0, .box [.h 9]), (1, .box [.clo 38 []]), (9, .row (.pair (.int .i64) (.int .i64)) r.2)] := by
  refine Spec_mk (fn := Try.f47) (c := (Try.f47.body).get!) Try.func47 (by kernel_rfl) rfl ?_
  intro C hN hn
  replace hN : C.N = 53 := hN
  unfold algebra_both_ggcalgebraeach1_d1c28 at H
  refine V_run hN hn 4 2 [0, 1, 2] [0, 1] ⟨[(0, .c (.imm (.opt (.pair (.slice (.pair (.int .i64) (.int .i64))) (.int .i64))) a_1)), (1, .c (.imm (.opt (.pair (.slice (.pair (.int .i64) (.int .i64))) (.int .i64))) b_2)), (2, .c (.clo 54 [0, 1]))], [(0, .box [.val (.slice none 0 0)]), (1, .box [.clo 38 []])], 2⟩ [] (by kernel_rfl) rfl rfl ap0 ?_
  obtain ⟨r_4, h_5, H_65⟩ := of_bind H
  obtain ⟨r_6, h_7, H_66⟩ := of_bind H_65
  refine V_reg hN hn [(1, ⟨35, 0, [.c (.imm (.opt (.pair (.slice (.pair (.int .i64) (.int .i64))) (.int .i64))) a_1)], [], .c (.val (.int .i64 r_4)), [], [], 2⟩), (3, ⟨35, 0, [.c (.imm (.opt (.pair (.slice (.pair (.int .i64) (.int .i64))) (.int .i64))) b_2)], [], .c (.val (.int .i64 r_6)), [], [], 2⟩)] [] (calls_cons (algebra_size_spec K a_1 r_4 h_5) (by kernel_rfl) (calls_cons (algebra_size_spec K b_2 r_6 h_7) (by kernel_rfl) calls_nil)) 2 [0, 1, 2, 14] [0, 1] ⟨[(0, .c (.imm (.opt (.pair (.slice (.pair (.int .i64) (.int .i64))) (.int .i64))) a_1)), (1, .c (.imm (.opt (.pair (.slice (.pair (.int .i64) (.int .i64))) (.int .i64))) b_2)), (2, .c (.clo 54 [0, 1])), (14, .c (.val (.bool (r_4 != r_6))))], [(0, .box [.val (.slice none 0 0)]), (1, .box [.clo 38 []])], 2⟩ [] (by kernel_rfl) rfl rfl ap0 (by kernel_rfl) (by kernel_rfl) ?_
  refine VL_cond ((r_4 != r_6)) (by kernel_rfl) ?_ ?_
  · intro b_9; have H_67 := of_t H_66 b_9
    refine V_run hN hn 2 2 [6] [0, 1] ⟨[(6, .c (.val (.int .i64 (80 : Int))))], [(0, .box [.val (.slice none 0 0)]), (1, .box [.clo 38 []])], 2⟩ [] (by kernel_rfl) rfl rfl ap0 ?_
    have H_69 := Option.some.inj (show some ((80 : Int), ([] : List (Int × Int))) = some r from H_67); subst H_69
    refine VL_ret ?_
    refine P_ghost [.nilCell 0 0 (.pair (.int .i64) (.int .i64))] 2 hn [6] [0, 1, 2] ⟨[(6, .c (.val (.int .i64 (80 : Int))))], [(0, .box [.h 2]), (1, .box [.clo 38 []]), (2, .row (.pair (.int .i64) (.int .i64)) ([] : List (Int × Int)))], 3⟩ (by kernel_rfl) rfl rfl ?_
    exact P_to [(6, .c (.val (.int .i64 (80 : Int))))] [(0, .box [.h 9]), (1, .box [.clo 38 []]), (9, .row (.pair (.int .i64) (.int .i64)) ([] : List (Int × Int)))] [(9, 2)] hn (by kernel_rfl) (by kernel_rfl) rfl rfl rfl (QF_retS (by kernel_rfl) (by kernel_rfl) rfl)
  · intro b_9; have H_68 := of_f H_66 b_9
    refine V_run hN hn 2 2 [0, 1, 2, 14] [0, 1] ⟨[(0, .c (.imm (.opt (.pair (.slice (.pair (.int .i64) (.int .i64))) (.int .i64))) a_1)), (1, .c (.imm (.opt (.pair (.slice (.pair (.int .i64) (.int .i64))) (.int .i64))) b_2)), (2, .c (.clo 54 [0, 1])), (14, .c (.val (.bool (r_4 != r_6))))], [(0, .box [.val (.slice none 0 0)]), (1, .box [.clo 38 []])], 2⟩ [] (by kernel_rfl) rfl rfl ap0 ?_
    obtain ⟨r_12, h_13, H_70⟩ := of_bind H_68
    obtain ⟨r_14, h_15, H_71⟩ := of_bind H_70
    refine V_reg hN hn [(1, ⟨36, 0, [.c (.imm (.opt (.pair (.slice (.pair (.int .i64) (.int .i64))) (.int .i64))) a_1)], [], .c (.h 2), [(2, .row (.pair (.int .i64) (.int .i64)) r_12)], [(2, 2)], 3⟩), (3, ⟨36, 0, [.c (.imm (.opt (.pair (.slice (.pair (.int .i64) (.int .i64))) (.int .i64))) b_2)], [], .c (.h 2), [(2, .row (.pair (.int .i64) (.int .i64)) r_14)], [(2, 3)], 4⟩)] [] (calls_cons (algebra_segs_spec K a_1 r_12 h_13) (by kernel_rfl) (calls_cons (algebra_segs_spec K b_2 r_14 h_15) (by kernel_rfl) calls_nil)) 2 [2, 7, 8] [0, 1, 2, 3] ⟨[(2, .c (.clo 54 [0, 1])), (7, .c (.h 2)), (8, .c (.h 3))], [(0, .box [.val (.slice none 0 0)]), (1, .box [.clo 38 []]), (2, .row (.pair (.int .i64) (.int .i64)) r_12), (3, .row (.pair (.int .i64) (.int .i64)) r_14)], 4⟩ [] (by kernel_rfl) rfl rfl ap0 (by kernel_rfl) (by kernel_rfl) ?_
    refine V_run hN hn 1 4 [2, 7, 8] [0, 1, 2, 3] ⟨[(2, .c (.clo 54 [0, 1])), (7, .c (.h 2)), (8, .c (.h 3))], [(0, .box [.val (.slice none 0 0)]), (1, .box [.clo 38 []]), (2, .row (.pair (.int .i64) (.int .i64)) r_12), (3, .row (.pair (.int .i64) (.int .i64)) r_14)], 4⟩ [] (by kernel_rfl) rfl rfl ap0 ?_
    refine VL_block ?_
    refine V_ghost [.nilCell 0 0 (.pair (.int .i64) (.int .i64))] 4 hn [2, 7, 8] [0, 1, 2, 3, 4] ⟨[(2, .c (.clo 54 [0, 1])), (7, .c (.h 2)), (8, .c (.h 3))], [(0, .box [.h 4]), (1, .box [.clo 38 []]), (2, .row (.pair (.int .i64) (.int .i64)) r_12), (3, .row (.pair (.int .i64) (.int .i64)) r_14), (4, .row (.pair (.int .i64) (.int .i64)) ([] : List (Int × Int)))], 5⟩ (by kernel_rfl) rfl rfl ?_
    refine V_to [(2, .c (.clo 54 [0, 1])), (7, .c (.h 7)), (8, .c (.h 8))] [(0, .box [.h 4]), (1, .box [.clo 38 []]), (4, .row (.pair (.int .i64) (.int .i64)) ([] : List (Int × Int))), (7, .row (.pair (.int .i64) (.int .i64)) r_12), (8, .row (.pair (.int .i64) (.int .i64)) r_14)] [(4, 4), (7, 2), (8, 3)] hn (by kernel_rfl) (by kernel_rfl) rfl rfl rfl ?_
    refine VL_loop (X := ((List (Int × Int)) × (List (Int × Int)) × (List (Int × Int)))) (fun x => [(2, .c (.clo 54 [0, 1])), (7, .c (.h 7)), (8, .c (.h 8))]) (fun x => [(0, .box [.h 4]), (1, .box [.clo 38 []]), (4, .row (.pair (.int .i64) (.int .i64)) x.1), (7, .row (.pair (.int .i64) (.int .i64)) x.2.1), (8, .row (.pair (.int .i64) (.int .i64)) x.2.2)]) (fun k x => algebra_both_ggcalgebraeach1_d1c28.l0 K k x.1 x.2.1 x.2.2 = some r) K (([] : List (Int × Int)), r_12, r_14) H_71 (fun _ h => no_none h) ?_
    intro k_41 x_41 H_72
    obtain ⟨x_38, p_39, q_40⟩ := x_41
    have H_73 : algebra_both_ggcalgebraeach1_d1c28.l0 K (k_41 + 1) x_38 p_39 q_40 = some r := H_72
    rw [algebra_both_ggcalgebraeach1_d1c28.l0] at H_73
    refine V_run hN hn 2 9 [2, 7, 8] [0, 1, 4, 7, 8] ⟨[(2, .c (.clo 54 [0, 1])), (7, .c (.h 7)), (8, .c (.h 8))], [(0, .box [.h 4]), (1, .box [.clo 38 []]), (4, .row (.pair (.int .i64) (.int .i64)) x_38), (7, .row (.pair (.int .i64) (.int .i64)) p_39), (8, .row (.pair (.int .i64) (.int .i64)) q_40)], 9⟩ [] (by kernel_rfl) rfl rfl ap0 ?_
    obtain ⟨q_74, H_75, H_76⟩ := of_bind H_73
    refine V_cut (Y := Bool) (R := Bool) q_74 (fun y => y) (fun y => [(2, .c (.clo 54 [0, 1])), (7, .c (.h 7)), (8, .c (.h 8)), (26, .c (.val (.bool y)))]) (fun y => [(0, .box [.h 4]), (1, .box [.clo 38 []]), (4, .row (.pair (.int .i64) (.int .i64)) x_38), (7, .row (.pair (.int .i64) (.int .i64)) p_39), (8, .row (.pair (.int .i64) (.int .i64)) q_40)]) ?_ ?_
    · skip
      rcases Bool.eq_false_or_eq_true ((decide ((((List.length p_39) : Nat) : Int) > (0 : Int)))) with b_43 | b_43
      · have H_78 := of_t H_75 b_43
        refine V_reg hN hn [] [(22, true)] calls_nil 9 [2, 7, 8, 26] [0, 1, 4, 7, 8] ⟨[(2, .c (.clo 54 [0, 1])), (7, .c (.h 7)), (8, .c (.h 8)), (26, .c (.val (.bool (decide ((((List.length q_40) : Nat) : Int) > (0 : Int))))))], [(0, .box [.h 4]), (1, .box [.clo 38 []]), (4, .row (.pair (.int .i64) (.int .i64)) x_38), (7, .row (.pair (.int .i64) (.int .i64)) p_39), (8, .row (.pair (.int .i64) (.int .i64)) q_40)], 9⟩ [(decide ((((List.length p_39) : Nat) : Int) > (0 : Int))) = true] (by kernel_rfl) rfl rfl (ap1 b_43) (by kernel_rfl) (by kernel_rfl) ?_
        have H_80 := Option.some.inj (show some (decide ((((List.length q_40) : Nat) : Int) > (0 : Int))) = some q_74 from H_78); subst H_80
        refine VL_nil ?_
        exact QP_end (decide ((((List.length q_40) : Nat) : Int) > (0 : Int))) rfl [(4, 4), (7, 7), (8, 8)] hn (by kernel_rfl) (by kernel_rfl) rfl rfl rfl
      · have H_79 := of_f H_75 b_43
        refine V_reg hN hn [] [(22, false)] calls_nil 9 [2, 7, 8, 26] [0, 1, 4, 7, 8] ⟨[(2, .c (.clo 54 [0, 1])), (7, .c (.h 7)), (8, .c (.h 8)), (26, .c (.val (.bool false)))], [(0, .box [.h 4]), (1, .box [.clo 38 []]), (4, .row (.pair (.int .i64) (.int .i64)) x_38), (7, .row (.pair (.int .i64) (.int .i64)) p_39), (8, .row (.pair (.int .i64) (.int .i64)) q_40)], 9⟩ [(decide ((((List.length p_39) : Nat) : Int) > (0 : Int))) = false] (by kernel_rfl) rfl rfl (ap1 b_43) (by kernel_rfl) (by kernel_rfl) ?_
        have H_81 := Option.some.inj (show some false = some q_74 from H_79); subst H_81
        refine VL_nil ?_
        exact QP_end false rfl [(4, 4), (7, 7), (8, 8)] hn (by kernel_rfl) (by kernel_rfl) rfl rfl rfl
    · intro y_77 hy; subst hy
      skip
      skip
      refine VL_cond (y_77) (by kernel_rfl) ?_ ?_
      · intro b_47; have H_82 := of_t H_76 b_47
        refine V_run hN hn 1 9 [2, 7, 8, 26] [0, 1, 4, 7, 8] ⟨[(2, .c (.clo 54 [0, 1])), (7, .c (.h 7)), (8, .c (.h 8)), (26, .c (.val (.bool y_77)))], [(0, .box [.h 4]), (1, .box [.clo 38 []]), (4, .row (.pair (.int .i64) (.int .i64)) x_38), (7, .row (.pair (.int .i64) (.int .i64)) p_39), (8, .row (.pair (.int .i64) (.int .i64)) q_40)], 9⟩ [] (by kernel_rfl) rfl rfl ap0 ?_
        refine VL_block ?_
        refine V_run hN hn 1 9 [2, 7, 8, 26] [0, 1, 4, 7, 8] ⟨[(2, .c (.clo 54 [0, 1])), (7, .c (.h 7)), (8, .c (.h 8)), (26, .c (.val (.bool y_77)))], [(0, .box [.h 4]), (1, .box [.clo 38 []]), (4, .row (.pair (.int .i64) (.int .i64)) x_38), (7, .row (.pair (.int .i64) (.int .i64)) p_39), (8, .row (.pair (.int .i64) (.int .i64)) q_40)], 9⟩ [] (by kernel_rfl) rfl rfl ap0 ?_
        obtain ⟨c_50, H_84⟩ := of_if H_82
        refine V_draw hN hn (by kernel_rfl) [] [] calls_nil 9 [2, 7, 8, 9] [0, 1, 4, 7, 8] ⟨[(2, .c (.clo 54 [0, 1])), (7, .c (.h 7)), (8, .c (.h 8)), (9, .c (.val (.int .i64 (mn2 (List.getD p_39 0 ((0 : Int), (0 : Int))).1 (List.getD q_40 0 ((0 : Int), (0 : Int))).1))))], [(0, .box [.h 4]), (1, .box [.clo 38 []]), (4, .row (.pair (.int .i64) (.int .i64)) x_38), (7, .row (.pair (.int .i64) (.int .i64)) p_39), (8, .row (.pair (.int .i64) (.int .i64)) q_40)], 9⟩ [(0 : Int) ≤ (0 : Int), (0 : Int) < (((List.length p_39) : Nat) : Int), (0 : Int) ≤ (0 : Int), (0 : Int) < (((List.length q_40) : Nat) : Int)] (by kernel_rfl) rfl rfl (ap2 (by decide) (ap2 c_50.1 (ap2 (by decide) (ap1 c_50.2)))) (by kernel_rfl) (by kernel_rfl) ?_
        refine V_run hN hn 1 9 [2, 7, 8, 9] [0, 1, 4, 7, 8] ⟨[(2, .c (.clo 54 [0, 1])), (7, .c (.h 7)), (8, .c (.h 8)), (9, .c (.val (.int .i64 (mn2 (List.getD p_39 0 ((0 : Int), (0 : Int))).1 (List.getD q_40 0 ((0 : Int), (0 : Int))).1))))], [(0, .box [.h 4]), (1, .box [.clo 38 []]), (4, .row (.pair (.int .i64) (.int .i64)) x_38), (7, .row (.pair (.int .i64) (.int .i64)) p_39), (8, .row (.pair (.int .i64) (.int .i64)) q_40)], 9⟩ [] (by kernel_rfl) rfl rfl ap0 ?_
        obtain ⟨r_52, h_53, H_85⟩ := of_bind H_84
        refine V_draw hN hn (by kernel_rfl) [(10, ⟨54, 3, [.c (.val (.int .i64 (mn2 (List.getD p_39 0 ((0 : Int), (0 : Int))).1 (List.getD q_40 0 ((0 : Int), (0 : Int))).1))), .c (.val (.int .i64 (List.getD p_39 0 ((0 : Int), (0 : Int))).2)), .c (.val (.int .i64 (List.getD q_40 0 ((0 : Int), (0 : Int))).2)), .c (.h 0), .c (.h 2)], [(0, .box [.h 1]), (1, .row (.pair (.int .i64) (.int .i64)) x_38), (2, .box [.clo 38 []])], .tup [], [(0, .box [.h 4]), (2, .box [.clo 38 []]), (4, .row (.pair (.int .i64) (.int .i64)) r_52)], [(0, 0), (1, 4), (2, 1), (4, 9)], 10⟩)] [] (calls_cons (algebra_each_1_gggbb_0c3f5_spec K (mn2 (List.getD p_39 0 ((0 : Int), (0 : Int))).1 (List.getD q_40 0 ((0 : Int), (0 : Int))).1) (List.getD p_39 0 ((0 : Int), (0 : Int))).2 (List.getD q_40 0 ((0 : Int), (0 : Int))).2 x_38 r_52 h_53) (by kernel_rfl) calls_nil) 9 [2, 7, 8, 9] [0, 1, 7, 8, 9] ⟨[(2, .c (.clo 54 [0, 1])), (7, .c (.h 7)), (8, .c (.h 8)), (9, .c (.val (.int .i64 (mn2 (List.getD p_39 0 ((0 : Int), (0 : Int))).1 (List.getD q_40 0 ((0 : Int), (0 : Int))).1))))], [(0, .box [.h 9]), (1, .box [.clo 38 []]), (7, .row (.pair (.int .i64) (.int .i64)) p_39), (8, .row (.pair (.int .i64) (.int .i64)) q_40), (9, .row (.pair (.int .i64) (.int .i64)) r_52)], 10⟩ [(0 : Int) ≤ (0 : Int), (0 : Int) < (((List.length p_39) : Nat) : Int), (0 : Int) ≤ (0 : Int), (0 : Int) < (((List.length q_40) : Nat) : Int)] (by kernel_rfl) rfl rfl (ap2 (by decide) (ap2 c_50.1 (ap2 (by decide) (ap1 c_50.2)))) (by kernel_rfl) (by kernel_rfl) ?_
        obtain ⟨r_55, h_56, H_86⟩ := of_bind H_85
        obtain ⟨r_57, h_58, H_87⟩ := of_bind H_86
        refine V_reg hN hn [(2, ⟨45, 1, [.c (.h 0), .c (.val (.int .i64 (mn2 (List.getD p_39 0 ((0 : Int), (0 : Int))).1 (List.getD q_40 0 ((0 : Int), (0 : Int))).1)))], [(0, .row (.pair (.int .i64) (.int .i64)) p_39)], .c (.h 2), [(2, .row (.pair (.int .i64) (.int .i64)) r_55)], [(0, 7), (2, 10)], 11⟩), (5, ⟨45, 1, [.c (.h 0), .c (.val (.int .i64 (mn2 (List.getD p_39 0 ((0 : Int), (0 : Int))).1 (List.getD q_40 0 ((0 : Int), (0 : Int))).1)))], [(0, .row (.pair (.int .i64) (.int .i64)) q_40)], .c (.h 2), [(2, .row (.pair (.int .i64) (.int .i64)) r_57)], [(0, 8), (2, 11)], 12⟩)] [] (calls_cons (algebra_less_rg_spec K p_39 (mn2 (List.getD p_39 0 ((0 : Int), (0 : Int))).1 (List.getD q_40 0 ((0 : Int), (0 : Int))).1) r_55 h_56) (by kernel_rfl) (calls_cons (algebra_less_rg_spec K q_40 (mn2 (List.getD p_39 0 ((0 : Int), (0 : Int))).1 (List.getD q_40 0 ((0 : Int), (0 : Int))).1) r_57 h_58) (by kernel_rfl) calls_nil)) 10 [2, 7, 8] [0, 1, 9, 10, 11] ⟨[(2, .c (.clo 54 [0, 1])), (7, .c (.h 10)), (8, .c (.h 11))], [(0, .box [.h 9]), (1, .box [.clo 38 []]), (9, .row (.pair (.int .i64) (.int .i64)) r_52), (10, .row (.pair (.int .i64) (.int .i64)) r_55), (11, .row (.pair (.int .i64) (.int .i64)) r_57)], 12⟩ [] (by kernel_rfl) rfl rfl ap0 (by kernel_rfl) (by kernel_rfl) ?_
        refine VL_nil (QB_end ?_)
        refine VL_nil ?_
        exact V_roundEnd (r_52, r_55, r_57) H_87 [(4, 9), (7, 10), (8, 11)] hn (by kernel_rfl) (by kernel_rfl) rfl rfl rfl
      · intro b_47; have H_83 := of_f H_76 b_47
        refine VL_exit ?_
        refine QL_exit ?_
        refine QB_here ?_
        refine V_run hN hn 2 9 [6] [0, 1, 4] ⟨[(6, .c (.val (.int .i64 (0 : Int))))], [(0, .box [.h 4]), (1, .box [.clo 38 []]), (4, .row (.pair (.int .i64) (.int .i64)) x_38)], 9⟩ [] (by kernel_rfl) rfl rfl ap0 ?_
        have H_88 := Option.some.inj (show some ((0 : Int), x_38) = some r from H_83); subst H_88
        refine VL_ret ?_
        exact P_to [(6, .c (.val (.int .i64 (0 : Int))))] [(0, .box [.h 9]), (1, .box [.clo 38 []]), (9, .row (.pair (.int .i64) (.int .i64)) x_38)] [(9, 4)] hn (by kernel_rfl) (by kernel_rfl) rfl rfl rfl (QF_retS (by kernel_rfl) (by kernel_rfl) rfl)

theorem algebra_each_ggcalgebraNot1_spec (K : Nat) (a_1 : (Option ((List (Int × Int)) × Int))) (b_2 : (Option ((List (Int × Int)) × Int))) (r : ((Option ((List (Int × Int)) × Int)) × Int)) (H : algebra_each_ggcalgebraNot1 K a_1 b_2 = some r) : Spec Try.prog 37 0 [.c (.imm (.opt (.pair (.slice (.pair (.int .i64) (.int .i64))) (.int .i64))) a_1), .c (.imm (.opt (.pair (.slice (.pair (.int .i64) (.int .i64))) (.int .i64))) b_2), .c (.clo 38 [])] [] (.tup [(false, [.imm (.opt (.pair (.slice (.pair (.int .i64) (.int .i64))) (.int .i64))) r.1]), (false, [.val (.int .i64 r.2)])]) [] := by
  refine Spec_mk (fn := Try.f37) (c := (Try.f37.body).get!) Try.func37 (by kernel_rfl) rfl ?_
  intro C hN hn
  replace hN : C.N = 21 := hN
  unfold algebra_each_ggcalgebraNot1 at H
  refine V_run hN hn 6 0 [0, 1, 5, 8] [0, 1] ⟨[(0, .c (.imm (.opt (.pair (.slice (.pair (.int .i64) (.int .i64))) (.int .i64))) a_1)), (1, .c (.imm (.opt (.pair (.slice (.pair (.int .i64) (.int .i64))) (.int .i64))) b_2)), (5, .c (.h 0)), (8, .c (.h 1))], [(0, .box [.clo 38 []]), (1, .box [.val (.slice none 0 0)])], 2⟩ [] (by kernel_rfl) rfl rfl ap0 ?_
  obtain ⟨r_4, h_5, H_16⟩ := of_bind H
  refine V_reg hN hn [(3, ⟨47, 2, [.c (.imm (.opt (.pair (.slice (.pair (.int .i64) (.int .i64))) (.int .i64))) a_1), .c (.imm (.opt (.pair (.slice (.pair (.int .i64) (.int .i64))) (.int .i64))) b_2), .c (.clo 54 [0, 1])], [(0, .box [.val (.slice none 0 0)]), (1, .box [.clo 38 []])], .c (.val (.int .i64 r_4.1)), [(0, .box [.h 9]), (1, .box [.clo 38 []]), (9, .row (.pair (.int .i64) (.int .i64)) r_4.2)], [(0, 1), (1, 0), (9, 2)], 3⟩)] [] (calls_cons (algebra_both_ggcalgebraeach1_d1c28_spec K a_1 b_2 r_4 h_5) (by kernel_rfl) calls_nil) 2 [8, 9] [1, 2] ⟨[(8, .c (.h 1)), (9, .c (.val (.int .i64 r_4.1)))], [(1, .box [.h 2]), (2, .row (.pair (.int .i64) (.int .i64)) r_4.2)], 3⟩ [] (by kernel_rfl) rfl rfl ap0 (by kernel_rfl) (by kernel_rfl) ?_
  refine V_run hN hn 2 3 [8, 9, 15] [1, 2] ⟨[(8, .c (.h 1)), (9, .c (.val (.int .i64 r_4.1))), (15, .c (.val (.bool (r_4.1 != (0 : Int)))))], [(1, .box [.h 2]), (2, .row (.pair (.int .i64) (.int .i64)) r_4.2)], 3⟩ [] (by kernel_rfl) rfl rfl ap0 ?_
  refine VL_cond ((r_4.1 != (0 : Int))) (by kernel_rfl) ?_ ?_
  · intro b_8; have H_17 := of_t H_16 b_8
    refine V_run hN hn 2 3 [6, 7] [] ⟨[(6, .c (.val (.pointer none))), (7, .c (.val (.int .i64 r_4.1)))], [], 3⟩ [] (by kernel_rfl) rfl rfl ap0 ?_
    have H_19 := Option.some.inj (show some ((none : (Option ((List (Int × Int)) × Int))), r_4.1) = some r from H_17); subst H_19
    refine VL_ret ?_
    refine P_ghost [.read 6 (.opt (.pair (.slice (.pair (.int .i64) (.int .i64))) (.int .i64)))] 3 hn [6, 7] [] ⟨[(6, .c (.imm (.opt (.pair (.slice (.pair (.int .i64) (.int .i64))) (.int .i64))) (none : (Option ((List (Int × Int)) × Int))))), (7, .c (.val (.int .i64 r_4.1)))], [], 3⟩ (by kernel_rfl) rfl rfl ?_
    exact P_to [(6, .c (.imm (.opt (.pair (.slice (.pair (.int .i64) (.int .i64))) (.int .i64))) (none : (Option ((List (Int × Int)) × Int))))), (7, .c (.val (.int .i64 r_4.1)))] [] [] hn (by kernel_rfl) (by kernel_rfl) rfl rfl rfl (QF_retS (by kernel_rfl) (by kernel_rfl) rfl)
  · intro b_8; have H_18 := of_f H_16 b_8
    refine V_run hN hn 2 3 [8, 9, 15] [1, 2] ⟨[(8, .c (.h 1)), (9, .c (.val (.int .i64 r_4.1))), (15, .c (.val (.bool (r_4.1 != (0 : Int)))))], [(1, .box [.h 2]), (2, .row (.pair (.int .i64) (.int .i64)) r_4.2)], 3⟩ [] (by kernel_rfl) rfl rfl ap0 ?_
    obtain ⟨r_11, h_12, H_20⟩ := of_bind H_18
    refine V_reg hN hn [(1, ⟨46, 1, [.c (.h 0)], [(0, .row (.pair (.int .i64) (.int .i64)) r_4.2)], .tup [(false, [.imm (.opt (.pair (.slice (.pair (.int .i64) (.int .i64))) (.int .i64))) r_11.1]), (false, [.val (.int .i64 r_11.2)])], [(0, .row (.pair (.int .i64) (.int .i64)) r_4.2)], [(0, 2)], 3⟩)] [] (calls_cons (subset_Pack_r_spec K r_4.2 r_11 h_12) (by kernel_rfl) calls_nil) 3 [6, 7] [] ⟨[(6, .c (.imm (.opt (.pair (.slice (.pair (.int .i64) (.int .i64))) (.int .i64))) r_11.1)), (7, .c (.val (.int .i64 r_11.2)))], [], 3⟩ [] (by kernel_rfl) rfl rfl ap0 (by kernel_rfl) (by kernel_rfl) ?_
    have H_21 := Option.some.inj (show some (r_11.1, r_11.2) = some r from H_20); subst H_21
    refine VL_ret ?_
    exact P_to [(6, .c (.imm (.opt (.pair (.slice (.pair (.int .i64) (.int .i64))) (.int .i64))) r_11.1)), (7, .c (.val (.int .i64 r_11.2)))] [] [] hn (by kernel_rfl) (by kernel_rfl) rfl rfl rfl (QF_retS (by kernel_rfl) (by kernel_rfl) rfl)

theorem algebra_Not_spec (K : Nat) (a_1 : (Option ((List (Int × Int)) × Int))) (r : (Option ((List (Int × Int)) × Int))) (H : algebra_Not K a_1 = some r) : Spec Try.prog 13 0 [.c (.imm (.opt (.pair (.slice (.pair (.int .i64) (.int .i64))) (.int .i64))) a_1)] [] (.c (.imm (.opt (.pair (.slice (.pair (.int .i64) (.int .i64))) (.int .i64))) r)) [] := by
  refine Spec_mk (fn := Try.f13) (c := (Try.f13.body).get!) Try.func13 (by kernel_rfl) rfl ?_
  intro C hN hn
  replace hN : C.N = 12 := hN
  unfold algebra_Not at H
  refine V_run hN hn 3 0 [0] [] ⟨[(0, .c (.imm (.opt (.pair (.slice (.pair (.int .i64) (.int .i64))) (.int .i64))) a_1))], [], 0⟩ [] (by kernel_rfl) rfl rfl ap0 ?_
  obtain ⟨r_3, h_4, H_8⟩ := of_bind H
  refine V_reg hN hn [(2, ⟨37, 0, [.c (.imm (.opt (.pair (.slice (.pair (.int .i64) (.int .i64))) (.int .i64))) a_1), .c (.imm (.opt (.pair (.slice (.pair (.int .i64) (.int .i64))) (.int .i64))) a_1), .c (.clo 38 [])], [], .tup [(false, [.imm (.opt (.pair (.slice (.pair (.int .i64) (.int .i64))) (.int .i64))) r_3.1]), (false, [.val (.int .i64 r_3.2)])], [], [], 0⟩)] [] (calls_cons (algebra_each_ggcalgebraNot1_spec K a_1 a_1 r_3 h_4) (by kernel_rfl) calls_nil) 0 [3] [] ⟨[(3, .c (.imm (.opt (.pair (.slice (.pair (.int .i64) (.int .i64))) (.int .i64))) r_3.1))], [], 0⟩ [] (by kernel_rfl) rfl rfl ap0 (by kernel_rfl) (by kernel_rfl) ?_
  refine V_run hN hn 2 0 [2] [] ⟨[(2, .c (.imm (.opt (.pair (.slice (.pair (.int .i64) (.int .i64))) (.int .i64))) r_3.1))], [], 0⟩ [] (by kernel_rfl) rfl rfl ap0 ?_
  have H_9 := Option.some.inj (show some r_3.1 = some r from H_8); subst H_9
  refine VL_ret ?_
  exact P_to [(2, .c (.imm (.opt (.pair (.slice (.pair (.int .i64) (.int .i64))) (.int .i64))) r_3.1))] [] [] hn (by kernel_rfl) (by kernel_rfl) rfl rfl rfl (QF_retS (by kernel_rfl) (by kernel_rfl) rfl)

theorem subset_Subset_Count_spec (K : Nat) (s_1 : (Option ((List (Int × Int)) × Int))) (at_2 : Int) (r : Int) (H : subset_Subset_Count K s_1 at_2 = some r) : Spec Try.prog 49 0 [.c (.imm (.opt (.pair (.slice (.pair (.int .i64) (.int .i64))) (.int .i64))) s_1), .c (.val (.int .i64 at_2))] [] (.c (.val (.int .i64 r))) [] := by
  refine Spec_mk (fn := Try.f49) (c := (Try.f49.body).get!) Try.func49 (by kernel_rfl) rfl ?_
  intro C hN hn
  replace hN : C.N = 37 := hN
  unfold subset_Subset_Count at H
  refine V_run hN hn 4 0 [0, 1] [] ⟨[(0, .c (.imm (.opt (.pair (.slice (.pair (.int .i64) (.int .i64))) (.int .i64))) s_1)), (1, .c (.val (.int .i64 at_2)))], [], 0⟩ [] (by kernel_rfl) rfl rfl ap0 ?_
  obtain ⟨q_25, H_26, H_27⟩ := of_bind H
  refine V_cut (Y := Bool) (R := Bool) q_25 (fun y => y) (fun y => [(0, .c (.imm (.opt (.pair (.slice (.pair (.int .i64) (.int .i64))) (.int .i64))) s_1)), (1, .c (.val (.int .i64 at_2))), (16, .c (.val (.bool y)))]) (fun y => []) ?_ ?_
  · skip
    rcases Bool.eq_false_or_eq_true ((decide (at_2 < (0 : Int)))) with b_4 | b_4
    · have H_29 := of_t H_26 b_4
      refine V_reg hN hn [] [(9, true)] calls_nil 0 [0, 1, 16] [] ⟨[(0, .c (.imm (.opt (.pair (.slice (.pair (.int .i64) (.int .i64))) (.int .i64))) s_1)), (1, .c (.val (.int .i64 at_2))), (16, .c (.val (.bool true)))], [], 0⟩ [(decide (at_2 < (0 : Int))) = true] (by kernel_rfl) rfl rfl (ap1 b_4) (by kernel_rfl) (by kernel_rfl) ?_
      have H_31 := Option.some.inj (show some true = some q_25 from H_29); subst H_31
      refine VL_nil ?_
      exact QP_end true rfl [] hn (by kernel_rfl) (by kernel_rfl) rfl rfl rfl
    · have H_30 := of_f H_26 b_4
      obtain ⟨c_6, H_32⟩ := of_if H_30
      refine V_reg hN hn [] [(9, false)] calls_nil 0 [0, 1, 16] [] ⟨[(0, .c (.imm (.opt (.pair (.slice (.pair (.int .i64) (.int .i64))) (.int .i64))) s_1)), (1, .c (.val (.int .i64 at_2))), (16, .c (.val (.bool (decide (at_2 ≥ (Option.getD s_1 (([] : (List (Int × Int))), (0 : Int))).2)))))], [], 0⟩ [(decide (at_2 < (0 : Int))) = false, Option.isSome s_1 = true] (by kernel_rfl) rfl rfl (ap2 b_4 (ap1 c_6)) (by kernel_rfl) (by kernel_rfl) ?_
      have H_33 := Option.some.inj (show some (decide (at_2 ≥ (Option.getD s_1 (([] : (List (Int × Int))), (0 : Int))).2)) = some q_25 from H_32); subst H_33
      refine VL_nil ?_
      exact QP_end (decide (at_2 ≥ (Option.getD s_1 (([] : (List (Int × Int))), (0 : Int))).2)) rfl [] hn (by kernel_rfl) (by kernel_rfl) rfl rfl rfl
  · intro y_28 hy; subst hy
    skip
    skip
    refine VL_cond (y_28) (by kernel_rfl) ?_ ?_
    · intro b_8; have H_34 := of_t H_27 b_8
      refine V_run hN hn 2 0 [4] [] ⟨[(4, .c (.val (.int .i64 (0 : Int))))], [], 0⟩ [] (by kernel_rfl) rfl rfl ap0 ?_
      have H_36 := Option.some.inj (show some (0 : Int) = some r from H_34); subst H_36
      refine VL_ret ?_
      exact P_to [(4, .c (.val (.int .i64 (0 : Int))))] [] [] hn (by kernel_rfl) (by kernel_rfl) rfl rfl rfl (QF_retS (by kernel_rfl) (by kernel_rfl) rfl)
    · intro b_8; have H_35 := of_f H_27 b_8
      obtain ⟨c_10, H_37⟩ := of_if H_35
      refine V_run hN hn 4 0 [1, 20, 21, 22] [] ⟨[(1, .c (.val (.int .i64 at_2))), (20, .c (.imm (.slice (.pair (.int .i64) (.int .i64))) (Option.getD s_1 (([] : (List (Int × Int))), (0 : Int))).1)), (21, .c (.val (.int .i64 (((List.length (Option.getD s_1 (([] : (List (Int × Int))), (0 : Int))).1) : Nat) : Int)))), (22, .c (.val (.int .i64 (0 : Int))))], [], 0⟩ [Option.isSome s_1 = true] (by kernel_rfl) rfl rfl (ap1 c_10) ?_
      refine VL_block ?_
      refine V_to [(1, .c (.val (.int .i64 at_2))), (20, .c (.imm (.slice (.pair (.int .i64) (.int .i64))) (Option.getD s_1 (([] : (List (Int × Int))), (0 : Int))).1)), (21, .c (.val (.int .i64 (((List.length (Option.getD s_1 (([] : (List (Int × Int))), (0 : Int))).1) : Nat) : Int)))), (22, .c (.val (.int .i64 (0 : Int))))] [] [] hn (by kernel_rfl) (by kernel_rfl) rfl rfl rfl ?_
      refine VL_loop (X := (Int × Int)) (fun x => [(1, .c (.val (.int .i64 x.1))), (20, .c (.imm (.slice (.pair (.int .i64) (.int .i64))) (Option.getD s_1 (([] : (List (Int × Int))), (0 : Int))).1)), (21, .c (.val (.int .i64 (((List.length (Option.getD s_1 (([] : (List (Int × Int))), (0 : Int))).1) : Nat) : Int)))), (22, .c (.val (.int .i64 x.2)))]) (fun x => []) (fun k x => subset_Subset_Count.l0 K s_1 k x.1 x.2 = some r) K (at_2, (0 : Int)) H_37 (fun _ h => no_none h) ?_
      intro k_13 x_13 H_38
      obtain ⟨at_11, t_12⟩ := x_13
      have H_39 : subset_Subset_Count.l0 K s_1 (k_13 + 1) at_11 t_12 = some r := H_38
      rw [subset_Subset_Count.l0] at H_39
      refine V_run hN hn 3 0 [1, 20, 21, 22, 23] [] ⟨[(1, .c (.val (.int .i64 at_11))), (20, .c (.imm (.slice (.pair (.int .i64) (.int .i64))) (Option.getD s_1 (([] : (List (Int × Int))), (0 : Int))).1)), (21, .c (.val (.int .i64 (((List.length (Option.getD s_1 (([] : (List (Int × Int))), (0 : Int))).1) : Nat) : Int)))), (22, .c (.val (.int .i64 t_12))), (23, .c (.val (.bool (decide (t_12 < (((List.length (Option.getD s_1 (([] : (List (Int × Int))), (0 : Int))).1) : Nat) : Int))))))], [], 0⟩ [] (by kernel_rfl) rfl rfl ap0 ?_
      refine VL_cond ((decide (t_12 < (((List.length (Option.getD s_1 (([] : (List (Int × Int))), (0 : Int))).1) : Nat) : Int)))) (by kernel_rfl) ?_ ?_
      · intro b_15; have H_40 := of_t H_39 b_15
        refine V_run hN hn 2 0 [1, 20, 21, 22, 23] [] ⟨[(1, .c (.val (.int .i64 at_11))), (20, .c (.imm (.slice (.pair (.int .i64) (.int .i64))) (Option.getD s_1 (([] : (List (Int × Int))), (0 : Int))).1)), (21, .c (.val (.int .i64 (((List.length (Option.getD s_1 (([] : (List (Int × Int))), (0 : Int))).1) : Nat) : Int)))), (22, .c (.val (.int .i64 t_12))), (23, .c (.val (.bool (decide (t_12 < (((List.length (Option.getD s_1 (([] : (List (Int × Int))), (0 : Int))).1) : Nat) : Int))))))], [], 0⟩ [] (by kernel_rfl) rfl rfl ap0 ?_
        refine VL_block ?_
        obtain ⟨c_17, H_42⟩ := of_if H_40
        refine V_run hN hn 5 0 [1, 6, 20, 21, 22, 29] [0] ⟨[(1, .c (.val (.int .i64 at_11))), (6, .c (.h 0)), (20, .c (.imm (.slice (.pair (.int .i64) (.int .i64))) (Option.getD s_1 (([] : (List (Int × Int))), (0 : Int))).1)), (21, .c (.val (.int .i64 (((List.length (Option.getD s_1 (([] : (List (Int × Int))), (0 : Int))).1) : Nat) : Int)))), (22, .c (.val (.int .i64 t_12))), (29, .c (.val (.bool (decide (at_11 < (List.getD (Option.getD s_1 (([] : (List (Int × Int))), (0 : Int))).1 (Int.toNat t_12) ((0 : Int), (0 : Int))).1)))))], [(0, .box [.val (.int .i64 (List.getD (Option.getD s_1 (([] : (List (Int × Int))), (0 : Int))).1 (Int.toNat t_12) ((0 : Int), (0 : Int))).1), .val (.int .i64 (List.getD (Option.getD s_1 (([] : (List (Int × Int))), (0 : Int))).1 (Int.toNat t_12) ((0 : Int), (0 : Int))).2)])], 1⟩ [0 ≤ t_12, t_12 < (((List.length (Option.getD s_1 (([] : (List (Int × Int))), (0 : Int))).1) : Nat) : Int)] (by kernel_rfl) rfl rfl (ap2 c_17.1 (ap1 c_17.2)) ?_
        refine VL_cond ((decide (at_11 < (List.getD (Option.getD s_1 (([] : (List (Int × Int))), (0 : Int))).1 (Int.toNat t_12) ((0 : Int), (0 : Int))).1))) (by kernel_rfl) ?_ ?_
        · intro b_18; have H_43 := of_t H_42 b_18
          refine V_run hN hn 2 1 [4] [] ⟨[(4, .c (.val (.int .i64 (List.getD (Option.getD s_1 (([] : (List (Int × Int))), (0 : Int))).1 (Int.toNat t_12) ((0 : Int), (0 : Int))).2)))], [], 1⟩ [] (by kernel_rfl) rfl rfl ap0 ?_
          have H_45 := Option.some.inj (show some (List.getD (Option.getD s_1 (([] : (List (Int × Int))), (0 : Int))).1 (Int.toNat t_12) ((0 : Int), (0 : Int))).2 = some r from H_43); subst H_45
          refine VL_ret ?_
          refine QB_ret ?_
          refine QL_ret ?_
          refine QB_ret ?_
          exact P_to [(4, .c (.val (.int .i64 (List.getD (Option.getD s_1 (([] : (List (Int × Int))), (0 : Int))).1 (Int.toNat t_12) ((0 : Int), (0 : Int))).2)))] [] [] hn (by kernel_rfl) (by kernel_rfl) rfl rfl rfl (QF_retS (by kernel_rfl) (by kernel_rfl) rfl)
        · intro b_18; have H_44 := of_f H_42 b_18
          refine V_run hN hn 2 1 [1, 20, 21, 22] [] ⟨[(1, .c (.val (.int .i64 (IntKind.wrap .i64 (at_11 - (List.getD (Option.getD s_1 (([] : (List (Int × Int))), (0 : Int))).1 (Int.toNat t_12) ((0 : Int), (0 : Int))).1))))), (20, .c (.imm (.slice (.pair (.int .i64) (.int .i64))) (Option.getD s_1 (([] : (List (Int × Int))), (0 : Int))).1)), (21, .c (.val (.int .i64 (((List.length (Option.getD s_1 (([] : (List (Int × Int))), (0 : Int))).1) : Nat) : Int)))), (22, .c (.val (.int .i64 t_12)))], [], 1⟩ [] (by kernel_rfl) rfl rfl ap0 ?_
          refine VL_nil (QB_end ?_)
          refine V_run hN hn 1 1 [1, 20, 21, 22] [] ⟨[(1, .c (.val (.int .i64 (IntKind.wrap .i64 (at_11 - (List.getD (Option.getD s_1 (([] : (List (Int × Int))), (0 : Int))).1 (Int.toNat t_12) ((0 : Int), (0 : Int))).1))))), (20, .c (.imm (.slice (.pair (.int .i64) (.int .i64))) (Option.getD s_1 (([] : (List (Int × Int))), (0 : Int))).1)), (21, .c (.val (.int .i64 (((List.length (Option.getD s_1 (([] : (List (Int × Int))), (0 : Int))).1) : Nat) : Int)))), (22, .c (.val (.int .i64 (IntKind.wrap .i64 (t_12 + (1 : Int))))))], [], 1⟩ [] (by kernel_rfl) rfl rfl ap0 ?_
          refine VL_nil ?_
          exact V_roundEnd ((IntKind.wrap .i64 (at_11 - (List.getD (Option.getD s_1 (([] : (List (Int × Int))), (0 : Int))).1 (Int.toNat t_12) ((0 : Int), (0 : Int))).1)), (IntKind.wrap .i64 (t_12 + (1 : Int)))) H_44 [] hn (by kernel_rfl) (by kernel_rfl) rfl rfl rfl
      · intro b_15; have H_41 := of_f H_39 b_15
        refine VL_exit ?_
        refine QL_exit ?_
        refine QB_here ?_
        refine V_run hN hn 2 0 [4] [] ⟨[(4, .c (.val (.int .i64 (0 : Int))))], [], 0⟩ [] (by kernel_rfl) rfl rfl ap0 ?_
        have H_46 := Option.some.inj (show some (0 : Int) = some r from H_41); subst H_46
        refine VL_ret ?_
        exact P_to [(4, .c (.val (.int .i64 (0 : Int))))] [] [] hn (by kernel_rfl) (by kernel_rfl) rfl rfl rfl (QF_retS (by kernel_rfl) (by kernel_rfl) rfl)

theorem palinodelaw8_is_gr_spec (K : Nat) (s_1 : (Option ((List (Int × Int)) × Int))) (l_2 : (List Int)) (r : Bool) (H : palinodelaw8_is_gr K s_1 l_2 = some r) : Spec Try.prog 26 1 [.c (.imm (.opt (.pair (.slice (.pair (.int .i64) (.int .i64))) (.int .i64))) s_1), .c (.h 0)] [(0, .row (.int .i64) l_2)] (.c (.val (.bool r))) [(0, .row (.int .i64) l_2)] := by
  refine Spec_mk (fn := Try.f26) (c := (Try.f26.body).get!) Try.func26 (by kernel_rfl) rfl ?_
  intro C hN hn
  replace hN : C.N = 29 := hN
  unfold palinodelaw8_is_gr at H
  refine V_run hN hn 4 1 [0, 1] [0] ⟨[(0, .c (.imm (.opt (.pair (.slice (.pair (.int .i64) (.int .i64))) (.int .i64))) s_1)), (1, .c (.h 0))], [(0, .row (.int .i64) l_2)], 1⟩ [] (by kernel_rfl) rfl rfl ap0 ?_
  obtain ⟨q_29, H_30, H_31⟩ := of_bind H
  refine V_cut (Y := Bool) (R := Bool) q_29 (fun y => y) (fun y => [(0, .c (.imm (.opt (.pair (.slice (.pair (.int .i64) (.int .i64))) (.int .i64))) s_1)), (1, .c (.h 0)), (14, .c (.val (.bool y)))]) (fun y => [(0, .row (.int .i64) l_2)]) ?_ ?_
  · skip
    rcases Bool.eq_false_or_eq_true ((Option.isNone s_1)) with b_4 | b_4
    · have H_33 := of_t H_30 b_4
      refine V_reg hN hn [] [(8, true)] calls_nil 1 [0, 1, 14] [0] ⟨[(0, .c (.imm (.opt (.pair (.slice (.pair (.int .i64) (.int .i64))) (.int .i64))) s_1)), (1, .c (.h 0)), (14, .c (.val (.bool true)))], [(0, .row (.int .i64) l_2)], 1⟩ [(Option.isNone s_1) = true] (by kernel_rfl) rfl rfl (ap1 b_4) (by kernel_rfl) (by kernel_rfl) ?_
      have H_35 := Option.some.inj (show some true = some q_29 from H_33); subst H_35
      refine VL_nil ?_
      exact QP_end true rfl [] hn (by kernel_rfl) (by kernel_rfl) rfl rfl rfl
    · have H_34 := of_f H_30 b_4
      obtain ⟨r_6, h_7, H_36⟩ := of_bind H_34
      refine V_reg hN hn [(4, ⟨33, 0, [.c (.imm (.opt (.pair (.slice (.pair (.int .i64) (.int .i64))) (.int .i64))) s_1)], [], .c (.val (.int .i64 r_6)), [], [], 1⟩)] [(8, false)] (calls_cons (subset_Subset_Len_spec K s_1 r_6 h_7) (by kernel_rfl) calls_nil) 1 [0, 1, 14] [0] ⟨[(0, .c (.imm (.opt (.pair (.slice (.pair (.int .i64) (.int .i64))) (.int .i64))) s_1)), (1, .c (.h 0)), (14, .c (.val (.bool (r_6 != (((List.length l_2) : Nat) : Int)))))], [(0, .row (.int .i64) l_2)], 1⟩ [(Option.isNone s_1) = false] (by kernel_rfl) rfl rfl (ap1 b_4) (by kernel_rfl) (by kernel_rfl) ?_
      have H_37 := Option.some.inj (show some (r_6 != (((List.length l_2) : Nat) : Int)) = some q_29 from H_36); subst H_37
      refine VL_nil ?_
      exact QP_end (r_6 != (((List.length l_2) : Nat) : Int)) rfl [] hn (by kernel_rfl) (by kernel_rfl) rfl rfl rfl
  · intro y_32 hy; subst hy
    skip
    skip
    refine VL_cond (y_32) (by kernel_rfl) ?_ ?_
    · intro b_10; have H_38 := of_t H_31 b_10
      refine V_run hN hn 2 1 [4] [0] ⟨[(4, .c (.val (.bool false)))], [(0, .row (.int .i64) l_2)], 1⟩ [] (by kernel_rfl) rfl rfl ap0 ?_
      have H_40 := Option.some.inj (show some false = some r from H_38); subst H_40
      refine VL_ret ?_
      exact P_to [(4, .c (.val (.bool false)))] [(0, .row (.int .i64) l_2)] [] hn (by kernel_rfl) (by kernel_rfl) rfl rfl rfl (QF_retS (by kernel_rfl) (by kernel_rfl) rfl)
    · intro b_10; have H_39 := of_f H_31 b_10
      refine V_run hN hn 4 1 [0, 1, 5] [0] ⟨[(0, .c (.imm (.opt (.pair (.slice (.pair (.int .i64) (.int .i64))) (.int .i64))) s_1)), (1, .c (.h 0)), (5, .c (.val (.int .i64 (0 : Int))))], [(0, .row (.int .i64) l_2)], 1⟩ [] (by kernel_rfl) rfl rfl ap0 ?_
      refine VL_block ?_
      refine V_to [(0, .c (.imm (.opt (.pair (.slice (.pair (.int .i64) (.int .i64))) (.int .i64))) s_1)), (1, .c (.h 0)), (5, .c (.val (.int .i64 (0 : Int))))] [(0, .row (.int .i64) l_2)] [] hn (by kernel_rfl) (by kernel_rfl) rfl rfl rfl ?_
      refine VL_loop (X := Int) (fun x => [(0, .c (.imm (.opt (.pair (.slice (.pair (.int .i64) (.int .i64))) (.int .i64))) s_1)), (1, .c (.h 0)), (5, .c (.val (.int .i64 x)))]) (fun x => [(0, .row (.int .i64) l_2)]) (fun k x => palinodelaw8_is_gr.l0 K l_2 s_1 k x = some r) K (0 : Int) H_39 (fun _ h => no_none h) ?_
      intro k_14 i_13 H_41
      have H_42 : palinodelaw8_is_gr.l0 K l_2 s_1 (k_14 + 1) i_13 = some r := H_41
      rw [palinodelaw8_is_gr.l0] at H_42
      refine V_run hN hn 3 1 [0, 1, 5, 18] [0] ⟨[(0, .c (.imm (.opt (.pair (.slice (.pair (.int .i64) (.int .i64))) (.int .i64))) s_1)), (1, .c (.h 0)), (5, .c (.val (.int .i64 i_13))), (18, .c (.val (.bool (decide (i_13 < (((List.length l_2) : Nat) : Int))))))], [(0, .row (.int .i64) l_2)], 1⟩ [] (by kernel_rfl) rfl rfl ap0 ?_
      refine VL_cond ((decide (i_13 < (((List.length l_2) : Nat) : Int)))) (by kernel_rfl) ?_ ?_
      · intro b_16; have H_43 := of_t H_42 b_16
        refine V_run hN hn 2 1 [0, 1, 5, 18] [0] ⟨[(0, .c (.imm (.opt (.pair (.slice (.pair (.int .i64) (.int .i64))) (.int .i64))) s_1)), (1, .c (.h 0)), (5, .c (.val (.int .i64 i_13))), (18, .c (.val (.bool (decide (i_13 < (((List.length l_2) : Nat) : Int))))))], [(0, .row (.int .i64) l_2)], 1⟩ [] (by kernel_rfl) rfl rfl ap0 ?_
        refine VL_block ?_
        refine V_run hN hn 1 1 [0, 1, 5, 18] [0] ⟨[(0, .c (.imm (.opt (.pair (.slice (.pair (.int .i64) (.int .i64))) (.int .i64))) s_1)), (1, .c (.h 0)), (5, .c (.val (.int .i64 i_13))), (18, .c (.val (.bool (decide (i_13 < (((List.length l_2) : Nat) : Int))))))], [(0, .row (.int .i64) l_2)], 1⟩ [] (by kernel_rfl) rfl rfl ap0 ?_
        obtain ⟨r_19, h_20, H_45⟩ := of_bind H_43
        obtain ⟨c_21, H_46⟩ := of_if H_45
        refine V_draw hN hn (by kernel_rfl) [(2, ⟨49, 0, [.c (.imm (.opt (.pair (.slice (.pair (.int .i64) (.int .i64))) (.int .i64))) s_1), .c (.val (.int .i64 i_13))], [], .c (.val (.int .i64 r_19)), [], [], 1⟩)] [] (calls_cons (subset_Subset_Count_spec K s_1 i_13 r_19 h_20) (by kernel_rfl) calls_nil) 1 [0, 1, 5, 28] [0] ⟨[(0, .c (.imm (.opt (.pair (.slice (.pair (.int .i64) (.int .i64))) (.int .i64))) s_1)), (1, .c (.h 0)), (5, .c (.val (.int .i64 i_13))), (28, .c (.val (.bool (r_19 != (List.getD l_2 (Int.toNat i_13) (0 : Int))))))], [(0, .row (.int .i64) l_2)], 1⟩ [0 ≤ i_13, i_13 < (((List.length l_2) : Nat) : Int)] (by kernel_rfl) rfl rfl (ap2 c_21.1 (ap1 c_21.2)) (by kernel_rfl) (by kernel_rfl) ?_
        refine VL_cond ((r_19 != (List.getD l_2 (Int.toNat i_13) (0 : Int)))) (by kernel_rfl) ?_ ?_
        · intro b_22; have H_47 := of_t H_46 b_22
          refine V_run hN hn 2 1 [4] [0] ⟨[(4, .c (.val (.bool false)))], [(0, .row (.int .i64) l_2)], 1⟩ [] (by kernel_rfl) rfl rfl ap0 ?_
          have H_49 := Option.some.inj (show some false = some r from H_47); subst H_49
          refine VL_ret ?_
          refine QB_ret ?_
          refine QL_ret ?_
          refine QB_ret ?_
          exact P_to [(4, .c (.val (.bool false)))] [(0, .row (.int .i64) l_2)] [] hn (by kernel_rfl) (by kernel_rfl) rfl rfl rfl (QF_retS (by kernel_rfl) (by kernel_rfl) rfl)
        · intro b_22; have H_48 := of_f H_46 b_22
          refine V_run hN hn 1 1 [0, 1, 5, 28] [0] ⟨[(0, .c (.imm (.opt (.pair (.slice (.pair (.int .i64) (.int .i64))) (.int .i64))) s_1)), (1, .c (.h 0)), (5, .c (.val (.int .i64 i_13))), (28, .c (.val (.bool (r_19 != (List.getD l_2 (Int.toNat i_13) (0 : Int))))))], [(0, .row (.int .i64) l_2)], 1⟩ [] (by kernel_rfl) rfl rfl ap0 ?_
          refine VL_nil (QB_end ?_)
          refine V_run hN hn 1 1 [0, 1, 5] [0] ⟨[(0, .c (.imm (.opt (.pair (.slice (.pair (.int .i64) (.int .i64))) (.int .i64))) s_1)), (1, .c (.h 0)), (5, .c (.val (.int .i64 (IntKind.wrap .i64 (i_13 + (1 : Int))))))], [(0, .row (.int .i64) l_2)], 1⟩ [] (by kernel_rfl) rfl rfl ap0 ?_
          refine VL_nil ?_
          exact V_roundEnd (IntKind.wrap .i64 (i_13 + (1 : Int))) H_48 [] hn (by kernel_rfl) (by kernel_rfl) rfl rfl rfl
      · intro b_16; have H_44 := of_f H_42 b_16
        refine VL_exit ?_
        refine QL_exit ?_
        refine QB_here ?_
        refine V_run hN hn 2 1 [4] [0] ⟨[(4, .c (.val (.bool true)))], [(0, .row (.int .i64) l_2)], 1⟩ [] (by kernel_rfl) rfl rfl ap0 ?_
        have H_50 := Option.some.inj (show some true = some r from H_44); subst H_50
        refine VL_ret ?_
        exact P_to [(4, .c (.val (.bool true)))] [(0, .row (.int .i64) l_2)] [] hn (by kernel_rfl) (by kernel_rfl) rfl rfl rfl (QF_retS (by kernel_rfl) (by kernel_rfl) rfl)

theorem palinodelaw8_known_spec (K : Nat) (r : Bool) (H : palinodelaw8_known K  = some r) : Spec Try.prog 10 0 [] [] (.c (.val (.bool r))) [] := by
  refine Spec_mk (fn := Try.f10) (c := (Try.f10.body).get!) Try.func10 (by kernel_rfl) rfl ?_
  intro C hN hn
  replace hN : C.N = 57 := hN
  unfold palinodelaw8_known at H
  refine V_run hN hn 3 0 [] [] ⟨[], [], 0⟩ [] (by kernel_rfl) rfl rfl ap0 ?_
  obtain ⟨r_2, h_3, H_40⟩ := of_bind H
  obtain ⟨r_4, h_5, H_41⟩ := of_bind H_40
  refine V_reg hN hn [(1, ⟨11, 1, [.c (.h 0)], [(0, .row (.int .i64) ([(0 : Int), (1 : Int), (0 : Int)] : List Int))], .c (.imm (.opt (.pair (.slice (.pair (.int .i64) (.int .i64))) (.int .i64))) r_2), [(0, .row (.int .i64) ([(0 : Int), (1 : Int), (0 : Int)] : List Int))], [(0, 0)], 1⟩), (3, ⟨11, 1, [.c (.h 0)], [(0, .row (.int .i64) ([(1 : Int), (1 : Int)] : List Int))], .c (.imm (.opt (.pair (.slice (.pair (.int .i64) (.int .i64))) (.int .i64))) r_4), [(0, .row (.int .i64) ([(1 : Int), (1 : Int)] : List Int))], [(0, 1)], 2⟩)] [] (calls_cons (palinodelaw8_made_r_spec K ([(0 : Int), (1 : Int), (0 : Int)] : List Int) r_2 h_3) (by kernel_rfl) (calls_cons (palinodelaw8_made_r_spec K ([(1 : Int), (1 : Int)] : List Int) r_4 h_5) (by kernel_rfl) calls_nil)) 0 [1, 2] [] ⟨[(1, .c (.imm (.opt (.pair (.slice (.pair (.int .i64) (.int .i64))) (.int .i64))) r_2)), (2, .c (.imm (.opt (.pair (.slice (.pair (.int .i64) (.int .i64))) (.int .i64))) r_4))], [], 2⟩ [] (by kernel_rfl) rfl rfl ap0 (by kernel_rfl) (by kernel_rfl) ?_
  refine V_run hN hn 1 2 [1, 2] [] ⟨[(1, .c (.imm (.opt (.pair (.slice (.pair (.int .i64) (.int .i64))) (.int .i64))) r_2)), (2, .c (.imm (.opt (.pair (.slice (.pair (.int .i64) (.int .i64))) (.int .i64))) r_4))], [], 2⟩ [] (by kernel_rfl) rfl rfl ap0 ?_
  obtain ⟨r_8, h_9, H_42⟩ := of_bind H_41
  refine V_reg hN hn [(2, ⟨21, 0, [.c (.imm (.opt (.pair (.slice (.pair (.int .i64) (.int .i64))) (.int .i64))) r_4), .c (.imm (.opt (.pair (.slice (.pair (.int .i64) (.int .i64))) (.int .i64))) r_2)], [], .tup [(false, [.imm (.opt (.pair (.slice (.pair (.int .i64) (.int .i64))) (.int .i64))) r_8.1]), (false, [.val (.int .i64 r_8.2)])], [], [], 2⟩)] [] (calls_cons (algebra_Expand_spec K r_4 r_2 r_8 h_9) (by kernel_rfl) calls_nil) 2 [1, 2, 3, 4] [] ⟨[(1, .c (.imm (.opt (.pair (.slice (.pair (.int .i64) (.int .i64))) (.int .i64))) r_2)), (2, .c (.imm (.opt (.pair (.slice (.pair (.int .i64) (.int .i64))) (.int .i64))) r_4)), (3, .c (.imm (.opt (.pair (.slice (.pair (.int .i64) (.int .i64))) (.int .i64))) r_8.1)), (4, .c (.val (.int .i64 r_8.2)))], [], 2⟩ [] (by kernel_rfl) rfl rfl ap0 (by kernel_rfl) (by kernel_rfl) ?_
  refine V_run hN hn 1 2 [1, 2, 3, 4] [] ⟨[(1, .c (.imm (.opt (.pair (.slice (.pair (.int .i64) (.int .i64))) (.int .i64))) r_2)), (2, .c (.imm (.opt (.pair (.slice (.pair (.int .i64) (.int .i64))) (.int .i64))) r_4)), (3, .c (.imm (.opt (.pair (.slice (.pair (.int .i64) (.int .i64))) (.int .i64))) r_8.1)), (4, .c (.val (.int .i64 r_8.2)))], [], 2⟩ [] (by kernel_rfl) rfl rfl ap0 ?_
  obtain ⟨r_12, h_13, H_43⟩ := of_bind H_42
  refine V_reg hN hn [(2, ⟨16, 0, [.c (.imm (.opt (.pair (.slice (.pair (.int .i64) (.int .i64))) (.int .i64))) r_2), .c (.imm (.opt (.pair (.slice (.pair (.int .i64) (.int .i64))) (.int .i64))) r_4)], [], .tup [(false, [.imm (.opt (.pair (.slice (.pair (.int .i64) (.int .i64))) (.int .i64))) r_12.1]), (false, [.val (.int .i64 r_12.2)])], [], [], 2⟩)] [] (calls_cons (algebra_Union_spec K r_2 r_4 r_12 h_13) (by kernel_rfl) calls_nil) 2 [1, 3, 4, 6] [] ⟨[(1, .c (.imm (.opt (.pair (.slice (.pair (.int .i64) (.int .i64))) (.int .i64))) r_2)), (3, .c (.imm (.opt (.pair (.slice (.pair (.int .i64) (.int .i64))) (.int .i64))) r_8.1)), (4, .c (.val (.int .i64 r_8.2))), (6, .c (.val (.int .i64 r_12.2)))], [], 2⟩ [] (by kernel_rfl) rfl rfl ap0 (by kernel_rfl) (by kernel_rfl) ?_
  refine V_run hN hn 1 2 [1, 3, 4, 6] [] ⟨[(1, .c (.imm (.opt (.pair (.slice (.pair (.int .i64) (.int .i64))) (.int .i64))) r_2)), (3, .c (.imm (.opt (.pair (.slice (.pair (.int .i64) (.int .i64))) (.int .i64))) r_8.1)), (4, .c (.val (.int .i64 r_8.2))), (6, .c (.val (.int .i64 r_12.2)))], [], 2⟩ [] (by kernel_rfl) rfl rfl ap0 ?_
  obtain ⟨r_16, h_17, H_44⟩ := of_bind H_43
  refine V_reg hN hn [(1, ⟨12, 0, [.c (.imm (.opt (.pair (.slice (.pair (.int .i64) (.int .i64))) (.int .i64))) r_2), .c (.val (.string (ByteArray.mk #[120, 121, 122])))], [], .tup [(false, [.val (.string r_16.1)]), (false, [.val (.int .i64 r_16.2)])], [], [], 2⟩)] [] (calls_cons (algebra_Delete_spec K r_2 (ByteArray.mk #[120, 121, 122]) r_16 h_17) (by kernel_rfl) calls_nil) 2 [1, 3, 4, 6, 7, 8] [] ⟨[(1, .c (.imm (.opt (.pair (.slice (.pair (.int .i64) (.int .i64))) (.int .i64))) r_2)), (3, .c (.imm (.opt (.pair (.slice (.pair (.int .i64) (.int .i64))) (.int .i64))) r_8.1)), (4, .c (.val (.int .i64 r_8.2))), (6, .c (.val (.int .i64 r_12.2))), (7, .c (.val (.string r_16.1))), (8, .c (.val (.int .i64 r_16.2)))], [], 2⟩ [] (by kernel_rfl) rfl rfl ap0 (by kernel_rfl) (by kernel_rfl) ?_
  refine V_run hN hn 1 2 [1, 3, 4, 6, 7, 8] [] ⟨[(1, .c (.imm (.opt (.pair (.slice (.pair (.int .i64) (.int .i64))) (.int .i64))) r_2)), (3, .c (.imm (.opt (.pair (.slice (.pair (.int .i64) (.int .i64))) (.int .i64))) r_8.1)), (4, .c (.val (.int .i64 r_8.2))), (6, .c (.val (.int .i64 r_12.2))), (7, .c (.val (.string r_16.1))), (8, .c (.val (.int .i64 r_16.2)))], [], 2⟩ [] (by kernel_rfl) rfl rfl ap0 ?_
  obtain ⟨r_20, h_21, H_45⟩ := of_bind H_44
  refine V_reg hN hn [(1, ⟨13, 0, [.c (.imm (.opt (.pair (.slice (.pair (.int .i64) (.int .i64))) (.int .i64))) r_2)], [], .c (.imm (.opt (.pair (.slice (.pair (.int .i64) (.int .i64))) (.int .i64))) r_20), [], [], 2⟩)] [] (calls_cons (algebra_Not_spec K r_2 r_20 h_21) (by kernel_rfl) calls_nil) 2 [3, 4, 6, 7, 8, 9] [] ⟨[(3, .c (.imm (.opt (.pair (.slice (.pair (.int .i64) (.int .i64))) (.int .i64))) r_8.1)), (4, .c (.val (.int .i64 r_8.2))), (6, .c (.val (.int .i64 r_12.2))), (7, .c (.val (.string r_16.1))), (8, .c (.val (.int .i64 r_16.2))), (9, .c (.imm (.opt (.pair (.slice (.pair (.int .i64) (.int .i64))) (.int .i64))) r_20))], [], 2⟩ [] (by kernel_rfl) rfl rfl ap0 (by kernel_rfl) (by kernel_rfl) ?_
  refine V_run hN hn 1 2 [3, 4, 6, 7, 8, 9] [] ⟨[(3, .c (.imm (.opt (.pair (.slice (.pair (.int .i64) (.int .i64))) (.int .i64))) r_8.1)), (4, .c (.val (.int .i64 r_8.2))), (6, .c (.val (.int .i64 r_12.2))), (7, .c (.val (.string r_16.1))), (8, .c (.val (.int .i64 r_16.2))), (9, .c (.imm (.opt (.pair (.slice (.pair (.int .i64) (.int .i64))) (.int .i64))) r_20))], [], 2⟩ [] (by kernel_rfl) rfl rfl ap0 ?_
  rcases Bool.eq_false_or_eq_true ((r_8.2 == (0 : Int))) with b_24 | b_24
  · have H_46 := of_t H_45 b_24
    obtain ⟨r_25, h_26, H_48⟩ := of_bind H_46
    rcases Bool.eq_false_or_eq_true (r_25) with b_27 | b_27
    · have H_49 := of_t H_48 b_27
      rcases Bool.eq_false_or_eq_true ((r_12.2 == (80 : Int))) with b_28 | b_28
      · have H_51 := of_t H_49 b_28
        rcases Bool.eq_false_or_eq_true ((r_16.2 == (0 : Int))) with b_29 | b_29
        · have H_53 := of_t H_51 b_29
          rcases Bool.eq_false_or_eq_true ((ByteArray.toList r_16.1 == ByteArray.toList (ByteArray.mk #[120, 122]))) with b_30 | b_30
          · have H_55 := of_t H_53 b_30
            obtain ⟨r_31, h_32, H_57⟩ := of_bind H_55
            refine V_reg hN hn [(5, ⟨26, 1, [.c (.imm (.opt (.pair (.slice (.pair (.int .i64) (.int .i64))) (.int .i64))) r_8.1), .c (.h 0)], [(0, .row (.int .i64) ([(1 : Int), (0 : Int), (1 : Int)] : List Int))], .c (.val (.bool r_25)), [(0, .row (.int .i64) ([(1 : Int), (0 : Int), (1 : Int)] : List Int))], [(0, 2)], 3⟩), (22, ⟨26, 1, [.c (.imm (.opt (.pair (.slice (.pair (.int .i64) (.int .i64))) (.int .i64))) r_20), .c (.h 0)], [(0, .row (.int .i64) ([(1 : Int), (0 : Int), (1 : Int)] : List Int))], .c (.val (.bool r_31)), [(0, .row (.int .i64) ([(1 : Int), (0 : Int), (1 : Int)] : List Int))], [(0, 3)], 4⟩)] [(35, true), (40, true), (44, true), (48, true), (52, true)] (calls_cons (palinodelaw8_is_gr_spec K r_8.1 ([(1 : Int), (0 : Int), (1 : Int)] : List Int) r_25 h_26) (by kernel_rfl) (calls_cons (palinodelaw8_is_gr_spec K r_20 ([(1 : Int), (0 : Int), (1 : Int)] : List Int) r_31 h_32) (by kernel_rfl) calls_nil)) 2 [0] [] ⟨[(0, .c (.val (.bool r_31)))], [], 4⟩ [(r_8.2 == (0 : Int)) = true, r_25 = true, (r_12.2 == (80 : Int)) = true, (r_16.2 == (0 : Int)) = true, (ByteArray.toList r_16.1 == ByteArray.toList (ByteArray.mk #[120, 122])) = true] (by kernel_rfl) rfl rfl (ap2 b_24 (ap2 b_27 (ap2 b_28 (ap2 b_29 (ap1 b_30))))) (by kernel_rfl) (by kernel_rfl) ?_
            have H_58 := Option.some.inj (show some r_31 = some r from H_57); subst H_58
            refine VL_ret ?_
            exact P_to [(0, .c (.val (.bool r_31)))] [] [] hn (by kernel_rfl) (by kernel_rfl) rfl rfl rfl (QF_retS (by kernel_rfl) (by kernel_rfl) rfl)
          · have H_56 := of_f H_53 b_30
            refine V_reg hN hn [(5, ⟨26, 1, [.c (.imm (.opt (.pair (.slice (.pair (.int .i64) (.int .i64))) (.int .i64))) r_8.1), .c (.h 0)], [(0, .row (.int .i64) ([(1 : Int), (0 : Int), (1 : Int)] : List Int))], .c (.val (.bool r_25)), [(0, .row (.int .i64) ([(1 : Int), (0 : Int), (1 : Int)] : List Int))], [(0, 2)], 3⟩)] [(35, true), (40, true), (44, true), (48, true), (52, false)] (calls_cons (palinodelaw8_is_gr_spec K r_8.1 ([(1 : Int), (0 : Int), (1 : Int)] : List Int) r_25 h_26) (by kernel_rfl) calls_nil) 2 [0] [] ⟨[(0, .c (.val (.bool false)))], [], 3⟩ [(r_8.2 == (0 : Int)) = true, r_25 = true, (r_12.2 == (80 : Int)) = true, (r_16.2 == (0 : Int)) = true, (ByteArray.toList r_16.1 == ByteArray.toList (ByteArray.mk #[120, 122])) = false] (by kernel_rfl) rfl rfl (ap2 b_24 (ap2 b_27 (ap2 b_28 (ap2 b_29 (ap1 b_30))))) (by kernel_rfl) (by kernel_rfl) ?_
            have H_59 := Option.some.inj (show some false = some r from H_56); subst H_59
            refine VL_ret ?_
            exact P_to [(0, .c (.val (.bool false)))] [] [] hn (by kernel_rfl) (by kernel_rfl) rfl rfl rfl (QF_retS (by kernel_rfl) (by kernel_rfl) rfl)
        · have H_54 := of_f H_51 b_29
          refine V_reg hN hn [(5, ⟨26, 1, [.c (.imm (.opt (.pair (.slice (.pair (.int .i64) (.int .i64))) (.int .i64))) r_8.1), .c (.h 0)], [(0, .row (.int .i64) ([(1 : Int), (0 : Int), (1 : Int)] : List Int))], .c (.val (.bool r_25)), [(0, .row (.int .i64) ([(1 : Int), (0 : Int), (1 : Int)] : List Int))], [(0, 2)], 3⟩)] [(35, true), (40, true), (44, true), (48, false)] (calls_cons (palinodelaw8_is_gr_spec K r_8.1 ([(1 : Int), (0 : Int), (1 : Int)] : List Int) r_25 h_26) (by kernel_rfl) calls_nil) 2 [0] [] ⟨[(0, .c (.val (.bool false)))], [], 3⟩ [(r_8.2 == (0 : Int)) = true, r_25 = true, (r_12.2 == (80 : Int)) = true, (r_16.2 == (0 : Int)) = false] (by kernel_rfl) rfl rfl (ap2 b_24 (ap2 b_27 (ap2 b_28 (ap1 b_29)))) (by kernel_rfl) (by kernel_rfl) ?_
          have H_60 := Option.some.inj (show some false = some r from H_54); subst H_60
          refine VL_ret ?_
          exact P_to [(0, .c (.val (.bool false)))] [] [] hn (by kernel_rfl) (by kernel_rfl) rfl rfl rfl (QF_retS (by kernel_rfl) (by kernel_rfl) rfl)
      · have H_52 := of_f H_49 b_28
        refine V_reg hN hn [(5, ⟨26, 1, [.c (.imm (.opt (.pair (.slice (.pair (.int .i64) (.int .i64))) (.int .i64))) r_8.1), .c (.h 0)], [(0, .row (.int .i64) ([(1 : Int), (0 : Int), (1 : Int)] : List Int))], .c (.val (.bool r_25)), [(0, .row (.int .i64) ([(1 : Int), (0 : Int), (1 : Int)] : List Int))], [(0, 2)], 3⟩)] [(35, true), (40, true), (44, false)] (calls_cons (palinodelaw8_is_gr_spec K r_8.1 ([(1 : Int), (0 : Int), (1 : Int)] : List Int) r_25 h_26) (by kernel_rfl) calls_nil) 2 [0] [] ⟨[(0, .c (.val (.bool false)))], [], 3⟩ [(r_8.2 == (0 : Int)) = true, r_25 = true, (r_12.2 == (80 : Int)) = false] (by kernel_rfl) rfl rfl (ap2 b_24 (ap2 b_27 (ap1 b_28))) (by kernel_rfl) (by kernel_rfl) ?_
        have H_61 := Option.some.inj (show some false = some r from H_52); subst H_61
        refine VL_ret ?_
        exact P_to [(0, .c (.val (.bool false)))] [] [] hn (by kernel_rfl) (by kernel_rfl) rfl rfl rfl (QF_retS (by kernel_rfl) (by kernel_rfl) rfl)
    · have H_50 := of_f H_48 b_27
      refine V_reg hN hn [(5, ⟨26, 1, [.c (.imm (.opt (.pair (.slice (.pair (.int .i64) (.int .i64))) (.int .i64))) r_8.1), .c (.h 0)], [(0, .row (.int .i64) ([(1 : Int), (0 : Int), (1 : Int)] : List Int))], .c (.val (.bool r_25)), [(0, .row (.int .i64) ([(1 : Int), (0 : Int), (1 : Int)] : List Int))], [(0, 2)], 3⟩)] [(35, true), (40, false)] (calls_cons (palinodelaw8_is_gr_spec K r_8.1 ([(1 : Int), (0 : Int), (1 : Int)] : List Int) r_25 h_26) (by kernel_rfl) calls_nil) 2 [0] [] ⟨[(0, .c (.val (.bool false)))], [], 3⟩ [(r_8.2 == (0 : Int)) = true, r_25 = false] (by kernel_rfl) rfl rfl (ap2 b_24 (ap1 b_27)) (by kernel_rfl) (by kernel_rfl) ?_
      have H_62 := Option.some.inj (show some false = some r from H_50); subst H_62
      refine VL_ret ?_
      exact P_to [(0, .c (.val (.bool false)))] [] [] hn (by kernel_rfl) (by kernel_rfl) rfl rfl rfl (QF_retS (by kernel_rfl) (by kernel_rfl) rfl)
  · have H_47 := of_f H_45 b_24
    refine V_reg hN hn [] [(35, false)] calls_nil 2 [0] [] ⟨[(0, .c (.val (.bool false)))], [], 2⟩ [(r_8.2 == (0 : Int)) = false] (by kernel_rfl) rfl rfl (ap1 b_24) (by kernel_rfl) (by kernel_rfl) ?_
    have H_63 := Option.some.inj (show some false = some r from H_47); subst H_63
    refine VL_ret ?_
    exact P_to [(0, .c (.val (.bool false)))] [] [] hn (by kernel_rfl) (by kernel_rfl) rfl rfl rfl (QF_retS (by kernel_rfl) (by kernel_rfl) rfl)

theorem algebra_Shrink_1_gggb_41c60_spec (K : Nat) (n_1 : Int) (x_2 : Int) (y_3 : Int) (p_4 : (List (Int × Int))) (r : (List (Int × Int))) (H : algebra_Shrink_1_gggb_41c60 K n_1 x_2 y_3 p_4 = some r) : Spec Try.prog 48 2 [.c (.val (.int .i64 n_1)), .c (.val (.int .i64 x_2)), .c (.val (.int .i64 y_3)), .c (.h 0)] [(0, .box [.h 1]), (1, .row (.pair (.int .i64) (.int .i64)) p_4)] (.tup []) [(0, .box [.h 4]), (4, .row (.pair (.int .i64) (.int .i64)) r)] := by
  refine Spec_mk (fn := Try.f48) (c := (Try.f48.body).get!) Try.func48 (by kernel_rfl) rfl ?_
  intro C hN hn
  replace hN : C.N = 15 := hN
  unfold algebra_Shrink_1_gggb_41c60 at H
  refine V_run hN hn 2 2 [0, 1, 3, 8] [0, 1] ⟨[(0, .c (.val (.int .i64 n_1))), (1, .c (.val (.int .i64 x_2))), (3, .c (.h 0)), (8, .c (.val (.bool (y_3 == (0 : Int)))))], [(0, .box [.h 1]), (1, .row (.pair (.int .i64) (.int .i64)) p_4)], 2⟩ [] (by kernel_rfl) rfl rfl ap0 ?_
  refine VL_cond ((y_3 == (0 : Int))) (by kernel_rfl) ?_ ?_
  · intro b_6; have H_10 := of_t H b_6
    obtain ⟨c_7, H_12⟩ := of_if H_10
    refine V_run hN hn 1 2 [] [0, 3] ⟨[], [(0, .box [.h 3]), (3, .row (.pair (.int .i64) (.int .i64)) (p_4 ++ ([(n_1, x_2)] : List (Int × Int))))], 4⟩ [(List.length p_4 + List.length ([(n_1, x_2)] : List (Int × Int))) * 16 ≤ 140737488355328] (by kernel_rfl) rfl rfl (ap1 c_7) ?_
    have H_13 := Option.some.inj (show some (p_4 ++ ([(n_1, x_2)] : List (Int × Int))) = some r from H_12); subst H_13
    refine VL_nil ?_
    exact P_to [] [(0, .box [.h 4]), (4, .row (.pair (.int .i64) (.int .i64)) (p_4 ++ ([(n_1, x_2)] : List (Int × Int))))] [(4, 3)] hn (by kernel_rfl) (by kernel_rfl) rfl rfl rfl (QF_endS (by kernel_rfl) (by kernel_rfl) rfl)
  · intro b_6; have H_11 := of_f H b_6
    refine V_run hN hn 1 2 [0, 1, 3, 8] [0, 1] ⟨[(0, .c (.val (.int .i64 n_1))), (1, .c (.val (.int .i64 x_2))), (3, .c (.h 0)), (8, .c (.val (.bool (y_3 == (0 : Int)))))], [(0, .box [.h 1]), (1, .row (.pair (.int .i64) (.int .i64)) p_4)], 2⟩ [] (by kernel_rfl) rfl rfl ap0 ?_
    have H_14 := Option.some.inj (show some p_4 = some r from H_11); subst H_14
    refine VL_nil ?_
    exact P_to [] [(0, .box [.h 4]), (4, .row (.pair (.int .i64) (.int .i64)) p_4)] [(4, 1)] hn (by kernel_rfl) (by kernel_rfl) rfl rfl rfl (QF_endS (by kernel_rfl) (by kernel_rfl) rfl)

theorem algebra_both_ggcalgebraShrink1_1c107_spec (K : Nat) (a_1 : (Option ((List (Int × Int)) × Int))) (b_2 : (Option ((List (Int × Int)) × Int))) (r : (Int × (List (Int × Int)))) (H : algebra_both_ggcalgebraShrink1_1c107 K a_1 b_2 = some r) : Spec Try.prog 47 1 [.c (.imm (.opt (.pair (.slice (.pair (.int .i64) (.int .i64))) (.int .i64))) a_1), .c (.imm (.opt (.pair (.slice (.pair (.int .i64) (.int .i64))) (.int .i64))) b_2), .c (.clo 48 [0])] [(0, .box [.val (.slice none 0 0)])] (.c (.val (.int .i64 r.1))) [(0, .box [.h 8]), (8, .row (.pair (.int .i64) (.int .i64)) r.2)] := by
  refine Spec_mk (fn := Try.f47) (c := (Try.f47.body).get!) Try.func47 (by kernel_rfl) rfl ?_
  intro C hN hn
  replace hN : C.N = 53 := hN
  unfold algebra_both_ggcalgebraShrink1_1c107 at H
  refine V_run hN hn 4 1 [0, 1, 2] [0] ⟨[(0, .c (.imm (.opt (.pair (.slice (.pair (.int .i64) (.int .i64))) (.int .i64))) a_1)), (1, .c (.imm (.opt (.pair (.slice (.pair (.int .i64) (.int .i64))) (.int .i64))) b_2)), (2, .c (.clo 48 [0]))], [(0, .box [.val (.slice none 0 0)])], 1⟩ [] (by kernel_rfl) rfl rfl ap0 ?_
  obtain ⟨r_4, h_5, H_65⟩ := of_bind H
  obtain ⟨r_6, h_7, H_66⟩ := of_bind H_65
  refine V_reg hN hn [(1, ⟨35, 0, [.c (.imm (.opt (.pair (.slice (.pair (.int .i64) (.int .i64))) (.int .i64))) a_1)], [], .c (.val (.int .i64 r_4)), [], [], 1⟩), (3, ⟨35, 0, [.c (.imm (.opt (.pair (.slice (.pair (.int .i64) (.int .i64))) (.int .i64))) b_2)], [], .c (.val (.int .i64 r_6)), [], [], 1⟩)] [] (calls_cons (algebra_size_spec K a_1 r_4 h_5) (by kernel_rfl) (calls_cons (algebra_size_spec K b_2 r_6 h_7) (by kernel_rfl) calls_nil)) 1 [0, 1, 2, 14] [0] ⟨[(0, .c (.imm (.opt (.pair (.slice (.pair (.int .i64) (.int .i64))) (.int .i64))) a_1)), (1, .c (.imm (.opt (.pair (.slice (.pair (.int .i64) (.int .i64))) (.int .i64))) b_2)), (2, .c (.clo 48 [0])), (14, .c (.val (.bool (r_4 != r_6))))], [(0, .box [.val (.slice none 0 0)])], 1⟩ [] (by kernel_rfl) rfl rfl ap0 (by kernel_rfl) (by kernel_rfl) ?_
  refine VL_cond ((r_4 != r_6)) (by kernel_rfl) ?_ ?_
  · intro b_9; have H_67 := of_t H_66 b_9
    refine V_run hN hn 2 1 [6] [0] ⟨[(6, .c (.val (.int .i64 (80 : Int))))], [(0, .box [.val (.slice none 0 0)])], 1⟩ [] (by kernel_rfl) rfl rfl ap0 ?_
    have H_69 := Option.some.inj (show some ((80 : Int), ([] : List (Int × Int))) = some r from H_67); subst H_69
    refine VL_ret ?_
    refine P_ghost [.nilCell 0 0 (.pair (.int .i64) (.int .i64))] 1 hn [6] [0, 1] ⟨[(6, .c (.val (.int .i64 (80 : Int))))], [(0, .box [.h 1]), (1, .row (.pair (.int .i64) (.int .i64)) ([] : List (Int × Int)))], 2⟩ (by kernel_rfl) rfl rfl ?_
    exact P_to [(6, .c (.val (.int .i64 (80 : Int))))] [(0, .box [.h 8]), (8, .row (.pair (.int .i64) (.int .i64)) ([] : List (Int × Int)))] [(8, 1)] hn (by kernel_rfl) (by kernel_rfl) rfl rfl rfl (QF_retS (by kernel_rfl) (by kernel_rfl) rfl)
  · intro b_9; have H_68 := of_f H_66 b_9
    refine V_run hN hn 2 1 [0, 1, 2, 14] [0] ⟨[(0, .c (.imm (.opt (.pair (.slice (.pair (.int .i64) (.int .i64))) (.int .i64))) a_1)), (1, .c (.imm (.opt (.pair (.slice (.pair (.int .i64) (.int .i64))) (.int .i64))) b_2)), (2, .c (.clo 48 [0])), (14, .c (.val (.bool (r_4 != r_6))))], [(0, .box [.val (.slice none 0 0)])], 1⟩ [] (by kernel_rfl) rfl rfl ap0 ?_
    obtain ⟨r_12, h_13, H_70⟩ := of_bind H_68
    obtain ⟨r_14, h_15, H_71⟩ := of_bind H_70
    refine V_reg hN hn [(1, ⟨36, 0, [.c (.imm (.opt (.pair (.slice (.pair (.int .i64) (.int .i64))) (.int .i64))) a_1)], [], .c (.h 2), [(2, .row (.pair (.int .i64) (.int .i64)) r_12)], [(2, 1)], 2⟩), (3, ⟨36, 0, [.c (.imm (.opt (.pair (.slice (.pair (.int .i64) (.int .i64))) (.int .i64))) b_2)], [], .c (.h 2), [(2, .row (.pair (.int .i64) (.int .i64)) r_14)], [(2, 2)], 3⟩)] [] (calls_cons (algebra_segs_spec K a_1 r_12 h_13) (by kernel_rfl) (calls_cons (algebra_segs_spec K b_2 r_14 h_15) (by kernel_rfl) calls_nil)) 1 [2, 7, 8] [0, 1, 2] ⟨[(2, .c (.clo 48 [0])), (7, .c (.h 1)), (8, .c (.h 2))], [(0, .box [.val (.slice none 0 0)]), (1, .row (.pair (.int .i64) (.int .i64)) r_12), (2, .row (.pair (.int .i64) (.int .i64)) r_14)], 3⟩ [] (by kernel_rfl) rfl rfl ap0 (by kernel_rfl) (by kernel_rfl) ?_
    refine V_run hN hn 1 3 [2, 7, 8] [0, 1, 2] ⟨[(2, .c (.clo 48 [0])), (7, .c (.h 1)), (8, .c (.h 2))], [(0, .box [.val (.slice none 0 0)]), (1, .row (.pair (.int .i64) (.int .i64)) r_12), (2, .row (.pair (.int .i64) (.int .i64)) r_14)], 3⟩ [] (by kernel_rfl) rfl rfl ap0 ?_
    refine VL_block ?_
    refine V_ghost [.nilCell 0 0 (.pair (.int .i64) (.int .i64))] 3 hn [2, 7, 8] [0, 1, 2, 3] ⟨[(2, .c (.clo 48 [0])), (7, .c (.h 1)), (8, .c (.h 2))], [(0, .box [.h 3]), (1, .row (.pair (.int .i64) (.int .i64)) r_12), (2, .row (.pair (.int .i64) (.int .i64)) r_14), (3, .row (.pair (.int .i64) (.int .i64)) ([] : List (Int × Int)))], 4⟩ (by kernel_rfl) rfl rfl ?_
    refine V_to [(2, .c (.clo 48 [0])), (7, .c (.h 6)), (8, .c (.h 7))] [(0, .box [.h 3]), (3, .row (.pair (.int .i64) (.int .i64)) ([] : List (Int × Int))), (6, .row (.pair (.int .i64) (.int .i64)) r_12), (7, .row (.pair (.int .i64) (.int .i64)) r_14)] [(3, 3), (6, 1), (7, 2)] hn (by kernel_rfl) (by kernel_rfl) rfl rfl rfl ?_
    refine VL_loop (X := ((List (Int × Int)) × (List (Int × Int)) × (List (Int × Int)))) (fun x => [(2, .c (.clo 48 [0])), (7, .c (.h 6)), (8, .c (.h 7))]) (fun x => [(0, .box [.h 3]), (3, .row (.pair (.int .i64) (.int .i64)) x.1), (6, .row (.pair (.int .i64) (.int .i64)) x.2.1), (7, .row (.pair (.int .i64) (.int .i64)) x.2.2)]) (fun k x => algebra_both_ggcalgebraShrink1_1c107.l0 K k x.1 x.2.1 x.2.2 = some r) K (([] : List (Int × Int)), r_12, r_14) H_71 (fun _ h => no_none h) ?_
    intro k_41 x_41 H_72
    obtain ⟨x_38, p_39, q_40⟩ := x_41
    have H_73 : algebra_both_ggcalgebraShrink1_1c107.l0 K (k_41 + 1) x_38 p_39 q_40 = some r := H_72
    rw [algebra_both_ggcalgebraShrink1_1c107.l0] at H_73
    refine V_run hN hn 2 8 [2, 7, 8] [0, 3, 6, 7] ⟨[(2, .c (.clo 48 [0])), (7, .c (.h 6)), (8, .c (.h 7))], [(0, .box [.h 3]), (3, .row (.pair (.int .i64) (.int .i64)) x_38), (6, .row (.pair (.int .i64) (.int .i64)) p_39), (7, .row (.pair (.int .i64) (.int .i64)) q_40)], 8⟩ [] (by kernel_rfl) rfl rfl ap0 ?_
    obtain ⟨q_74, H_75, H_76⟩ := of_bind H_73
    refine V_cut (Y := Bool) (R := Bool) q_74 (fun y => y) (fun y => [(2, .c (.clo 48 [0])), (7, .c (.h 6)), (8, .c (.h 7)), (26, .c (.val (.bool y)))]) (fun y => [(0, .box [.h 3]), (3, .row (.pair (.int .i64) (.int .i64)) x_38), (6, .row (.pair (.int .i64) (.int .i64)) p_39), (7, .row (.pair (.int .i64) (.int .i64)) q_40)]) ?_ ?_
    · skip
      rcases Bool.eq_false_or_eq_true ((decide ((((List.length p_39) : Nat) : Int) > (0 : Int)))) with b_43 | b_43
      · have H_78 := of_t H_75 b_43
        refine V_reg hN hn [] [(22, true)] calls_nil 8 [2, 7, 8, 26] [0, 3, 6, 7] ⟨[(2, .c (.clo 48 [0])), (7, .c (.h 6)), (8, .c (.h 7)), (26, .c (.val (.bool (decide ((((List.length q_40) : Nat) : Int) > (0 : Int))))))], [(0, .box [.h 3]), (3, .row (.pair (.int .i64) (.int .i64)) x_38), (6, .row (.pair (.int .i64) (.int .i64)) p_39), (7, .row (.pair (.int .i64) (.int .i64)) q_40)], 8⟩ [(decide ((((List.length p_39) : Nat) : Int) > (0 : Int))) = true] (by kernel_rfl) rfl rfl (ap1 b_43) (by kernel_rfl) (by kernel_rfl) ?_
        have H_80 := Option.some.inj (show some (decide ((((List.length q_40) : Nat) : Int) > (0 : Int))) = some q_74 from H_78); subst H_80
        refine VL_nil ?_
        exact QP_end (decide ((((List.length q_40) : Nat) : Int) > (0 : Int))) rfl [(3, 3), (6, 6), (7, 7)] hn (by kernel_rfl) (by kernel_rfl) rfl rfl rfl
      · have H_79 := of_f H_75 b_43
        refine V_reg hN hn [] [(22, false)] calls_nil 8 [2, 7, 8, 26] [0, 3, 6, 7] ⟨[(2, .c (.clo 48 [0])), (7, .c (.h 6)), (8, .c (.h 7)), (26, .c (.val (.bool false)))], [(0, .box [.h 3]), (3, .row (.pair (.int .i64) (.int .i64)) x_38), (6, .row (.pair (.int .i64) (.int .i64)) p_39), (7, .row (.pair (.int .i64) (.int .i64)) q_40)], 8⟩ [(decide ((((List.length p_39) : Nat) : Int) > (0 : Int))) = false] (by kernel_rfl) rfl rfl (ap1 b_43) (by kernel_rfl) (by kernel_rfl) ?_
        have H_81 := Option.some.inj (show some false = some q_74 from H_79); subst H_81
        refine VL_nil ?_
        exact QP_end false rfl [(3, 3), (6, 6), (7, 7)] hn (by kernel_rfl) (by kernel_rfl) rfl rfl rfl
    · intro y_77 hy; subst hy
      skip
      skip
      refine VL_cond (y_77) (by kernel_rfl) ?_ ?_
      · intro b_47; have H_82 := of_t H_76 b_47
        refine V_run hN hn 1 8 [2, 7, 8, 26] [0, 3, 6, 7] ⟨[(2, .c (.clo 48 [0])), (7, .c (.h 6)), (8, .c (.h 7)), (26, .c (.val (.bool y_77)))], [(0, .box [.h 3]), (3, .row (.pair (.int .i64) (.int .i64)) x_38), (6, .row (.pair (.int .i64) (.int .i64)) p_39), (7, .row (.pair (.int .i64) (.int .i64)) q_40)], 8⟩ [] (by kernel_rfl) rfl rfl ap0 ?_
        refine VL_block ?_
        refine V_run hN hn 1 8 [2, 7, 8, 26] [0, 3, 6, 7] ⟨[(2, .c (.clo 48 [0])), (7, .c (.h 6)), (8, .c (.h 7)), (26, .c (.val (.bool y_77)))], [(0, .box [.h 3]), (3, .row (.pair (.int .i64) (.int .i64)) x_38), (6, .row (.pair (.int .i64) (.int .i64)) p_39), (7, .row (.pair (.int .i64) (.int .i64)) q_40)], 8⟩ [] (by kernel_rfl) rfl rfl ap0 ?_
        obtain ⟨c_50, H_84⟩ := of_if H_82
        refine V_draw hN hn (by kernel_rfl) [] [] calls_nil 8 [2, 7, 8, 9] [0, 3, 6, 7] ⟨[(2, .c (.clo 48 [0])), (7, .c (.h 6)), (8, .c (.h 7)), (9, .c (.val (.int .i64 (mn2 (List.getD p_39 0 ((0 : Int), (0 : Int))).1 (List.getD q_40 0 ((0 : Int), (0 : Int))).1))))], [(0, .box [.h 3]), (3, .row (.pair (.int .i64) (.int .i64)) x_38), (6, .row (.pair (.int .i64) (.int .i64)) p_39), (7, .row (.pair (.int .i64) (.int .i64)) q_40)], 8⟩ [(0 : Int) ≤ (0 : Int), (0 : Int) < (((List.length p_39) : Nat) : Int), (0 : Int) ≤ (0 : Int), (0 : Int) < (((List.length q_40) : Nat) : Int)] (by kernel_rfl) rfl rfl (ap2 (by decide) (ap2 c_50.1 (ap2 (by decide) (ap1 c_50.2)))) (by kernel_rfl) (by kernel_rfl) ?_
        refine V_run hN hn 1 8 [2, 7, 8, 9] [0, 3, 6, 7] ⟨[(2, .c (.clo 48 [0])), (7, .c (.h 6)), (8, .c (.h 7)), (9, .c (.val (.int .i64 (mn2 (List.getD p_39 0 ((0 : Int), (0 : Int))).1 (List.getD q_40 0 ((0 : Int), (0 : Int))).1))))], [(0, .box [.h 3]), (3, .row (.pair (.int .i64) (.int .i64)) x_38), (6, .row (.pair (.int .i64) (.int .i64)) p_39), (7, .row (.pair (.int .i64) (.int .i64)) q_40)], 8⟩ [] (by kernel_rfl) rfl rfl ap0 ?_
        obtain ⟨r_52, h_53, H_85⟩ := of_bind H_84
        refine V_draw hN hn (by kernel_rfl) [(10, ⟨48, 2, [.c (.val (.int .i64 (mn2 (List.getD p_39 0 ((0 : Int), (0 : Int))).1 (List.getD q_40 0 ((0 : Int), (0 : Int))).1))), .c (.val (.int .i64 (List.getD p_39 0 ((0 : Int), (0 : Int))).2)), .c (.val (.int .i64 (List.getD q_40 0 ((0 : Int), (0 : Int))).2)), .c (.h 0)], [(0, .box [.h 1]), (1, .row (.pair (.int .i64) (.int .i64)) x_38)], .tup [], [(0, .box [.h 4]), (4, .row (.pair (.int .i64) (.int .i64)) r_52)], [(0, 0), (1, 3), (4, 8)], 9⟩)] [] (calls_cons (algebra_Shrink_1_gggb_41c60_spec K (mn2 (List.getD p_39 0 ((0 : Int), (0 : Int))).1 (List.getD q_40 0 ((0 : Int), (0 : Int))).1) (List.getD p_39 0 ((0 : Int), (0 : Int))).2 (List.getD q_40 0 ((0 : Int), (0 : Int))).2 x_38 r_52 h_53) (by kernel_rfl) calls_nil) 8 [2, 7, 8, 9] [0, 6, 7, 8] ⟨[(2, .c (.clo 48 [0])), (7, .c (.h 6)), (8, .c (.h 7)), (9, .c (.val (.int .i64 (mn2 (List.getD p_39 0 ((0 : Int), (0 : Int))).1 (List.getD q_40 0 ((0 : Int), (0 : Int))).1))))], [(0, .box [.h 8]), (6, .row (.pair (.int .i64) (.int .i64)) p_39), (7, .row (.pair (.int .i64) (.int .i64)) q_40), (8, .row (.pair (.int .i64) (.int .i64)) r_52)], 9⟩ [(0 : Int) ≤ (0 : Int), (0 : Int) < (((List.length p_39) : Nat) : Int), (0 : Int) ≤ (0 : Int), (0 : Int) < (((List.length q_40) : Nat) : Int)] (by kernel_rfl) rfl rfl (ap2 (by decide) (ap2 c_50.1 (ap2 (by decide) (ap1 c_50.2)))) (by kernel_rfl) (by kernel_rfl) ?_
        obtain ⟨r_55, h_56, H_86⟩ := of_bind H_85
        obtain ⟨r_57, h_58, H_87⟩ := of_bind H_86
        refine V_reg hN hn [(2, ⟨45, 1, [.c (.h 0), .c (.val (.int .i64 (mn2 (List.getD p_39 0 ((0 : Int), (0 : Int))).1 (List.getD q_40 0 ((0 : Int), (0 : Int))).1)))], [(0, .row (.pair (.int .i64) (.int .i64)) p_39)], .c (.h 2), [(2, .row (.pair (.int .i64) (.int .i64)) r_55)], [(0, 6), (2, 9)], 10⟩), (5, ⟨45, 1, [.c (.h 0), .c (.val (.int .i64 (mn2 (List.getD p_39 0 ((0 : Int), (0 : Int))).1 (List.getD q_40 0 ((0 : Int), (0 : Int))).1)))], [(0, .row (.pair (.int .i64) (.int .i64)) q_40)], .c (.h 2), [(2, .row (.pair (.int .i64) (.int .i64)) r_57)], [(0, 7), (2, 10)], 11⟩)] [] (calls_cons (algebra_less_rg_spec K p_39 (mn2 (List.getD p_39 0 ((0 : Int), (0 : Int))).1 (List.getD q_40 0 ((0 : Int), (0 : Int))).1) r_55 h_56) (by kernel_rfl) (calls_cons (algebra_less_rg_spec K q_40 (mn2 (List.getD p_39 0 ((0 : Int), (0 : Int))).1 (List.getD q_40 0 ((0 : Int), (0 : Int))).1) r_57 h_58) (by kernel_rfl) calls_nil)) 9 [2, 7, 8] [0, 8, 9, 10] ⟨[(2, .c (.clo 48 [0])), (7, .c (.h 9)), (8, .c (.h 10))], [(0, .box [.h 8]), (8, .row (.pair (.int .i64) (.int .i64)) r_52), (9, .row (.pair (.int .i64) (.int .i64)) r_55), (10, .row (.pair (.int .i64) (.int .i64)) r_57)], 11⟩ [] (by kernel_rfl) rfl rfl ap0 (by kernel_rfl) (by kernel_rfl) ?_
        refine VL_nil (QB_end ?_)
        refine VL_nil ?_
        exact V_roundEnd (r_52, r_55, r_57) H_87 [(3, 8), (6, 9), (7, 10)] hn (by kernel_rfl) (by kernel_rfl) rfl rfl rfl
      · intro b_47; have H_83 := of_f H_76 b_47
        refine VL_exit ?_
        refine QL_exit ?_
        refine QB_here ?_
        refine V_run hN hn 2 8 [6] [0, 3] ⟨[(6, .c (.val (.int .i64 (0 : Int))))], [(0, .box [.h 3]), (3, .row (.pair (.int .i64) (.int .i64)) x_38)], 8⟩ [] (by kernel_rfl) rfl rfl ap0 ?_
        have H_88 := Option.some.inj (show some ((0 : Int), x_38) = some r from H_83); subst H_88
        refine VL_ret ?_
        exact P_to [(6, .c (.val (.int .i64 (0 : Int))))] [(0, .box [.h 8]), (8, .row (.pair (.int .i64) (.int .i64)) x_38)] [(8, 3)] hn (by kernel_rfl) (by kernel_rfl) rfl rfl rfl (QF_retS (by kernel_rfl) (by kernel_rfl) rfl)

theorem algebra_Shrink_spec (K : Nat) (a_1 : (Option ((List (Int × Int)) × Int))) (b_2 : (Option ((List (Int × Int)) × Int))) (r : ((Option ((List (Int × Int)) × Int)) × Int)) (H : algebra_Shrink K a_1 b_2 = some r) : Spec Try.prog 23 0 [.c (.imm (.opt (.pair (.slice (.pair (.int .i64) (.int .i64))) (.int .i64))) a_1), .c (.imm (.opt (.pair (.slice (.pair (.int .i64) (.int .i64))) (.int .i64))) b_2)] [] (.tup [(false, [.imm (.opt (.pair (.slice (.pair (.int .i64) (.int .i64))) (.int .i64))) r.1]), (false, [.val (.int .i64 r.2)])]) [] := by
  refine Spec_mk (fn := Try.f23) (c := (Try.f23.body).get!) Try.func23 (by kernel_rfl) rfl ?_
  intro C hN hn
  replace hN : C.N = 19 := hN
  unfold algebra_Shrink at H
  refine V_run hN hn 5 0 [0, 1, 6] [0] ⟨[(0, .c (.imm (.opt (.pair (.slice (.pair (.int .i64) (.int .i64))) (.int .i64))) a_1)), (1, .c (.imm (.opt (.pair (.slice (.pair (.int .i64) (.int .i64))) (.int .i64))) b_2)), (6, .c (.h 0))], [(0, .box [.val (.slice none 0 0)])], 1⟩ [] (by kernel_rfl) rfl rfl ap0 ?_
  obtain ⟨r_4, h_5, H_16⟩ := of_bind H
  refine V_reg hN hn [(3, ⟨47, 1, [.c (.imm (.opt (.pair (.slice (.pair (.int .i64) (.int .i64))) (.int .i64))) a_1), .c (.imm (.opt (.pair (.slice (.pair (.int .i64) (.int .i64))) (.int .i64))) b_2), .c (.clo 48 [0])], [(0, .box [.val (.slice none 0 0)])], .c (.val (.int .i64 r_4.1)), [(0, .box [.h 8]), (8, .row (.pair (.int .i64) (.int .i64)) r_4.2)], [(0, 0), (8, 1)], 2⟩)] [] (calls_cons (algebra_both_ggcalgebraShrink1_1c107_spec K a_1 b_2 r_4 h_5) (by kernel_rfl) calls_nil) 1 [6, 7] [0, 1] ⟨[(6, .c (.h 0)), (7, .c (.val (.int .i64 r_4.1)))], [(0, .box [.h 1]), (1, .row (.pair (.int .i64) (.int .i64)) r_4.2)], 2⟩ [] (by kernel_rfl) rfl rfl ap0 (by kernel_rfl) (by kernel_rfl) ?_
  refine V_run hN hn 3 2 [6, 7, 13] [0, 1] ⟨[(6, .c (.h 0)), (7, .c (.val (.int .i64 r_4.1))), (13, .c (.val (.bool (r_4.1 != (0 : Int)))))], [(0, .box [.h 1]), (1, .row (.pair (.int .i64) (.int .i64)) r_4.2)], 2⟩ [] (by kernel_rfl) rfl rfl ap0 ?_
  refine VL_cond ((r_4.1 != (0 : Int))) (by kernel_rfl) ?_ ?_
  · intro b_8; have H_17 := of_t H_16 b_8
    refine V_run hN hn 2 2 [4, 5] [] ⟨[(4, .c (.val (.pointer none))), (5, .c (.val (.int .i64 r_4.1)))], [], 2⟩ [] (by kernel_rfl) rfl rfl ap0 ?_
    have H_19 := Option.some.inj (show some ((none : (Option ((List (Int × Int)) × Int))), r_4.1) = some r from H_17); subst H_19
    refine VL_ret ?_
    refine P_ghost [.read 4 (.opt (.pair (.slice (.pair (.int .i64) (.int .i64))) (.int .i64)))] 2 hn [4, 5] [] ⟨[(4, .c (.imm (.opt (.pair (.slice (.pair (.int .i64) (.int .i64))) (.int .i64))) (none : (Option ((List (Int × Int)) × Int))))), (5, .c (.val (.int .i64 r_4.1)))], [], 2⟩ (by kernel_rfl) rfl rfl ?_
    exact P_to [(4, .c (.imm (.opt (.pair (.slice (.pair (.int .i64) (.int .i64))) (.int .i64))) (none : (Option ((List (Int × Int)) × Int))))), (5, .c (.val (.int .i64 r_4.1)))] [] [] hn (by kernel_rfl) (by kernel_rfl) rfl rfl rfl (QF_retS (by kernel_rfl) (by kernel_rfl) rfl)
  · intro b_8; have H_18 := of_f H_16 b_8
    refine V_run hN hn 2 2 [6, 7, 13] [0, 1] ⟨[(6, .c (.h 0)), (7, .c (.val (.int .i64 r_4.1))), (13, .c (.val (.bool (r_4.1 != (0 : Int)))))], [(0, .box [.h 1]), (1, .row (.pair (.int .i64) (.int .i64)) r_4.2)], 2⟩ [] (by kernel_rfl) rfl rfl ap0 ?_
    obtain ⟨r_11, h_12, H_20⟩ := of_bind H_18
    refine V_reg hN hn [(1, ⟨46, 1, [.c (.h 0)], [(0, .row (.pair (.int .i64) (.int .i64)) r_4.2)], .tup [(false, [.imm (.opt (.pair (.slice (.pair (.int .i64) (.int .i64))) (.int .i64))) r_11.1]), (false, [.val (.int .i64 r_11.2)])], [(0, .row (.pair (.int .i64) (.int .i64)) r_4.2)], [(0, 1)], 2⟩)] [] (calls_cons (subset_Pack_r_spec K r_4.2 r_11 h_12) (by kernel_rfl) calls_nil) 2 [4, 5] [] ⟨[(4, .c (.imm (.opt (.pair (.slice (.pair (.int .i64) (.int .i64))) (.int .i64))) r_11.1)), (5, .c (.val (.int .i64 r_11.2)))], [], 2⟩ [] (by kernel_rfl) rfl rfl ap0 (by kernel_rfl) (by kernel_rfl) ?_
    have H_21 := Option.some.inj (show some (r_11.1, r_11.2) = some r from H_20); subst H_21
    refine VL_ret ?_
    exact P_to [(4, .c (.imm (.opt (.pair (.slice (.pair (.int .i64) (.int .i64))) (.int .i64))) r_11.1)), (5, .c (.val (.int .i64 r_11.2)))] [] [] hn (by kernel_rfl) (by kernel_rfl) rfl rfl rfl (QF_retS (by kernel_rfl) (by kernel_rfl) rfl)

theorem palinodelaw8_of_spec (K : Nat) (l_1 : (List Bool)) (r : (Option ((List (Int × Int)) × Int))) (H : palinodelaw8_of_r K l_1 = some r) : Spec Try.prog 28 0 [.c (.imm (.slice .bool) l_1)] [] (.c (.imm (.opt (.pair (.slice (.pair (.int .i64) (.int .i64))) (.int .i64))) r)) [] := by
  refine Spec_mk (fn := Try.f28) (c := (Try.f28.body).get!) Try.func28 (by kernel_rfl) rfl ?_
  intro C hN hn
  replace hN : C.N = 23 := hN
  unfold palinodelaw8_of_r at H
  refine V_run hN hn 7 0 [0, 3, 4] [] ⟨[(0, .c (.imm (.slice .bool) l_1)), (3, .c (.val (.slice none 0 0))), (4, .c (.val (.int .i64 (0 : Int))))], [], 0⟩ [] (by kernel_rfl) rfl rfl ap0 ?_
  obtain ⟨q_32, H_33, H_34⟩ := of_bind H
  refine V_cut (Y := (List Int)) (R := (List Int)) q_32 (fun y => y) (fun y => [(3, .c (.h 3))]) (fun y => [(3, .row (.int .i64) y)]) ?_ ?_
  · skip
    refine VL_block ?_
    refine V_ghost [.nilSlot 3 (.int .i64)] 0 hn [0, 3, 4] [0] ⟨[(0, .c (.imm (.slice .bool) l_1)), (3, .c (.h 0)), (4, .c (.val (.int .i64 (0 : Int))))], [(0, .row (.int .i64) ([] : List Int))], 1⟩ (by kernel_rfl) rfl rfl ?_
    refine V_to [(0, .c (.imm (.slice .bool) l_1)), (3, .c (.h 3)), (4, .c (.val (.int .i64 (0 : Int))))] [(3, .row (.int .i64) ([] : List Int))] [(3, 0)] hn (by kernel_rfl) (by kernel_rfl) rfl rfl rfl ?_
    refine VL_loop (X := ((List Int) × Int)) (fun x => [(0, .c (.imm (.slice .bool) l_1)), (3, .c (.h 3)), (4, .c (.val (.int .i64 x.2)))]) (fun x => [(3, .row (.int .i64) x.1)]) (fun k x => palinodelaw8_of_r.l0 K l_1 k x.1 x.2 = some q_32) K (([] : List Int), (0 : Int)) H_33 (fun _ h => no_none h) ?_
    intro k_15 x_15 H_36
    obtain ⟨out_14, i_3⟩ := x_15
    have H_37 : palinodelaw8_of_r.l0 K l_1 (k_15 + 1) out_14 i_3 = some q_32 := H_36
    rw [palinodelaw8_of_r.l0] at H_37
    refine V_run hN hn 3 4 [0, 3, 4, 8] [3] ⟨[(0, .c (.imm (.slice .bool) l_1)), (3, .c (.h 3)), (4, .c (.val (.int .i64 i_3))), (8, .c (.val (.bool (decide (i_3 < (((List.length l_1) : Nat) : Int))))))], [(3, .row (.int .i64) out_14)], 4⟩ [] (by kernel_rfl) rfl rfl ap0 ?_
    refine VL_cond ((decide (i_3 < (((List.length l_1) : Nat) : Int)))) (by kernel_rfl) ?_ ?_
    · intro b_17; have H_38 := of_t H_37 b_17
      refine V_run hN hn 2 4 [0, 3, 4, 8] [3] ⟨[(0, .c (.imm (.slice .bool) l_1)), (3, .c (.h 3)), (4, .c (.val (.int .i64 i_3))), (8, .c (.val (.bool (decide (i_3 < (((List.length l_1) : Nat) : Int))))))], [(3, .row (.int .i64) out_14)], 4⟩ [] (by kernel_rfl) rfl rfl ap0 ?_
      refine VL_block ?_
      obtain ⟨c_19, H_40⟩ := of_if H_38
      refine V_run hN hn 2 4 [0, 3, 4, 14] [3] ⟨[(0, .c (.imm (.slice .bool) l_1)), (3, .c (.h 3)), (4, .c (.val (.int .i64 i_3))), (14, .c (.val (.bool (List.getD l_1 (Int.toNat i_3) false))))], [(3, .row (.int .i64) out_14)], 4⟩ [0 ≤ i_3, i_3 < (((List.length l_1) : Nat) : Int)] (by kernel_rfl) rfl rfl (ap2 c_19.1 (ap1 c_19.2)) ?_
      refine VL_cond ((List.getD l_1 (Int.toNat i_3) false)) (by kernel_rfl) ?_ ?_
      · intro b_20; have H_41 := of_t H_40 b_20
        obtain ⟨c_21, H_43⟩ := of_if H_41
        refine V_run hN hn 1 4 [0, 3, 4] [5] ⟨[(0, .c (.imm (.slice .bool) l_1)), (3, .c (.h 5)), (4, .c (.val (.int .i64 i_3)))], [(5, .row (.int .i64) (out_14 ++ ([(1 : Int)] : List Int)))], 6⟩ [(List.length out_14 + List.length ([(1 : Int)] : List Int)) * 8 ≤ 140737488355328] (by kernel_rfl) rfl rfl (ap1 c_21) ?_
        refine VL_nil (QB_end ?_)
        refine V_run hN hn 1 6 [0, 3, 4] [5] ⟨[(0, .c (.imm (.slice .bool) l_1)), (3, .c (.h 5)), (4, .c (.val (.int .i64 (IntKind.wrap .i64 (i_3 + (1 : Int))))))], [(5, .row (.int .i64) (out_14 ++ ([(1 : Int)] : List Int)))], 6⟩ [] (by kernel_rfl) rfl rfl ap0 ?_
        refine VL_nil ?_
        exact V_roundEnd ((out_14 ++ ([(1 : Int)] : List Int)), (IntKind.wrap .i64 (i_3 + (1 : Int)))) H_43 [(3, 5)] hn (by kernel_rfl) (by kernel_rfl) rfl rfl rfl
      · intro b_20; have H_42 := of_f H_40 b_20
        obtain ⟨c_23, H_44⟩ := of_if H_42
        refine V_run hN hn 1 4 [0, 3, 4] [5] ⟨[(0, .c (.imm (.slice .bool) l_1)), (3, .c (.h 5)), (4, .c (.val (.int .i64 i_3)))], [(5, .row (.int .i64) (out_14 ++ ([(0 : Int)] : List Int)))], 6⟩ [(List.length out_14 + List.length ([(0 : Int)] : List Int)) * 8 ≤ 140737488355328] (by kernel_rfl) rfl rfl (ap1 c_23) ?_
        refine VL_nil (QB_end ?_)
        refine V_run hN hn 1 6 [0, 3, 4] [5] ⟨[(0, .c (.imm (.slice .bool) l_1)), (3, .c (.h 5)), (4, .c (.val (.int .i64 (IntKind.wrap .i64 (i_3 + (1 : Int))))))], [(5, .row (.int .i64) (out_14 ++ ([(0 : Int)] : List Int)))], 6⟩ [] (by kernel_rfl) rfl rfl ap0 ?_
        refine VL_nil ?_
        exact V_roundEnd ((out_14 ++ ([(0 : Int)] : List Int)), (IntKind.wrap .i64 (i_3 + (1 : Int)))) H_44 [(3, 5)] hn (by kernel_rfl) (by kernel_rfl) rfl rfl rfl
    · intro b_17; have H_39 := of_f H_37 b_17
      refine VL_exit ?_
      refine QL_exit ?_
      refine QB_here ?_
      have H_45 := Option.some.inj (show some out_14 = some q_32 from H_39); subst H_45
      refine VL_nil ?_
      exact QP_end out_14 rfl [(3, 3)] hn (by kernel_rfl) (by kernel_rfl) rfl rfl rfl
  · intro y_35 hy; subst hy
    skip
    skip
    refine V_run hN hn 1 4 [3] [3] ⟨[(3, .c (.h 3))], [(3, .row (.int .i64) y_35)], 4⟩ [] (by kernel_rfl) rfl rfl ap0 ?_
    obtain ⟨r_27, h_28, H_46⟩ := of_bind H_34
    refine V_reg hN hn [(1, ⟨11, 1, [.c (.h 0)], [(0, .row (.int .i64) y_35)], .c (.imm (.opt (.pair (.slice (.pair (.int .i64) (.int .i64))) (.int .i64))) r_27), [(0, .row (.int .i64) y_35)], [(0, 3)], 4⟩)] [] (calls_cons (palinodelaw8_made_r_spec K y_35 r_27 h_28) (by kernel_rfl) calls_nil) 4 [2] [] ⟨[(2, .c (.imm (.opt (.pair (.slice (.pair (.int .i64) (.int .i64))) (.int .i64))) r_27))], [], 4⟩ [] (by kernel_rfl) rfl rfl ap0 (by kernel_rfl) (by kernel_rfl) ?_
    have H_47 := Option.some.inj (show some r_27 = some r from H_46); subst H_47
    refine VL_ret ?_
    exact P_to [(2, .c (.imm (.opt (.pair (.slice (.pair (.int .i64) (.int .i64))) (.int .i64))) r_27))] [] [] hn (by kernel_rfl) (by kernel_rfl) rfl rfl rfl (QF_retS (by kernel_rfl) (by kernel_rfl) rfl)

theorem subset_Subset_Same_1_spec (K : Nat) (a_1 : Int) (a_2 : Int) (b_3 : Int) (b_4 : Int) (r : Bool) (H : subset_Subset_Same_1 K a_1 a_2 b_3 b_4 = some r) : Spec Try.prog 51 0 [.agg [.val (.int .i64 a_1), .val (.int .i64 a_2)], .agg [.val (.int .i64 b_3), .val (.int .i64 b_4)]] [] (.c (.val (.bool r))) [] := by
  refine Spec_mk (fn := Try.f51) (c := (Try.f51.body).get!) Try.func51 (by kernel_rfl) rfl ?_
  intro C hN hn
  replace hN : C.N = 8 := hN
  unfold subset_Subset_Same_1 at H
  refine V_run hN hn 4 0 [4] [] ⟨[(4, .c (.val (.bool ((a_1 == b_3) && (a_2 == b_4)))))], [], 2⟩ [] (by kernel_rfl) rfl rfl ap0 ?_
  have H_7 := Option.some.inj (show some ((a_1 == b_3) && (a_2 == b_4)) = some r from H); subst H_7
  refine VL_ret ?_
  exact P_to [(4, .c (.val (.bool ((a_1 == b_3) && (a_2 == b_4)))))] [] [] hn (by kernel_rfl) (by kernel_rfl) rfl rfl rfl (QF_retS (by kernel_rfl) (by kernel_rfl) rfl)

theorem slices_EqualFunc_ggcsubsetSubsetSame1_spec (K : Nat) (s1_1 : (List (Int × Int))) (s2_2 : (List (Int × Int))) (r : Bool) (H : slices_EqualFunc_ggcsubsetSubsetSame1 K s1_1 s2_2 = some r) : Spec Try.prog 50 0 [.c (.imm (.slice (.pair (.int .i64) (.int .i64))) s1_1), .c (.imm (.slice (.pair (.int .i64) (.int .i64))) s2_2), .c (.clo 51 [])] [] (.c (.val (.bool r))) [] := by
  refine Spec_mk (fn := Try.f50) (c := (Try.f50.body).get!) Try.func50 (by kernel_rfl) rfl ?_
  intro C hN hn
  replace hN : C.N = 32 := hN
  unfold slices_EqualFunc_ggcsubsetSubsetSame1 at H
  refine V_run hN hn 5 0 [0, 1, 2, 14] [] ⟨[(0, .c (.imm (.slice (.pair (.int .i64) (.int .i64))) s1_1)), (1, .c (.imm (.slice (.pair (.int .i64) (.int .i64))) s2_2)), (2, .c (.clo 51 [])), (14, .c (.val (.bool ((((List.length s1_1) : Nat) : Int) != (((List.length s2_2) : Nat) : Int)))))], [], 0⟩ [] (by kernel_rfl) rfl rfl ap0 ?_
  refine VL_cond (((((List.length s1_1) : Nat) : Int) != (((List.length s2_2) : Nat) : Int))) (by kernel_rfl) ?_ ?_
  · intro b_4; have H_22 := of_t H b_4
    refine V_run hN hn 2 0 [6] [] ⟨[(6, .c (.val (.bool false)))], [], 0⟩ [] (by kernel_rfl) rfl rfl ap0 ?_
    have H_24 := Option.some.inj (show some false = some r from H_22); subst H_24
    refine VL_ret ?_
    exact P_to [(6, .c (.val (.bool false)))] [] [] hn (by kernel_rfl) (by kernel_rfl) rfl rfl rfl (QF_retS (by kernel_rfl) (by kernel_rfl) rfl)
  · intro b_4; have H_23 := of_f H b_4
    refine V_run hN hn 4 0 [1, 2, 15, 16, 17] [] ⟨[(1, .c (.imm (.slice (.pair (.int .i64) (.int .i64))) s2_2)), (2, .c (.clo 51 [])), (15, .c (.imm (.slice (.pair (.int .i64) (.int .i64))) s1_1)), (16, .c (.val (.int .i64 (((List.length s1_1) : Nat) : Int)))), (17, .c (.val (.int .i64 (0 : Int))))], [], 0⟩ [] (by kernel_rfl) rfl rfl ap0 ?_
    refine VL_block ?_
    refine V_to [(1, .c (.imm (.slice (.pair (.int .i64) (.int .i64))) s2_2)), (2, .c (.clo 51 [])), (15, .c (.imm (.slice (.pair (.int .i64) (.int .i64))) s1_1)), (16, .c (.val (.int .i64 (((List.length s1_1) : Nat) : Int)))), (17, .c (.val (.int .i64 (0 : Int))))] [] [] hn (by kernel_rfl) (by kernel_rfl) rfl rfl rfl ?_
    refine VL_loop (X := Int) (fun x => [(1, .c (.imm (.slice (.pair (.int .i64) (.int .i64))) s2_2)), (2, .c (.clo 51 [])), (15, .c (.imm (.slice (.pair (.int .i64) (.int .i64))) s1_1)), (16, .c (.val (.int .i64 (((List.length s1_1) : Nat) : Int)))), (17, .c (.val (.int .i64 x)))]) (fun x => []) (fun k x => slices_EqualFunc_ggcsubsetSubsetSame1.l0 K s1_1 s2_2 k x = some r) K (0 : Int) H_23 (fun _ h => no_none h) ?_
    intro k_8 t_7 H_25
    have H_26 : slices_EqualFunc_ggcsubsetSubsetSame1.l0 K s1_1 s2_2 (k_8 + 1) t_7 = some r := H_25
    rw [slices_EqualFunc_ggcsubsetSubsetSame1.l0] at H_26
    refine V_run hN hn 3 0 [1, 2, 15, 16, 17, 18] [] ⟨[(1, .c (.imm (.slice (.pair (.int .i64) (.int .i64))) s2_2)), (2, .c (.clo 51 [])), (15, .c (.imm (.slice (.pair (.int .i64) (.int .i64))) s1_1)), (16, .c (.val (.int .i64 (((List.length s1_1) : Nat) : Int)))), (17, .c (.val (.int .i64 t_7))), (18, .c (.val (.bool (decide (t_7 < (((List.length s1_1) : Nat) : Int))))))], [], 0⟩ [] (by kernel_rfl) rfl rfl ap0 ?_
    refine VL_cond ((decide (t_7 < (((List.length s1_1) : Nat) : Int)))) (by kernel_rfl) ?_ ?_
    · intro b_10; have H_27 := of_t H_26 b_10
      refine V_run hN hn 2 0 [1, 2, 15, 16, 17, 18] [] ⟨[(1, .c (.imm (.slice (.pair (.int .i64) (.int .i64))) s2_2)), (2, .c (.clo 51 [])), (15, .c (.imm (.slice (.pair (.int .i64) (.int .i64))) s1_1)), (16, .c (.val (.int .i64 (((List.length s1_1) : Nat) : Int)))), (17, .c (.val (.int .i64 t_7))), (18, .c (.val (.bool (decide (t_7 < (((List.length s1_1) : Nat) : Int))))))], [], 0⟩ [] (by kernel_rfl) rfl rfl ap0 ?_
      refine VL_block ?_
      obtain ⟨c_12, H_29⟩ := of_if H_27
      refine V_run hN hn 5 0 [1, 2, 8, 9, 15, 16, 17] [0, 1] ⟨[(1, .c (.imm (.slice (.pair (.int .i64) (.int .i64))) s2_2)), (2, .c (.clo 51 [])), (8, .c (.h 0)), (9, .c (.h 1)), (15, .c (.imm (.slice (.pair (.int .i64) (.int .i64))) s1_1)), (16, .c (.val (.int .i64 (((List.length s1_1) : Nat) : Int)))), (17, .c (.val (.int .i64 t_7)))], [(0, .box [.val (.int .i64 (List.getD s1_1 (Int.toNat t_7) ((0 : Int), (0 : Int))).1), .val (.int .i64 (List.getD s1_1 (Int.toNat t_7) ((0 : Int), (0 : Int))).2)]), (1, .box [.val (.int .i64 (List.getD s2_2 (Int.toNat t_7) ((0 : Int), (0 : Int))).1), .val (.int .i64 (List.getD s2_2 (Int.toNat t_7) ((0 : Int), (0 : Int))).2)])], 2⟩ [0 ≤ t_7, t_7 < (((List.length s1_1) : Nat) : Int), 0 ≤ t_7, t_7 < (((List.length s2_2) : Nat) : Int)] (by kernel_rfl) rfl rfl (ap2 c_12.1 (ap2 c_12.2.1 (ap2 c_12.1 (ap1 c_12.2.2)))) ?_
      obtain ⟨r_13, h_14, H_30⟩ := of_bind H_29
      refine V_reg hN hn [(3, ⟨51, 0, [.agg [.val (.int .i64 (List.getD s1_1 (Int.toNat t_7) ((0 : Int), (0 : Int))).1), .val (.int .i64 (List.getD s1_1 (Int.toNat t_7) ((0 : Int), (0 : Int))).2)], .agg [.val (.int .i64 (List.getD s2_2 (Int.toNat t_7) ((0 : Int), (0 : Int))).1), .val (.int .i64 (List.getD s2_2 (Int.toNat t_7) ((0 : Int), (0 : Int))).2)]], [], .c (.val (.bool r_13)), [], [], 2⟩)] [] (calls_cons (subset_Subset_Same_1_spec K (List.getD s1_1 (Int.toNat t_7) ((0 : Int), (0 : Int))).1 (List.getD s1_1 (Int.toNat t_7) ((0 : Int), (0 : Int))).2 (List.getD s2_2 (Int.toNat t_7) ((0 : Int), (0 : Int))).1 (List.getD s2_2 (Int.toNat t_7) ((0 : Int), (0 : Int))).2 r_13 h_14) (by kernel_rfl) calls_nil) 2 [1, 2, 15, 16, 17, 30] [] ⟨[(1, .c (.imm (.slice (.pair (.int .i64) (.int .i64))) s2_2)), (2, .c (.clo 51 [])), (15, .c (.imm (.slice (.pair (.int .i64) (.int .i64))) s1_1)), (16, .c (.val (.int .i64 (((List.length s1_1) : Nat) : Int)))), (17, .c (.val (.int .i64 t_7))), (30, .c (.val (.bool (!r_13))))], [], 2⟩ [] (by kernel_rfl) rfl rfl ap0 (by kernel_rfl) (by kernel_rfl) ?_
      refine VL_cond ((!r_13)) (by kernel_rfl) ?_ ?_
      · intro b_16; have H_31 := of_t H_30 b_16
        refine V_run hN hn 2 2 [6] [] ⟨[(6, .c (.val (.bool false)))], [], 2⟩ [] (by kernel_rfl) rfl rfl ap0 ?_
        have H_33 := Option.some.inj (show some false = some r from H_31); subst H_33
        refine VL_ret ?_
        refine QB_ret ?_
        refine QL_ret ?_
        refine QB_ret ?_
        exact P_to [(6, .c (.val (.bool false)))] [] [] hn (by kernel_rfl) (by kernel_rfl) rfl rfl rfl (QF_retS (by kernel_rfl) (by kernel_rfl) rfl)
      · intro b_16; have H_32 := of_f H_30 b_16
        refine V_run hN hn 1 2 [1, 2, 15, 16, 17, 30] [] ⟨[(1, .c (.imm (.slice (.pair (.int .i64) (.int .i64))) s2_2)), (2, .c (.clo 51 [])), (15, .c (.imm (.slice (.pair (.int .i64) (.int .i64))) s1_1)), (16, .c (.val (.int .i64 (((List.length s1_1) : Nat) : Int)))), (17, .c (.val (.int .i64 t_7))), (30, .c (.val (.bool (!r_13))))], [], 2⟩ [] (by kernel_rfl) rfl rfl ap0 ?_
        refine VL_nil (QB_end ?_)
        refine V_run hN hn 1 2 [1, 2, 15, 16, 17] [] ⟨[(1, .c (.imm (.slice (.pair (.int .i64) (.int .i64))) s2_2)), (2, .c (.clo 51 [])), (15, .c (.imm (.slice (.pair (.int .i64) (.int .i64))) s1_1)), (16, .c (.val (.int .i64 (((List.length s1_1) : Nat) : Int)))), (17, .c (.val (.int .i64 (IntKind.wrap .i64 (t_7 + (1 : Int))))))], [], 2⟩ [] (by kernel_rfl) rfl rfl ap0 ?_
        refine VL_nil ?_
        exact V_roundEnd (IntKind.wrap .i64 (t_7 + (1 : Int))) H_32 [] hn (by kernel_rfl) (by kernel_rfl) rfl rfl rfl
    · intro b_10; have H_28 := of_f H_26 b_10
      refine VL_exit ?_
      refine QL_exit ?_
      refine QB_here ?_
      refine V_run hN hn 2 0 [6] [] ⟨[(6, .c (.val (.bool true)))], [], 0⟩ [] (by kernel_rfl) rfl rfl ap0 ?_
      have H_34 := Option.some.inj (show some true = some r from H_28); subst H_34
      refine VL_ret ?_
      exact P_to [(6, .c (.val (.bool true)))] [] [] hn (by kernel_rfl) (by kernel_rfl) rfl rfl rfl (QF_retS (by kernel_rfl) (by kernel_rfl) rfl)

theorem subset_Subset_Same_spec (K : Nat) (s_1 : (Option ((List (Int × Int)) × Int))) (o_2 : (Option ((List (Int × Int)) × Int))) (r : Bool) (H : subset_Subset_Same K s_1 o_2 = some r) : Spec Try.prog 29 0 [.c (.imm (.opt (.pair (.slice (.pair (.int .i64) (.int .i64))) (.int .i64))) s_1), .c (.imm (.opt (.pair (.slice (.pair (.int .i64) (.int .i64))) (.int .i64))) o_2)] [] (.c (.val (.bool r))) [] := by
  refine Spec_mk (fn := Try.f29) (c := (Try.f29.body).get!) Try.func29 (by kernel_rfl) rfl ?_
  intro C hN hn
  replace hN : C.N = 32 := hN
  unfold subset_Subset_Same at H
  refine V_run hN hn 5 0 [0, 1, 6] [] ⟨[(0, .c (.imm (.opt (.pair (.slice (.pair (.int .i64) (.int .i64))) (.int .i64))) s_1)), (1, .c (.imm (.opt (.pair (.slice (.pair (.int .i64) (.int .i64))) (.int .i64))) o_2)), (6, .c (.val (.bool (Option.isNone o_2))))], [], 0⟩ [] (by kernel_rfl) rfl rfl ap0 ?_
  refine VL_cond ((Option.isNone o_2)) (by kernel_rfl) ?_ ?_
  · intro b_4; have H_13 := of_t H b_4
    obtain ⟨c_5, H_15⟩ := of_if H_13
    refine V_run hN hn 2 0 [4] [] ⟨[(4, .c (.val (.bool ((Option.getD s_1 (([] : (List (Int × Int))), (0 : Int))).2 == (0 : Int)))))], [], 0⟩ [Option.isSome s_1 = true] (by kernel_rfl) rfl rfl (ap1 c_5) ?_
    have H_16 := Option.some.inj (show some ((Option.getD s_1 (([] : (List (Int × Int))), (0 : Int))).2 == (0 : Int)) = some r from H_15); subst H_16
    refine VL_ret ?_
    exact P_to [(4, .c (.val (.bool ((Option.getD s_1 (([] : (List (Int × Int))), (0 : Int))).2 == (0 : Int)))))] [] [] hn (by kernel_rfl) (by kernel_rfl) rfl rfl rfl (QF_retS (by kernel_rfl) (by kernel_rfl) rfl)
  · intro b_4; have H_14 := of_f H b_4
    refine V_run hN hn 2 0 [0, 1, 6] [] ⟨[(0, .c (.imm (.opt (.pair (.slice (.pair (.int .i64) (.int .i64))) (.int .i64))) s_1)), (1, .c (.imm (.opt (.pair (.slice (.pair (.int .i64) (.int .i64))) (.int .i64))) o_2)), (6, .c (.val (.bool (Option.isNone o_2))))], [], 0⟩ [] (by kernel_rfl) rfl rfl ap0 ?_
    rcases Bool.eq_false_or_eq_true (((Option.getD s_1 (([] : (List (Int × Int))), (0 : Int))).2 == (Option.getD o_2 (([] : (List (Int × Int))), (0 : Int))).2)) with b_7 | b_7
    · have H_17 := of_t H_14 b_7
      obtain ⟨r_8, h_9, H_19⟩ := of_bind H_17
      obtain ⟨c_10, H_20⟩ := of_if H_19
      refine V_draw hN hn (by kernel_rfl) [(18, ⟨50, 0, [.c (.imm (.slice (.pair (.int .i64) (.int .i64))) (Option.getD s_1 (([] : (List (Int × Int))), (0 : Int))).1), .c (.imm (.slice (.pair (.int .i64) (.int .i64))) (Option.getD o_2 (([] : (List (Int × Int))), (0 : Int))).1), .c (.clo 51 [])], [], .c (.val (.bool r_8)), [], [], 0⟩)] [(21, true)] (calls_cons (slices_EqualFunc_ggcsubsetSubsetSame1_spec K (Option.getD s_1 (([] : (List (Int × Int))), (0 : Int))).1 (Option.getD o_2 (([] : (List (Int × Int))), (0 : Int))).1 r_8 h_9) (by kernel_rfl) calls_nil) 0 [4] [] ⟨[(4, .c (.val (.bool r_8)))], [], 0⟩ [Option.isSome s_1 = true, Option.isSome o_2 = true, ((Option.getD s_1 (([] : (List (Int × Int))), (0 : Int))).2 == (Option.getD o_2 (([] : (List (Int × Int))), (0 : Int))).2) = true, Option.isSome s_1 = true, Option.isSome o_2 = true] (by kernel_rfl) rfl rfl (ap2 c_10.1 (ap2 c_10.2 (ap2 b_7 (ap2 c_10.1 (ap1 c_10.2))))) (by kernel_rfl) (by kernel_rfl) ?_
      have H_21 := Option.some.inj (show some r_8 = some r from H_20); subst H_21
      refine VL_ret ?_
      exact P_to [(4, .c (.val (.bool r_8)))] [] [] hn (by kernel_rfl) (by kernel_rfl) rfl rfl rfl (QF_retS (by kernel_rfl) (by kernel_rfl) rfl)
    · have H_18 := of_f H_14 b_7
      obtain ⟨c_11, H_22⟩ := of_if H_18
      refine V_draw hN hn (by kernel_rfl) [] [(21, false)] calls_nil 0 [4] [] ⟨[(4, .c (.val (.bool false)))], [], 0⟩ [Option.isSome s_1 = true, Option.isSome o_2 = true, ((Option.getD s_1 (([] : (List (Int × Int))), (0 : Int))).2 == (Option.getD o_2 (([] : (List (Int × Int))), (0 : Int))).2) = false] (by kernel_rfl) rfl rfl (ap2 c_11.1 (ap2 c_11.2 (ap1 b_7))) (by kernel_rfl) (by kernel_rfl) ?_
      have H_23 := Option.some.inj (show some false = some r from H_22); subst H_23
      refine VL_ret ?_
      exact P_to [(4, .c (.val (.bool false)))] [] [] hn (by kernel_rfl) (by kernel_rfl) rfl rfl rfl (QF_retS (by kernel_rfl) (by kernel_rfl) rfl)

theorem subset_New_spec (K : Nat) (n_1 : Int) (r : (Option ((List (Int × Int)) × Int))) (H : subset_New K n_1 = some r) : Spec Try.prog 32 0 [.c (.val (.int .i64 n_1))] [] (.c (.imm (.opt (.pair (.slice (.pair (.int .i64) (.int .i64))) (.int .i64))) r)) [] := by
  refine Spec_mk (fn := Try.f32) (c := (Try.f32.body).get!) Try.func32 (by kernel_rfl) rfl ?_
  intro C hN hn
  replace hN : C.N = 15 := hN
  unfold subset_New at H
  refine V_run hN hn 3 0 [0] [] ⟨[(0, .c (.val (.int .i64 n_1)))], [], 0⟩ [] (by kernel_rfl) rfl rfl ap0 ?_
  obtain ⟨r_3, h_4, H_8⟩ := of_bind H
  refine V_reg hN hn [(5, ⟨46, 1, [.c (.h 0)], [(0, .row (.pair (.int .i64) (.int .i64)) ([((mn2 (mx2 n_1 (0 : Int)) (20000 : Int)), (0 : Int))] : List (Int × Int)))], .tup [(false, [.imm (.opt (.pair (.slice (.pair (.int .i64) (.int .i64))) (.int .i64))) r_3.1]), (false, [.val (.int .i64 r_3.2)])], [(0, .row (.pair (.int .i64) (.int .i64)) ([((mn2 (mx2 n_1 (0 : Int)) (20000 : Int)), (0 : Int))] : List (Int × Int)))], [(0, 0)], 1⟩)] [] (calls_cons (subset_Pack_r_spec K ([((mn2 (mx2 n_1 (0 : Int)) (20000 : Int)), (0 : Int))] : List (Int × Int)) r_3 h_4) (by kernel_rfl) calls_nil) 0 [3] [] ⟨[(3, .c (.imm (.opt (.pair (.slice (.pair (.int .i64) (.int .i64))) (.int .i64))) r_3.1))], [], 1⟩ [] (by kernel_rfl) rfl rfl ap0 (by kernel_rfl) (by kernel_rfl) ?_
  refine V_run hN hn 2 1 [2] [] ⟨[(2, .c (.imm (.opt (.pair (.slice (.pair (.int .i64) (.int .i64))) (.int .i64))) r_3.1))], [], 1⟩ [] (by kernel_rfl) rfl rfl ap0 ?_
  have H_9 := Option.some.inj (show some r_3.1 = some r from H_8); subst H_9
  refine VL_ret ?_
  exact P_to [(2, .c (.imm (.opt (.pair (.slice (.pair (.int .i64) (.int .i64))) (.int .i64))) r_3.1))] [] [] hn (by kernel_rfl) (by kernel_rfl) rfl rfl rfl (QF_retS (by kernel_rfl) (by kernel_rfl) rfl)

theorem palinodelaw8_AlgebraNone_spec (K : Nat) (a_1 : (List Bool)) (s_2 : ByteArray) (r : Bool) (H : palinodelaw8_AlgebraNone K a_1 s_2 = some r) : Spec Try.prog 9 0 [.c (.imm (.slice .bool) a_1), .c (.val (.string s_2))] [] (.c (.val (.bool r))) [] := by
  refine Spec_mk (fn := Try.f9) (c := (Try.f9.body).get!) Try.func9 (by kernel_rfl) rfl ?_
  intro C hN hn
  replace hN : C.N = 116 := hN
  unfold palinodelaw8_AlgebraNone at H
  refine V_run hN hn 4 0 [0, 1] [] ⟨[(0, .c (.imm (.slice .bool) a_1)), (1, .c (.val (.string s_2)))], [], 0⟩ [] (by kernel_rfl) rfl rfl ap0 ?_
  obtain ⟨r_4, h_5, H_79⟩ := of_bind H
  refine V_reg hN hn [(0, ⟨10, 0, [], [], .c (.val (.bool r_4)), [], [], 0⟩)] [] (calls_cons (palinodelaw8_known_spec K  r_4 h_5) (by kernel_rfl) calls_nil) 0 [0, 1, 18] [] ⟨[(0, .c (.imm (.slice .bool) a_1)), (1, .c (.val (.string s_2))), (18, .c (.val (.bool (!r_4))))], [], 0⟩ [] (by kernel_rfl) rfl rfl ap0 (by kernel_rfl) (by kernel_rfl) ?_
  refine VL_cond ((!r_4)) (by kernel_rfl) ?_ ?_
  · intro b_7; have H_80 := of_t H_79 b_7
    refine V_run hN hn 2 0 [4] [] ⟨[(4, .c (.val (.bool false)))], [], 0⟩ [] (by kernel_rfl) rfl rfl ap0 ?_
    have H_82 := Option.some.inj (show some false = some r from H_80); subst H_82
    refine VL_ret ?_
    exact P_to [(4, .c (.val (.bool false)))] [] [] hn (by kernel_rfl) (by kernel_rfl) rfl rfl rfl (QF_retS (by kernel_rfl) (by kernel_rfl) rfl)
  · intro b_7; have H_81 := of_f H_79 b_7
    refine V_run hN hn 3 0 [0, 1, 18] [] ⟨[(0, .c (.imm (.slice .bool) a_1)), (1, .c (.val (.string s_2))), (18, .c (.val (.bool (!r_4))))], [], 0⟩ [] (by kernel_rfl) rfl rfl ap0 ?_
    obtain ⟨q_83, H_84, H_85⟩ := of_bind H_81
    refine V_cut (Y := Bool) (R := Bool) q_83 (fun y => y) (fun y => [(0, .c (.imm (.slice .bool) a_1)), (1, .c (.val (.string s_2))), (28, .c (.val (.bool y)))]) (fun y => []) ?_ ?_
    · skip
      rcases Bool.eq_false_or_eq_true ((decide ((((List.length a_1) : Nat) : Int) > (80 : Int)))) with b_10 | b_10
      · have H_87 := of_t H_84 b_10
        refine V_reg hN hn [] [(22, true)] calls_nil 0 [0, 1, 28] [] ⟨[(0, .c (.imm (.slice .bool) a_1)), (1, .c (.val (.string s_2))), (28, .c (.val (.bool true)))], [], 0⟩ [(decide ((((List.length a_1) : Nat) : Int) > (80 : Int))) = true] (by kernel_rfl) rfl rfl (ap1 b_10) (by kernel_rfl) (by kernel_rfl) ?_
        have H_89 := Option.some.inj (show some true = some q_83 from H_87); subst H_89
        refine VL_nil ?_
        exact QP_end true rfl [] hn (by kernel_rfl) (by kernel_rfl) rfl rfl rfl
      · have H_88 := of_f H_84 b_10
        refine V_reg hN hn [] [(22, false)] calls_nil 0 [0, 1, 28] [] ⟨[(0, .c (.imm (.slice .bool) a_1)), (1, .c (.val (.string s_2))), (28, .c (.val (.bool (decide ((((ByteArray.size s_2) : Nat) : Int) < (((List.length a_1) : Nat) : Int))))))], [], 0⟩ [(decide ((((List.length a_1) : Nat) : Int) > (80 : Int))) = false] (by kernel_rfl) rfl rfl (ap1 b_10) (by kernel_rfl) (by kernel_rfl) ?_
        have H_90 := Option.some.inj (show some (decide ((((ByteArray.size s_2) : Nat) : Int) < (((List.length a_1) : Nat) : Int))) = some q_83 from H_88); subst H_90
        refine VL_nil ?_
        exact QP_end (decide ((((ByteArray.size s_2) : Nat) : Int) < (((List.length a_1) : Nat) : Int))) rfl [] hn (by kernel_rfl) (by kernel_rfl) rfl rfl rfl
    · intro y_86 hy; subst hy
      skip
      skip
      refine VL_cond (y_86) (by kernel_rfl) ?_ ?_
      · intro b_14; have H_91 := of_t H_85 b_14
        refine V_run hN hn 2 0 [4] [] ⟨[(4, .c (.val (.bool true)))], [], 0⟩ [] (by kernel_rfl) rfl rfl ap0 ?_
        have H_93 := Option.some.inj (show some true = some r from H_91); subst H_93
        refine VL_ret ?_
        exact P_to [(4, .c (.val (.bool true)))] [] [] hn (by kernel_rfl) (by kernel_rfl) rfl rfl rfl (QF_retS (by kernel_rfl) (by kernel_rfl) rfl)
      · intro b_14; have H_92 := of_f H_85 b_14
        refine V_run hN hn 2 0 [0, 1, 28] [] ⟨[(0, .c (.imm (.slice .bool) a_1)), (1, .c (.val (.string s_2))), (28, .c (.val (.bool y_86)))], [], 0⟩ [] (by kernel_rfl) rfl rfl ap0 ?_
        obtain ⟨r_17, h_18, H_94⟩ := of_bind H_92
        refine V_reg hN hn [(1, ⟨28, 0, [.c (.imm (.slice .bool) a_1)], [], .c (.imm (.opt (.pair (.slice (.pair (.int .i64) (.int .i64))) (.int .i64))) r_17), [], [], 0⟩)] [] (calls_cons (palinodelaw8_of_spec K a_1 r_17 h_18) (by kernel_rfl) calls_nil) 0 [0, 1, 5] [] ⟨[(0, .c (.imm (.slice .bool) a_1)), (1, .c (.val (.string s_2))), (5, .c (.imm (.opt (.pair (.slice (.pair (.int .i64) (.int .i64))) (.int .i64))) r_17))], [], 0⟩ [] (by kernel_rfl) rfl rfl ap0 (by kernel_rfl) (by kernel_rfl) ?_
        refine V_run hN hn 3 0 [0, 1, 5, 32] [] ⟨[(0, .c (.imm (.slice .bool) a_1)), (1, .c (.val (.string s_2))), (5, .c (.imm (.opt (.pair (.slice (.pair (.int .i64) (.int .i64))) (.int .i64))) r_17)), (32, .c (.val (.bool (Option.isNone r_17))))], [], 0⟩ [] (by kernel_rfl) rfl rfl ap0 ?_
        refine VL_cond ((Option.isNone r_17)) (by kernel_rfl) ?_ ?_
        · intro b_21; have H_95 := of_t H_94 b_21
          refine V_run hN hn 2 0 [4] [] ⟨[(4, .c (.val (.bool false)))], [], 0⟩ [] (by kernel_rfl) rfl rfl ap0 ?_
          have H_97 := Option.some.inj (show some false = some r from H_95); subst H_97
          refine VL_ret ?_
          exact P_to [(4, .c (.val (.bool false)))] [] [] hn (by kernel_rfl) (by kernel_rfl) rfl rfl rfl (QF_retS (by kernel_rfl) (by kernel_rfl) rfl)
        · intro b_21; have H_96 := of_f H_94 b_21
          refine V_run hN hn 2 0 [0, 1, 5, 32] [] ⟨[(0, .c (.imm (.slice .bool) a_1)), (1, .c (.val (.string s_2))), (5, .c (.imm (.opt (.pair (.slice (.pair (.int .i64) (.int .i64))) (.int .i64))) r_17)), (32, .c (.val (.bool (Option.isNone r_17))))], [], 0⟩ [] (by kernel_rfl) rfl rfl ap0 ?_
          obtain ⟨r_24, h_25, H_98⟩ := of_bind H_96
          refine V_reg hN hn [(2, ⟨32, 0, [.c (.val (.int .i64 (((List.length a_1) : Nat) : Int)))], [], .c (.imm (.opt (.pair (.slice (.pair (.int .i64) (.int .i64))) (.int .i64))) r_24), [], [], 0⟩)] [] (calls_cons (subset_New_spec K (((List.length a_1) : Nat) : Int) r_24 h_25) (by kernel_rfl) calls_nil) 0 [0, 1, 5, 6] [] ⟨[(0, .c (.imm (.slice .bool) a_1)), (1, .c (.val (.string s_2))), (5, .c (.imm (.opt (.pair (.slice (.pair (.int .i64) (.int .i64))) (.int .i64))) r_17)), (6, .c (.imm (.opt (.pair (.slice (.pair (.int .i64) (.int .i64))) (.int .i64))) r_24))], [], 0⟩ [] (by kernel_rfl) rfl rfl ap0 (by kernel_rfl) (by kernel_rfl) ?_
          refine V_run hN hn 1 0 [0, 1, 5, 6] [] ⟨[(0, .c (.imm (.slice .bool) a_1)), (1, .c (.val (.string s_2))), (5, .c (.imm (.opt (.pair (.slice (.pair (.int .i64) (.int .i64))) (.int .i64))) r_17)), (6, .c (.imm (.opt (.pair (.slice (.pair (.int .i64) (.int .i64))) (.int .i64))) r_24))], [], 0⟩ [] (by kernel_rfl) rfl rfl ap0 ?_
          obtain ⟨r_28, h_29, H_99⟩ := of_bind H_98
          refine V_reg hN hn [(2, ⟨21, 0, [.c (.imm (.opt (.pair (.slice (.pair (.int .i64) (.int .i64))) (.int .i64))) r_17), .c (.imm (.opt (.pair (.slice (.pair (.int .i64) (.int .i64))) (.int .i64))) r_24)], [], .tup [(false, [.imm (.opt (.pair (.slice (.pair (.int .i64) (.int .i64))) (.int .i64))) r_28.1]), (false, [.val (.int .i64 r_28.2)])], [], [], 0⟩)] [] (calls_cons (algebra_Expand_spec K r_17 r_24 r_28 h_29) (by kernel_rfl) calls_nil) 0 [0, 1, 5, 6, 7, 8] [] ⟨[(0, .c (.imm (.slice .bool) a_1)), (1, .c (.val (.string s_2))), (5, .c (.imm (.opt (.pair (.slice (.pair (.int .i64) (.int .i64))) (.int .i64))) r_17)), (6, .c (.imm (.opt (.pair (.slice (.pair (.int .i64) (.int .i64))) (.int .i64))) r_24)), (7, .c (.imm (.opt (.pair (.slice (.pair (.int .i64) (.int .i64))) (.int .i64))) r_28.1)), (8, .c (.val (.int .i64 r_28.2)))], [], 0⟩ [] (by kernel_rfl) rfl rfl ap0 (by kernel_rfl) (by kernel_rfl) ?_
          refine V_run hN hn 1 0 [0, 1, 5, 6, 7, 8] [] ⟨[(0, .c (.imm (.slice .bool) a_1)), (1, .c (.val (.string s_2))), (5, .c (.imm (.opt (.pair (.slice (.pair (.int .i64) (.int .i64))) (.int .i64))) r_17)), (6, .c (.imm (.opt (.pair (.slice (.pair (.int .i64) (.int .i64))) (.int .i64))) r_24)), (7, .c (.imm (.opt (.pair (.slice (.pair (.int .i64) (.int .i64))) (.int .i64))) r_28.1)), (8, .c (.val (.int .i64 r_28.2)))], [], 0⟩ [] (by kernel_rfl) rfl rfl ap0 ?_
          obtain ⟨r_32, h_33, H_100⟩ := of_bind H_99
          refine V_reg hN hn [(2, ⟨23, 0, [.c (.imm (.opt (.pair (.slice (.pair (.int .i64) (.int .i64))) (.int .i64))) r_17), .c (.imm (.opt (.pair (.slice (.pair (.int .i64) (.int .i64))) (.int .i64))) r_24)], [], .tup [(false, [.imm (.opt (.pair (.slice (.pair (.int .i64) (.int .i64))) (.int .i64))) r_32.1]), (false, [.val (.int .i64 r_32.2)])], [], [], 0⟩)] [] (calls_cons (algebra_Shrink_spec K r_17 r_24 r_32 h_33) (by kernel_rfl) calls_nil) 0 [0, 1, 5, 6, 7, 8, 9, 10] [] ⟨[(0, .c (.imm (.slice .bool) a_1)), (1, .c (.val (.string s_2))), (5, .c (.imm (.opt (.pair (.slice (.pair (.int .i64) (.int .i64))) (.int .i64))) r_17)), (6, .c (.imm (.opt (.pair (.slice (.pair (.int .i64) (.int .i64))) (.int .i64))) r_24)), (7, .c (.imm (.opt (.pair (.slice (.pair (.int .i64) (.int .i64))) (.int .i64))) r_28.1)), (8, .c (.val (.int .i64 r_28.2))), (9, .c (.imm (.opt (.pair (.slice (.pair (.int .i64) (.int .i64))) (.int .i64))) r_32.1)), (10, .c (.val (.int .i64 r_32.2)))], [], 0⟩ [] (by kernel_rfl) rfl rfl ap0 (by kernel_rfl) (by kernel_rfl) ?_
          refine V_run hN hn 1 0 [0, 1, 5, 6, 7, 8, 9, 10] [] ⟨[(0, .c (.imm (.slice .bool) a_1)), (1, .c (.val (.string s_2))), (5, .c (.imm (.opt (.pair (.slice (.pair (.int .i64) (.int .i64))) (.int .i64))) r_17)), (6, .c (.imm (.opt (.pair (.slice (.pair (.int .i64) (.int .i64))) (.int .i64))) r_24)), (7, .c (.imm (.opt (.pair (.slice (.pair (.int .i64) (.int .i64))) (.int .i64))) r_28.1)), (8, .c (.val (.int .i64 r_28.2))), (9, .c (.imm (.opt (.pair (.slice (.pair (.int .i64) (.int .i64))) (.int .i64))) r_32.1)), (10, .c (.val (.int .i64 r_32.2)))], [], 0⟩ [] (by kernel_rfl) rfl rfl ap0 ?_
          obtain ⟨r_36, h_37, H_101⟩ := of_bind H_100
          refine V_reg hN hn [(2, ⟨16, 0, [.c (.imm (.opt (.pair (.slice (.pair (.int .i64) (.int .i64))) (.int .i64))) r_17), .c (.imm (.opt (.pair (.slice (.pair (.int .i64) (.int .i64))) (.int .i64))) r_24)], [], .tup [(false, [.imm (.opt (.pair (.slice (.pair (.int .i64) (.int .i64))) (.int .i64))) r_36.1]), (false, [.val (.int .i64 r_36.2)])], [], [], 0⟩)] [] (calls_cons (algebra_Union_spec K r_17 r_24 r_36 h_37) (by kernel_rfl) calls_nil) 0 [0, 1, 5, 6, 7, 8, 9, 10, 11, 12] [] ⟨[(0, .c (.imm (.slice .bool) a_1)), (1, .c (.val (.string s_2))), (5, .c (.imm (.opt (.pair (.slice (.pair (.int .i64) (.int .i64))) (.int .i64))) r_17)), (6, .c (.imm (.opt (.pair (.slice (.pair (.int .i64) (.int .i64))) (.int .i64))) r_24)), (7, .c (.imm (.opt (.pair (.slice (.pair (.int .i64) (.int .i64))) (.int .i64))) r_28.1)), (8, .c (.val (.int .i64 r_28.2))), (9, .c (.imm (.opt (.pair (.slice (.pair (.int .i64) (.int .i64))) (.int .i64))) r_32.1)), (10, .c (.val (.int .i64 r_32.2))), (11, .c (.imm (.opt (.pair (.slice (.pair (.int .i64) (.int .i64))) (.int .i64))) r_36.1)), (12, .c (.val (.int .i64 r_36.2)))], [], 0⟩ [] (by kernel_rfl) rfl rfl ap0 (by kernel_rfl) (by kernel_rfl) ?_
          refine V_run hN hn 1 0 [0, 1, 5, 6, 7, 8, 9, 10, 11, 12] [] ⟨[(0, .c (.imm (.slice .bool) a_1)), (1, .c (.val (.string s_2))), (5, .c (.imm (.opt (.pair (.slice (.pair (.int .i64) (.int .i64))) (.int .i64))) r_17)), (6, .c (.imm (.opt (.pair (.slice (.pair (.int .i64) (.int .i64))) (.int .i64))) r_24)), (7, .c (.imm (.opt (.pair (.slice (.pair (.int .i64) (.int .i64))) (.int .i64))) r_28.1)), (8, .c (.val (.int .i64 r_28.2))), (9, .c (.imm (.opt (.pair (.slice (.pair (.int .i64) (.int .i64))) (.int .i64))) r_32.1)), (10, .c (.val (.int .i64 r_32.2))), (11, .c (.imm (.opt (.pair (.slice (.pair (.int .i64) (.int .i64))) (.int .i64))) r_36.1)), (12, .c (.val (.int .i64 r_36.2)))], [], 0⟩ [] (by kernel_rfl) rfl rfl ap0 ?_
          obtain ⟨r_40, h_41, H_102⟩ := of_bind H_101
          obtain ⟨c_42, H_103⟩ := of_if H_102
          refine V_reg hN hn [(5, ⟨12, 0, [.c (.imm (.opt (.pair (.slice (.pair (.int .i64) (.int .i64))) (.int .i64))) r_24), .c (.val (.string (ByteArray.extract s_2 0 (Int.toNat (((List.length a_1) : Nat) : Int)))))], [], .tup [(false, [.val (.string r_40.1)]), (false, [.val (.int .i64 r_40.2)])], [], [], 0⟩)] [] (calls_cons (algebra_Delete_spec K r_24 (ByteArray.extract s_2 0 (Int.toNat (((List.length a_1) : Nat) : Int))) r_40 h_41) (by kernel_rfl) calls_nil) 0 [0, 1, 5, 6, 7, 8, 9, 10, 11, 12, 13, 14] [] ⟨[(0, .c (.imm (.slice .bool) a_1)), (1, .c (.val (.string s_2))), (5, .c (.imm (.opt (.pair (.slice (.pair (.int .i64) (.int .i64))) (.int .i64))) r_17)), (6, .c (.imm (.opt (.pair (.slice (.pair (.int .i64) (.int .i64))) (.int .i64))) r_24)), (7, .c (.imm (.opt (.pair (.slice (.pair (.int .i64) (.int .i64))) (.int .i64))) r_28.1)), (8, .c (.val (.int .i64 r_28.2))), (9, .c (.imm (.opt (.pair (.slice (.pair (.int .i64) (.int .i64))) (.int .i64))) r_32.1)), (10, .c (.val (.int .i64 r_32.2))), (11, .c (.imm (.opt (.pair (.slice (.pair (.int .i64) (.int .i64))) (.int .i64))) r_36.1)), (12, .c (.val (.int .i64 r_36.2))), (13, .c (.val (.string r_40.1))), (14, .c (.val (.int .i64 r_40.2)))], [], 0⟩ [(0 : Int) ≤ (((List.length a_1) : Nat) : Int), (((List.length a_1) : Nat) : Int) ≤ (((ByteArray.size s_2) : Nat) : Int)] (by kernel_rfl) rfl rfl (ap2 c_42.1 (ap1 c_42.2)) (by kernel_rfl) (by kernel_rfl) ?_
          refine V_run hN hn 1 0 [0, 1, 5, 6, 7, 8, 9, 10, 11, 12, 13, 14] [] ⟨[(0, .c (.imm (.slice .bool) a_1)), (1, .c (.val (.string s_2))), (5, .c (.imm (.opt (.pair (.slice (.pair (.int .i64) (.int .i64))) (.int .i64))) r_17)), (6, .c (.imm (.opt (.pair (.slice (.pair (.int .i64) (.int .i64))) (.int .i64))) r_24)), (7, .c (.imm (.opt (.pair (.slice (.pair (.int .i64) (.int .i64))) (.int .i64))) r_28.1)), (8, .c (.val (.int .i64 r_28.2))), (9, .c (.imm (.opt (.pair (.slice (.pair (.int .i64) (.int .i64))) (.int .i64))) r_32.1)), (10, .c (.val (.int .i64 r_32.2))), (11, .c (.imm (.opt (.pair (.slice (.pair (.int .i64) (.int .i64))) (.int .i64))) r_36.1)), (12, .c (.val (.int .i64 r_36.2))), (13, .c (.val (.string r_40.1))), (14, .c (.val (.int .i64 r_40.2)))], [], 0⟩ [] (by kernel_rfl) rfl rfl ap0 ?_
          obtain ⟨r_44, h_45, H_104⟩ := of_bind H_103
          obtain ⟨r_46, h_47, H_105⟩ := of_bind H_104
          refine V_reg hN hn [(2, ⟨13, 0, [.c (.imm (.opt (.pair (.slice (.pair (.int .i64) (.int .i64))) (.int .i64))) r_24)], [], .c (.imm (.opt (.pair (.slice (.pair (.int .i64) (.int .i64))) (.int .i64))) r_44), [], [], 0⟩), (3, ⟨23, 0, [.c (.imm (.opt (.pair (.slice (.pair (.int .i64) (.int .i64))) (.int .i64))) r_17), .c (.imm (.opt (.pair (.slice (.pair (.int .i64) (.int .i64))) (.int .i64))) r_44)], [], .tup [(false, [.imm (.opt (.pair (.slice (.pair (.int .i64) (.int .i64))) (.int .i64))) r_46.1]), (false, [.val (.int .i64 r_46.2)])], [], [], 0⟩)] [] (calls_cons (algebra_Not_spec K r_24 r_44 h_45) (by kernel_rfl) (calls_cons (algebra_Shrink_spec K r_17 r_44 r_46 h_47) (by kernel_rfl) calls_nil)) 0 [0, 1, 5, 7, 8, 9, 10, 11, 12, 13, 14, 15, 16] [] ⟨[(0, .c (.imm (.slice .bool) a_1)), (1, .c (.val (.string s_2))), (5, .c (.imm (.opt (.pair (.slice (.pair (.int .i64) (.int .i64))) (.int .i64))) r_17)), (7, .c (.imm (.opt (.pair (.slice (.pair (.int .i64) (.int .i64))) (.int .i64))) r_28.1)), (8, .c (.val (.int .i64 r_28.2))), (9, .c (.imm (.opt (.pair (.slice (.pair (.int .i64) (.int .i64))) (.int .i64))) r_32.1)), (10, .c (.val (.int .i64 r_32.2))), (11, .c (.imm (.opt (.pair (.slice (.pair (.int .i64) (.int .i64))) (.int .i64))) r_36.1)), (12, .c (.val (.int .i64 r_36.2))), (13, .c (.val (.string r_40.1))), (14, .c (.val (.int .i64 r_40.2))), (15, .c (.imm (.opt (.pair (.slice (.pair (.int .i64) (.int .i64))) (.int .i64))) r_46.1)), (16, .c (.val (.int .i64 r_46.2)))], [], 0⟩ [] (by kernel_rfl) rfl rfl ap0 (by kernel_rfl) (by kernel_rfl) ?_
          refine V_run hN hn 1 0 [0, 1, 5, 7, 8, 9, 10, 11, 12, 13, 14, 15, 16] [] ⟨[(0, .c (.imm (.slice .bool) a_1)), (1, .c (.val (.string s_2))), (5, .c (.imm (.opt (.pair (.slice (.pair (.int .i64) (.int .i64))) (.int .i64))) r_17)), (7, .c (.imm (.opt (.pair (.slice (.pair (.int .i64) (.int .i64))) (.int .i64))) r_28.1)), (8, .c (.val (.int .i64 r_28.2))), (9, .c (.imm (.opt (.pair (.slice (.pair (.int .i64) (.int .i64))) (.int .i64))) r_32.1)), (10, .c (.val (.int .i64 r_32.2))), (11, .c (.imm (.opt (.pair (.slice (.pair (.int .i64) (.int .i64))) (.int .i64))) r_36.1)), (12, .c (.val (.int .i64 r_36.2))), (13, .c (.val (.string r_40.1))), (14, .c (.val (.int .i64 r_40.2))), (15, .c (.imm (.opt (.pair (.slice (.pair (.int .i64) (.int .i64))) (.int .i64))) r_46.1)), (16, .c (.val (.int .i64 r_46.2)))], [], 0⟩ [] (by kernel_rfl) rfl rfl ap0 ?_
          rcases Bool.eq_false_or_eq_true ((r_28.2 == (0 : Int))) with b_50 | b_50
          · have H_106 := of_t H_105 b_50
            rcases Bool.eq_false_or_eq_true ((r_32.2 == (0 : Int))) with b_51 | b_51
            · have H_108 := of_t H_106 b_51
              rcases Bool.eq_false_or_eq_true ((r_36.2 == (0 : Int))) with b_52 | b_52
              · have H_110 := of_t H_108 b_52
                rcases Bool.eq_false_or_eq_true ((r_40.2 == (0 : Int))) with b_53 | b_53
                · have H_112 := of_t H_110 b_53
                  rcases Bool.eq_false_or_eq_true ((r_46.2 == (0 : Int))) with b_54 | b_54
                  · have H_114 := of_t H_112 b_54
                    obtain ⟨r_55, h_56, H_116⟩ := of_bind H_114
                    rcases Bool.eq_false_or_eq_true (r_55) with b_57 | b_57
                    · have H_117 := of_t H_116 b_57
                      obtain ⟨r_58, h_59, H_119⟩ := of_bind H_117
                      rcases Bool.eq_false_or_eq_true (r_58) with b_60 | b_60
                      · have H_120 := of_t H_119 b_60
                        obtain ⟨r_61, h_62, H_122⟩ := of_bind H_120
                        rcases Bool.eq_false_or_eq_true (r_61) with b_63 | b_63
                        · have H_123 := of_t H_122 b_63
                          rcases Bool.eq_false_or_eq_true ((ByteArray.toList r_40.1 == ByteArray.toList (ByteArray.extract s_2 0 (Int.toNat (((List.length a_1) : Nat) : Int))))) with b_64 | b_64
                          · have H_125 := of_t H_123 b_64
                            obtain ⟨r_65, h_66, H_127⟩ := of_bind H_125
                            refine V_reg hN hn [(21, ⟨29, 0, [.c (.imm (.opt (.pair (.slice (.pair (.int .i64) (.int .i64))) (.int .i64))) r_28.1), .c (.imm (.opt (.pair (.slice (.pair (.int .i64) (.int .i64))) (.int .i64))) r_17)], [], .c (.val (.bool r_55)), [], [], 0⟩), (26, ⟨29, 0, [.c (.imm (.opt (.pair (.slice (.pair (.int .i64) (.int .i64))) (.int .i64))) r_32.1), .c (.imm (.opt (.pair (.slice (.pair (.int .i64) (.int .i64))) (.int .i64))) r_17)], [], .c (.val (.bool r_58)), [], [], 0⟩), (31, ⟨29, 0, [.c (.imm (.opt (.pair (.slice (.pair (.int .i64) (.int .i64))) (.int .i64))) r_36.1), .c (.imm (.opt (.pair (.slice (.pair (.int .i64) (.int .i64))) (.int .i64))) r_17)], [], .c (.val (.bool r_61)), [], [], 0⟩), (43, ⟨33, 0, [.c (.imm (.opt (.pair (.slice (.pair (.int .i64) (.int .i64))) (.int .i64))) r_46.1)], [], .c (.val (.int .i64 r_65)), [], [], 0⟩)] [(72, true), (76, true), (80, true), (84, true), (88, true), (93, true), (98, true), (103, true), (111, true)] (calls_cons (subset_Subset_Same_spec K r_28.1 r_17 r_55 h_56) (by kernel_rfl) (calls_cons (subset_Subset_Same_spec K r_32.1 r_17 r_58 h_59) (by kernel_rfl) (calls_cons (subset_Subset_Same_spec K r_36.1 r_17 r_61 h_62) (by kernel_rfl) (calls_cons (subset_Subset_Len_spec K r_46.1 r_65 h_66) (by kernel_rfl) calls_nil)))) 0 [4] [] ⟨[(4, .c (.val (.bool (r_65 == (0 : Int)))))], [], 0⟩ [(r_28.2 == (0 : Int)) = true, (r_32.2 == (0 : Int)) = true, (r_36.2 == (0 : Int)) = true, (r_40.2 == (0 : Int)) = true, (r_46.2 == (0 : Int)) = true, r_55 = true, r_58 = true, r_61 = true, (0 : Int) ≤ (((List.length a_1) : Nat) : Int), (((List.length a_1) : Nat) : Int) ≤ (((ByteArray.size s_2) : Nat) : Int), (ByteArray.toList r_40.1 == ByteArray.toList (ByteArray.extract s_2 0 (Int.toNat (((List.length a_1) : Nat) : Int)))) = true] (by kernel_rfl) rfl rfl (ap2 b_50 (ap2 b_51 (ap2 b_52 (ap2 b_53 (ap2 b_54 (ap2 b_57 (ap2 b_60 (ap2 b_63 (ap2 c_42.1 (ap2 c_42.2 (ap1 b_64))))))))))) (by kernel_rfl) (by kernel_rfl) ?_
                            have H_128 := Option.some.inj (show some (r_65 == (0 : Int)) = some r from H_127); subst H_128
                            refine VL_ret ?_
                            exact P_to [(4, .c (.val (.bool (r_65 == (0 : Int)))))] [] [] hn (by kernel_rfl) (by kernel_rfl) rfl rfl rfl (QF_retS (by kernel_rfl) (by kernel_rfl) rfl)
                          · have H_126 := of_f H_123 b_64
                            refine V_reg hN hn [(21, ⟨29, 0, [.c (.imm (.opt (.pair (.slice (.pair (.int .i64) (.int .i64))) (.int .i64))) r_28.1), .c (.imm (.opt (.pair (.slice (.pair (.int .i64) (.int .i64))) (.int .i64))) r_17)], [], .c (.val (.bool r_55)), [], [], 0⟩), (26, ⟨29, 0, [.c (.imm (.opt (.pair (.slice (.pair (.int .i64) (.int .i64))) (.int .i64))) r_32.1), .c (.imm (.opt (.pair (.slice (.pair (.int .i64) (.int .i64))) (.int .i64))) r_17)], [], .c (.val (.bool r_58)), [], [], 0⟩), (31, ⟨29, 0, [.c (.imm (.opt (.pair (.slice (.pair (.int .i64) (.int .i64))) (.int .i64))) r_36.1), .c (.imm (.opt (.pair (.slice (.pair (.int .i64) (.int .i64))) (.int .i64))) r_17)], [], .c (.val (.bool r_61)), [], [], 0⟩)] [(72, true), (76, true), (80, true), (84, true), (88, true), (93, true), (98, true), (103, true), (111, false)] (calls_cons (subset_Subset_Same_spec K r_28.1 r_17 r_55 h_56) (by kernel_rfl) (calls_cons (subset_Subset_Same_spec K r_32.1 r_17 r_58 h_59) (by kernel_rfl) (calls_cons (subset_Subset_Same_spec K r_36.1 r_17 r_61 h_62) (by kernel_rfl) calls_nil))) 0 [4] [] ⟨[(4, .c (.val (.bool false)))], [], 0⟩ [(r_28.2 == (0 : Int)) = true, (r_32.2 == (0 : Int)) = true, (r_36.2 == (0 : Int)) = true, (r_40.2 == (0 : Int)) = true, (r_46.2 == (0 : Int)) = true, r_55 = true, r_58 = true, r_61 = true, (0 : Int) ≤ (((List.length a_1) : Nat) : Int), (((List.length a_1) : Nat) : Int) ≤ (((ByteArray.size s_2) : Nat) : Int), (ByteArray.toList r_40.1 == ByteArray.toList (ByteArray.extract s_2 0 (Int.toNat (((List.length a_1) : Nat) : Int)))) = false] (by kernel_rfl) rfl rfl (ap2 b_50 (ap2 b_51 (ap2 b_52 (ap2 b_53 (ap2 b_54 (ap2 b_57 (ap2 b_60 (ap2 b_63 (ap2 c_42.1 (ap2 c_42.2 (ap1 b_64))))))))))) (by kernel_rfl) (by kernel_rfl) ?_
                            have H_129 := Option.some.inj (show some false = some r from H_126); subst H_129
                            refine VL_ret ?_
                            exact P_to [(4, .c (.val (.bool false)))] [] [] hn (by kernel_rfl) (by kernel_rfl) rfl rfl rfl (QF_retS (by kernel_rfl) (by kernel_rfl) rfl)
                        · have H_124 := of_f H_122 b_63
                          refine V_reg hN hn [(21, ⟨29, 0, [.c (.imm (.opt (.pair (.slice (.pair (.int .i64) (.int .i64))) (.int .i64))) r_28.1), .c (.imm (.opt (.pair (.slice (.pair (.int .i64) (.int .i64))) (.int .i64))) r_17)], [], .c (.val (.bool r_55)), [], [], 0⟩), (26, ⟨29, 0, [.c (.imm (.opt (.pair (.slice (.pair (.int .i64) (.int .i64))) (.int .i64))) r_32.1), .c (.imm (.opt (.pair (.slice (.pair (.int .i64) (.int .i64))) (.int .i64))) r_17)], [], .c (.val (.bool r_58)), [], [], 0⟩), (31, ⟨29, 0, [.c (.imm (.opt (.pair (.slice (.pair (.int .i64) (.int .i64))) (.int .i64))) r_36.1), .c (.imm (.opt (.pair (.slice (.pair (.int .i64) (.int .i64))) (.int .i64))) r_17)], [], .c (.val (.bool r_61)), [], [], 0⟩)] [(72, true), (76, true), (80, true), (84, true), (88, true), (93, true), (98, true), (103, false)] (calls_cons (subset_Subset_Same_spec K r_28.1 r_17 r_55 h_56) (by kernel_rfl) (calls_cons (subset_Subset_Same_spec K r_32.1 r_17 r_58 h_59) (by kernel_rfl) (calls_cons (subset_Subset_Same_spec K r_36.1 r_17 r_61 h_62) (by kernel_rfl) calls_nil))) 0 [4] [] ⟨[(4, .c (.val (.bool false)))], [], 0⟩ [(r_28.2 == (0 : Int)) = true, (r_32.2 == (0 : Int)) = true, (r_36.2 == (0 : Int)) = true, (r_40.2 == (0 : Int)) = true, (r_46.2 == (0 : Int)) = true, r_55 = true, r_58 = true, r_61 = false] (by kernel_rfl) rfl rfl (ap2 b_50 (ap2 b_51 (ap2 b_52 (ap2 b_53 (ap2 b_54 (ap2 b_57 (ap2 b_60 (ap1 b_63)))))))) (by kernel_rfl) (by kernel_rfl) ?_
                          have H_130 := Option.some.inj (show some false = some r from H_124); subst H_130
                          refine VL_ret ?_
                          exact P_to [(4, .c (.val (.bool false)))] [] [] hn (by kernel_rfl) (by kernel_rfl) rfl rfl rfl (QF_retS (by kernel_rfl) (by kernel_rfl) rfl)
                      · have H_121 := of_f H_119 b_60
                        refine V_reg hN hn [(21, ⟨29, 0, [.c (.imm (.opt (.pair (.slice (.pair (.int .i64) (.int .i64))) (.int .i64))) r_28.1), .c (.imm (.opt (.pair (.slice (.pair (.int .i64) (.int .i64))) (.int .i64))) r_17)], [], .c (.val (.bool r_55)), [], [], 0⟩), (26, ⟨29, 0, [.c (.imm (.opt (.pair (.slice (.pair (.int .i64) (.int .i64))) (.int .i64))) r_32.1), .c (.imm (.opt (.pair (.slice (.pair (.int .i64) (.int .i64))) (.int .i64))) r_17)], [], .c (.val (.bool r_58)), [], [], 0⟩)] [(72, true), (76, true), (80, true), (84, true), (88, true), (93, true), (98, false)] (calls_cons (subset_Subset_Same_spec K r_28.1 r_17 r_55 h_56) (by kernel_rfl) (calls_cons (subset_Subset_Same_spec K r_32.1 r_17 r_58 h_59) (by kernel_rfl) calls_nil)) 0 [4] [] ⟨[(4, .c (.val (.bool false)))], [], 0⟩ [(r_28.2 == (0 : Int)) = true, (r_32.2 == (0 : Int)) = true, (r_36.2 == (0 : Int)) = true, (r_40.2 == (0 : Int)) = true, (r_46.2 == (0 : Int)) = true, r_55 = true, r_58 = false] (by kernel_rfl) rfl rfl (ap2 b_50 (ap2 b_51 (ap2 b_52 (ap2 b_53 (ap2 b_54 (ap2 b_57 (ap1 b_60))))))) (by kernel_rfl) (by kernel_rfl) ?_
                        have H_131 := Option.some.inj (show some false = some r from H_121); subst H_131
                        refine VL_ret ?_
                        exact P_to [(4, .c (.val (.bool false)))] [] [] hn (by kernel_rfl) (by kernel_rfl) rfl rfl rfl (QF_retS (by kernel_rfl) (by kernel_rfl) rfl)
                    · have H_118 := of_f H_116 b_57
                      refine V_reg hN hn [(21, ⟨29, 0, [.c (.imm (.opt (.pair (.slice (.pair (.int .i64) (.int .i64))) (.int .i64))) r_28.1), .c (.imm (.opt (.pair (.slice (.pair (.int .i64) (.int .i64))) (.int .i64))) r_17)], [], .c (.val (.bool r_55)), [], [], 0⟩)] [(72, true), (76, true), (80, true), (84, true), (88, true), (93, false)] (calls_cons (subset_Subset_Same_spec K r_28.1 r_17 r_55 h_56) (by kernel_rfl) calls_nil) 0 [4] [] ⟨[(4, .c (.val (.bool false)))], [], 0⟩ [(r_28.2 == (0 : Int)) = true, (r_32.2 == (0 : Int)) = true, (r_36.2 == (0 : Int)) = true, (r_40.2 == (0 : Int)) = true, (r_46.2 == (0 : Int)) = true, r_55 = false] (by kernel_rfl) rfl rfl (ap2 b_50 (ap2 b_51 (ap2 b_52 (ap2 b_53 (ap2 b_54 (ap1 b_57)))))) (by kernel_rfl) (by kernel_rfl) ?_
                      have H_132 := Option.some.inj (show some false = some r from H_118); subst H_132
                      refine VL_ret ?_
                      exact P_to [(4, .c (.val (.bool false)))] [] [] hn (by kernel_rfl) (by kernel_rfl) rfl rfl rfl (QF_retS (by kernel_rfl) (by kernel_rfl) rfl)
                  · have H_115 := of_f H_112 b_54
                    refine V_reg hN hn [] [(72, true), (76, true), (80, true), (84, true), (88, false)] calls_nil 0 [4] [] ⟨[(4, .c (.val (.bool false)))], [], 0⟩ [(r_28.2 == (0 : Int)) = true, (r_32.2 == (0 : Int)) = true, (r_36.2 == (0 : Int)) = true, (r_40.2 == (0 : Int)) = true, (r_46.2 == (0 : Int)) = false] (by kernel_rfl) rfl rfl (ap2 b_50 (ap2 b_51 (ap2 b_52 (ap2 b_53 (ap1 b_54))))) (by kernel_rfl) (by kernel_rfl) ?_
                    have H_133 := Option.some.inj (show some false = some r from H_115); subst H_133
                    refine VL_ret ?_
                    exact P_to [(4, .c (.val (.bool false)))] [] [] hn (by kernel_rfl) (by kernel_rfl) rfl rfl rfl (QF_retS (by kernel_rfl) (by kernel_rfl) rfl)
                · have H_113 := of_f H_110 b_53
                  refine V_reg hN hn [] [(72, true), (76, true), (80, true), (84, false)] calls_nil 0 [4] [] ⟨[(4, .c (.val (.bool false)))], [], 0⟩ [(r_28.2 == (0 : Int)) = true, (r_32.2 == (0 : Int)) = true, (r_36.2 == (0 : Int)) = true, (r_40.2 == (0 : Int)) = false] (by kernel_rfl) rfl rfl (ap2 b_50 (ap2 b_51 (ap2 b_52 (ap1 b_53)))) (by kernel_rfl) (by kernel_rfl) ?_
                  have H_134 := Option.some.inj (show some false = some r from H_113); subst H_134
                  refine VL_ret ?_
                  exact P_to [(4, .c (.val (.bool false)))] [] [] hn (by kernel_rfl) (by kernel_rfl) rfl rfl rfl (QF_retS (by kernel_rfl) (by kernel_rfl) rfl)
              · have H_111 := of_f H_108 b_52
                refine V_reg hN hn [] [(72, true), (76, true), (80, false)] calls_nil 0 [4] [] ⟨[(4, .c (.val (.bool false)))], [], 0⟩ [(r_28.2 == (0 : Int)) = true, (r_32.2 == (0 : Int)) = true, (r_36.2 == (0 : Int)) = false] (by kernel_rfl) rfl rfl (ap2 b_50 (ap2 b_51 (ap1 b_52))) (by kernel_rfl) (by kernel_rfl) ?_
                have H_135 := Option.some.inj (show some false = some r from H_111); subst H_135
                refine VL_ret ?_
                exact P_to [(4, .c (.val (.bool false)))] [] [] hn (by kernel_rfl) (by kernel_rfl) rfl rfl rfl (QF_retS (by kernel_rfl) (by kernel_rfl) rfl)
            · have H_109 := of_f H_106 b_51
              refine V_reg hN hn [] [(72, true), (76, false)] calls_nil 0 [4] [] ⟨[(4, .c (.val (.bool false)))], [], 0⟩ [(r_28.2 == (0 : Int)) = true, (r_32.2 == (0 : Int)) = false] (by kernel_rfl) rfl rfl (ap2 b_50 (ap1 b_51)) (by kernel_rfl) (by kernel_rfl) ?_
              have H_136 := Option.some.inj (show some false = some r from H_109); subst H_136
              refine VL_ret ?_
              exact P_to [(4, .c (.val (.bool false)))] [] [] hn (by kernel_rfl) (by kernel_rfl) rfl rfl rfl (QF_retS (by kernel_rfl) (by kernel_rfl) rfl)
          · have H_107 := of_f H_105 b_50
            refine V_reg hN hn [] [(72, false)] calls_nil 0 [4] [] ⟨[(4, .c (.val (.bool false)))], [], 0⟩ [(r_28.2 == (0 : Int)) = false] (by kernel_rfl) rfl rfl (ap1 b_50) (by kernel_rfl) (by kernel_rfl) ?_
            have H_137 := Option.some.inj (show some false = some r from H_107); subst H_137
            refine VL_ret ?_
            exact P_to [(4, .c (.val (.bool false)))] [] [] hn (by kernel_rfl) (by kernel_rfl) rfl rfl rfl (QF_retS (by kernel_rfl) (by kernel_rfl) rfl)

end Go.Pal
