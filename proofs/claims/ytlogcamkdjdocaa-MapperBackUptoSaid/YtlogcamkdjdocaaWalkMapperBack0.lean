/- The Go functions that MapperBack reaches compute what the plain functions say: part 0, printed by a program of this workplace. -/
import Derived.Test.YtlogcamkdjdocaaChecked
import Derived.Test.YtlogcamkdjdocaaFunMapperBack
namespace Go.Pal
open Go Go.Proofs
set_option maxRecDepth 100000
set_option linter.unusedVariables false

theorem palinoderef7_Segs_r_spec (K : Nat) (l_1 : (List Int)) (r : (List (Int × Int))) (H : palinoderef7_Segs_r K l_1 = some r) : Spec Try.prog 45 1 [.c (.h 0)] [(0, .row (.int .i64) l_1)] (.c (.h 4)) [(0, .row (.int .i64) l_1), (4, .row (.pair (.int .i64) (.int .i64)) r)] := by
  refine Spec_mk (fn := Try.f45) (c := (Try.f45.body).get!) Try.func45 (by kernel_rfl) rfl ?_
  intro C hN hn
  replace hN : C.N = 47 := hN
  unfold palinoderef7_Segs_r at H
  refine V_run hN hn 7 1 [0, 3, 4] [0] ⟨[(0, .c (.h 0)), (3, .c (.val (.slice none 0 0))), (4, .c (.val (.int .i64 (0 : Int))))], [(0, .row (.int .i64) l_1)], 1⟩ [] (by kernel_rfl) rfl rfl ap0 ?_
  refine VL_block ?_
  refine V_ghost [.nilSlot 3 (.pair (.int .i64) (.int .i64))] 1 hn [0, 3, 4] [0, 1] ⟨[(0, .c (.h 0)), (3, .c (.h 1)), (4, .c (.val (.int .i64 (0 : Int))))], [(0, .row (.int .i64) l_1), (1, .row (.pair (.int .i64) (.int .i64)) ([] : List (Int × Int)))], 2⟩ (by kernel_rfl) rfl rfl ?_
  refine V_to [(0, .c (.h 0)), (3, .c (.h 4)), (4, .c (.val (.int .i64 (0 : Int))))] [(0, .row (.int .i64) l_1), (4, .row (.pair (.int .i64) (.int .i64)) ([] : List (Int × Int)))] [(4, 1)] hn (by kernel_rfl) (by kernel_rfl) rfl rfl rfl ?_
  refine VL_loop (X := ((List (Int × Int)) × Int)) (fun x => [(0, .c (.h 0)), (3, .c (.h 4)), (4, .c (.val (.int .i64 x.2)))]) (fun x => [(0, .row (.int .i64) l_1), (4, .row (.pair (.int .i64) (.int .i64)) x.1)]) (fun k x => palinoderef7_Segs_r.l0 K l_1 k x.1 x.2 = some r) K (([] : List (Int × Int)), (0 : Int)) H (fun _ h => no_none h) ?_
  intro k_20 x_20 H_38
  obtain ⟨out_19, i_3⟩ := x_20
  have H_39 : palinoderef7_Segs_r.l0 K l_1 (k_20 + 1) out_19 i_3 = some r := H_38
  rw [palinoderef7_Segs_r.l0] at H_39
  refine V_run hN hn 3 5 [0, 3, 4, 9] [0, 4] ⟨[(0, .c (.h 0)), (3, .c (.h 4)), (4, .c (.val (.int .i64 i_3))), (9, .c (.val (.bool (decide (i_3 < (((List.length l_1) : Nat) : Int))))))], [(0, .row (.int .i64) l_1), (4, .row (.pair (.int .i64) (.int .i64)) out_19)], 5⟩ [] (by kernel_rfl) rfl rfl ap0 ?_
  refine VL_cond ((decide (i_3 < (((List.length l_1) : Nat) : Int)))) (by kernel_rfl) ?_ ?_
  · intro b_22; have H_40 := of_t H_39 b_22
    refine V_run hN hn 2 5 [0, 3, 4, 9] [0, 4] ⟨[(0, .c (.h 0)), (3, .c (.h 4)), (4, .c (.val (.int .i64 i_3))), (9, .c (.val (.bool (decide (i_3 < (((List.length l_1) : Nat) : Int))))))], [(0, .row (.int .i64) l_1), (4, .row (.pair (.int .i64) (.int .i64)) out_19)], 5⟩ [] (by kernel_rfl) rfl rfl ap0 ?_
    refine VL_block ?_
    refine V_run hN hn 3 5 [0, 3, 4, 5] [0, 4] ⟨[(0, .c (.h 0)), (3, .c (.h 4)), (4, .c (.val (.int .i64 i_3))), (5, .c (.val (.int .i64 (((List.length out_19) : Nat) : Int))))], [(0, .row (.int .i64) l_1), (4, .row (.pair (.int .i64) (.int .i64)) out_19)], 5⟩ [] (by kernel_rfl) rfl rfl ap0 ?_
    obtain ⟨q_42, H_43, H_44⟩ := of_bind H_40
    refine V_cut (Y := Bool) (R := Bool) q_42 (fun y => y) (fun y => [(0, .c (.h 0)), (3, .c (.h 4)), (4, .c (.val (.int .i64 i_3))), (5, .c (.val (.int .i64 (((List.length out_19) : Nat) : Int)))), (28, .c (.val (.bool y)))]) (fun y => [(0, .row (.int .i64) l_1), (4, .row (.pair (.int .i64) (.int .i64)) out_19)]) ?_ ?_
    · skip
      rcases Bool.eq_false_or_eq_true ((decide ((((List.length out_19) : Nat) : Int) > (0 : Int)))) with b_25 | b_25
      · have H_46 := of_t H_43 b_25
        obtain ⟨c_26, H_48⟩ := of_if H_46
        refine V_draw hN hn (by kernel_rfl) [] [(16, true)] calls_nil 5 [0, 3, 4, 5, 28] [0, 4] ⟨[(0, .c (.h 0)), (3, .c (.h 4)), (4, .c (.val (.int .i64 i_3))), (5, .c (.val (.int .i64 (((List.length out_19) : Nat) : Int)))), (28, .c (.val (.bool ((List.getD out_19 (Int.toNat (IntKind.wrap .i64 ((((List.length out_19) : Nat) : Int) - (1 : Int)))) ((0 : Int), (0 : Int))).2 == (List.getD l_1 (Int.toNat i_3) (0 : Int))))))], [(0, .row (.int .i64) l_1), (4, .row (.pair (.int .i64) (.int .i64)) out_19)], 5⟩ [(decide ((((List.length out_19) : Nat) : Int) > (0 : Int))) = true, 0 ≤ (IntKind.wrap .i64 ((((List.length out_19) : Nat) : Int) - (1 : Int))), (IntKind.wrap .i64 ((((List.length out_19) : Nat) : Int) - (1 : Int))) < (((List.length out_19) : Nat) : Int), 0 ≤ i_3, i_3 < (((List.length l_1) : Nat) : Int)] (by kernel_rfl) rfl rfl (ap2 b_25 (ap2 c_26.1 (ap2 c_26.2.1 (ap2 c_26.2.2.1 (ap1 c_26.2.2.2))))) (by kernel_rfl) (by kernel_rfl) ?_
        have H_49 := Option.some.inj (show some ((List.getD out_19 (Int.toNat (IntKind.wrap .i64 ((((List.length out_19) : Nat) : Int) - (1 : Int)))) ((0 : Int), (0 : Int))).2 == (List.getD l_1 (Int.toNat i_3) (0 : Int))) = some q_42 from H_48); subst H_49
        refine VL_nil ?_
        exact QP_end ((List.getD out_19 (Int.toNat (IntKind.wrap .i64 ((((List.length out_19) : Nat) : Int) - (1 : Int)))) ((0 : Int), (0 : Int))).2 == (List.getD l_1 (Int.toNat i_3) (0 : Int))) rfl [(4, 4)] hn (by kernel_rfl) (by kernel_rfl) rfl rfl rfl
      · have H_47 := of_f H_43 b_25
        refine V_draw hN hn (by kernel_rfl) [] [(16, false)] calls_nil 5 [0, 3, 4, 5, 28] [0, 4] ⟨[(0, .c (.h 0)), (3, .c (.h 4)), (4, .c (.val (.int .i64 i_3))), (5, .c (.val (.int .i64 (((List.length out_19) : Nat) : Int)))), (28, .c (.val (.bool false)))], [(0, .row (.int .i64) l_1), (4, .row (.pair (.int .i64) (.int .i64)) out_19)], 5⟩ [(decide ((((List.length out_19) : Nat) : Int) > (0 : Int))) = false] (by kernel_rfl) rfl rfl (ap1 b_25) (by kernel_rfl) (by kernel_rfl) ?_
        have H_50 := Option.some.inj (show some false = some q_42 from H_47); subst H_50
        refine VL_nil ?_
        exact QP_end false rfl [(4, 4)] hn (by kernel_rfl) (by kernel_rfl) rfl rfl rfl
    · intro y_45 hy; subst hy
      skip
      skip
      refine VL_cond (y_45) (by kernel_rfl) ?_ ?_
      · intro b_29; have H_51 := of_t H_44 b_29
        obtain ⟨c_30, H_53⟩ := of_if H_51
        refine V_run hN hn 1 5 [0, 3, 4] [0, 4] ⟨[(0, .c (.h 0)), (3, .c (.h 4)), (4, .c (.val (.int .i64 i_3)))], [(0, .row (.int .i64) l_1), (4, .row (.pair (.int .i64) (.int .i64)) (List.set out_19 (Int.toNat (IntKind.wrap .i64 ((((List.length out_19) : Nat) : Int) - (1 : Int)))) ((IntKind.wrap .i64 ((List.getD out_19 (Int.toNat (IntKind.wrap .i64 ((((List.length out_19) : Nat) : Int) - (1 : Int)))) ((0 : Int), (0 : Int))).1 + (1 : Int))), (List.getD out_19 (Int.toNat (IntKind.wrap .i64 ((((List.length out_19) : Nat) : Int) - (1 : Int)))) ((0 : Int), (0 : Int))).2)))], 5⟩ [0 ≤ (IntKind.wrap .i64 ((((List.length out_19) : Nat) : Int) - (1 : Int))), (IntKind.wrap .i64 ((((List.length out_19) : Nat) : Int) - (1 : Int))) < (((List.length out_19) : Nat) : Int), 0 ≤ (IntKind.wrap .i64 ((((List.length out_19) : Nat) : Int) - (1 : Int))), (IntKind.wrap .i64 ((((List.length out_19) : Nat) : Int) - (1 : Int))) < (((List.length out_19) : Nat) : Int)] (by kernel_rfl) rfl rfl (ap2 c_30.1 (ap2 c_30.2 (ap2 c_30.1 (ap1 c_30.2)))) ?_
        refine VL_nil (QB_end ?_)
        refine V_run hN hn 1 5 [0, 3, 4] [0, 4] ⟨[(0, .c (.h 0)), (3, .c (.h 4)), (4, .c (.val (.int .i64 (IntKind.wrap .i64 (i_3 + (1 : Int))))))], [(0, .row (.int .i64) l_1), (4, .row (.pair (.int .i64) (.int .i64)) (List.set out_19 (Int.toNat (IntKind.wrap .i64 ((((List.length out_19) : Nat) : Int) - (1 : Int)))) ((IntKind.wrap .i64 ((List.getD out_19 (Int.toNat (IntKind.wrap .i64 ((((List.length out_19) : Nat) : Int) - (1 : Int)))) ((0 : Int), (0 : Int))).1 + (1 : Int))), (List.getD out_19 (Int.toNat (IntKind.wrap .i64 ((((List.length out_19) : Nat) : Int) - (1 : Int)))) ((0 : Int), (0 : Int))).2)))], 5⟩ [] (by kernel_rfl) rfl rfl ap0 ?_
        refine VL_nil ?_
        exact V_roundEnd ((List.set out_19 (Int.toNat (IntKind.wrap .i64 ((((List.length out_19) : Nat) : Int) - (1 : Int)))) ((IntKind.wrap .i64 ((List.getD out_19 (Int.toNat (IntKind.wrap .i64 ((((List.length out_19) : Nat) : Int) - (1 : Int)))) ((0 : Int), (0 : Int))).1 + (1 : Int))), (List.getD out_19 (Int.toNat (IntKind.wrap .i64 ((((List.length out_19) : Nat) : Int) - (1 : Int)))) ((0 : Int), (0 : Int))).2)), (IntKind.wrap .i64 (i_3 + (1 : Int)))) H_53 [(4, 4)] hn (by kernel_rfl) (by kernel_rfl) rfl rfl rfl
      · intro b_29; have H_52 := of_f H_44 b_29
        obtain ⟨c_32, H_54⟩ := of_if H_52
        refine V_run hN hn 1 5 [0, 3, 4] [0, 6] ⟨[(0, .c (.h 0)), (3, .c (.h 6)), (4, .c (.val (.int .i64 i_3)))], [(0, .row (.int .i64) l_1), (6, .row (.pair (.int .i64) (.int .i64)) (out_19 ++ ([((1 : Int), (List.getD l_1 (Int.toNat i_3) (0 : Int)))] : List (Int × Int))))], 7⟩ [0 ≤ i_3, i_3 < (((List.length l_1) : Nat) : Int), (List.length out_19 + List.length ([((1 : Int), (List.getD l_1 (Int.toNat i_3) (0 : Int)))] : List (Int × Int))) * 16 ≤ 140737488355328] (by kernel_rfl) rfl rfl (ap2 c_32.1 (ap2 c_32.2.1 (ap1 c_32.2.2))) ?_
        refine VL_nil (QB_end ?_)
        refine V_run hN hn 1 7 [0, 3, 4] [0, 6] ⟨[(0, .c (.h 0)), (3, .c (.h 6)), (4, .c (.val (.int .i64 (IntKind.wrap .i64 (i_3 + (1 : Int))))))], [(0, .row (.int .i64) l_1), (6, .row (.pair (.int .i64) (.int .i64)) (out_19 ++ ([((1 : Int), (List.getD l_1 (Int.toNat i_3) (0 : Int)))] : List (Int × Int))))], 7⟩ [] (by kernel_rfl) rfl rfl ap0 ?_
        refine VL_nil ?_
        exact V_roundEnd ((out_19 ++ ([((1 : Int), (List.getD l_1 (Int.toNat i_3) (0 : Int)))] : List (Int × Int))), (IntKind.wrap .i64 (i_3 + (1 : Int)))) H_54 [(4, 6)] hn (by kernel_rfl) (by kernel_rfl) rfl rfl rfl
  · intro b_22; have H_41 := of_f H_39 b_22
    refine VL_exit ?_
    refine QL_exit ?_
    refine QB_here ?_
    refine V_run hN hn 2 5 [2] [0, 4] ⟨[(2, .c (.h 4))], [(0, .row (.int .i64) l_1), (4, .row (.pair (.int .i64) (.int .i64)) out_19)], 5⟩ [] (by kernel_rfl) rfl rfl ap0 ?_
    have H_55 := Option.some.inj (show some out_19 = some r from H_41); subst H_55
    refine VL_ret ?_
    exact P_to [(2, .c (.h 4))] [(0, .row (.int .i64) l_1), (4, .row (.pair (.int .i64) (.int .i64)) out_19)] [(4, 4)] hn (by kernel_rfl) (by kernel_rfl) rfl rfl rfl (QF_retS (by kernel_rfl) (by kernel_rfl) rfl)

theorem subset_isCount_spec (K : Nat) (n_1 : Int) (r : Bool) (H : subset_isCount K n_1 = some r) : Spec Try.prog 41 0 [.c (.val (.int .i64 n_1))] [] (.c (.val (.bool r))) [] := by
  refine Spec_mk (fn := Try.f41) (c := (Try.f41.body).get!) Try.func41 (by kernel_rfl) rfl ?_
  intro C hN hn
  replace hN : C.N = 9 := hN
  unfold subset_isCount at H
  refine V_run hN hn 3 0 [0] [] ⟨[(0, .c (.val (.int .i64 n_1)))], [], 0⟩ [] (by kernel_rfl) rfl rfl ap0 ?_
  rcases Bool.eq_false_or_eq_true ((decide (n_1 ≥ (0 : Int)))) with b_3 | b_3
  · have H_7 := of_t H b_3
    refine V_reg hN hn [] [(5, true)] calls_nil 0 [2] [] ⟨[(2, .c (.val (.bool (decide (n_1 ≤ (100 : Int))))))], [], 0⟩ [(decide (n_1 ≥ (0 : Int))) = true] (by kernel_rfl) rfl rfl (ap1 b_3) (by kernel_rfl) (by kernel_rfl) ?_
    have H_9 := Option.some.inj (show some (decide (n_1 ≤ (100 : Int))) = some r from H_7); subst H_9
    refine VL_ret ?_
    exact P_to [(2, .c (.val (.bool (decide (n_1 ≤ (100 : Int))))))] [] [] hn (by kernel_rfl) (by kernel_rfl) rfl rfl rfl (QF_retS (by kernel_rfl) (by kernel_rfl) rfl)
  · have H_8 := of_f H b_3
    refine V_reg hN hn [] [(5, false)] calls_nil 0 [2] [] ⟨[(2, .c (.val (.bool false)))], [], 0⟩ [(decide (n_1 ≥ (0 : Int))) = false] (by kernel_rfl) rfl rfl (ap1 b_3) (by kernel_rfl) (by kernel_rfl) ?_
    have H_10 := Option.some.inj (show some false = some r from H_8); subst H_10
    refine VL_ret ?_
    exact P_to [(2, .c (.val (.bool false)))] [] [] hn (by kernel_rfl) (by kernel_rfl) rfl rfl rfl (QF_retS (by kernel_rfl) (by kernel_rfl) rfl)

theorem subset_Pack_r_spec (K : Nat) (segs_1 : (List (Int × Int))) (r : ((Option ((List (Int × Int)) × Int)) × Int)) (H : subset_Pack_r K segs_1 = some r) : Spec Try.prog 40 1 [.c (.h 0)] [(0, .row (.pair (.int .i64) (.int .i64)) segs_1)] (.tup [(false, [.imm (.opt (.pair (.slice (.pair (.int .i64) (.int .i64))) (.int .i64))) r.1]), (false, [.val (.int .i64 r.2)])]) [(0, .row (.pair (.int .i64) (.int .i64)) segs_1)] := by
  refine Spec_mk (fn := Try.f40) (c := (Try.f40.body).get!) Try.func40 (by kernel_rfl) rfl ?_
  intro C hN hn
  replace hN : C.N = 88 := hN
  unfold subset_Pack_r at H
  refine V_run hN hn 7 1 [4, 10, 11, 12] [0, 1] ⟨[(4, .c (.h 1)), (10, .c (.h 0)), (11, .c (.val (.int .i64 (((List.length segs_1) : Nat) : Int)))), (12, .c (.val (.int .i64 (0 : Int))))], [(0, .row (.pair (.int .i64) (.int .i64)) segs_1), (1, .box [.val (.slice none 0 0), .val (.int .i64 (0 : Int))])], 2⟩ [] (by kernel_rfl) rfl rfl ap0 ?_
  obtain ⟨q_61, H_62, H_63⟩ := of_bind H
  refine V_cut (Y := ((List (Int × Int)) × Int)) (R := (((Option ((List (Int × Int)) × Int)) × Int) ⊕ ((List (Int × Int)) × Int))) q_61 (fun y => (Sum.inr y)) (fun y => [(4, .c (.h 1))]) (fun y => [(0, .row (.pair (.int .i64) (.int .i64)) segs_1), (1, .box [.h 5, .val (.int .i64 y.2)]), (5, .row (.pair (.int .i64) (.int .i64)) y.1)]) ?_ ?_
  · skip
    refine VL_block ?_
    refine V_ghost [.nilCell 1 0 (.pair (.int .i64) (.int .i64))] 2 hn [4, 10, 11, 12] [0, 1, 2] ⟨[(4, .c (.h 1)), (10, .c (.h 0)), (11, .c (.val (.int .i64 (((List.length segs_1) : Nat) : Int)))), (12, .c (.val (.int .i64 (0 : Int))))], [(0, .row (.pair (.int .i64) (.int .i64)) segs_1), (1, .box [.h 2, .val (.int .i64 (0 : Int))]), (2, .row (.pair (.int .i64) (.int .i64)) ([] : List (Int × Int)))], 3⟩ (by kernel_rfl) rfl rfl ?_
    refine V_to [(4, .c (.h 1)), (10, .c (.h 0)), (11, .c (.val (.int .i64 (((List.length segs_1) : Nat) : Int)))), (12, .c (.val (.int .i64 (0 : Int))))] [(0, .row (.pair (.int .i64) (.int .i64)) segs_1), (1, .box [.h 5, .val (.int .i64 (0 : Int))]), (5, .row (.pair (.int .i64) (.int .i64)) ([] : List (Int × Int)))] [(1, 1), (5, 2)] hn (by kernel_rfl) (by kernel_rfl) rfl rfl rfl ?_
    refine VL_loop (X := ((List (Int × Int)) × Int × Int)) (fun x => [(4, .c (.h 1)), (10, .c (.h 0)), (11, .c (.val (.int .i64 (((List.length segs_1) : Nat) : Int)))), (12, .c (.val (.int .i64 x.2.2)))]) (fun x => [(0, .row (.pair (.int .i64) (.int .i64)) segs_1), (1, .box [.h 5, .val (.int .i64 x.2.1)]), (5, .row (.pair (.int .i64) (.int .i64)) x.1)]) (fun k x => subset_Pack_r.l0 K segs_1 k x.1 x.2.1 x.2.2 = some q_61) K (([] : List (Int × Int)), (0 : Int), (0 : Int)) H_62 (fun _ h => no_none h) ?_
    intro k_24 x_24 H_65
    obtain ⟨x_22, x_23, t_3⟩ := x_24
    have H_66 : subset_Pack_r.l0 K segs_1 (k_24 + 1) x_22 x_23 t_3 = some q_61 := H_65
    rw [subset_Pack_r.l0] at H_66
    refine V_run hN hn 3 6 [4, 10, 11, 12, 13] [0, 1, 5] ⟨[(4, .c (.h 1)), (10, .c (.h 0)), (11, .c (.val (.int .i64 (((List.length segs_1) : Nat) : Int)))), (12, .c (.val (.int .i64 t_3))), (13, .c (.val (.bool (decide (t_3 < (((List.length segs_1) : Nat) : Int))))))], [(0, .row (.pair (.int .i64) (.int .i64)) segs_1), (1, .box [.h 5, .val (.int .i64 x_23)]), (5, .row (.pair (.int .i64) (.int .i64)) x_22)], 6⟩ [] (by kernel_rfl) rfl rfl ap0 ?_
    refine VL_cond ((decide (t_3 < (((List.length segs_1) : Nat) : Int)))) (by kernel_rfl) ?_ ?_
    · intro b_26; have H_67 := of_t H_66 b_26
      refine V_run hN hn 2 6 [4, 10, 11, 12, 13] [0, 1, 5] ⟨[(4, .c (.h 1)), (10, .c (.h 0)), (11, .c (.val (.int .i64 (((List.length segs_1) : Nat) : Int)))), (12, .c (.val (.int .i64 t_3))), (13, .c (.val (.bool (decide (t_3 < (((List.length segs_1) : Nat) : Int))))))], [(0, .row (.pair (.int .i64) (.int .i64)) segs_1), (1, .box [.h 5, .val (.int .i64 x_23)]), (5, .row (.pair (.int .i64) (.int .i64)) x_22)], 6⟩ [] (by kernel_rfl) rfl rfl ap0 ?_
      refine VL_block ?_
      obtain ⟨c_28, H_69⟩ := of_if H_67
      refine V_run hN hn 5 6 [4, 6, 10, 11, 12, 18] [0, 1, 5, 6] ⟨[(4, .c (.h 1)), (6, .c (.h 6)), (10, .c (.h 0)), (11, .c (.val (.int .i64 (((List.length segs_1) : Nat) : Int)))), (12, .c (.val (.int .i64 t_3))), (18, .c (.val (.bool ((List.getD segs_1 (Int.toNat t_3) ((0 : Int), (0 : Int))).1 == (0 : Int)))))], [(0, .row (.pair (.int .i64) (.int .i64)) segs_1), (1, .box [.h 5, .val (.int .i64 x_23)]), (5, .row (.pair (.int .i64) (.int .i64)) x_22), (6, .box [.val (.int .i64 (List.getD segs_1 (Int.toNat t_3) ((0 : Int), (0 : Int))).1), .val (.int .i64 (List.getD segs_1 (Int.toNat t_3) ((0 : Int), (0 : Int))).2)])], 7⟩ [0 ≤ t_3, t_3 < (((List.length segs_1) : Nat) : Int)] (by kernel_rfl) rfl rfl (ap2 c_28.1 (ap1 c_28.2)) ?_
      refine VL_cond (((List.getD segs_1 (Int.toNat t_3) ((0 : Int), (0 : Int))).1 == (0 : Int))) (by kernel_rfl) ?_ ?_
      · intro b_29; have H_70 := of_t H_69 b_29
        refine VL_exit ?_
        refine QB_here ?_
        refine V_run hN hn 1 7 [4, 10, 11, 12] [0, 1, 5] ⟨[(4, .c (.h 1)), (10, .c (.h 0)), (11, .c (.val (.int .i64 (((List.length segs_1) : Nat) : Int)))), (12, .c (.val (.int .i64 (IntKind.wrap .i64 (t_3 + (1 : Int))))))], [(0, .row (.pair (.int .i64) (.int .i64)) segs_1), (1, .box [.h 5, .val (.int .i64 x_23)]), (5, .row (.pair (.int .i64) (.int .i64)) x_22)], 7⟩ [] (by kernel_rfl) rfl rfl ap0 ?_
        refine VL_nil ?_
        exact V_roundEnd (x_22, x_23, (IntKind.wrap .i64 (t_3 + (1 : Int)))) H_70 [(1, 1), (5, 5)] hn (by kernel_rfl) (by kernel_rfl) rfl rfl rfl
      · intro b_29; have H_71 := of_f H_69 b_29
        refine V_run hN hn 3 7 [4, 6, 10, 11, 12, 18] [0, 1, 5, 6] ⟨[(4, .c (.h 1)), (6, .c (.h 6)), (10, .c (.h 0)), (11, .c (.val (.int .i64 (((List.length segs_1) : Nat) : Int)))), (12, .c (.val (.int .i64 t_3))), (18, .c (.val (.bool ((List.getD segs_1 (Int.toNat t_3) ((0 : Int), (0 : Int))).1 == (0 : Int)))))], [(0, .row (.pair (.int .i64) (.int .i64)) segs_1), (1, .box [.h 5, .val (.int .i64 x_23)]), (5, .row (.pair (.int .i64) (.int .i64)) x_22), (6, .box [.val (.int .i64 (List.getD segs_1 (Int.toNat t_3) ((0 : Int), (0 : Int))).1), .val (.int .i64 (List.getD segs_1 (Int.toNat t_3) ((0 : Int), (0 : Int))).2)])], 7⟩ [] (by kernel_rfl) rfl rfl ap0 ?_
        refine V_draw hN hn (by kernel_rfl) [] [] calls_nil 7 [4, 6, 10, 11, 12, 26] [0, 1, 5, 6] ⟨[(4, .c (.h 1)), (6, .c (.h 6)), (10, .c (.h 0)), (11, .c (.val (.int .i64 (((List.length segs_1) : Nat) : Int)))), (12, .c (.val (.int .i64 t_3))), (26, .c (.val (.bool (decide ((List.getD segs_1 (Int.toNat t_3) ((0 : Int), (0 : Int))).1 > (IntKind.wrap .i64 ((20000 : Int) - x_23)))))))], [(0, .row (.pair (.int .i64) (.int .i64)) segs_1), (1, .box [.h 5, .val (.int .i64 x_23)]), (5, .row (.pair (.int .i64) (.int .i64)) x_22), (6, .box [.val (.int .i64 (List.getD segs_1 (Int.toNat t_3) ((0 : Int), (0 : Int))).1), .val (.int .i64 (List.getD segs_1 (Int.toNat t_3) ((0 : Int), (0 : Int))).2)])], 7⟩ [] (by kernel_rfl) rfl rfl ap0 (by kernel_rfl) (by kernel_rfl) ?_
        refine VL_cond ((decide ((List.getD segs_1 (Int.toNat t_3) ((0 : Int), (0 : Int))).1 > (IntKind.wrap .i64 ((20000 : Int) - x_23))))) (by kernel_rfl) ?_ ?_
        · intro b_33; have H_72 := of_t H_71 b_33
          refine V_run hN hn 2 7 [2, 3] [0] ⟨[(2, .c (.val (.pointer none))), (3, .c (.val (.int .i64 (70 : Int))))], [(0, .row (.pair (.int .i64) (.int .i64)) segs_1)], 7⟩ [] (by kernel_rfl) rfl rfl ap0 ?_
          have H_74 := Option.some.inj (show some (Sum.inl ((none : (Option ((List (Int × Int)) × Int))), (70 : Int))) = some q_61 from H_72); subst H_74
          have H_75 := Option.some.inj (show some ((none : (Option ((List (Int × Int)) × Int))), (70 : Int)) = some r from H_63); subst H_75
          refine VL_ret ?_
          refine QB_ret ?_
          refine QL_ret ?_
          refine QB_ret ?_
          refine QP_ret ?_
          refine P_ghost [.read 2 (.opt (.pair (.slice (.pair (.int .i64) (.int .i64))) (.int .i64)))] 7 hn [2, 3] [0] ⟨[(2, .c (.imm (.opt (.pair (.slice (.pair (.int .i64) (.int .i64))) (.int .i64))) (none : (Option ((List (Int × Int)) × Int))))), (3, .c (.val (.int .i64 (70 : Int))))], [(0, .row (.pair (.int .i64) (.int .i64)) segs_1)], 7⟩ (by kernel_rfl) rfl rfl ?_
          exact P_to [(2, .c (.imm (.opt (.pair (.slice (.pair (.int .i64) (.int .i64))) (.int .i64))) (none : (Option ((List (Int × Int)) × Int))))), (3, .c (.val (.int .i64 (70 : Int))))] [(0, .row (.pair (.int .i64) (.int .i64)) segs_1)] [] hn (by kernel_rfl) (by kernel_rfl) rfl rfl rfl (QF_retS (by kernel_rfl) (by kernel_rfl) rfl)
        · intro b_33; have H_73 := of_f H_71 b_33
          refine V_run hN hn 2 7 [4, 6, 10, 11, 12, 26] [0, 1, 5, 6] ⟨[(4, .c (.h 1)), (6, .c (.h 6)), (10, .c (.h 0)), (11, .c (.val (.int .i64 (((List.length segs_1) : Nat) : Int)))), (12, .c (.val (.int .i64 t_3))), (26, .c (.val (.bool (decide ((List.getD segs_1 (Int.toNat t_3) ((0 : Int), (0 : Int))).1 > (IntKind.wrap .i64 ((20000 : Int) - x_23)))))))], [(0, .row (.pair (.int .i64) (.int .i64)) segs_1), (1, .box [.h 5, .val (.int .i64 x_23)]), (5, .row (.pair (.int .i64) (.int .i64)) x_22), (6, .box [.val (.int .i64 (List.getD segs_1 (Int.toNat t_3) ((0 : Int), (0 : Int))).1), .val (.int .i64 (List.getD segs_1 (Int.toNat t_3) ((0 : Int), (0 : Int))).2)])], 7⟩ [] (by kernel_rfl) rfl rfl ap0 ?_
          refine V_draw hN hn (by kernel_rfl) [] [] calls_nil 7 [4, 6, 10, 11, 12] [0, 1, 5, 6] ⟨[(4, .c (.h 1)), (6, .c (.h 6)), (10, .c (.h 0)), (11, .c (.val (.int .i64 (((List.length segs_1) : Nat) : Int)))), (12, .c (.val (.int .i64 t_3)))], [(0, .row (.pair (.int .i64) (.int .i64)) segs_1), (1, .box [.h 5, .val (.int .i64 (IntKind.wrap .i64 (x_23 + (List.getD segs_1 (Int.toNat t_3) ((0 : Int), (0 : Int))).1)))]), (5, .row (.pair (.int .i64) (.int .i64)) x_22), (6, .box [.val (.int .i64 (List.getD segs_1 (Int.toNat t_3) ((0 : Int), (0 : Int))).1), .val (.int .i64 (List.getD segs_1 (Int.toNat t_3) ((0 : Int), (0 : Int))).2)])], 7⟩ [] (by kernel_rfl) rfl rfl ap0 (by kernel_rfl) (by kernel_rfl) ?_
          refine V_run hN hn 4 7 [4, 6, 7, 10, 11, 12] [0, 1, 5, 6] ⟨[(4, .c (.h 1)), (6, .c (.h 6)), (7, .c (.val (.int .i64 (IntKind.wrap .i64 ((((List.length x_22) : Nat) : Int) - (1 : Int)))))), (10, .c (.h 0)), (11, .c (.val (.int .i64 (((List.length segs_1) : Nat) : Int)))), (12, .c (.val (.int .i64 t_3)))], [(0, .row (.pair (.int .i64) (.int .i64)) segs_1), (1, .box [.h 5, .val (.int .i64 (IntKind.wrap .i64 (x_23 + (List.getD segs_1 (Int.toNat t_3) ((0 : Int), (0 : Int))).1)))]), (5, .row (.pair (.int .i64) (.int .i64)) x_22), (6, .box [.val (.int .i64 (List.getD segs_1 (Int.toNat t_3) ((0 : Int), (0 : Int))).1), .val (.int .i64 (List.getD segs_1 (Int.toNat t_3) ((0 : Int), (0 : Int))).2)])], 7⟩ [] (by kernel_rfl) rfl rfl ap0 ?_
          obtain ⟨q_76, H_77, H_78⟩ := of_bind H_73
          refine V_cut (Y := Bool) (R := Bool) q_76 (fun y => y) (fun y => [(4, .c (.h 1)), (6, .c (.h 6)), (7, .c (.val (.int .i64 (IntKind.wrap .i64 ((((List.length x_22) : Nat) : Int) - (1 : Int)))))), (10, .c (.h 0)), (11, .c (.val (.int .i64 (((List.length segs_1) : Nat) : Int)))), (12, .c (.val (.int .i64 t_3))), (56, .c (.val (.bool y)))]) (fun y => [(0, .row (.pair (.int .i64) (.int .i64)) segs_1), (1, .box [.h 5, .val (.int .i64 (IntKind.wrap .i64 (x_23 + (List.getD segs_1 (Int.toNat t_3) ((0 : Int), (0 : Int))).1)))]), (5, .row (.pair (.int .i64) (.int .i64)) x_22), (6, .box [.val (.int .i64 (List.getD segs_1 (Int.toNat t_3) ((0 : Int), (0 : Int))).1), .val (.int .i64 (List.getD segs_1 (Int.toNat t_3) ((0 : Int), (0 : Int))).2)])]) ?_ ?_
          · skip
            rcases Bool.eq_false_or_eq_true ((decide ((IntKind.wrap .i64 ((((List.length x_22) : Nat) : Int) - (1 : Int))) ≥ (0 : Int)))) with b_38 | b_38
            · have H_80 := of_t H_77 b_38
              obtain ⟨c_39, H_82⟩ := of_if H_80
              refine V_draw hN hn (by kernel_rfl) [] [(44, true)] calls_nil 7 [4, 6, 7, 10, 11, 12, 56] [0, 1, 5, 6] ⟨[(4, .c (.h 1)), (6, .c (.h 6)), (7, .c (.val (.int .i64 (IntKind.wrap .i64 ((((List.length x_22) : Nat) : Int) - (1 : Int)))))), (10, .c (.h 0)), (11, .c (.val (.int .i64 (((List.length segs_1) : Nat) : Int)))), (12, .c (.val (.int .i64 t_3))), (56, .c (.val (.bool ((List.getD x_22 (Int.toNat (IntKind.wrap .i64 ((((List.length x_22) : Nat) : Int) - (1 : Int)))) ((0 : Int), (0 : Int))).2 == (List.getD segs_1 (Int.toNat t_3) ((0 : Int), (0 : Int))).2))))], [(0, .row (.pair (.int .i64) (.int .i64)) segs_1), (1, .box [.h 5, .val (.int .i64 (IntKind.wrap .i64 (x_23 + (List.getD segs_1 (Int.toNat t_3) ((0 : Int), (0 : Int))).1)))]), (5, .row (.pair (.int .i64) (.int .i64)) x_22), (6, .box [.val (.int .i64 (List.getD segs_1 (Int.toNat t_3) ((0 : Int), (0 : Int))).1), .val (.int .i64 (List.getD segs_1 (Int.toNat t_3) ((0 : Int), (0 : Int))).2)])], 7⟩ [(decide ((IntKind.wrap .i64 ((((List.length x_22) : Nat) : Int) - (1 : Int))) ≥ (0 : Int))) = true, 0 ≤ (IntKind.wrap .i64 ((((List.length x_22) : Nat) : Int) - (1 : Int))), (IntKind.wrap .i64 ((((List.length x_22) : Nat) : Int) - (1 : Int))) < (((List.length x_22) : Nat) : Int)] (by kernel_rfl) rfl rfl (ap2 b_38 (ap2 c_39.1 (ap1 c_39.2))) (by kernel_rfl) (by kernel_rfl) ?_
              have H_83 := Option.some.inj (show some ((List.getD x_22 (Int.toNat (IntKind.wrap .i64 ((((List.length x_22) : Nat) : Int) - (1 : Int)))) ((0 : Int), (0 : Int))).2 == (List.getD segs_1 (Int.toNat t_3) ((0 : Int), (0 : Int))).2) = some q_76 from H_82); subst H_83
              refine VL_nil ?_
              exact QP_end ((List.getD x_22 (Int.toNat (IntKind.wrap .i64 ((((List.length x_22) : Nat) : Int) - (1 : Int)))) ((0 : Int), (0 : Int))).2 == (List.getD segs_1 (Int.toNat t_3) ((0 : Int), (0 : Int))).2) rfl [(1, 1), (5, 5), (6, 6)] hn (by kernel_rfl) (by kernel_rfl) rfl rfl rfl
            · have H_81 := of_f H_77 b_38
              refine V_draw hN hn (by kernel_rfl) [] [(44, false)] calls_nil 7 [4, 6, 7, 10, 11, 12, 56] [0, 1, 5, 6] ⟨[(4, .c (.h 1)), (6, .c (.h 6)), (7, .c (.val (.int .i64 (IntKind.wrap .i64 ((((List.length x_22) : Nat) : Int) - (1 : Int)))))), (10, .c (.h 0)), (11, .c (.val (.int .i64 (((List.length segs_1) : Nat) : Int)))), (12, .c (.val (.int .i64 t_3))), (56, .c (.val (.bool false)))], [(0, .row (.pair (.int .i64) (.int .i64)) segs_1), (1, .box [.h 5, .val (.int .i64 (IntKind.wrap .i64 (x_23 + (List.getD segs_1 (Int.toNat t_3) ((0 : Int), (0 : Int))).1)))]), (5, .row (.pair (.int .i64) (.int .i64)) x_22), (6, .box [.val (.int .i64 (List.getD segs_1 (Int.toNat t_3) ((0 : Int), (0 : Int))).1), .val (.int .i64 (List.getD segs_1 (Int.toNat t_3) ((0 : Int), (0 : Int))).2)])], 7⟩ [(decide ((IntKind.wrap .i64 ((((List.length x_22) : Nat) : Int) - (1 : Int))) ≥ (0 : Int))) = false] (by kernel_rfl) rfl rfl (ap1 b_38) (by kernel_rfl) (by kernel_rfl) ?_
              have H_84 := Option.some.inj (show some false = some q_76 from H_81); subst H_84
              refine VL_nil ?_
              exact QP_end false rfl [(1, 1), (5, 5), (6, 6)] hn (by kernel_rfl) (by kernel_rfl) rfl rfl rfl
          · intro y_79 hy; subst hy
            skip
            skip
            refine VL_cond (y_79) (by kernel_rfl) ?_ ?_
            · intro b_42; have H_85 := of_t H_78 b_42
              refine V_run hN hn 1 7 [4, 6, 7, 10, 11, 12, 56] [0, 1, 5, 6] ⟨[(4, .c (.h 1)), (6, .c (.h 6)), (7, .c (.val (.int .i64 (IntKind.wrap .i64 ((((List.length x_22) : Nat) : Int) - (1 : Int)))))), (10, .c (.h 0)), (11, .c (.val (.int .i64 (((List.length segs_1) : Nat) : Int)))), (12, .c (.val (.int .i64 t_3))), (56, .c (.val (.bool y_79)))], [(0, .row (.pair (.int .i64) (.int .i64)) segs_1), (1, .box [.h 5, .val (.int .i64 (IntKind.wrap .i64 (x_23 + (List.getD segs_1 (Int.toNat t_3) ((0 : Int), (0 : Int))).1)))]), (5, .row (.pair (.int .i64) (.int .i64)) x_22), (6, .box [.val (.int .i64 (List.getD segs_1 (Int.toNat t_3) ((0 : Int), (0 : Int))).1), .val (.int .i64 (List.getD segs_1 (Int.toNat t_3) ((0 : Int), (0 : Int))).2)])], 7⟩ [] (by kernel_rfl) rfl rfl ap0 ?_
              obtain ⟨c_44, H_87⟩ := of_if H_85
              refine V_draw hN hn (by kernel_rfl) [] [] calls_nil 7 [4, 10, 11, 12] [0, 1, 5] ⟨[(4, .c (.h 1)), (10, .c (.h 0)), (11, .c (.val (.int .i64 (((List.length segs_1) : Nat) : Int)))), (12, .c (.val (.int .i64 t_3)))], [(0, .row (.pair (.int .i64) (.int .i64)) segs_1), (1, .box [.h 5, .val (.int .i64 (IntKind.wrap .i64 (x_23 + (List.getD segs_1 (Int.toNat t_3) ((0 : Int), (0 : Int))).1)))]), (5, .row (.pair (.int .i64) (.int .i64)) (List.set x_22 (Int.toNat (IntKind.wrap .i64 ((((List.length x_22) : Nat) : Int) - (1 : Int)))) ((IntKind.wrap .i64 ((List.getD x_22 (Int.toNat (IntKind.wrap .i64 ((((List.length x_22) : Nat) : Int) - (1 : Int)))) ((0 : Int), (0 : Int))).1 + (List.getD segs_1 (Int.toNat t_3) ((0 : Int), (0 : Int))).1)), (List.getD x_22 (Int.toNat (IntKind.wrap .i64 ((((List.length x_22) : Nat) : Int) - (1 : Int)))) ((0 : Int), (0 : Int))).2)))], 7⟩ [0 ≤ (IntKind.wrap .i64 ((((List.length x_22) : Nat) : Int) - (1 : Int))), (IntKind.wrap .i64 ((((List.length x_22) : Nat) : Int) - (1 : Int))) < (((List.length x_22) : Nat) : Int), 0 ≤ (IntKind.wrap .i64 ((((List.length x_22) : Nat) : Int) - (1 : Int))), (IntKind.wrap .i64 ((((List.length x_22) : Nat) : Int) - (1 : Int))) < (((List.length x_22) : Nat) : Int)] (by kernel_rfl) rfl rfl (ap2 c_44.1 (ap2 c_44.2 (ap2 c_44.1 (ap1 c_44.2)))) (by kernel_rfl) (by kernel_rfl) ?_
              refine VL_exit ?_
              refine QB_here ?_
              refine V_run hN hn 1 7 [4, 10, 11, 12] [0, 1, 5] ⟨[(4, .c (.h 1)), (10, .c (.h 0)), (11, .c (.val (.int .i64 (((List.length segs_1) : Nat) : Int)))), (12, .c (.val (.int .i64 (IntKind.wrap .i64 (t_3 + (1 : Int))))))], [(0, .row (.pair (.int .i64) (.int .i64)) segs_1), (1, .box [.h 5, .val (.int .i64 (IntKind.wrap .i64 (x_23 + (List.getD segs_1 (Int.toNat t_3) ((0 : Int), (0 : Int))).1)))]), (5, .row (.pair (.int .i64) (.int .i64)) (List.set x_22 (Int.toNat (IntKind.wrap .i64 ((((List.length x_22) : Nat) : Int) - (1 : Int)))) ((IntKind.wrap .i64 ((List.getD x_22 (Int.toNat (IntKind.wrap .i64 ((((List.length x_22) : Nat) : Int) - (1 : Int)))) ((0 : Int), (0 : Int))).1 + (List.getD segs_1 (Int.toNat t_3) ((0 : Int), (0 : Int))).1)), (List.getD x_22 (Int.toNat (IntKind.wrap .i64 ((((List.length x_22) : Nat) : Int) - (1 : Int)))) ((0 : Int), (0 : Int))).2)))], 7⟩ [] (by kernel_rfl) rfl rfl ap0 ?_
              refine VL_nil ?_
              exact V_roundEnd ((List.set x_22 (Int.toNat (IntKind.wrap .i64 ((((List.length x_22) : Nat) : Int) - (1 : Int)))) ((IntKind.wrap .i64 ((List.getD x_22 (Int.toNat (IntKind.wrap .i64 ((((List.length x_22) : Nat) : Int) - (1 : Int)))) ((0 : Int), (0 : Int))).1 + (List.getD segs_1 (Int.toNat t_3) ((0 : Int), (0 : Int))).1)), (List.getD x_22 (Int.toNat (IntKind.wrap .i64 ((((List.length x_22) : Nat) : Int) - (1 : Int)))) ((0 : Int), (0 : Int))).2)), (IntKind.wrap .i64 (x_23 + (List.getD segs_1 (Int.toNat t_3) ((0 : Int), (0 : Int))).1)), (IntKind.wrap .i64 (t_3 + (1 : Int)))) H_87 [(1, 1), (5, 5)] hn (by kernel_rfl) (by kernel_rfl) rfl rfl rfl
            · intro b_42; have H_86 := of_f H_78 b_42
              refine V_run hN hn 1 7 [4, 6, 7, 10, 11, 12, 56] [0, 1, 5, 6] ⟨[(4, .c (.h 1)), (6, .c (.h 6)), (7, .c (.val (.int .i64 (IntKind.wrap .i64 ((((List.length x_22) : Nat) : Int) - (1 : Int)))))), (10, .c (.h 0)), (11, .c (.val (.int .i64 (((List.length segs_1) : Nat) : Int)))), (12, .c (.val (.int .i64 t_3))), (56, .c (.val (.bool y_79)))], [(0, .row (.pair (.int .i64) (.int .i64)) segs_1), (1, .box [.h 5, .val (.int .i64 (IntKind.wrap .i64 (x_23 + (List.getD segs_1 (Int.toNat t_3) ((0 : Int), (0 : Int))).1)))]), (5, .row (.pair (.int .i64) (.int .i64)) x_22), (6, .box [.val (.int .i64 (List.getD segs_1 (Int.toNat t_3) ((0 : Int), (0 : Int))).1), .val (.int .i64 (List.getD segs_1 (Int.toNat t_3) ((0 : Int), (0 : Int))).2)])], 7⟩ [] (by kernel_rfl) rfl rfl ap0 ?_
              obtain ⟨c_47, H_88⟩ := of_if H_86
              refine V_draw hN hn (by kernel_rfl) [] [] calls_nil 7 [4, 10, 11, 12] [0, 1, 8] ⟨[(4, .c (.h 1)), (10, .c (.h 0)), (11, .c (.val (.int .i64 (((List.length segs_1) : Nat) : Int)))), (12, .c (.val (.int .i64 t_3)))], [(0, .row (.pair (.int .i64) (.int .i64)) segs_1), (1, .box [.h 8, .val (.int .i64 (IntKind.wrap .i64 (x_23 + (List.getD segs_1 (Int.toNat t_3) ((0 : Int), (0 : Int))).1)))]), (8, .row (.pair (.int .i64) (.int .i64)) (x_22 ++ ([((List.getD segs_1 (Int.toNat t_3) ((0 : Int), (0 : Int))).1, (List.getD segs_1 (Int.toNat t_3) ((0 : Int), (0 : Int))).2)] : List (Int × Int))))], 9⟩ [(List.length x_22 + List.length ([((List.getD segs_1 (Int.toNat t_3) ((0 : Int), (0 : Int))).1, (List.getD segs_1 (Int.toNat t_3) ((0 : Int), (0 : Int))).2)] : List (Int × Int))) * 16 ≤ 140737488355328] (by kernel_rfl) rfl rfl (ap1 c_47) (by kernel_rfl) (by kernel_rfl) ?_
              refine VL_nil (QB_end ?_)
              refine V_run hN hn 1 9 [4, 10, 11, 12] [0, 1, 8] ⟨[(4, .c (.h 1)), (10, .c (.h 0)), (11, .c (.val (.int .i64 (((List.length segs_1) : Nat) : Int)))), (12, .c (.val (.int .i64 (IntKind.wrap .i64 (t_3 + (1 : Int))))))], [(0, .row (.pair (.int .i64) (.int .i64)) segs_1), (1, .box [.h 8, .val (.int .i64 (IntKind.wrap .i64 (x_23 + (List.getD segs_1 (Int.toNat t_3) ((0 : Int), (0 : Int))).1)))]), (8, .row (.pair (.int .i64) (.int .i64)) (x_22 ++ ([((List.getD segs_1 (Int.toNat t_3) ((0 : Int), (0 : Int))).1, (List.getD segs_1 (Int.toNat t_3) ((0 : Int), (0 : Int))).2)] : List (Int × Int))))], 9⟩ [] (by kernel_rfl) rfl rfl ap0 ?_
              refine VL_nil ?_
              exact V_roundEnd ((x_22 ++ ([((List.getD segs_1 (Int.toNat t_3) ((0 : Int), (0 : Int))).1, (List.getD segs_1 (Int.toNat t_3) ((0 : Int), (0 : Int))).2)] : List (Int × Int))), (IntKind.wrap .i64 (x_23 + (List.getD segs_1 (Int.toNat t_3) ((0 : Int), (0 : Int))).1)), (IntKind.wrap .i64 (t_3 + (1 : Int)))) H_88 [(1, 1), (5, 8)] hn (by kernel_rfl) (by kernel_rfl) rfl rfl rfl
    · intro b_26; have H_68 := of_f H_66 b_26
      refine VL_exit ?_
      refine QL_exit ?_
      refine QB_here ?_
      have H_89 := Option.some.inj (show some (Sum.inr (x_22, x_23)) = some q_61 from H_68); subst H_89
      refine VL_nil ?_
      exact QP_end (x_22, x_23) rfl [(1, 1), (5, 5)] hn (by kernel_rfl) (by kernel_rfl) rfl rfl rfl
  · intro y_64 hy; subst hy
    obtain ⟨x_49, x_50⟩ := y_64
    refine V_run hN hn 3 6 [4, 86] [0, 1, 5] ⟨[(4, .c (.h 1)), (86, .c (.val (.bool (decide ((((List.length x_49) : Nat) : Int) > (200 : Int))))))], [(0, .row (.pair (.int .i64) (.int .i64)) segs_1), (1, .box [.h 5, .val (.int .i64 x_50)]), (5, .row (.pair (.int .i64) (.int .i64)) x_49)], 6⟩ [] (by kernel_rfl) rfl rfl ap0 ?_
    refine VL_cond ((decide ((((List.length x_49) : Nat) : Int) > (200 : Int)))) (by kernel_rfl) ?_ ?_
    · intro b_52; have H_90 := of_t H_63 b_52
      refine V_run hN hn 2 6 [2, 3] [0] ⟨[(2, .c (.val (.pointer none))), (3, .c (.val (.int .i64 (70 : Int))))], [(0, .row (.pair (.int .i64) (.int .i64)) segs_1)], 6⟩ [] (by kernel_rfl) rfl rfl ap0 ?_
      have H_92 := Option.some.inj (show some ((none : (Option ((List (Int × Int)) × Int))), (70 : Int)) = some r from H_90); subst H_92
      refine VL_ret ?_
      refine P_ghost [.read 2 (.opt (.pair (.slice (.pair (.int .i64) (.int .i64))) (.int .i64)))] 6 hn [2, 3] [0] ⟨[(2, .c (.imm (.opt (.pair (.slice (.pair (.int .i64) (.int .i64))) (.int .i64))) (none : (Option ((List (Int × Int)) × Int))))), (3, .c (.val (.int .i64 (70 : Int))))], [(0, .row (.pair (.int .i64) (.int .i64)) segs_1)], 6⟩ (by kernel_rfl) rfl rfl ?_
      exact P_to [(2, .c (.imm (.opt (.pair (.slice (.pair (.int .i64) (.int .i64))) (.int .i64))) (none : (Option ((List (Int × Int)) × Int))))), (3, .c (.val (.int .i64 (70 : Int))))] [(0, .row (.pair (.int .i64) (.int .i64)) segs_1)] [] hn (by kernel_rfl) (by kernel_rfl) rfl rfl rfl (QF_retS (by kernel_rfl) (by kernel_rfl) rfl)
    · intro b_52; have H_91 := of_f H_63 b_52
      refine V_run hN hn 3 6 [2, 3] [0, 1, 5] ⟨[(2, .c (.h 1)), (3, .c (.val (.int .i64 (0 : Int))))], [(0, .row (.pair (.int .i64) (.int .i64)) segs_1), (1, .box [.h 5, .val (.int .i64 x_50)]), (5, .row (.pair (.int .i64) (.int .i64)) x_49)], 6⟩ [] (by kernel_rfl) rfl rfl ap0 ?_
      have H_93 := Option.some.inj (show some ((some (x_49, x_50)), (0 : Int)) = some r from H_91); subst H_93
      refine VL_ret ?_
      refine P_ghost [.shut 5, .shutBox 1 (.pair (.slice (.pair (.int .i64) (.int .i64))) (.int .i64)), .read 2 (.opt (.pair (.slice (.pair (.int .i64) (.int .i64))) (.int .i64)))] 6 hn [2, 3] [0] ⟨[(2, .c (.imm (.opt (.pair (.slice (.pair (.int .i64) (.int .i64))) (.int .i64))) (some (x_49, x_50)))), (3, .c (.val (.int .i64 (0 : Int))))], [(0, .row (.pair (.int .i64) (.int .i64)) segs_1)], 6⟩ (by kernel_rfl) rfl rfl ?_
      exact P_to [(2, .c (.imm (.opt (.pair (.slice (.pair (.int .i64) (.int .i64))) (.int .i64))) (some (x_49, x_50)))), (3, .c (.val (.int .i64 (0 : Int))))] [(0, .row (.pair (.int .i64) (.int .i64)) segs_1)] [] hn (by kernel_rfl) (by kernel_rfl) rfl rfl rfl (QF_retS (by kernel_rfl) (by kernel_rfl) rfl)

theorem subset_Of_r_spec (K : Nat) (segs_1 : (List (Int × Int))) (r : ((Option ((List (Int × Int)) × Int)) × Int)) (H : subset_Of_r K segs_1 = some r) : Spec Try.prog 16 1 [.c (.h 0)] [(0, .row (.pair (.int .i64) (.int .i64)) segs_1)] (.tup [(false, [.imm (.opt (.pair (.slice (.pair (.int .i64) (.int .i64))) (.int .i64))) r.1]), (false, [.val (.int .i64 r.2)])]) [(0, .row (.pair (.int .i64) (.int .i64)) segs_1)] := by
  refine Spec_mk (fn := Try.f16) (c := (Try.f16.body).get!) Try.func16 (by kernel_rfl) rfl ?_
  intro C hN hn
  replace hN : C.N = 42 := hN
  unfold subset_Of_r at H
  refine V_run hN hn 5 1 [0, 6, 7, 8] [0] ⟨[(0, .c (.h 0)), (6, .c (.h 0)), (7, .c (.val (.int .i64 (((List.length segs_1) : Nat) : Int)))), (8, .c (.val (.int .i64 (0 : Int))))], [(0, .row (.pair (.int .i64) (.int .i64)) segs_1)], 1⟩ [] (by kernel_rfl) rfl rfl ap0 ?_
  obtain ⟨q_33, H_34, H_35⟩ := of_bind H
  refine V_cut (Y := Unit) (R := (((Option ((List (Int × Int)) × Int)) × Int) ⊕ Unit)) q_33 (fun y => (Sum.inr y)) (fun y => [(0, .c (.h 0))]) (fun y => [(0, .row (.pair (.int .i64) (.int .i64)) segs_1)]) ?_ ?_
  · skip
    refine VL_block ?_
    refine V_to [(0, .c (.h 0)), (6, .c (.h 0)), (7, .c (.val (.int .i64 (((List.length segs_1) : Nat) : Int)))), (8, .c (.val (.int .i64 (0 : Int))))] [(0, .row (.pair (.int .i64) (.int .i64)) segs_1)] [] hn (by kernel_rfl) (by kernel_rfl) rfl rfl rfl ?_
    refine VL_loop (X := Int) (fun x => [(0, .c (.h 0)), (6, .c (.h 0)), (7, .c (.val (.int .i64 (((List.length segs_1) : Nat) : Int)))), (8, .c (.val (.int .i64 x)))]) (fun x => [(0, .row (.pair (.int .i64) (.int .i64)) segs_1)]) (fun k x => subset_Of_r.l0 K segs_1 k x = some q_33) K (0 : Int) H_34 (fun _ h => no_none h) ?_
    intro k_4 t_3 H_37
    have H_38 : subset_Of_r.l0 K segs_1 (k_4 + 1) t_3 = some q_33 := H_37
    rw [subset_Of_r.l0] at H_38
    refine V_run hN hn 3 1 [0, 6, 7, 8, 9] [0] ⟨[(0, .c (.h 0)), (6, .c (.h 0)), (7, .c (.val (.int .i64 (((List.length segs_1) : Nat) : Int)))), (8, .c (.val (.int .i64 t_3))), (9, .c (.val (.bool (decide (t_3 < (((List.length segs_1) : Nat) : Int))))))], [(0, .row (.pair (.int .i64) (.int .i64)) segs_1)], 1⟩ [] (by kernel_rfl) rfl rfl ap0 ?_
    refine VL_cond ((decide (t_3 < (((List.length segs_1) : Nat) : Int)))) (by kernel_rfl) ?_ ?_
    · intro b_6; have H_39 := of_t H_38 b_6
      refine V_run hN hn 2 1 [0, 6, 7, 8, 9] [0] ⟨[(0, .c (.h 0)), (6, .c (.h 0)), (7, .c (.val (.int .i64 (((List.length segs_1) : Nat) : Int)))), (8, .c (.val (.int .i64 t_3))), (9, .c (.val (.bool (decide (t_3 < (((List.length segs_1) : Nat) : Int))))))], [(0, .row (.pair (.int .i64) (.int .i64)) segs_1)], 1⟩ [] (by kernel_rfl) rfl rfl ap0 ?_
      refine VL_block ?_
      obtain ⟨c_8, H_41⟩ := of_if H_39
      refine V_run hN hn 3 1 [0, 4, 5, 6, 7, 8] [0, 1] ⟨[(0, .c (.h 0)), (4, .c (.val (.int .i64 t_3))), (5, .c (.h 1)), (6, .c (.h 0)), (7, .c (.val (.int .i64 (((List.length segs_1) : Nat) : Int)))), (8, .c (.val (.int .i64 t_3)))], [(0, .row (.pair (.int .i64) (.int .i64)) segs_1), (1, .box [.val (.int .i64 (List.getD segs_1 (Int.toNat t_3) ((0 : Int), (0 : Int))).1), .val (.int .i64 (List.getD segs_1 (Int.toNat t_3) ((0 : Int), (0 : Int))).2)])], 2⟩ [0 ≤ t_3, t_3 < (((List.length segs_1) : Nat) : Int)] (by kernel_rfl) rfl rfl (ap2 c_8.1 (ap1 c_8.2)) ?_
      obtain ⟨q_42, H_43, H_44⟩ := of_bind H_41
      refine V_cut (Y := Bool) (R := Bool) q_42 (fun y => y) (fun y => [(0, .c (.h 0)), (6, .c (.h 0)), (7, .c (.val (.int .i64 (((List.length segs_1) : Nat) : Int)))), (8, .c (.val (.int .i64 t_3))), (36, .c (.val (.bool y)))]) (fun y => [(0, .row (.pair (.int .i64) (.int .i64)) segs_1)]) ?_ ?_
      · skip
        rcases Bool.eq_false_or_eq_true ((decide ((List.getD segs_1 (Int.toNat t_3) ((0 : Int), (0 : Int))).1 < (1 : Int)))) with b_9 | b_9
        · have H_46 := of_t H_43 b_9
          refine V_draw hN hn (by kernel_rfl) [] [(16, true)] calls_nil 2 [0, 6, 7, 8, 36] [0] ⟨[(0, .c (.h 0)), (6, .c (.h 0)), (7, .c (.val (.int .i64 (((List.length segs_1) : Nat) : Int)))), (8, .c (.val (.int .i64 t_3))), (36, .c (.val (.bool true)))], [(0, .row (.pair (.int .i64) (.int .i64)) segs_1)], 2⟩ [(decide ((List.getD segs_1 (Int.toNat t_3) ((0 : Int), (0 : Int))).1 < (1 : Int))) = true] (by kernel_rfl) rfl rfl (ap1 b_9) (by kernel_rfl) (by kernel_rfl) ?_
          have H_48 := Option.some.inj (show some true = some q_42 from H_46); subst H_48
          refine VL_nil ?_
          exact QP_end true rfl [] hn (by kernel_rfl) (by kernel_rfl) rfl rfl rfl
        · have H_47 := of_f H_43 b_9
          obtain ⟨r_11, h_12, H_49⟩ := of_bind H_47
          rcases Bool.eq_false_or_eq_true ((!r_11)) with b_13 | b_13
          · have H_50 := of_t H_49 b_13
            refine V_draw hN hn (by kernel_rfl) [(6, ⟨41, 0, [.c (.val (.int .i64 (List.getD segs_1 (Int.toNat t_3) ((0 : Int), (0 : Int))).2))], [], .c (.val (.bool r_11)), [], [], 2⟩)] [(16, false), (22, true)] (calls_cons (subset_isCount_spec K (List.getD segs_1 (Int.toNat t_3) ((0 : Int), (0 : Int))).2 r_11 h_12) (by kernel_rfl) calls_nil) 2 [0, 6, 7, 8, 36] [0] ⟨[(0, .c (.h 0)), (6, .c (.h 0)), (7, .c (.val (.int .i64 (((List.length segs_1) : Nat) : Int)))), (8, .c (.val (.int .i64 t_3))), (36, .c (.val (.bool true)))], [(0, .row (.pair (.int .i64) (.int .i64)) segs_1)], 2⟩ [(decide ((List.getD segs_1 (Int.toNat t_3) ((0 : Int), (0 : Int))).1 < (1 : Int))) = false, (!r_11) = true] (by kernel_rfl) rfl rfl (ap2 b_9 (ap1 b_13)) (by kernel_rfl) (by kernel_rfl) ?_
            have H_52 := Option.some.inj (show some true = some q_42 from H_50); subst H_52
            refine VL_nil ?_
            exact QP_end true rfl [] hn (by kernel_rfl) (by kernel_rfl) rfl rfl rfl
          · have H_51 := of_f H_49 b_13
            rcases Bool.eq_false_or_eq_true ((decide (t_3 > (0 : Int)))) with b_15 | b_15
            · have H_53 := of_t H_51 b_15
              obtain ⟨c_16, H_55⟩ := of_if H_53
              refine V_draw hN hn (by kernel_rfl) [(6, ⟨41, 0, [.c (.val (.int .i64 (List.getD segs_1 (Int.toNat t_3) ((0 : Int), (0 : Int))).2))], [], .c (.val (.bool r_11)), [], [], 2⟩)] [(16, false), (22, false), (25, true)] (calls_cons (subset_isCount_spec K (List.getD segs_1 (Int.toNat t_3) ((0 : Int), (0 : Int))).2 r_11 h_12) (by kernel_rfl) calls_nil) 2 [0, 6, 7, 8, 36] [0] ⟨[(0, .c (.h 0)), (6, .c (.h 0)), (7, .c (.val (.int .i64 (((List.length segs_1) : Nat) : Int)))), (8, .c (.val (.int .i64 t_3))), (36, .c (.val (.bool ((List.getD segs_1 (Int.toNat t_3) ((0 : Int), (0 : Int))).2 == (List.getD segs_1 (Int.toNat (IntKind.wrap .i64 (t_3 - (1 : Int)))) ((0 : Int), (0 : Int))).2))))], [(0, .row (.pair (.int .i64) (.int .i64)) segs_1)], 2⟩ [(decide ((List.getD segs_1 (Int.toNat t_3) ((0 : Int), (0 : Int))).1 < (1 : Int))) = false, (!r_11) = false, (decide (t_3 > (0 : Int))) = true, 0 ≤ (IntKind.wrap .i64 (t_3 - (1 : Int))), (IntKind.wrap .i64 (t_3 - (1 : Int))) < (((List.length segs_1) : Nat) : Int)] (by kernel_rfl) rfl rfl (ap2 b_9 (ap2 b_13 (ap2 b_15 (ap2 c_16.1 (ap1 c_16.2))))) (by kernel_rfl) (by kernel_rfl) ?_
              have H_56 := Option.some.inj (show some ((List.getD segs_1 (Int.toNat t_3) ((0 : Int), (0 : Int))).2 == (List.getD segs_1 (Int.toNat (IntKind.wrap .i64 (t_3 - (1 : Int)))) ((0 : Int), (0 : Int))).2) = some q_42 from H_55); subst H_56
              refine VL_nil ?_
              exact QP_end ((List.getD segs_1 (Int.toNat t_3) ((0 : Int), (0 : Int))).2 == (List.getD segs_1 (Int.toNat (IntKind.wrap .i64 (t_3 - (1 : Int)))) ((0 : Int), (0 : Int))).2) rfl [] hn (by kernel_rfl) (by kernel_rfl) rfl rfl rfl
            · have H_54 := of_f H_51 b_15
              refine V_draw hN hn (by kernel_rfl) [(6, ⟨41, 0, [.c (.val (.int .i64 (List.getD segs_1 (Int.toNat t_3) ((0 : Int), (0 : Int))).2))], [], .c (.val (.bool r_11)), [], [], 2⟩)] [(16, false), (22, false), (25, false)] (calls_cons (subset_isCount_spec K (List.getD segs_1 (Int.toNat t_3) ((0 : Int), (0 : Int))).2 r_11 h_12) (by kernel_rfl) calls_nil) 2 [0, 6, 7, 8, 36] [0] ⟨[(0, .c (.h 0)), (6, .c (.h 0)), (7, .c (.val (.int .i64 (((List.length segs_1) : Nat) : Int)))), (8, .c (.val (.int .i64 t_3))), (36, .c (.val (.bool false)))], [(0, .row (.pair (.int .i64) (.int .i64)) segs_1)], 2⟩ [(decide ((List.getD segs_1 (Int.toNat t_3) ((0 : Int), (0 : Int))).1 < (1 : Int))) = false, (!r_11) = false, (decide (t_3 > (0 : Int))) = false] (by kernel_rfl) rfl rfl (ap2 b_9 (ap2 b_13 (ap1 b_15))) (by kernel_rfl) (by kernel_rfl) ?_
              have H_57 := Option.some.inj (show some false = some q_42 from H_54); subst H_57
              refine VL_nil ?_
              exact QP_end false rfl [] hn (by kernel_rfl) (by kernel_rfl) rfl rfl rfl
      · intro y_45 hy; subst hy
        skip
        skip
        refine VL_cond (y_45) (by kernel_rfl) ?_ ?_
        · intro b_19; have H_58 := of_t H_44 b_19
          refine V_run hN hn 2 2 [2, 3] [0] ⟨[(2, .c (.val (.pointer none))), (3, .c (.val (.int .i64 (12 : Int))))], [(0, .row (.pair (.int .i64) (.int .i64)) segs_1)], 2⟩ [] (by kernel_rfl) rfl rfl ap0 ?_
          have H_60 := Option.some.inj (show some (Sum.inl ((none : (Option ((List (Int × Int)) × Int))), (12 : Int))) = some q_33 from H_58); subst H_60
          have H_61 := Option.some.inj (show some ((none : (Option ((List (Int × Int)) × Int))), (12 : Int)) = some r from H_35); subst H_61
          refine VL_ret ?_
          refine QB_ret ?_
          refine QL_ret ?_
          refine QB_ret ?_
          refine QP_ret ?_
          refine P_ghost [.read 2 (.opt (.pair (.slice (.pair (.int .i64) (.int .i64))) (.int .i64)))] 2 hn [2, 3] [0] ⟨[(2, .c (.imm (.opt (.pair (.slice (.pair (.int .i64) (.int .i64))) (.int .i64))) (none : (Option ((List (Int × Int)) × Int))))), (3, .c (.val (.int .i64 (12 : Int))))], [(0, .row (.pair (.int .i64) (.int .i64)) segs_1)], 2⟩ (by kernel_rfl) rfl rfl ?_
          exact P_to [(2, .c (.imm (.opt (.pair (.slice (.pair (.int .i64) (.int .i64))) (.int .i64))) (none : (Option ((List (Int × Int)) × Int))))), (3, .c (.val (.int .i64 (12 : Int))))] [(0, .row (.pair (.int .i64) (.int .i64)) segs_1)] [] hn (by kernel_rfl) (by kernel_rfl) rfl rfl rfl (QF_retS (by kernel_rfl) (by kernel_rfl) rfl)
        · intro b_19; have H_59 := of_f H_44 b_19
          refine V_run hN hn 1 2 [0, 6, 7, 8, 36] [0] ⟨[(0, .c (.h 0)), (6, .c (.h 0)), (7, .c (.val (.int .i64 (((List.length segs_1) : Nat) : Int)))), (8, .c (.val (.int .i64 t_3))), (36, .c (.val (.bool y_45)))], [(0, .row (.pair (.int .i64) (.int .i64)) segs_1)], 2⟩ [] (by kernel_rfl) rfl rfl ap0 ?_
          refine VL_nil (QB_end ?_)
          refine V_run hN hn 1 2 [0, 6, 7, 8] [0] ⟨[(0, .c (.h 0)), (6, .c (.h 0)), (7, .c (.val (.int .i64 (((List.length segs_1) : Nat) : Int)))), (8, .c (.val (.int .i64 (IntKind.wrap .i64 (t_3 + (1 : Int))))))], [(0, .row (.pair (.int .i64) (.int .i64)) segs_1)], 2⟩ [] (by kernel_rfl) rfl rfl ap0 ?_
          refine VL_nil ?_
          exact V_roundEnd (IntKind.wrap .i64 (t_3 + (1 : Int))) H_59 [] hn (by kernel_rfl) (by kernel_rfl) rfl rfl rfl
    · intro b_6; have H_40 := of_f H_38 b_6
      refine VL_exit ?_
      refine QL_exit ?_
      refine QB_here ?_
      have H_62 := Option.some.inj (show some (Sum.inr ()) = some q_33 from H_40); subst H_62
      refine VL_nil ?_
      exact QP_end () rfl [] hn (by kernel_rfl) (by kernel_rfl) rfl rfl rfl
  · intro y_36 hy; subst hy
    skip
    refine V_run hN hn 1 1 [0] [0] ⟨[(0, .c (.h 0))], [(0, .row (.pair (.int .i64) (.int .i64)) segs_1)], 1⟩ [] (by kernel_rfl) rfl rfl ap0 ?_
    obtain ⟨r_24, h_25, H_63⟩ := of_bind H_35
    refine V_reg hN hn [(1, ⟨40, 1, [.c (.h 0)], [(0, .row (.pair (.int .i64) (.int .i64)) segs_1)], .tup [(false, [.imm (.opt (.pair (.slice (.pair (.int .i64) (.int .i64))) (.int .i64))) r_24.1]), (false, [.val (.int .i64 r_24.2)])], [(0, .row (.pair (.int .i64) (.int .i64)) segs_1)], [(0, 0)], 1⟩)] [] (calls_cons (subset_Pack_r_spec K segs_1 r_24 h_25) (by kernel_rfl) calls_nil) 1 [2, 3] [0] ⟨[(2, .c (.imm (.opt (.pair (.slice (.pair (.int .i64) (.int .i64))) (.int .i64))) r_24.1)), (3, .c (.val (.int .i64 r_24.2)))], [(0, .row (.pair (.int .i64) (.int .i64)) segs_1)], 1⟩ [] (by kernel_rfl) rfl rfl ap0 (by kernel_rfl) (by kernel_rfl) ?_
    have H_64 := Option.some.inj (show some (r_24.1, r_24.2) = some r from H_63); subst H_64
    refine VL_ret ?_
    exact P_to [(2, .c (.imm (.opt (.pair (.slice (.pair (.int .i64) (.int .i64))) (.int .i64))) r_24.1)), (3, .c (.val (.int .i64 r_24.2)))] [(0, .row (.pair (.int .i64) (.int .i64)) segs_1)] [] hn (by kernel_rfl) (by kernel_rfl) rfl rfl rfl (QF_retS (by kernel_rfl) (by kernel_rfl) rfl)

theorem palinodelaw9_made_r_spec (K : Nat) (l_1 : (List Int)) (r : (Option ((List (Int × Int)) × Int))) (H : palinodelaw9_made_r K l_1 = some r) : Spec Try.prog 24 1 [.c (.h 0)] [(0, .row (.int .i64) l_1)] (.c (.imm (.opt (.pair (.slice (.pair (.int .i64) (.int .i64))) (.int .i64))) r)) [(0, .row (.int .i64) l_1)] := by
  refine Spec_mk (fn := Try.f24) (c := (Try.f24.body).get!) Try.func24 (by kernel_rfl) rfl ?_
  intro C hN hn
  replace hN : C.N = 14 := hN
  unfold palinodelaw9_made_r at H
  refine V_run hN hn 3 1 [0] [0] ⟨[(0, .c (.h 0))], [(0, .row (.int .i64) l_1)], 1⟩ [] (by kernel_rfl) rfl rfl ap0 ?_
  obtain ⟨r_3, h_4, H_13⟩ := of_bind H
  obtain ⟨r_5, h_6, H_14⟩ := of_bind H_13
  refine V_reg hN hn [(1, ⟨45, 1, [.c (.h 0)], [(0, .row (.int .i64) l_1)], .c (.h 4), [(0, .row (.int .i64) l_1), (4, .row (.pair (.int .i64) (.int .i64)) r_3)], [(0, 0), (4, 1)], 2⟩), (2, ⟨16, 1, [.c (.h 0)], [(0, .row (.pair (.int .i64) (.int .i64)) r_3)], .tup [(false, [.imm (.opt (.pair (.slice (.pair (.int .i64) (.int .i64))) (.int .i64))) r_5.1]), (false, [.val (.int .i64 r_5.2)])], [(0, .row (.pair (.int .i64) (.int .i64)) r_3)], [(0, 1)], 2⟩)] [] (calls_cons (palinoderef7_Segs_r_spec K l_1 r_3 h_4) (by kernel_rfl) (calls_cons (subset_Of_r_spec K r_3 r_5 h_6) (by kernel_rfl) calls_nil)) 1 [3, 4] [0] ⟨[(3, .c (.imm (.opt (.pair (.slice (.pair (.int .i64) (.int .i64))) (.int .i64))) r_5.1)), (4, .c (.val (.int .i64 r_5.2)))], [(0, .row (.int .i64) l_1)], 2⟩ [] (by kernel_rfl) rfl rfl ap0 (by kernel_rfl) (by kernel_rfl) ?_
  refine V_run hN hn 3 2 [3, 12] [0] ⟨[(3, .c (.imm (.opt (.pair (.slice (.pair (.int .i64) (.int .i64))) (.int .i64))) r_5.1)), (12, .c (.val (.bool (r_5.2 != (0 : Int)))))], [(0, .row (.int .i64) l_1)], 2⟩ [] (by kernel_rfl) rfl rfl ap0 ?_
  refine VL_cond ((r_5.2 != (0 : Int))) (by kernel_rfl) ?_ ?_
  · intro b_9; have H_15 := of_t H_14 b_9
    refine V_run hN hn 2 2 [2] [0] ⟨[(2, .c (.val (.pointer none)))], [(0, .row (.int .i64) l_1)], 2⟩ [] (by kernel_rfl) rfl rfl ap0 ?_
    have H_17 := Option.some.inj (show some (none : (Option ((List (Int × Int)) × Int))) = some r from H_15); subst H_17
    refine VL_ret ?_
    refine P_ghost [.read 2 (.opt (.pair (.slice (.pair (.int .i64) (.int .i64))) (.int .i64)))] 2 hn [2] [0] ⟨[(2, .c (.imm (.opt (.pair (.slice (.pair (.int .i64) (.int .i64))) (.int .i64))) (none : (Option ((List (Int × Int)) × Int)))))], [(0, .row (.int .i64) l_1)], 2⟩ (by kernel_rfl) rfl rfl ?_
    exact P_to [(2, .c (.imm (.opt (.pair (.slice (.pair (.int .i64) (.int .i64))) (.int .i64))) (none : (Option ((List (Int × Int)) × Int)))))] [(0, .row (.int .i64) l_1)] [] hn (by kernel_rfl) (by kernel_rfl) rfl rfl rfl (QF_retS (by kernel_rfl) (by kernel_rfl) rfl)
  · intro b_9; have H_16 := of_f H_14 b_9
    refine V_run hN hn 3 2 [2] [0] ⟨[(2, .c (.imm (.opt (.pair (.slice (.pair (.int .i64) (.int .i64))) (.int .i64))) r_5.1))], [(0, .row (.int .i64) l_1)], 2⟩ [] (by kernel_rfl) rfl rfl ap0 ?_
    have H_18 := Option.some.inj (show some r_5.1 = some r from H_16); subst H_18
    refine VL_ret ?_
    exact P_to [(2, .c (.imm (.opt (.pair (.slice (.pair (.int .i64) (.int .i64))) (.int .i64))) r_5.1))] [(0, .row (.int .i64) l_1)] [] hn (by kernel_rfl) (by kernel_rfl) rfl rfl rfl (QF_retS (by kernel_rfl) (by kernel_rfl) rfl)

theorem subset_Subset_Segs_spec (K : Nat) (s_1 : (Option ((List (Int × Int)) × Int))) (r : (List (Int × Int))) (H : subset_Subset_Segs K s_1 = some r) : Spec Try.prog 17 0 [.c (.imm (.opt (.pair (.slice (.pair (.int .i64) (.int .i64))) (.int .i64))) s_1)] [] (.c (.h 0)) [(0, .row (.pair (.int .i64) (.int .i64)) r)] := by
  refine Spec_mk (fn := Try.f17) (c := (Try.f17.body).get!) Try.func17 (by kernel_rfl) rfl ?_
  intro C hN hn
  replace hN : C.N = 17 := hN
  unfold subset_Subset_Segs at H
  obtain ⟨c_2, H_4⟩ := of_if H
  refine V_run hN hn 8 0 [2] [0] ⟨[(2, .c (.h 0))], [(0, .row (.pair (.int .i64) (.int .i64)) (putAt (List.replicate (Int.toNat (((List.length (Option.getD s_1 (([] : (List (Int × Int))), (0 : Int))).1) : Nat) : Int)) ((0 : Int), (0 : Int))) (List.take (List.length (List.replicate (Int.toNat (((List.length (Option.getD s_1 (([] : (List (Int × Int))), (0 : Int))).1) : Nat) : Int)) ((0 : Int), (0 : Int)))) (Option.getD s_1 (([] : (List (Int × Int))), (0 : Int))).1) 0))], 1⟩ [Option.isSome s_1 = true, (0 : Int) ≤ (((List.length (Option.getD s_1 (([] : (List (Int × Int))), (0 : Int))).1) : Nat) : Int), (((List.length (Option.getD s_1 (([] : (List (Int × Int))), (0 : Int))).1) : Nat) : Int) ≤ (((List.length (Option.getD s_1 (([] : (List (Int × Int))), (0 : Int))).1) : Nat) : Int), (((List.length (Option.getD s_1 (([] : (List (Int × Int))), (0 : Int))).1) : Nat) : Int) * 16 ≤ (140737488355328 : Int), (((List.length (Option.getD s_1 (([] : (List (Int × Int))), (0 : Int))).1) : Nat) : Int) ≤ (9223372036854775807 : Int), Option.isSome s_1 = true] (by kernel_rfl) rfl rfl (ap2 c_2.1 (ap2 c_2.2.1 (ap2 c_2.2.2.1 (ap2 c_2.2.2.2.1 (ap2 c_2.2.2.2.2 (ap1 c_2.1)))))) ?_
  have H_5 := Option.some.inj (show some (putAt (List.replicate (Int.toNat (((List.length (Option.getD s_1 (([] : (List (Int × Int))), (0 : Int))).1) : Nat) : Int)) ((0 : Int), (0 : Int))) (List.take (List.length (List.replicate (Int.toNat (((List.length (Option.getD s_1 (([] : (List (Int × Int))), (0 : Int))).1) : Nat) : Int)) ((0 : Int), (0 : Int)))) (Option.getD s_1 (([] : (List (Int × Int))), (0 : Int))).1) 0) = some r from H_4); subst H_5
  refine VL_ret ?_
  exact P_to [(2, .c (.h 0))] [(0, .row (.pair (.int .i64) (.int .i64)) (putAt (List.replicate (Int.toNat (((List.length (Option.getD s_1 (([] : (List (Int × Int))), (0 : Int))).1) : Nat) : Int)) ((0 : Int), (0 : Int))) (List.take (List.length (List.replicate (Int.toNat (((List.length (Option.getD s_1 (([] : (List (Int × Int))), (0 : Int))).1) : Nat) : Int)) ((0 : Int), (0 : Int)))) (Option.getD s_1 (([] : (List (Int × Int))), (0 : Int))).1) 0))] [(0, 0)] hn (by kernel_rfl) (by kernel_rfl) rfl rfl rfl (QF_retS (by kernel_rfl) (by kernel_rfl) rfl)

theorem subset_Subset_Len_spec (K : Nat) (s_1 : (Option ((List (Int × Int)) × Int))) (r : Int) (H : subset_Subset_Len K s_1 = some r) : Spec Try.prog 18 0 [.c (.imm (.opt (.pair (.slice (.pair (.int .i64) (.int .i64))) (.int .i64))) s_1)] [] (.c (.val (.int .i64 r))) [] := by
  refine Spec_mk (fn := Try.f18) (c := (Try.f18.body).get!) Try.func18 (by kernel_rfl) rfl ?_
  intro C hN hn
  replace hN : C.N = 7 := hN
  unfold subset_Subset_Len at H
  obtain ⟨c_2, H_4⟩ := of_if H
  refine V_run hN hn 4 0 [2] [] ⟨[(2, .c (.val (.int .i64 (Option.getD s_1 (([] : (List (Int × Int))), (0 : Int))).2)))], [], 0⟩ [Option.isSome s_1 = true] (by kernel_rfl) rfl rfl (ap1 c_2) ?_
  have H_5 := Option.some.inj (show some (Option.getD s_1 (([] : (List (Int × Int))), (0 : Int))).2 = some r from H_4); subst H_5
  refine VL_ret ?_
  exact P_to [(2, .c (.val (.int .i64 (Option.getD s_1 (([] : (List (Int × Int))), (0 : Int))).2)))] [] [] hn (by kernel_rfl) (by kernel_rfl) rfl rfl rfl (QF_retS (by kernel_rfl) (by kernel_rfl) rfl)

theorem mapper_runs_spec (K : Nat) (s_1 : (Option ((List (Int × Int)) × Int))) (r : ((List (Int × Int)) × Int)) (H : mapper_runs K s_1 = some r) : Spec Try.prog 46 0 [.c (.imm (.opt (.pair (.slice (.pair (.int .i64) (.int .i64))) (.int .i64))) s_1)] [] (.tup [(false, [.h 2]), (false, [.val (.int .i64 r.2)])]) [(2, .row (.pair (.int .i64) (.int .i64)) r.1)] := by
  refine Spec_mk (fn := Try.f46) (c := (Try.f46.body).get!) Try.func46 (by kernel_rfl) rfl ?_
  intro C hN hn
  replace hN : C.N = 19 := hN
  unfold mapper_runs at H
  refine V_run hN hn 5 0 [0, 7] [] ⟨[(0, .c (.imm (.opt (.pair (.slice (.pair (.int .i64) (.int .i64))) (.int .i64))) s_1)), (7, .c (.val (.bool (Option.isNone s_1))))], [], 0⟩ [] (by kernel_rfl) rfl rfl ap0 ?_
  refine VL_cond ((Option.isNone s_1)) (by kernel_rfl) ?_ ?_
  · intro b_3; have H_15 := of_t H b_3
    refine V_run hN hn 2 0 [2, 3] [] ⟨[(2, .c (.val (.slice none 0 0))), (3, .c (.val (.int .i64 (0 : Int))))], [], 0⟩ [] (by kernel_rfl) rfl rfl ap0 ?_
    have H_17 := Option.some.inj (show some (([] : List (Int × Int)), (0 : Int)) = some r from H_15); subst H_17
    refine VL_ret ?_
    refine P_ghost [.nilSlot 2 (.pair (.int .i64) (.int .i64))] 0 hn [2, 3] [0] ⟨[(2, .c (.h 0)), (3, .c (.val (.int .i64 (0 : Int))))], [(0, .row (.pair (.int .i64) (.int .i64)) ([] : List (Int × Int)))], 1⟩ (by kernel_rfl) rfl rfl ?_
    exact P_to [(2, .c (.h 2)), (3, .c (.val (.int .i64 (0 : Int))))] [(2, .row (.pair (.int .i64) (.int .i64)) ([] : List (Int × Int)))] [(2, 0)] hn (by kernel_rfl) (by kernel_rfl) rfl rfl rfl (QF_retS (by kernel_rfl) (by kernel_rfl) rfl)
  · intro b_3; have H_16 := of_f H b_3
    refine V_run hN hn 2 0 [0, 7] [] ⟨[(0, .c (.imm (.opt (.pair (.slice (.pair (.int .i64) (.int .i64))) (.int .i64))) s_1)), (7, .c (.val (.bool (Option.isNone s_1))))], [], 0⟩ [] (by kernel_rfl) rfl rfl ap0 ?_
    obtain ⟨r_6, h_7, H_18⟩ := of_bind H_16
    refine V_reg hN hn [(1, ⟨17, 0, [.c (.imm (.opt (.pair (.slice (.pair (.int .i64) (.int .i64))) (.int .i64))) s_1)], [], .c (.h 0), [(0, .row (.pair (.int .i64) (.int .i64)) r_6)], [(0, 0)], 1⟩)] [] (calls_cons (subset_Subset_Segs_spec K s_1 r_6 h_7) (by kernel_rfl) calls_nil) 0 [0, 4] [0] ⟨[(0, .c (.imm (.opt (.pair (.slice (.pair (.int .i64) (.int .i64))) (.int .i64))) s_1)), (4, .c (.h 0))], [(0, .row (.pair (.int .i64) (.int .i64)) r_6)], 1⟩ [] (by kernel_rfl) rfl rfl ap0 (by kernel_rfl) (by kernel_rfl) ?_
    obtain ⟨c_9, H_19⟩ := of_if H_18
    refine V_run hN hn 5 1 [0, 5] [1] ⟨[(0, .c (.imm (.opt (.pair (.slice (.pair (.int .i64) (.int .i64))) (.int .i64))) s_1)), (5, .c (.h 1))], [(1, .row (.pair (.int .i64) (.int .i64)) (putAt (List.replicate (Int.toNat (((List.length r_6) : Nat) : Int)) ((0 : Int), (0 : Int))) (List.take (List.length (List.replicate (Int.toNat (((List.length r_6) : Nat) : Int)) ((0 : Int), (0 : Int)))) r_6) 0))], 2⟩ [(0 : Int) ≤ (((List.length r_6) : Nat) : Int), (((List.length r_6) : Nat) : Int) ≤ (((List.length r_6) : Nat) : Int), (((List.length r_6) : Nat) : Int) * 16 ≤ (140737488355328 : Int), (((List.length r_6) : Nat) : Int) ≤ (9223372036854775807 : Int)] (by kernel_rfl) rfl rfl (ap2 c_9.1 (ap2 c_9.2.1 (ap2 c_9.2.2.1 (ap1 c_9.2.2.2)))) ?_
    obtain ⟨r_10, h_11, H_20⟩ := of_bind H_19
    refine V_reg hN hn [(2, ⟨18, 0, [.c (.imm (.opt (.pair (.slice (.pair (.int .i64) (.int .i64))) (.int .i64))) s_1)], [], .c (.val (.int .i64 r_10)), [], [], 2⟩)] [] (calls_cons (subset_Subset_Len_spec K s_1 r_10 h_11) (by kernel_rfl) calls_nil) 2 [2, 3] [1] ⟨[(2, .c (.h 1)), (3, .c (.val (.int .i64 r_10)))], [(1, .row (.pair (.int .i64) (.int .i64)) (putAt (List.replicate (Int.toNat (((List.length r_6) : Nat) : Int)) ((0 : Int), (0 : Int))) (List.take (List.length (List.replicate (Int.toNat (((List.length r_6) : Nat) : Int)) ((0 : Int), (0 : Int)))) r_6) 0))], 2⟩ [] (by kernel_rfl) rfl rfl ap0 (by kernel_rfl) (by kernel_rfl) ?_
    have H_21 := Option.some.inj (show some ((putAt (List.replicate (Int.toNat (((List.length r_6) : Nat) : Int)) ((0 : Int), (0 : Int))) (List.take (List.length (List.replicate (Int.toNat (((List.length r_6) : Nat) : Int)) ((0 : Int), (0 : Int)))) r_6) 0), r_10) = some r from H_20); subst H_21
    refine VL_ret ?_
    exact P_to [(2, .c (.h 2)), (3, .c (.val (.int .i64 r_10)))] [(2, .row (.pair (.int .i64) (.int .i64)) (putAt (List.replicate (Int.toNat (((List.length r_6) : Nat) : Int)) ((0 : Int), (0 : Int))) (List.take (List.length (List.replicate (Int.toNat (((List.length r_6) : Nat) : Int)) ((0 : Int), (0 : Int)))) r_6) 0))] [(2, 1)] hn (by kernel_rfl) (by kernel_rfl) rfl rfl rfl (QF_retS (by kernel_rfl) (by kernel_rfl) rfl)

theorem mapper_Runs_spec (K : Nat) (s_1 : (Option ((List (Int × Int)) × Int))) (in_2 : Bool) (r : (List (Int × Int))) (H : mapper_Runs K s_1 in_2 = some r) : Spec Try.prog 32 0 [.c (.imm (.opt (.pair (.slice (.pair (.int .i64) (.int .i64))) (.int .i64))) s_1), .c (.val (.bool in_2))] [] (.c (.h 5)) [(5, .row (.pair (.int .i64) (.int .i64)) r)] := by
  refine Spec_mk (fn := Try.f32) (c := (Try.f32.body).get!) Try.func32 (by kernel_rfl) rfl ?_
  intro C hN hn
  replace hN : C.N = 63 := hN
  unfold mapper_Runs at H
  refine V_run hN hn 3 0 [0, 1] [] ⟨[(0, .c (.imm (.opt (.pair (.slice (.pair (.int .i64) (.int .i64))) (.int .i64))) s_1)), (1, .c (.val (.bool in_2)))], [], 0⟩ [] (by kernel_rfl) rfl rfl ap0 ?_
  obtain ⟨r_4, h_5, H_60⟩ := of_bind H
  refine V_reg hN hn [(1, ⟨46, 0, [.c (.imm (.opt (.pair (.slice (.pair (.int .i64) (.int .i64))) (.int .i64))) s_1)], [], .tup [(false, [.h 2]), (false, [.val (.int .i64 r_4.2)])], [(2, .row (.pair (.int .i64) (.int .i64)) r_4.1)], [(2, 0)], 1⟩)] [] (calls_cons (mapper_runs_spec K s_1 r_4 h_5) (by kernel_rfl) calls_nil) 0 [1, 5] [0] ⟨[(1, .c (.val (.bool in_2))), (5, .c (.h 0))], [(0, .row (.pair (.int .i64) (.int .i64)) r_4.1)], 1⟩ [] (by kernel_rfl) rfl rfl ap0 (by kernel_rfl) (by kernel_rfl) ?_
  refine V_run hN hn 7 1 [1, 7, 8, 18, 19, 20] [0] ⟨[(1, .c (.val (.bool in_2))), (7, .c (.val (.slice none 0 0))), (8, .c (.val (.int .i64 (0 : Int)))), (18, .c (.h 0)), (19, .c (.val (.int .i64 (((List.length r_4.1) : Nat) : Int)))), (20, .c (.val (.int .i64 (0 : Int))))], [(0, .row (.pair (.int .i64) (.int .i64)) r_4.1)], 1⟩ [] (by kernel_rfl) rfl rfl ap0 ?_
  refine VL_block ?_
  refine V_ghost [.nilSlot 7 (.pair (.int .i64) (.int .i64))] 1 hn [1, 7, 8, 18, 19, 20] [0, 1] ⟨[(1, .c (.val (.bool in_2))), (7, .c (.h 1)), (8, .c (.val (.int .i64 (0 : Int)))), (18, .c (.h 0)), (19, .c (.val (.int .i64 (((List.length r_4.1) : Nat) : Int)))), (20, .c (.val (.int .i64 (0 : Int))))], [(0, .row (.pair (.int .i64) (.int .i64)) r_4.1), (1, .row (.pair (.int .i64) (.int .i64)) ([] : List (Int × Int)))], 2⟩ (by kernel_rfl) rfl rfl ?_
  refine V_to [(1, .c (.val (.bool in_2))), (7, .c (.h 5)), (8, .c (.val (.int .i64 (0 : Int)))), (18, .c (.h 0)), (19, .c (.val (.int .i64 (((List.length r_4.1) : Nat) : Int)))), (20, .c (.val (.int .i64 (0 : Int))))] [(0, .row (.pair (.int .i64) (.int .i64)) r_4.1), (5, .row (.pair (.int .i64) (.int .i64)) ([] : List (Int × Int)))] [(0, 0), (5, 1)] hn (by kernel_rfl) (by kernel_rfl) rfl rfl rfl ?_
  refine VL_loop (X := ((List (Int × Int)) × Int × Int)) (fun x => [(1, .c (.val (.bool in_2))), (7, .c (.h 5)), (8, .c (.val (.int .i64 x.2.1))), (18, .c (.h 0)), (19, .c (.val (.int .i64 (((List.length r_4.1) : Nat) : Int)))), (20, .c (.val (.int .i64 x.2.2)))]) (fun x => [(0, .row (.pair (.int .i64) (.int .i64)) r_4.1), (5, .row (.pair (.int .i64) (.int .i64)) x.1)]) (fun k x => mapper_Runs.l0 K r_4 in_2 k x.1 x.2.1 x.2.2 = some r) K (([] : List (Int × Int)), (0 : Int), (0 : Int)) H_60 (fun _ h => no_none h) ?_
  intro k_34 x_34 H_61
  obtain ⟨out_33, at_8, t_9⟩ := x_34
  have H_62 : mapper_Runs.l0 K r_4 in_2 (k_34 + 1) out_33 at_8 t_9 = some r := H_61
  rw [mapper_Runs.l0] at H_62
  refine V_run hN hn 3 6 [1, 7, 8, 18, 19, 20, 21] [0, 5] ⟨[(1, .c (.val (.bool in_2))), (7, .c (.h 5)), (8, .c (.val (.int .i64 at_8))), (18, .c (.h 0)), (19, .c (.val (.int .i64 (((List.length r_4.1) : Nat) : Int)))), (20, .c (.val (.int .i64 t_9))), (21, .c (.val (.bool (decide (t_9 < (((List.length r_4.1) : Nat) : Int))))))], [(0, .row (.pair (.int .i64) (.int .i64)) r_4.1), (5, .row (.pair (.int .i64) (.int .i64)) out_33)], 6⟩ [] (by kernel_rfl) rfl rfl ap0 ?_
  refine VL_cond ((decide (t_9 < (((List.length r_4.1) : Nat) : Int)))) (by kernel_rfl) ?_ ?_
  · intro b_36; have H_63 := of_t H_62 b_36
    refine V_run hN hn 2 6 [1, 7, 8, 18, 19, 20, 21] [0, 5] ⟨[(1, .c (.val (.bool in_2))), (7, .c (.h 5)), (8, .c (.val (.int .i64 at_8))), (18, .c (.h 0)), (19, .c (.val (.int .i64 (((List.length r_4.1) : Nat) : Int)))), (20, .c (.val (.int .i64 t_9))), (21, .c (.val (.bool (decide (t_9 < (((List.length r_4.1) : Nat) : Int))))))], [(0, .row (.pair (.int .i64) (.int .i64)) r_4.1), (5, .row (.pair (.int .i64) (.int .i64)) out_33)], 6⟩ [] (by kernel_rfl) rfl rfl ap0 ?_
    refine VL_block ?_
    obtain ⟨c_38, H_65⟩ := of_if H_63
    refine V_run hN hn 7 6 [1, 7, 8, 10, 11, 12, 18, 19, 20] [0, 5, 6] ⟨[(1, .c (.val (.bool in_2))), (7, .c (.h 5)), (8, .c (.val (.int .i64 at_8))), (10, .c (.h 6)), (11, .c (.val (.int .i64 (IntKind.wrap .i64 (at_8 + (List.getD r_4.1 (Int.toNat t_9) ((0 : Int), (0 : Int))).1))))), (12, .c (.val (.int .i64 (IntKind.wrap .i64 ((((List.length out_33) : Nat) : Int) - (1 : Int)))))), (18, .c (.h 0)), (19, .c (.val (.int .i64 (((List.length r_4.1) : Nat) : Int)))), (20, .c (.val (.int .i64 t_9)))], [(0, .row (.pair (.int .i64) (.int .i64)) r_4.1), (5, .row (.pair (.int .i64) (.int .i64)) out_33), (6, .box [.val (.int .i64 (List.getD r_4.1 (Int.toNat t_9) ((0 : Int), (0 : Int))).1), .val (.int .i64 (List.getD r_4.1 (Int.toNat t_9) ((0 : Int), (0 : Int))).2)])], 7⟩ [0 ≤ t_9, t_9 < (((List.length r_4.1) : Nat) : Int)] (by kernel_rfl) rfl rfl (ap2 c_38.1 (ap1 c_38.2)) ?_
    refine VL_block ?_
    refine V_run hN hn 2 7 [1, 7, 8, 11, 12, 18, 19, 20, 37] [0, 5] ⟨[(1, .c (.val (.bool in_2))), (7, .c (.h 5)), (8, .c (.val (.int .i64 at_8))), (11, .c (.val (.int .i64 (IntKind.wrap .i64 (at_8 + (List.getD r_4.1 (Int.toNat t_9) ((0 : Int), (0 : Int))).1))))), (12, .c (.val (.int .i64 (IntKind.wrap .i64 ((((List.length out_33) : Nat) : Int) - (1 : Int)))))), (18, .c (.h 0)), (19, .c (.val (.int .i64 (((List.length r_4.1) : Nat) : Int)))), (20, .c (.val (.int .i64 t_9))), (37, .c (.val (.bool (!((decide ((List.getD r_4.1 (Int.toNat t_9) ((0 : Int), (0 : Int))).2 > (0 : Int))) == in_2)))))], [(0, .row (.pair (.int .i64) (.int .i64)) r_4.1), (5, .row (.pair (.int .i64) (.int .i64)) out_33)], 7⟩ [] (by kernel_rfl) rfl rfl ap0 ?_
    refine VL_cond ((!((decide ((List.getD r_4.1 (Int.toNat t_9) ((0 : Int), (0 : Int))).2 > (0 : Int))) == in_2))) (by kernel_rfl) ?_ ?_
    · intro b_40; have H_66 := of_t H_65 b_40
      refine V_run hN hn 1 7 [1, 7, 8, 11, 12, 18, 19, 20, 37] [0, 5] ⟨[(1, .c (.val (.bool in_2))), (7, .c (.h 5)), (8, .c (.val (.int .i64 at_8))), (11, .c (.val (.int .i64 (IntKind.wrap .i64 (at_8 + (List.getD r_4.1 (Int.toNat t_9) ((0 : Int), (0 : Int))).1))))), (12, .c (.val (.int .i64 (IntKind.wrap .i64 ((((List.length out_33) : Nat) : Int) - (1 : Int)))))), (18, .c (.h 0)), (19, .c (.val (.int .i64 (((List.length r_4.1) : Nat) : Int)))), (20, .c (.val (.int .i64 t_9))), (37, .c (.val (.bool (!((decide ((List.getD r_4.1 (Int.toNat t_9) ((0 : Int), (0 : Int))).2 > (0 : Int))) == in_2)))))], [(0, .row (.pair (.int .i64) (.int .i64)) r_4.1), (5, .row (.pair (.int .i64) (.int .i64)) out_33)], 7⟩ [] (by kernel_rfl) rfl rfl ap0 ?_
      refine VL_nil (QB_end ?_)
      refine V_run hN hn 1 7 [1, 7, 8, 18, 19, 20] [0, 5] ⟨[(1, .c (.val (.bool in_2))), (7, .c (.h 5)), (8, .c (.val (.int .i64 (IntKind.wrap .i64 (at_8 + (List.getD r_4.1 (Int.toNat t_9) ((0 : Int), (0 : Int))).1))))), (18, .c (.h 0)), (19, .c (.val (.int .i64 (((List.length r_4.1) : Nat) : Int)))), (20, .c (.val (.int .i64 t_9)))], [(0, .row (.pair (.int .i64) (.int .i64)) r_4.1), (5, .row (.pair (.int .i64) (.int .i64)) out_33)], 7⟩ [] (by kernel_rfl) rfl rfl ap0 ?_
      refine VL_nil (QB_end ?_)
      refine V_run hN hn 1 7 [1, 7, 8, 18, 19, 20] [0, 5] ⟨[(1, .c (.val (.bool in_2))), (7, .c (.h 5)), (8, .c (.val (.int .i64 (IntKind.wrap .i64 (at_8 + (List.getD r_4.1 (Int.toNat t_9) ((0 : Int), (0 : Int))).1))))), (18, .c (.h 0)), (19, .c (.val (.int .i64 (((List.length r_4.1) : Nat) : Int)))), (20, .c (.val (.int .i64 (IntKind.wrap .i64 (t_9 + (1 : Int))))))], [(0, .row (.pair (.int .i64) (.int .i64)) r_4.1), (5, .row (.pair (.int .i64) (.int .i64)) out_33)], 7⟩ [] (by kernel_rfl) rfl rfl ap0 ?_
      refine VL_nil ?_
      exact V_roundEnd (out_33, (IntKind.wrap .i64 (at_8 + (List.getD r_4.1 (Int.toNat t_9) ((0 : Int), (0 : Int))).1)), (IntKind.wrap .i64 (t_9 + (1 : Int)))) H_66 [(0, 0), (5, 5)] hn (by kernel_rfl) (by kernel_rfl) rfl rfl rfl
    · intro b_40; have H_67 := of_f H_65 b_40
      refine V_run hN hn 1 7 [1, 7, 8, 11, 12, 18, 19, 20, 37] [0, 5] ⟨[(1, .c (.val (.bool in_2))), (7, .c (.h 5)), (8, .c (.val (.int .i64 at_8))), (11, .c (.val (.int .i64 (IntKind.wrap .i64 (at_8 + (List.getD r_4.1 (Int.toNat t_9) ((0 : Int), (0 : Int))).1))))), (12, .c (.val (.int .i64 (IntKind.wrap .i64 ((((List.length out_33) : Nat) : Int) - (1 : Int)))))), (18, .c (.h 0)), (19, .c (.val (.int .i64 (((List.length r_4.1) : Nat) : Int)))), (20, .c (.val (.int .i64 t_9))), (37, .c (.val (.bool (!((decide ((List.getD r_4.1 (Int.toNat t_9) ((0 : Int), (0 : Int))).2 > (0 : Int))) == in_2)))))], [(0, .row (.pair (.int .i64) (.int .i64)) r_4.1), (5, .row (.pair (.int .i64) (.int .i64)) out_33)], 7⟩ [] (by kernel_rfl) rfl rfl ap0 ?_
      obtain ⟨q_68, H_69, H_70⟩ := of_bind H_67
      refine V_cut (Y := Bool) (R := Bool) q_68 (fun y => y) (fun y => [(1, .c (.val (.bool in_2))), (7, .c (.h 5)), (8, .c (.val (.int .i64 at_8))), (11, .c (.val (.int .i64 (IntKind.wrap .i64 (at_8 + (List.getD r_4.1 (Int.toNat t_9) ((0 : Int), (0 : Int))).1))))), (12, .c (.val (.int .i64 (IntKind.wrap .i64 ((((List.length out_33) : Nat) : Int) - (1 : Int)))))), (18, .c (.h 0)), (19, .c (.val (.int .i64 (((List.length r_4.1) : Nat) : Int)))), (20, .c (.val (.int .i64 t_9))), (43, .c (.val (.bool y)))]) (fun y => [(0, .row (.pair (.int .i64) (.int .i64)) r_4.1), (5, .row (.pair (.int .i64) (.int .i64)) out_33)]) ?_ ?_
      · skip
        rcases Bool.eq_false_or_eq_true ((decide ((IntKind.wrap .i64 ((((List.length out_33) : Nat) : Int) - (1 : Int))) ≥ (0 : Int)))) with b_45 | b_45
        · have H_72 := of_t H_69 b_45
          obtain ⟨c_46, H_74⟩ := of_if H_72
          refine V_reg hN hn [] [(46, true)] calls_nil 7 [1, 7, 8, 11, 12, 18, 19, 20, 43] [0, 5] ⟨[(1, .c (.val (.bool in_2))), (7, .c (.h 5)), (8, .c (.val (.int .i64 at_8))), (11, .c (.val (.int .i64 (IntKind.wrap .i64 (at_8 + (List.getD r_4.1 (Int.toNat t_9) ((0 : Int), (0 : Int))).1))))), (12, .c (.val (.int .i64 (IntKind.wrap .i64 ((((List.length out_33) : Nat) : Int) - (1 : Int)))))), (18, .c (.h 0)), (19, .c (.val (.int .i64 (((List.length r_4.1) : Nat) : Int)))), (20, .c (.val (.int .i64 t_9))), (43, .c (.val (.bool ((List.getD out_33 (Int.toNat (IntKind.wrap .i64 ((((List.length out_33) : Nat) : Int) - (1 : Int)))) ((0 : Int), (0 : Int))).2 == at_8))))], [(0, .row (.pair (.int .i64) (.int .i64)) r_4.1), (5, .row (.pair (.int .i64) (.int .i64)) out_33)], 7⟩ [(decide ((IntKind.wrap .i64 ((((List.length out_33) : Nat) : Int) - (1 : Int))) ≥ (0 : Int))) = true, 0 ≤ (IntKind.wrap .i64 ((((List.length out_33) : Nat) : Int) - (1 : Int))), (IntKind.wrap .i64 ((((List.length out_33) : Nat) : Int) - (1 : Int))) < (((List.length out_33) : Nat) : Int)] (by kernel_rfl) rfl rfl (ap2 b_45 (ap2 c_46.1 (ap1 c_46.2))) (by kernel_rfl) (by kernel_rfl) ?_
          have H_75 := Option.some.inj (show some ((List.getD out_33 (Int.toNat (IntKind.wrap .i64 ((((List.length out_33) : Nat) : Int) - (1 : Int)))) ((0 : Int), (0 : Int))).2 == at_8) = some q_68 from H_74); subst H_75
          refine VL_nil ?_
          exact QP_end ((List.getD out_33 (Int.toNat (IntKind.wrap .i64 ((((List.length out_33) : Nat) : Int) - (1 : Int)))) ((0 : Int), (0 : Int))).2 == at_8) rfl [(0, 0), (5, 5)] hn (by kernel_rfl) (by kernel_rfl) rfl rfl rfl
        · have H_73 := of_f H_69 b_45
          refine V_reg hN hn [] [(46, false)] calls_nil 7 [1, 7, 8, 11, 12, 18, 19, 20, 43] [0, 5] ⟨[(1, .c (.val (.bool in_2))), (7, .c (.h 5)), (8, .c (.val (.int .i64 at_8))), (11, .c (.val (.int .i64 (IntKind.wrap .i64 (at_8 + (List.getD r_4.1 (Int.toNat t_9) ((0 : Int), (0 : Int))).1))))), (12, .c (.val (.int .i64 (IntKind.wrap .i64 ((((List.length out_33) : Nat) : Int) - (1 : Int)))))), (18, .c (.h 0)), (19, .c (.val (.int .i64 (((List.length r_4.1) : Nat) : Int)))), (20, .c (.val (.int .i64 t_9))), (43, .c (.val (.bool false)))], [(0, .row (.pair (.int .i64) (.int .i64)) r_4.1), (5, .row (.pair (.int .i64) (.int .i64)) out_33)], 7⟩ [(decide ((IntKind.wrap .i64 ((((List.length out_33) : Nat) : Int) - (1 : Int))) ≥ (0 : Int))) = false] (by kernel_rfl) rfl rfl (ap1 b_45) (by kernel_rfl) (by kernel_rfl) ?_
          have H_76 := Option.some.inj (show some false = some q_68 from H_73); subst H_76
          refine VL_nil ?_
          exact QP_end false rfl [(0, 0), (5, 5)] hn (by kernel_rfl) (by kernel_rfl) rfl rfl rfl
      · intro y_71 hy; subst hy
        skip
        skip
        refine VL_cond (y_71) (by kernel_rfl) ?_ ?_
        · intro b_49; have H_77 := of_t H_70 b_49
          obtain ⟨c_50, H_79⟩ := of_if H_77
          refine V_run hN hn 1 7 [1, 7, 11, 18, 19, 20] [0, 5] ⟨[(1, .c (.val (.bool in_2))), (7, .c (.h 5)), (11, .c (.val (.int .i64 (IntKind.wrap .i64 (at_8 + (List.getD r_4.1 (Int.toNat t_9) ((0 : Int), (0 : Int))).1))))), (18, .c (.h 0)), (19, .c (.val (.int .i64 (((List.length r_4.1) : Nat) : Int)))), (20, .c (.val (.int .i64 t_9)))], [(0, .row (.pair (.int .i64) (.int .i64)) r_4.1), (5, .row (.pair (.int .i64) (.int .i64)) (List.set out_33 (Int.toNat (IntKind.wrap .i64 ((((List.length out_33) : Nat) : Int) - (1 : Int)))) ((List.getD out_33 (Int.toNat (IntKind.wrap .i64 ((((List.length out_33) : Nat) : Int) - (1 : Int)))) ((0 : Int), (0 : Int))).1, (IntKind.wrap .i64 (at_8 + (List.getD r_4.1 (Int.toNat t_9) ((0 : Int), (0 : Int))).1)))))], 7⟩ [0 ≤ (IntKind.wrap .i64 ((((List.length out_33) : Nat) : Int) - (1 : Int))), (IntKind.wrap .i64 ((((List.length out_33) : Nat) : Int) - (1 : Int))) < (((List.length out_33) : Nat) : Int)] (by kernel_rfl) rfl rfl (ap2 c_50.1 (ap1 c_50.2)) ?_
          refine VL_nil (QB_end ?_)
          refine V_run hN hn 1 7 [1, 7, 8, 18, 19, 20] [0, 5] ⟨[(1, .c (.val (.bool in_2))), (7, .c (.h 5)), (8, .c (.val (.int .i64 (IntKind.wrap .i64 (at_8 + (List.getD r_4.1 (Int.toNat t_9) ((0 : Int), (0 : Int))).1))))), (18, .c (.h 0)), (19, .c (.val (.int .i64 (((List.length r_4.1) : Nat) : Int)))), (20, .c (.val (.int .i64 t_9)))], [(0, .row (.pair (.int .i64) (.int .i64)) r_4.1), (5, .row (.pair (.int .i64) (.int .i64)) (List.set out_33 (Int.toNat (IntKind.wrap .i64 ((((List.length out_33) : Nat) : Int) - (1 : Int)))) ((List.getD out_33 (Int.toNat (IntKind.wrap .i64 ((((List.length out_33) : Nat) : Int) - (1 : Int)))) ((0 : Int), (0 : Int))).1, (IntKind.wrap .i64 (at_8 + (List.getD r_4.1 (Int.toNat t_9) ((0 : Int), (0 : Int))).1)))))], 7⟩ [] (by kernel_rfl) rfl rfl ap0 ?_
          refine VL_nil (QB_end ?_)
          refine V_run hN hn 1 7 [1, 7, 8, 18, 19, 20] [0, 5] ⟨[(1, .c (.val (.bool in_2))), (7, .c (.h 5)), (8, .c (.val (.int .i64 (IntKind.wrap .i64 (at_8 + (List.getD r_4.1 (Int.toNat t_9) ((0 : Int), (0 : Int))).1))))), (18, .c (.h 0)), (19, .c (.val (.int .i64 (((List.length r_4.1) : Nat) : Int)))), (20, .c (.val (.int .i64 (IntKind.wrap .i64 (t_9 + (1 : Int))))))], [(0, .row (.pair (.int .i64) (.int .i64)) r_4.1), (5, .row (.pair (.int .i64) (.int .i64)) (List.set out_33 (Int.toNat (IntKind.wrap .i64 ((((List.length out_33) : Nat) : Int) - (1 : Int)))) ((List.getD out_33 (Int.toNat (IntKind.wrap .i64 ((((List.length out_33) : Nat) : Int) - (1 : Int)))) ((0 : Int), (0 : Int))).1, (IntKind.wrap .i64 (at_8 + (List.getD r_4.1 (Int.toNat t_9) ((0 : Int), (0 : Int))).1)))))], 7⟩ [] (by kernel_rfl) rfl rfl ap0 ?_
          refine VL_nil ?_
          exact V_roundEnd ((List.set out_33 (Int.toNat (IntKind.wrap .i64 ((((List.length out_33) : Nat) : Int) - (1 : Int)))) ((List.getD out_33 (Int.toNat (IntKind.wrap .i64 ((((List.length out_33) : Nat) : Int) - (1 : Int)))) ((0 : Int), (0 : Int))).1, (IntKind.wrap .i64 (at_8 + (List.getD r_4.1 (Int.toNat t_9) ((0 : Int), (0 : Int))).1)))), (IntKind.wrap .i64 (at_8 + (List.getD r_4.1 (Int.toNat t_9) ((0 : Int), (0 : Int))).1)), (IntKind.wrap .i64 (t_9 + (1 : Int)))) H_79 [(0, 0), (5, 5)] hn (by kernel_rfl) (by kernel_rfl) rfl rfl rfl
        · intro b_49; have H_78 := of_f H_70 b_49
          obtain ⟨c_53, H_80⟩ := of_if H_78
          refine V_run hN hn 1 7 [1, 7, 11, 18, 19, 20] [0, 8] ⟨[(1, .c (.val (.bool in_2))), (7, .c (.h 8)), (11, .c (.val (.int .i64 (IntKind.wrap .i64 (at_8 + (List.getD r_4.1 (Int.toNat t_9) ((0 : Int), (0 : Int))).1))))), (18, .c (.h 0)), (19, .c (.val (.int .i64 (((List.length r_4.1) : Nat) : Int)))), (20, .c (.val (.int .i64 t_9)))], [(0, .row (.pair (.int .i64) (.int .i64)) r_4.1), (8, .row (.pair (.int .i64) (.int .i64)) (out_33 ++ ([(at_8, (IntKind.wrap .i64 (at_8 + (List.getD r_4.1 (Int.toNat t_9) ((0 : Int), (0 : Int))).1)))] : List (Int × Int))))], 9⟩ [(List.length out_33 + List.length ([(at_8, (IntKind.wrap .i64 (at_8 + (List.getD r_4.1 (Int.toNat t_9) ((0 : Int), (0 : Int))).1)))] : List (Int × Int))) * 16 ≤ 140737488355328] (by kernel_rfl) rfl rfl (ap1 c_53) ?_
          refine VL_nil (QB_end ?_)
          refine V_run hN hn 1 9 [1, 7, 8, 18, 19, 20] [0, 8] ⟨[(1, .c (.val (.bool in_2))), (7, .c (.h 8)), (8, .c (.val (.int .i64 (IntKind.wrap .i64 (at_8 + (List.getD r_4.1 (Int.toNat t_9) ((0 : Int), (0 : Int))).1))))), (18, .c (.h 0)), (19, .c (.val (.int .i64 (((List.length r_4.1) : Nat) : Int)))), (20, .c (.val (.int .i64 t_9)))], [(0, .row (.pair (.int .i64) (.int .i64)) r_4.1), (8, .row (.pair (.int .i64) (.int .i64)) (out_33 ++ ([(at_8, (IntKind.wrap .i64 (at_8 + (List.getD r_4.1 (Int.toNat t_9) ((0 : Int), (0 : Int))).1)))] : List (Int × Int))))], 9⟩ [] (by kernel_rfl) rfl rfl ap0 ?_
          refine VL_nil (QB_end ?_)
          refine V_run hN hn 1 9 [1, 7, 8, 18, 19, 20] [0, 8] ⟨[(1, .c (.val (.bool in_2))), (7, .c (.h 8)), (8, .c (.val (.int .i64 (IntKind.wrap .i64 (at_8 + (List.getD r_4.1 (Int.toNat t_9) ((0 : Int), (0 : Int))).1))))), (18, .c (.h 0)), (19, .c (.val (.int .i64 (((List.length r_4.1) : Nat) : Int)))), (20, .c (.val (.int .i64 (IntKind.wrap .i64 (t_9 + (1 : Int))))))], [(0, .row (.pair (.int .i64) (.int .i64)) r_4.1), (8, .row (.pair (.int .i64) (.int .i64)) (out_33 ++ ([(at_8, (IntKind.wrap .i64 (at_8 + (List.getD r_4.1 (Int.toNat t_9) ((0 : Int), (0 : Int))).1)))] : List (Int × Int))))], 9⟩ [] (by kernel_rfl) rfl rfl ap0 ?_
          refine VL_nil ?_
          exact V_roundEnd ((out_33 ++ ([(at_8, (IntKind.wrap .i64 (at_8 + (List.getD r_4.1 (Int.toNat t_9) ((0 : Int), (0 : Int))).1)))] : List (Int × Int))), (IntKind.wrap .i64 (at_8 + (List.getD r_4.1 (Int.toNat t_9) ((0 : Int), (0 : Int))).1)), (IntKind.wrap .i64 (t_9 + (1 : Int)))) H_80 [(0, 0), (5, 8)] hn (by kernel_rfl) (by kernel_rfl) rfl rfl rfl
  · intro b_36; have H_64 := of_f H_62 b_36
    refine VL_exit ?_
    refine QL_exit ?_
    refine QB_here ?_
    refine V_run hN hn 2 6 [4] [5] ⟨[(4, .c (.h 5))], [(5, .row (.pair (.int .i64) (.int .i64)) out_33)], 6⟩ [] (by kernel_rfl) rfl rfl ap0 ?_
    have H_81 := Option.some.inj (show some out_33 = some r from H_64); subst H_81
    refine VL_ret ?_
    exact P_to [(4, .c (.h 5))] [(5, .row (.pair (.int .i64) (.int .i64)) out_33)] [(5, 5)] hn (by kernel_rfl) (by kernel_rfl) rfl rfl rfl (QF_retS (by kernel_rfl) (by kernel_rfl) rfl)

theorem mapper_Down_spec (K : Nat) (s_1 : (Option ((List (Int × Int)) × Int))) (at_2 : Int) (r : Int) (H : mapper_Down K s_1 at_2 = some r) : Spec Try.prog 25 0 [.c (.imm (.opt (.pair (.slice (.pair (.int .i64) (.int .i64))) (.int .i64))) s_1), .c (.val (.int .i64 at_2))] [] (.c (.val (.int .i64 r))) [] := by
  refine Spec_mk (fn := Try.f25) (c := (Try.f25.body).get!) Try.func25 (by kernel_rfl) rfl ?_
  intro C hN hn
  replace hN : C.N = 42 := hN
  unfold mapper_Down at H
  refine V_run hN hn 3 0 [0, 1] [] ⟨[(0, .c (.imm (.opt (.pair (.slice (.pair (.int .i64) (.int .i64))) (.int .i64))) s_1)), (1, .c (.val (.int .i64 at_2)))], [], 0⟩ [] (by kernel_rfl) rfl rfl ap0 ?_
  obtain ⟨r_4, h_5, H_23⟩ := of_bind H
  refine V_reg hN hn [(1, ⟨46, 0, [.c (.imm (.opt (.pair (.slice (.pair (.int .i64) (.int .i64))) (.int .i64))) s_1)], [], .tup [(false, [.h 2]), (false, [.val (.int .i64 r_4.2)])], [(2, .row (.pair (.int .i64) (.int .i64)) r_4.1)], [(2, 0)], 1⟩)] [] (calls_cons (mapper_runs_spec K s_1 r_4 h_5) (by kernel_rfl) calls_nil) 0 [1, 5, 6] [0] ⟨[(1, .c (.val (.int .i64 at_2))), (5, .c (.h 0)), (6, .c (.val (.int .i64 r_4.2)))], [(0, .row (.pair (.int .i64) (.int .i64)) r_4.1)], 1⟩ [] (by kernel_rfl) rfl rfl ap0 (by kernel_rfl) (by kernel_rfl) ?_
  refine V_run hN hn 5 1 [7, 8, 21, 22, 23] [0] ⟨[(7, .c (.val (.int .i64 (mn2 (mx2 at_2 (0 : Int)) r_4.2)))), (8, .c (.val (.int .i64 (0 : Int)))), (21, .c (.h 0)), (22, .c (.val (.int .i64 (((List.length r_4.1) : Nat) : Int)))), (23, .c (.val (.int .i64 (0 : Int))))], [(0, .row (.pair (.int .i64) (.int .i64)) r_4.1)], 1⟩ [] (by kernel_rfl) rfl rfl ap0 ?_
  refine VL_block ?_
  refine V_to [(7, .c (.val (.int .i64 (mn2 (mx2 at_2 (0 : Int)) r_4.2)))), (8, .c (.val (.int .i64 (0 : Int)))), (21, .c (.h 0)), (22, .c (.val (.int .i64 (((List.length r_4.1) : Nat) : Int)))), (23, .c (.val (.int .i64 (0 : Int))))] [(0, .row (.pair (.int .i64) (.int .i64)) r_4.1)] [(0, 0)] hn (by kernel_rfl) (by kernel_rfl) rfl rfl rfl ?_
  refine VL_loop (X := (Int × Int × Int)) (fun x => [(7, .c (.val (.int .i64 x.1))), (8, .c (.val (.int .i64 x.2.1))), (21, .c (.h 0)), (22, .c (.val (.int .i64 (((List.length r_4.1) : Nat) : Int)))), (23, .c (.val (.int .i64 x.2.2)))]) (fun x => [(0, .row (.pair (.int .i64) (.int .i64)) r_4.1)]) (fun k x => mapper_Down.l0 K r_4 k x.1 x.2.1 x.2.2 = some r) K ((mn2 (mx2 at_2 (0 : Int)) r_4.2), (0 : Int), (0 : Int)) H_23 (fun _ h => no_none h) ?_
  intro k_11 x_11 H_24
  obtain ⟨left_8, out_9, t_10⟩ := x_11
  have H_25 : mapper_Down.l0 K r_4 (k_11 + 1) left_8 out_9 t_10 = some r := H_24
  rw [mapper_Down.l0] at H_25
  refine V_run hN hn 3 1 [7, 8, 21, 22, 23, 24] [0] ⟨[(7, .c (.val (.int .i64 left_8))), (8, .c (.val (.int .i64 out_9))), (21, .c (.h 0)), (22, .c (.val (.int .i64 (((List.length r_4.1) : Nat) : Int)))), (23, .c (.val (.int .i64 t_10))), (24, .c (.val (.bool (decide (t_10 < (((List.length r_4.1) : Nat) : Int))))))], [(0, .row (.pair (.int .i64) (.int .i64)) r_4.1)], 1⟩ [] (by kernel_rfl) rfl rfl ap0 ?_
  refine VL_cond ((decide (t_10 < (((List.length r_4.1) : Nat) : Int)))) (by kernel_rfl) ?_ ?_
  · intro b_13; have H_26 := of_t H_25 b_13
    refine V_run hN hn 2 1 [7, 8, 21, 22, 23, 24] [0] ⟨[(7, .c (.val (.int .i64 left_8))), (8, .c (.val (.int .i64 out_9))), (21, .c (.h 0)), (22, .c (.val (.int .i64 (((List.length r_4.1) : Nat) : Int)))), (23, .c (.val (.int .i64 t_10))), (24, .c (.val (.bool (decide (t_10 < (((List.length r_4.1) : Nat) : Int))))))], [(0, .row (.pair (.int .i64) (.int .i64)) r_4.1)], 1⟩ [] (by kernel_rfl) rfl rfl ap0 ?_
    refine VL_block ?_
    obtain ⟨c_15, H_28⟩ := of_if H_26
    refine V_run hN hn 8 1 [7, 8, 11, 21, 22, 23, 36] [0] ⟨[(7, .c (.val (.int .i64 (IntKind.wrap .i64 (left_8 - (mn2 (List.getD r_4.1 (Int.toNat t_10) ((0 : Int), (0 : Int))).1 left_8)))))), (8, .c (.val (.int .i64 out_9))), (11, .c (.val (.int .i64 (mn2 (List.getD r_4.1 (Int.toNat t_10) ((0 : Int), (0 : Int))).1 left_8)))), (21, .c (.h 0)), (22, .c (.val (.int .i64 (((List.length r_4.1) : Nat) : Int)))), (23, .c (.val (.int .i64 t_10))), (36, .c (.val (.bool ((List.getD r_4.1 (Int.toNat t_10) ((0 : Int), (0 : Int))).2 == (0 : Int)))))], [(0, .row (.pair (.int .i64) (.int .i64)) r_4.1)], 2⟩ [0 ≤ t_10, t_10 < (((List.length r_4.1) : Nat) : Int)] (by kernel_rfl) rfl rfl (ap2 c_15.1 (ap1 c_15.2)) ?_
    refine VL_cond (((List.getD r_4.1 (Int.toNat t_10) ((0 : Int), (0 : Int))).2 == (0 : Int))) (by kernel_rfl) ?_ ?_
    · intro b_16; have H_29 := of_t H_28 b_16
      refine V_run hN hn 1 2 [7, 8, 21, 22, 23] [0] ⟨[(7, .c (.val (.int .i64 (IntKind.wrap .i64 (left_8 - (mn2 (List.getD r_4.1 (Int.toNat t_10) ((0 : Int), (0 : Int))).1 left_8)))))), (8, .c (.val (.int .i64 (IntKind.wrap .i64 (out_9 + (mn2 (List.getD r_4.1 (Int.toNat t_10) ((0 : Int), (0 : Int))).1 left_8)))))), (21, .c (.h 0)), (22, .c (.val (.int .i64 (((List.length r_4.1) : Nat) : Int)))), (23, .c (.val (.int .i64 t_10)))], [(0, .row (.pair (.int .i64) (.int .i64)) r_4.1)], 2⟩ [] (by kernel_rfl) rfl rfl ap0 ?_
      refine VL_nil (QB_end ?_)
      refine V_run hN hn 1 2 [7, 8, 21, 22, 23] [0] ⟨[(7, .c (.val (.int .i64 (IntKind.wrap .i64 (left_8 - (mn2 (List.getD r_4.1 (Int.toNat t_10) ((0 : Int), (0 : Int))).1 left_8)))))), (8, .c (.val (.int .i64 (IntKind.wrap .i64 (out_9 + (mn2 (List.getD r_4.1 (Int.toNat t_10) ((0 : Int), (0 : Int))).1 left_8)))))), (21, .c (.h 0)), (22, .c (.val (.int .i64 (((List.length r_4.1) : Nat) : Int)))), (23, .c (.val (.int .i64 (IntKind.wrap .i64 (t_10 + (1 : Int))))))], [(0, .row (.pair (.int .i64) (.int .i64)) r_4.1)], 2⟩ [] (by kernel_rfl) rfl rfl ap0 ?_
      refine VL_nil ?_
      exact V_roundEnd ((IntKind.wrap .i64 (left_8 - (mn2 (List.getD r_4.1 (Int.toNat t_10) ((0 : Int), (0 : Int))).1 left_8))), (IntKind.wrap .i64 (out_9 + (mn2 (List.getD r_4.1 (Int.toNat t_10) ((0 : Int), (0 : Int))).1 left_8))), (IntKind.wrap .i64 (t_10 + (1 : Int)))) H_29 [(0, 0)] hn (by kernel_rfl) (by kernel_rfl) rfl rfl rfl
    · intro b_16; have H_30 := of_f H_28 b_16
      refine V_run hN hn 1 2 [7, 8, 11, 21, 22, 23, 36] [0] ⟨[(7, .c (.val (.int .i64 (IntKind.wrap .i64 (left_8 - (mn2 (List.getD r_4.1 (Int.toNat t_10) ((0 : Int), (0 : Int))).1 left_8)))))), (8, .c (.val (.int .i64 out_9))), (11, .c (.val (.int .i64 (mn2 (List.getD r_4.1 (Int.toNat t_10) ((0 : Int), (0 : Int))).1 left_8)))), (21, .c (.h 0)), (22, .c (.val (.int .i64 (((List.length r_4.1) : Nat) : Int)))), (23, .c (.val (.int .i64 t_10))), (36, .c (.val (.bool ((List.getD r_4.1 (Int.toNat t_10) ((0 : Int), (0 : Int))).2 == (0 : Int)))))], [(0, .row (.pair (.int .i64) (.int .i64)) r_4.1)], 2⟩ [] (by kernel_rfl) rfl rfl ap0 ?_
      refine VL_nil (QB_end ?_)
      refine V_run hN hn 1 2 [7, 8, 21, 22, 23] [0] ⟨[(7, .c (.val (.int .i64 (IntKind.wrap .i64 (left_8 - (mn2 (List.getD r_4.1 (Int.toNat t_10) ((0 : Int), (0 : Int))).1 left_8)))))), (8, .c (.val (.int .i64 out_9))), (21, .c (.h 0)), (22, .c (.val (.int .i64 (((List.length r_4.1) : Nat) : Int)))), (23, .c (.val (.int .i64 (IntKind.wrap .i64 (t_10 + (1 : Int))))))], [(0, .row (.pair (.int .i64) (.int .i64)) r_4.1)], 2⟩ [] (by kernel_rfl) rfl rfl ap0 ?_
      refine VL_nil ?_
      exact V_roundEnd ((IntKind.wrap .i64 (left_8 - (mn2 (List.getD r_4.1 (Int.toNat t_10) ((0 : Int), (0 : Int))).1 left_8))), out_9, (IntKind.wrap .i64 (t_10 + (1 : Int)))) H_30 [(0, 0)] hn (by kernel_rfl) (by kernel_rfl) rfl rfl rfl
  · intro b_13; have H_27 := of_f H_25 b_13
    refine VL_exit ?_
    refine QL_exit ?_
    refine QB_here ?_
    refine V_run hN hn 2 1 [4] [] ⟨[(4, .c (.val (.int .i64 out_9)))], [], 1⟩ [] (by kernel_rfl) rfl rfl ap0 ?_
    have H_31 := Option.some.inj (show some out_9 = some r from H_27); subst H_31
    refine VL_ret ?_
    exact P_to [(4, .c (.val (.int .i64 out_9)))] [] [] hn (by kernel_rfl) (by kernel_rfl) rfl rfl rfl (QF_retS (by kernel_rfl) (by kernel_rfl) rfl)

theorem mapper_Up_spec (K : Nat) (s_1 : (Option ((List (Int × Int)) × Int))) (at_2 : Int) (r : Int) (H : mapper_Up K s_1 at_2 = some r) : Spec Try.prog 27 0 [.c (.imm (.opt (.pair (.slice (.pair (.int .i64) (.int .i64))) (.int .i64))) s_1), .c (.val (.int .i64 at_2))] [] (.c (.val (.int .i64 r))) [] := by
  refine Spec_mk (fn := Try.f27) (c := (Try.f27.body).get!) Try.func27 (by kernel_rfl) rfl ?_
  intro C hN hn
  replace hN : C.N = 44 := hN
  unfold mapper_Up at H
  refine V_run hN hn 3 0 [0, 1] [] ⟨[(0, .c (.imm (.opt (.pair (.slice (.pair (.int .i64) (.int .i64))) (.int .i64))) s_1)), (1, .c (.val (.int .i64 at_2)))], [], 0⟩ [] (by kernel_rfl) rfl rfl ap0 ?_
  obtain ⟨r_4, h_5, H_26⟩ := of_bind H
  refine V_reg hN hn [(1, ⟨46, 0, [.c (.imm (.opt (.pair (.slice (.pair (.int .i64) (.int .i64))) (.int .i64))) s_1)], [], .tup [(false, [.h 2]), (false, [.val (.int .i64 r_4.2)])], [(2, .row (.pair (.int .i64) (.int .i64)) r_4.1)], [(2, 0)], 1⟩)] [] (calls_cons (mapper_runs_spec K s_1 r_4 h_5) (by kernel_rfl) calls_nil) 0 [1, 5, 6] [0] ⟨[(1, .c (.val (.int .i64 at_2))), (5, .c (.h 0)), (6, .c (.val (.int .i64 r_4.2)))], [(0, .row (.pair (.int .i64) (.int .i64)) r_4.1)], 1⟩ [] (by kernel_rfl) rfl rfl ap0 (by kernel_rfl) (by kernel_rfl) ?_
  refine V_run hN hn 5 1 [6, 7, 8, 18, 19, 20] [0] ⟨[(6, .c (.val (.int .i64 r_4.2))), (7, .c (.val (.int .i64 (mx2 at_2 (0 : Int))))), (8, .c (.val (.int .i64 (0 : Int)))), (18, .c (.h 0)), (19, .c (.val (.int .i64 (((List.length r_4.1) : Nat) : Int)))), (20, .c (.val (.int .i64 (0 : Int))))], [(0, .row (.pair (.int .i64) (.int .i64)) r_4.1)], 1⟩ [] (by kernel_rfl) rfl rfl ap0 ?_
  refine VL_block ?_
  refine V_to [(6, .c (.val (.int .i64 r_4.2))), (7, .c (.val (.int .i64 (mx2 at_2 (0 : Int))))), (8, .c (.val (.int .i64 (0 : Int)))), (18, .c (.h 0)), (19, .c (.val (.int .i64 (((List.length r_4.1) : Nat) : Int)))), (20, .c (.val (.int .i64 (0 : Int))))] [(0, .row (.pair (.int .i64) (.int .i64)) r_4.1)] [(0, 0)] hn (by kernel_rfl) (by kernel_rfl) rfl rfl rfl ?_
  refine VL_loop (X := (Int × Int × Int)) (fun x => [(6, .c (.val (.int .i64 r_4.2))), (7, .c (.val (.int .i64 x.1))), (8, .c (.val (.int .i64 x.2.1))), (18, .c (.h 0)), (19, .c (.val (.int .i64 (((List.length r_4.1) : Nat) : Int)))), (20, .c (.val (.int .i64 x.2.2)))]) (fun x => [(0, .row (.pair (.int .i64) (.int .i64)) r_4.1)]) (fun k x => mapper_Up.l0 K r_4 k x.1 x.2.1 x.2.2 = some r) K ((mx2 at_2 (0 : Int)), (0 : Int), (0 : Int)) H_26 (fun _ h => no_none h) ?_
  intro k_11 x_11 H_27
  obtain ⟨left_8, ahead_9, t_10⟩ := x_11
  have H_28 : mapper_Up.l0 K r_4 (k_11 + 1) left_8 ahead_9 t_10 = some r := H_27
  rw [mapper_Up.l0] at H_28
  refine V_run hN hn 3 1 [6, 7, 8, 18, 19, 20, 21] [0] ⟨[(6, .c (.val (.int .i64 r_4.2))), (7, .c (.val (.int .i64 left_8))), (8, .c (.val (.int .i64 ahead_9))), (18, .c (.h 0)), (19, .c (.val (.int .i64 (((List.length r_4.1) : Nat) : Int)))), (20, .c (.val (.int .i64 t_10))), (21, .c (.val (.bool (decide (t_10 < (((List.length r_4.1) : Nat) : Int))))))], [(0, .row (.pair (.int .i64) (.int .i64)) r_4.1)], 1⟩ [] (by kernel_rfl) rfl rfl ap0 ?_
  refine VL_cond ((decide (t_10 < (((List.length r_4.1) : Nat) : Int)))) (by kernel_rfl) ?_ ?_
  · intro b_13; have H_29 := of_t H_28 b_13
    refine V_run hN hn 2 1 [6, 7, 8, 18, 19, 20, 21] [0] ⟨[(6, .c (.val (.int .i64 r_4.2))), (7, .c (.val (.int .i64 left_8))), (8, .c (.val (.int .i64 ahead_9))), (18, .c (.h 0)), (19, .c (.val (.int .i64 (((List.length r_4.1) : Nat) : Int)))), (20, .c (.val (.int .i64 t_10))), (21, .c (.val (.bool (decide (t_10 < (((List.length r_4.1) : Nat) : Int))))))], [(0, .row (.pair (.int .i64) (.int .i64)) r_4.1)], 1⟩ [] (by kernel_rfl) rfl rfl ap0 ?_
    refine VL_block ?_
    obtain ⟨c_15, H_31⟩ := of_if H_29
    refine V_run hN hn 5 1 [6, 7, 8, 10, 18, 19, 20, 26] [0, 1] ⟨[(6, .c (.val (.int .i64 r_4.2))), (7, .c (.val (.int .i64 left_8))), (8, .c (.val (.int .i64 ahead_9))), (10, .c (.h 1)), (18, .c (.h 0)), (19, .c (.val (.int .i64 (((List.length r_4.1) : Nat) : Int)))), (20, .c (.val (.int .i64 t_10))), (26, .c (.val (.bool ((List.getD r_4.1 (Int.toNat t_10) ((0 : Int), (0 : Int))).2 == (0 : Int)))))], [(0, .row (.pair (.int .i64) (.int .i64)) r_4.1), (1, .box [.val (.int .i64 (List.getD r_4.1 (Int.toNat t_10) ((0 : Int), (0 : Int))).1), .val (.int .i64 (List.getD r_4.1 (Int.toNat t_10) ((0 : Int), (0 : Int))).2)])], 2⟩ [0 ≤ t_10, t_10 < (((List.length r_4.1) : Nat) : Int)] (by kernel_rfl) rfl rfl (ap2 c_15.1 (ap1 c_15.2)) ?_
    refine VL_cond (((List.getD r_4.1 (Int.toNat t_10) ((0 : Int), (0 : Int))).2 == (0 : Int))) (by kernel_rfl) ?_ ?_
    · intro b_16; have H_32 := of_t H_31 b_16
      refine V_run hN hn 3 2 [6, 7, 8, 10, 18, 19, 20, 30] [0, 1] ⟨[(6, .c (.val (.int .i64 r_4.2))), (7, .c (.val (.int .i64 left_8))), (8, .c (.val (.int .i64 ahead_9))), (10, .c (.h 1)), (18, .c (.h 0)), (19, .c (.val (.int .i64 (((List.length r_4.1) : Nat) : Int)))), (20, .c (.val (.int .i64 t_10))), (30, .c (.val (.bool (decide (left_8 < (List.getD r_4.1 (Int.toNat t_10) ((0 : Int), (0 : Int))).1)))))], [(0, .row (.pair (.int .i64) (.int .i64)) r_4.1), (1, .box [.val (.int .i64 (List.getD r_4.1 (Int.toNat t_10) ((0 : Int), (0 : Int))).1), .val (.int .i64 (List.getD r_4.1 (Int.toNat t_10) ((0 : Int), (0 : Int))).2)])], 2⟩ [] (by kernel_rfl) rfl rfl ap0 ?_
      refine VL_cond ((decide (left_8 < (List.getD r_4.1 (Int.toNat t_10) ((0 : Int), (0 : Int))).1))) (by kernel_rfl) ?_ ?_
      · intro b_18; have H_34 := of_t H_32 b_18
        refine V_run hN hn 2 2 [4] [] ⟨[(4, .c (.val (.int .i64 (IntKind.wrap .i64 (ahead_9 + left_8)))))], [], 2⟩ [] (by kernel_rfl) rfl rfl ap0 ?_
        have H_36 := Option.some.inj (show some (IntKind.wrap .i64 (ahead_9 + left_8)) = some r from H_34); subst H_36
        refine VL_ret ?_
        refine QB_ret ?_
        refine QL_ret ?_
        refine QB_ret ?_
        exact P_to [(4, .c (.val (.int .i64 (IntKind.wrap .i64 (ahead_9 + left_8)))))] [] [] hn (by kernel_rfl) (by kernel_rfl) rfl rfl rfl (QF_retS (by kernel_rfl) (by kernel_rfl) rfl)
      · intro b_18; have H_35 := of_f H_32 b_18
        refine V_run hN hn 3 2 [6, 7, 8, 18, 19, 20] [0] ⟨[(6, .c (.val (.int .i64 r_4.2))), (7, .c (.val (.int .i64 (IntKind.wrap .i64 (left_8 - (List.getD r_4.1 (Int.toNat t_10) ((0 : Int), (0 : Int))).1))))), (8, .c (.val (.int .i64 (IntKind.wrap .i64 (ahead_9 + (List.getD r_4.1 (Int.toNat t_10) ((0 : Int), (0 : Int))).1))))), (18, .c (.h 0)), (19, .c (.val (.int .i64 (((List.length r_4.1) : Nat) : Int)))), (20, .c (.val (.int .i64 t_10)))], [(0, .row (.pair (.int .i64) (.int .i64)) r_4.1)], 2⟩ [] (by kernel_rfl) rfl rfl ap0 ?_
        refine VL_nil (QB_end ?_)
        refine V_run hN hn 1 2 [6, 7, 8, 18, 19, 20] [0] ⟨[(6, .c (.val (.int .i64 r_4.2))), (7, .c (.val (.int .i64 (IntKind.wrap .i64 (left_8 - (List.getD r_4.1 (Int.toNat t_10) ((0 : Int), (0 : Int))).1))))), (8, .c (.val (.int .i64 (IntKind.wrap .i64 (ahead_9 + (List.getD r_4.1 (Int.toNat t_10) ((0 : Int), (0 : Int))).1))))), (18, .c (.h 0)), (19, .c (.val (.int .i64 (((List.length r_4.1) : Nat) : Int)))), (20, .c (.val (.int .i64 (IntKind.wrap .i64 (t_10 + (1 : Int))))))], [(0, .row (.pair (.int .i64) (.int .i64)) r_4.1)], 2⟩ [] (by kernel_rfl) rfl rfl ap0 ?_
        refine VL_nil ?_
        exact V_roundEnd ((IntKind.wrap .i64 (left_8 - (List.getD r_4.1 (Int.toNat t_10) ((0 : Int), (0 : Int))).1)), (IntKind.wrap .i64 (ahead_9 + (List.getD r_4.1 (Int.toNat t_10) ((0 : Int), (0 : Int))).1)), (IntKind.wrap .i64 (t_10 + (1 : Int)))) H_35 [(0, 0)] hn (by kernel_rfl) (by kernel_rfl) rfl rfl rfl
    · intro b_16; have H_33 := of_f H_31 b_16
      refine V_run hN hn 2 2 [6, 7, 8, 18, 19, 20] [0] ⟨[(6, .c (.val (.int .i64 r_4.2))), (7, .c (.val (.int .i64 left_8))), (8, .c (.val (.int .i64 (IntKind.wrap .i64 (ahead_9 + (List.getD r_4.1 (Int.toNat t_10) ((0 : Int), (0 : Int))).1))))), (18, .c (.h 0)), (19, .c (.val (.int .i64 (((List.length r_4.1) : Nat) : Int)))), (20, .c (.val (.int .i64 t_10)))], [(0, .row (.pair (.int .i64) (.int .i64)) r_4.1)], 2⟩ [] (by kernel_rfl) rfl rfl ap0 ?_
      refine VL_nil (QB_end ?_)
      refine V_run hN hn 1 2 [6, 7, 8, 18, 19, 20] [0] ⟨[(6, .c (.val (.int .i64 r_4.2))), (7, .c (.val (.int .i64 left_8))), (8, .c (.val (.int .i64 (IntKind.wrap .i64 (ahead_9 + (List.getD r_4.1 (Int.toNat t_10) ((0 : Int), (0 : Int))).1))))), (18, .c (.h 0)), (19, .c (.val (.int .i64 (((List.length r_4.1) : Nat) : Int)))), (20, .c (.val (.int .i64 (IntKind.wrap .i64 (t_10 + (1 : Int))))))], [(0, .row (.pair (.int .i64) (.int .i64)) r_4.1)], 2⟩ [] (by kernel_rfl) rfl rfl ap0 ?_
      refine VL_nil ?_
      exact V_roundEnd (left_8, (IntKind.wrap .i64 (ahead_9 + (List.getD r_4.1 (Int.toNat t_10) ((0 : Int), (0 : Int))).1)), (IntKind.wrap .i64 (t_10 + (1 : Int)))) H_33 [(0, 0)] hn (by kernel_rfl) (by kernel_rfl) rfl rfl rfl
  · intro b_13; have H_30 := of_f H_28 b_13
    refine VL_exit ?_
    refine QL_exit ?_
    refine QB_here ?_
    refine V_run hN hn 2 1 [4] [] ⟨[(4, .c (.val (.int .i64 r_4.2)))], [], 1⟩ [] (by kernel_rfl) rfl rfl ap0 ?_
    have H_37 := Option.some.inj (show some r_4.2 = some r from H_30); subst H_37
    refine VL_ret ?_
    exact P_to [(4, .c (.val (.int .i64 r_4.2)))] [] [] hn (by kernel_rfl) (by kernel_rfl) rfl rfl rfl (QF_retS (by kernel_rfl) (by kernel_rfl) rfl)

theorem mapper_Next_spec (K : Nat) (s_1 : (Option ((List (Int × Int)) × Int))) (at_2 : Int) (r : Int) (H : mapper_Next K s_1 at_2 = some r) : Spec Try.prog 29 0 [.c (.imm (.opt (.pair (.slice (.pair (.int .i64) (.int .i64))) (.int .i64))) s_1), .c (.val (.int .i64 at_2))] [] (.c (.val (.int .i64 r))) [] := by
  refine Spec_mk (fn := Try.f29) (c := (Try.f29.body).get!) Try.func29 (by kernel_rfl) rfl ?_
  intro C hN hn
  replace hN : C.N = 43 := hN
  unfold mapper_Next at H
  refine V_run hN hn 3 0 [0, 1] [] ⟨[(0, .c (.imm (.opt (.pair (.slice (.pair (.int .i64) (.int .i64))) (.int .i64))) s_1)), (1, .c (.val (.int .i64 at_2)))], [], 0⟩ [] (by kernel_rfl) rfl rfl ap0 ?_
  obtain ⟨r_4, h_5, H_27⟩ := of_bind H
  refine V_reg hN hn [(1, ⟨46, 0, [.c (.imm (.opt (.pair (.slice (.pair (.int .i64) (.int .i64))) (.int .i64))) s_1)], [], .tup [(false, [.h 2]), (false, [.val (.int .i64 r_4.2)])], [(2, .row (.pair (.int .i64) (.int .i64)) r_4.1)], [(2, 0)], 1⟩)] [] (calls_cons (mapper_runs_spec K s_1 r_4 h_5) (by kernel_rfl) calls_nil) 0 [1, 5, 6] [0] ⟨[(1, .c (.val (.int .i64 at_2))), (5, .c (.h 0)), (6, .c (.val (.int .i64 r_4.2)))], [(0, .row (.pair (.int .i64) (.int .i64)) r_4.1)], 1⟩ [] (by kernel_rfl) rfl rfl ap0 (by kernel_rfl) (by kernel_rfl) ?_
  refine V_run hN hn 7 1 [1, 6, 7, 17, 18, 19] [0] ⟨[(1, .c (.val (.int .i64 (mx2 at_2 (0 : Int))))), (6, .c (.val (.int .i64 r_4.2))), (7, .c (.val (.int .i64 (0 : Int)))), (17, .c (.h 0)), (18, .c (.val (.int .i64 (((List.length r_4.1) : Nat) : Int)))), (19, .c (.val (.int .i64 (0 : Int))))], [(0, .row (.pair (.int .i64) (.int .i64)) r_4.1)], 1⟩ [] (by kernel_rfl) rfl rfl ap0 ?_
  refine VL_block ?_
  refine V_to [(1, .c (.val (.int .i64 (mx2 at_2 (0 : Int))))), (6, .c (.val (.int .i64 r_4.2))), (7, .c (.val (.int .i64 (0 : Int)))), (17, .c (.h 0)), (18, .c (.val (.int .i64 (((List.length r_4.1) : Nat) : Int)))), (19, .c (.val (.int .i64 (0 : Int))))] [(0, .row (.pair (.int .i64) (.int .i64)) r_4.1)] [(0, 0)] hn (by kernel_rfl) (by kernel_rfl) rfl rfl rfl ?_
  refine VL_loop (X := (Int × Int)) (fun x => [(1, .c (.val (.int .i64 (mx2 at_2 (0 : Int))))), (6, .c (.val (.int .i64 r_4.2))), (7, .c (.val (.int .i64 x.1))), (17, .c (.h 0)), (18, .c (.val (.int .i64 (((List.length r_4.1) : Nat) : Int)))), (19, .c (.val (.int .i64 x.2)))]) (fun x => [(0, .row (.pair (.int .i64) (.int .i64)) r_4.1)]) (fun k x => mapper_Next.l0 K r_4 at_2 k x.1 x.2 = some r) K ((0 : Int), (0 : Int)) H_27 (fun _ h => no_none h) ?_
  intro k_10 x_10 H_28
  obtain ⟨ahead_8, t_9⟩ := x_10
  have H_29 : mapper_Next.l0 K r_4 at_2 (k_10 + 1) ahead_8 t_9 = some r := H_28
  rw [mapper_Next.l0] at H_29
  refine V_run hN hn 3 1 [1, 6, 7, 17, 18, 19, 20] [0] ⟨[(1, .c (.val (.int .i64 (mx2 at_2 (0 : Int))))), (6, .c (.val (.int .i64 r_4.2))), (7, .c (.val (.int .i64 ahead_8))), (17, .c (.h 0)), (18, .c (.val (.int .i64 (((List.length r_4.1) : Nat) : Int)))), (19, .c (.val (.int .i64 t_9))), (20, .c (.val (.bool (decide (t_9 < (((List.length r_4.1) : Nat) : Int))))))], [(0, .row (.pair (.int .i64) (.int .i64)) r_4.1)], 1⟩ [] (by kernel_rfl) rfl rfl ap0 ?_
  refine VL_cond ((decide (t_9 < (((List.length r_4.1) : Nat) : Int)))) (by kernel_rfl) ?_ ?_
  · intro b_12; have H_30 := of_t H_29 b_12
    refine V_run hN hn 2 1 [1, 6, 7, 17, 18, 19, 20] [0] ⟨[(1, .c (.val (.int .i64 (mx2 at_2 (0 : Int))))), (6, .c (.val (.int .i64 r_4.2))), (7, .c (.val (.int .i64 ahead_8))), (17, .c (.h 0)), (18, .c (.val (.int .i64 (((List.length r_4.1) : Nat) : Int)))), (19, .c (.val (.int .i64 t_9))), (20, .c (.val (.bool (decide (t_9 < (((List.length r_4.1) : Nat) : Int))))))], [(0, .row (.pair (.int .i64) (.int .i64)) r_4.1)], 1⟩ [] (by kernel_rfl) rfl rfl ap0 ?_
    refine VL_block ?_
    obtain ⟨c_14, H_32⟩ := of_if H_30
    refine V_run hN hn 4 1 [1, 6, 7, 9, 17, 18, 19] [0, 1] ⟨[(1, .c (.val (.int .i64 (mx2 at_2 (0 : Int))))), (6, .c (.val (.int .i64 r_4.2))), (7, .c (.val (.int .i64 ahead_8))), (9, .c (.h 1)), (17, .c (.h 0)), (18, .c (.val (.int .i64 (((List.length r_4.1) : Nat) : Int)))), (19, .c (.val (.int .i64 t_9)))], [(0, .row (.pair (.int .i64) (.int .i64)) r_4.1), (1, .box [.val (.int .i64 (List.getD r_4.1 (Int.toNat t_9) ((0 : Int), (0 : Int))).1), .val (.int .i64 (List.getD r_4.1 (Int.toNat t_9) ((0 : Int), (0 : Int))).2)])], 2⟩ [0 ≤ t_9, t_9 < (((List.length r_4.1) : Nat) : Int)] (by kernel_rfl) rfl rfl (ap2 c_14.1 (ap1 c_14.2)) ?_
    obtain ⟨q_33, H_34, H_35⟩ := of_bind H_32
    refine V_cut (Y := Bool) (R := Bool) q_33 (fun y => y) (fun y => [(1, .c (.val (.int .i64 (mx2 at_2 (0 : Int))))), (6, .c (.val (.int .i64 r_4.2))), (7, .c (.val (.int .i64 ahead_8))), (9, .c (.h 1)), (17, .c (.h 0)), (18, .c (.val (.int .i64 (((List.length r_4.1) : Nat) : Int)))), (19, .c (.val (.int .i64 t_9))), (33, .c (.val (.bool y)))]) (fun y => [(0, .row (.pair (.int .i64) (.int .i64)) r_4.1), (1, .box [.val (.int .i64 (List.getD r_4.1 (Int.toNat t_9) ((0 : Int), (0 : Int))).1), .val (.int .i64 (List.getD r_4.1 (Int.toNat t_9) ((0 : Int), (0 : Int))).2)])]) ?_ ?_
    · skip
      rcases Bool.eq_false_or_eq_true (((List.getD r_4.1 (Int.toNat t_9) ((0 : Int), (0 : Int))).2 == (0 : Int))) with b_15 | b_15
      · have H_37 := of_t H_34 b_15
        refine V_reg hN hn [] [(26, true)] calls_nil 2 [1, 6, 7, 9, 17, 18, 19, 33] [0, 1] ⟨[(1, .c (.val (.int .i64 (mx2 at_2 (0 : Int))))), (6, .c (.val (.int .i64 r_4.2))), (7, .c (.val (.int .i64 ahead_8))), (9, .c (.h 1)), (17, .c (.h 0)), (18, .c (.val (.int .i64 (((List.length r_4.1) : Nat) : Int)))), (19, .c (.val (.int .i64 t_9))), (33, .c (.val (.bool (decide ((mx2 at_2 (0 : Int)) < (IntKind.wrap .i64 (ahead_8 + (List.getD r_4.1 (Int.toNat t_9) ((0 : Int), (0 : Int))).1)))))))], [(0, .row (.pair (.int .i64) (.int .i64)) r_4.1), (1, .box [.val (.int .i64 (List.getD r_4.1 (Int.toNat t_9) ((0 : Int), (0 : Int))).1), .val (.int .i64 (List.getD r_4.1 (Int.toNat t_9) ((0 : Int), (0 : Int))).2)])], 2⟩ [((List.getD r_4.1 (Int.toNat t_9) ((0 : Int), (0 : Int))).2 == (0 : Int)) = true] (by kernel_rfl) rfl rfl (ap1 b_15) (by kernel_rfl) (by kernel_rfl) ?_
        have H_39 := Option.some.inj (show some (decide ((mx2 at_2 (0 : Int)) < (IntKind.wrap .i64 (ahead_8 + (List.getD r_4.1 (Int.toNat t_9) ((0 : Int), (0 : Int))).1)))) = some q_33 from H_37); subst H_39
        refine VL_nil ?_
        exact QP_end (decide ((mx2 at_2 (0 : Int)) < (IntKind.wrap .i64 (ahead_8 + (List.getD r_4.1 (Int.toNat t_9) ((0 : Int), (0 : Int))).1)))) rfl [(0, 0), (1, 1)] hn (by kernel_rfl) (by kernel_rfl) rfl rfl rfl
      · have H_38 := of_f H_34 b_15
        refine V_reg hN hn [] [(26, false)] calls_nil 2 [1, 6, 7, 9, 17, 18, 19, 33] [0, 1] ⟨[(1, .c (.val (.int .i64 (mx2 at_2 (0 : Int))))), (6, .c (.val (.int .i64 r_4.2))), (7, .c (.val (.int .i64 ahead_8))), (9, .c (.h 1)), (17, .c (.h 0)), (18, .c (.val (.int .i64 (((List.length r_4.1) : Nat) : Int)))), (19, .c (.val (.int .i64 t_9))), (33, .c (.val (.bool false)))], [(0, .row (.pair (.int .i64) (.int .i64)) r_4.1), (1, .box [.val (.int .i64 (List.getD r_4.1 (Int.toNat t_9) ((0 : Int), (0 : Int))).1), .val (.int .i64 (List.getD r_4.1 (Int.toNat t_9) ((0 : Int), (0 : Int))).2)])], 2⟩ [((List.getD r_4.1 (Int.toNat t_9) ((0 : Int), (0 : Int))).2 == (0 : Int)) = false] (by kernel_rfl) rfl rfl (ap1 b_15) (by kernel_rfl) (by kernel_rfl) ?_
        have H_40 := Option.some.inj (show some false = some q_33 from H_38); subst H_40
        refine VL_nil ?_
        exact QP_end false rfl [(0, 0), (1, 1)] hn (by kernel_rfl) (by kernel_rfl) rfl rfl rfl
    · intro y_36 hy; subst hy
      skip
      skip
      refine VL_cond (y_36) (by kernel_rfl) ?_ ?_
      · intro b_19; have H_41 := of_t H_35 b_19
        refine V_run hN hn 2 2 [4] [] ⟨[(4, .c (.val (.int .i64 (mx2 (mx2 at_2 (0 : Int)) ahead_8))))], [], 2⟩ [] (by kernel_rfl) rfl rfl ap0 ?_
        have H_43 := Option.some.inj (show some (mx2 (mx2 at_2 (0 : Int)) ahead_8) = some r from H_41); subst H_43
        refine VL_ret ?_
        refine QB_ret ?_
        refine QL_ret ?_
        refine QB_ret ?_
        exact P_to [(4, .c (.val (.int .i64 (mx2 (mx2 at_2 (0 : Int)) ahead_8))))] [] [] hn (by kernel_rfl) (by kernel_rfl) rfl rfl rfl (QF_retS (by kernel_rfl) (by kernel_rfl) rfl)
      · intro b_19; have H_42 := of_f H_35 b_19
        refine V_run hN hn 2 2 [1, 6, 7, 17, 18, 19] [0] ⟨[(1, .c (.val (.int .i64 (mx2 at_2 (0 : Int))))), (6, .c (.val (.int .i64 r_4.2))), (7, .c (.val (.int .i64 (IntKind.wrap .i64 (ahead_8 + (List.getD r_4.1 (Int.toNat t_9) ((0 : Int), (0 : Int))).1))))), (17, .c (.h 0)), (18, .c (.val (.int .i64 (((List.length r_4.1) : Nat) : Int)))), (19, .c (.val (.int .i64 t_9)))], [(0, .row (.pair (.int .i64) (.int .i64)) r_4.1)], 2⟩ [] (by kernel_rfl) rfl rfl ap0 ?_
        refine VL_nil (QB_end ?_)
        refine V_run hN hn 1 2 [1, 6, 7, 17, 18, 19] [0] ⟨[(1, .c (.val (.int .i64 (mx2 at_2 (0 : Int))))), (6, .c (.val (.int .i64 r_4.2))), (7, .c (.val (.int .i64 (IntKind.wrap .i64 (ahead_8 + (List.getD r_4.1 (Int.toNat t_9) ((0 : Int), (0 : Int))).1))))), (17, .c (.h 0)), (18, .c (.val (.int .i64 (((List.length r_4.1) : Nat) : Int)))), (19, .c (.val (.int .i64 (IntKind.wrap .i64 (t_9 + (1 : Int))))))], [(0, .row (.pair (.int .i64) (.int .i64)) r_4.1)], 2⟩ [] (by kernel_rfl) rfl rfl ap0 ?_
        refine VL_nil ?_
        exact V_roundEnd ((IntKind.wrap .i64 (ahead_8 + (List.getD r_4.1 (Int.toNat t_9) ((0 : Int), (0 : Int))).1)), (IntKind.wrap .i64 (t_9 + (1 : Int)))) H_42 [(0, 0)] hn (by kernel_rfl) (by kernel_rfl) rfl rfl rfl
  · intro b_12; have H_31 := of_f H_29 b_12
    refine VL_exit ?_
    refine QL_exit ?_
    refine QB_here ?_
    refine V_run hN hn 2 1 [4] [] ⟨[(4, .c (.val (.int .i64 r_4.2)))], [], 1⟩ [] (by kernel_rfl) rfl rfl ap0 ?_
    have H_44 := Option.some.inj (show some r_4.2 = some r from H_31); subst H_44
    refine VL_ret ?_
    exact P_to [(4, .c (.val (.int .i64 r_4.2)))] [] [] hn (by kernel_rfl) (by kernel_rfl) rfl rfl rfl (QF_retS (by kernel_rfl) (by kernel_rfl) rfl)

theorem mapper_runs_p_spec (K : Nat) (r : ((List (Int × Int)) × Int)) (H : mapper_runs_p K  = some r) : Spec Try.prog 46 0 [.c (.val (.pointer none))] [] (.tup [(false, [.imm (.slice (.pair (.int .i64) (.int .i64))) r.1]), (false, [.val (.int .i64 r.2)])]) [] := by
  refine Spec_mk (fn := Try.f46) (c := (Try.f46.body).get!) Try.func46 (by kernel_rfl) rfl ?_
  intro C hN hn
  replace hN : C.N = 19 := hN
  unfold mapper_runs_p at H
  refine V_run hN hn 5 0 [0, 7] [] ⟨[(0, .c (.val (.pointer none))), (7, .c (.val (.bool true)))], [], 0⟩ [] (by kernel_rfl) rfl rfl ap0 ?_
  refine VL_cond (true) (by kernel_rfl) (fun _ => ?_) (fun h => absurd h (by decide))
  refine V_run hN hn 2 0 [2, 3] [] ⟨[(2, .c (.val (.slice none 0 0))), (3, .c (.val (.int .i64 (0 : Int))))], [], 0⟩ [] (by kernel_rfl) rfl rfl ap0 ?_
  have H_5 := Option.some.inj (show some (([] : List (Int × Int)), (0 : Int)) = some r from H); subst H_5
  refine VL_ret ?_
  refine P_ghost [.read 2 (.slice (.pair (.int .i64) (.int .i64)))] 0 hn [2, 3] [] ⟨[(2, .c (.imm (.slice (.pair (.int .i64) (.int .i64))) ([] : List (Int × Int)))), (3, .c (.val (.int .i64 (0 : Int))))], [], 0⟩ (by kernel_rfl) rfl rfl ?_
  exact P_to [(2, .c (.imm (.slice (.pair (.int .i64) (.int .i64))) ([] : List (Int × Int)))), (3, .c (.val (.int .i64 (0 : Int))))] [] [] hn (by kernel_rfl) (by kernel_rfl) rfl rfl rfl (QF_retS (by kernel_rfl) (by kernel_rfl) rfl)

theorem mapper_Down_pg_spec (K : Nat) (at_1 : Int) (r : Int) (H : mapper_Down_pg K at_1 = some r) : Spec Try.prog 25 0 [.c (.val (.pointer none)), .c (.val (.int .i64 at_1))] [] (.c (.val (.int .i64 r))) [] := by
  refine Spec_mk (fn := Try.f25) (c := (Try.f25.body).get!) Try.func25 (by kernel_rfl) rfl ?_
  intro C hN hn
  replace hN : C.N = 42 := hN
  unfold mapper_Down_pg at H
  refine V_run hN hn 3 0 [0, 1] [] ⟨[(0, .c (.val (.pointer none))), (1, .c (.val (.int .i64 at_1)))], [], 0⟩ [] (by kernel_rfl) rfl rfl ap0 ?_
  obtain ⟨r_3, h_4, H_22⟩ := of_bind H
  refine V_reg hN hn [(1, ⟨46, 0, [.c (.val (.pointer none))], [], .tup [(false, [.imm (.slice (.pair (.int .i64) (.int .i64))) r_3.1]), (false, [.val (.int .i64 r_3.2)])], [], [], 0⟩)] [] (calls_cons (mapper_runs_p_spec K  r_3 h_4) (by kernel_rfl) calls_nil) 0 [1, 5, 6] [] ⟨[(1, .c (.val (.int .i64 at_1))), (5, .c (.imm (.slice (.pair (.int .i64) (.int .i64))) r_3.1)), (6, .c (.val (.int .i64 r_3.2)))], [], 0⟩ [] (by kernel_rfl) rfl rfl ap0 (by kernel_rfl) (by kernel_rfl) ?_
  refine V_run hN hn 5 0 [7, 8, 21, 22, 23] [] ⟨[(7, .c (.val (.int .i64 (mn2 (mx2 at_1 (0 : Int)) r_3.2)))), (8, .c (.val (.int .i64 (0 : Int)))), (21, .c (.imm (.slice (.pair (.int .i64) (.int .i64))) r_3.1)), (22, .c (.val (.int .i64 (((List.length r_3.1) : Nat) : Int)))), (23, .c (.val (.int .i64 (0 : Int))))], [], 0⟩ [] (by kernel_rfl) rfl rfl ap0 ?_
  refine VL_block ?_
  refine V_to [(7, .c (.val (.int .i64 (mn2 (mx2 at_1 (0 : Int)) r_3.2)))), (8, .c (.val (.int .i64 (0 : Int)))), (21, .c (.imm (.slice (.pair (.int .i64) (.int .i64))) r_3.1)), (22, .c (.val (.int .i64 (((List.length r_3.1) : Nat) : Int)))), (23, .c (.val (.int .i64 (0 : Int))))] [] [] hn (by kernel_rfl) (by kernel_rfl) rfl rfl rfl ?_
  refine VL_loop (X := (Int × Int × Int)) (fun x => [(7, .c (.val (.int .i64 x.1))), (8, .c (.val (.int .i64 x.2.1))), (21, .c (.imm (.slice (.pair (.int .i64) (.int .i64))) r_3.1)), (22, .c (.val (.int .i64 (((List.length r_3.1) : Nat) : Int)))), (23, .c (.val (.int .i64 x.2.2)))]) (fun x => []) (fun k x => mapper_Down_pg.l0 K r_3 k x.1 x.2.1 x.2.2 = some r) K ((mn2 (mx2 at_1 (0 : Int)) r_3.2), (0 : Int), (0 : Int)) H_22 (fun _ h => no_none h) ?_
  intro k_10 x_10 H_23
  obtain ⟨left_7, out_8, t_9⟩ := x_10
  have H_24 : mapper_Down_pg.l0 K r_3 (k_10 + 1) left_7 out_8 t_9 = some r := H_23
  rw [mapper_Down_pg.l0] at H_24
  refine V_run hN hn 3 0 [7, 8, 21, 22, 23, 24] [] ⟨[(7, .c (.val (.int .i64 left_7))), (8, .c (.val (.int .i64 out_8))), (21, .c (.imm (.slice (.pair (.int .i64) (.int .i64))) r_3.1)), (22, .c (.val (.int .i64 (((List.length r_3.1) : Nat) : Int)))), (23, .c (.val (.int .i64 t_9))), (24, .c (.val (.bool (decide (t_9 < (((List.length r_3.1) : Nat) : Int))))))], [], 0⟩ [] (by kernel_rfl) rfl rfl ap0 ?_
  refine VL_cond ((decide (t_9 < (((List.length r_3.1) : Nat) : Int)))) (by kernel_rfl) ?_ ?_
  · intro b_12; have H_25 := of_t H_24 b_12
    refine V_run hN hn 2 0 [7, 8, 21, 22, 23, 24] [] ⟨[(7, .c (.val (.int .i64 left_7))), (8, .c (.val (.int .i64 out_8))), (21, .c (.imm (.slice (.pair (.int .i64) (.int .i64))) r_3.1)), (22, .c (.val (.int .i64 (((List.length r_3.1) : Nat) : Int)))), (23, .c (.val (.int .i64 t_9))), (24, .c (.val (.bool (decide (t_9 < (((List.length r_3.1) : Nat) : Int))))))], [], 0⟩ [] (by kernel_rfl) rfl rfl ap0 ?_
    refine VL_block ?_
    obtain ⟨c_14, H_27⟩ := of_if H_25
    refine V_run hN hn 8 0 [7, 8, 11, 21, 22, 23, 36] [] ⟨[(7, .c (.val (.int .i64 (IntKind.wrap .i64 (left_7 - (mn2 (List.getD r_3.1 (Int.toNat t_9) ((0 : Int), (0 : Int))).1 left_7)))))), (8, .c (.val (.int .i64 out_8))), (11, .c (.val (.int .i64 (mn2 (List.getD r_3.1 (Int.toNat t_9) ((0 : Int), (0 : Int))).1 left_7)))), (21, .c (.imm (.slice (.pair (.int .i64) (.int .i64))) r_3.1)), (22, .c (.val (.int .i64 (((List.length r_3.1) : Nat) : Int)))), (23, .c (.val (.int .i64 t_9))), (36, .c (.val (.bool ((List.getD r_3.1 (Int.toNat t_9) ((0 : Int), (0 : Int))).2 == (0 : Int)))))], [], 1⟩ [0 ≤ t_9, t_9 < (((List.length r_3.1) : Nat) : Int)] (by kernel_rfl) rfl rfl (ap2 c_14.1 (ap1 c_14.2)) ?_
    refine VL_cond (((List.getD r_3.1 (Int.toNat t_9) ((0 : Int), (0 : Int))).2 == (0 : Int))) (by kernel_rfl) ?_ ?_
    · intro b_15; have H_28 := of_t H_27 b_15
      refine V_run hN hn 1 1 [7, 8, 21, 22, 23] [] ⟨[(7, .c (.val (.int .i64 (IntKind.wrap .i64 (left_7 - (mn2 (List.getD r_3.1 (Int.toNat t_9) ((0 : Int), (0 : Int))).1 left_7)))))), (8, .c (.val (.int .i64 (IntKind.wrap .i64 (out_8 + (mn2 (List.getD r_3.1 (Int.toNat t_9) ((0 : Int), (0 : Int))).1 left_7)))))), (21, .c (.imm (.slice (.pair (.int .i64) (.int .i64))) r_3.1)), (22, .c (.val (.int .i64 (((List.length r_3.1) : Nat) : Int)))), (23, .c (.val (.int .i64 t_9)))], [], 1⟩ [] (by kernel_rfl) rfl rfl ap0 ?_
      refine VL_nil (QB_end ?_)
      refine V_run hN hn 1 1 [7, 8, 21, 22, 23] [] ⟨[(7, .c (.val (.int .i64 (IntKind.wrap .i64 (left_7 - (mn2 (List.getD r_3.1 (Int.toNat t_9) ((0 : Int), (0 : Int))).1 left_7)))))), (8, .c (.val (.int .i64 (IntKind.wrap .i64 (out_8 + (mn2 (List.getD r_3.1 (Int.toNat t_9) ((0 : Int), (0 : Int))).1 left_7)))))), (21, .c (.imm (.slice (.pair (.int .i64) (.int .i64))) r_3.1)), (22, .c (.val (.int .i64 (((List.length r_3.1) : Nat) : Int)))), (23, .c (.val (.int .i64 (IntKind.wrap .i64 (t_9 + (1 : Int))))))], [], 1⟩ [] (by kernel_rfl) rfl rfl ap0 ?_
      refine VL_nil ?_
      exact V_roundEnd ((IntKind.wrap .i64 (left_7 - (mn2 (List.getD r_3.1 (Int.toNat t_9) ((0 : Int), (0 : Int))).1 left_7))), (IntKind.wrap .i64 (out_8 + (mn2 (List.getD r_3.1 (Int.toNat t_9) ((0 : Int), (0 : Int))).1 left_7))), (IntKind.wrap .i64 (t_9 + (1 : Int)))) H_28 [] hn (by kernel_rfl) (by kernel_rfl) rfl rfl rfl
    · intro b_15; have H_29 := of_f H_27 b_15
      refine V_run hN hn 1 1 [7, 8, 11, 21, 22, 23, 36] [] ⟨[(7, .c (.val (.int .i64 (IntKind.wrap .i64 (left_7 - (mn2 (List.getD r_3.1 (Int.toNat t_9) ((0 : Int), (0 : Int))).1 left_7)))))), (8, .c (.val (.int .i64 out_8))), (11, .c (.val (.int .i64 (mn2 (List.getD r_3.1 (Int.toNat t_9) ((0 : Int), (0 : Int))).1 left_7)))), (21, .c (.imm (.slice (.pair (.int .i64) (.int .i64))) r_3.1)), (22, .c (.val (.int .i64 (((List.length r_3.1) : Nat) : Int)))), (23, .c (.val (.int .i64 t_9))), (36, .c (.val (.bool ((List.getD r_3.1 (Int.toNat t_9) ((0 : Int), (0 : Int))).2 == (0 : Int)))))], [], 1⟩ [] (by kernel_rfl) rfl rfl ap0 ?_
      refine VL_nil (QB_end ?_)
      refine V_run hN hn 1 1 [7, 8, 21, 22, 23] [] ⟨[(7, .c (.val (.int .i64 (IntKind.wrap .i64 (left_7 - (mn2 (List.getD r_3.1 (Int.toNat t_9) ((0 : Int), (0 : Int))).1 left_7)))))), (8, .c (.val (.int .i64 out_8))), (21, .c (.imm (.slice (.pair (.int .i64) (.int .i64))) r_3.1)), (22, .c (.val (.int .i64 (((List.length r_3.1) : Nat) : Int)))), (23, .c (.val (.int .i64 (IntKind.wrap .i64 (t_9 + (1 : Int))))))], [], 1⟩ [] (by kernel_rfl) rfl rfl ap0 ?_
      refine VL_nil ?_
      exact V_roundEnd ((IntKind.wrap .i64 (left_7 - (mn2 (List.getD r_3.1 (Int.toNat t_9) ((0 : Int), (0 : Int))).1 left_7))), out_8, (IntKind.wrap .i64 (t_9 + (1 : Int)))) H_29 [] hn (by kernel_rfl) (by kernel_rfl) rfl rfl rfl
  · intro b_12; have H_26 := of_f H_24 b_12
    refine VL_exit ?_
    refine QL_exit ?_
    refine QB_here ?_
    refine V_run hN hn 2 0 [4] [] ⟨[(4, .c (.val (.int .i64 out_8)))], [], 0⟩ [] (by kernel_rfl) rfl rfl ap0 ?_
    have H_30 := Option.some.inj (show some out_8 = some r from H_26); subst H_30
    refine VL_ret ?_
    exact P_to [(4, .c (.val (.int .i64 out_8)))] [] [] hn (by kernel_rfl) (by kernel_rfl) rfl rfl rfl (QF_retS (by kernel_rfl) (by kernel_rfl) rfl)

theorem palinodelaw9_known_spec (K : Nat) (r : Bool) (H : palinodelaw9_known K  = some r) : Spec Try.prog 22 0 [] [] (.c (.val (.bool r))) [] := by
  refine Spec_mk (fn := Try.f22) (c := (Try.f22.body).get!) Try.func22 (by kernel_rfl) rfl ?_
  intro C hN hn
  replace hN : C.N = 50 := hN
  unfold palinodelaw9_known at H
  refine V_run hN hn 3 0 [] [] ⟨[], [], 0⟩ [] (by kernel_rfl) rfl rfl ap0 ?_
  obtain ⟨r_2, h_3, H_40⟩ := of_bind H
  refine V_reg hN hn [(1, ⟨24, 1, [.c (.h 0)], [(0, .row (.int .i64) ([(0 : Int), (1 : Int), (0 : Int), (2 : Int)] : List Int))], .c (.imm (.opt (.pair (.slice (.pair (.int .i64) (.int .i64))) (.int .i64))) r_2), [(0, .row (.int .i64) ([(0 : Int), (1 : Int), (0 : Int), (2 : Int)] : List Int))], [(0, 0)], 1⟩)] [] (calls_cons (palinodelaw9_made_r_spec K ([(0 : Int), (1 : Int), (0 : Int), (2 : Int)] : List Int) r_2 h_3) (by kernel_rfl) calls_nil) 0 [1] [] ⟨[(1, .c (.imm (.opt (.pair (.slice (.pair (.int .i64) (.int .i64))) (.int .i64))) r_2))], [], 1⟩ [] (by kernel_rfl) rfl rfl ap0 (by kernel_rfl) (by kernel_rfl) ?_
  refine V_run hN hn 1 1 [1] [] ⟨[(1, .c (.imm (.opt (.pair (.slice (.pair (.int .i64) (.int .i64))) (.int .i64))) r_2))], [], 1⟩ [] (by kernel_rfl) rfl rfl ap0 ?_
  obtain ⟨r_6, h_7, H_41⟩ := of_bind H_40
  refine V_reg hN hn [(1, ⟨32, 0, [.c (.imm (.opt (.pair (.slice (.pair (.int .i64) (.int .i64))) (.int .i64))) r_2), .c (.val (.bool true))], [], .c (.h 5), [(5, .row (.pair (.int .i64) (.int .i64)) r_6)], [(5, 1)], 2⟩)] [] (calls_cons (mapper_Runs_spec K r_2 true r_6 h_7) (by kernel_rfl) calls_nil) 1 [1, 2] [1] ⟨[(1, .c (.imm (.opt (.pair (.slice (.pair (.int .i64) (.int .i64))) (.int .i64))) r_2)), (2, .c (.h 1))], [(1, .row (.pair (.int .i64) (.int .i64)) r_6)], 2⟩ [] (by kernel_rfl) rfl rfl ap0 (by kernel_rfl) (by kernel_rfl) ?_
  refine V_run hN hn 1 2 [1, 2] [1] ⟨[(1, .c (.imm (.opt (.pair (.slice (.pair (.int .i64) (.int .i64))) (.int .i64))) r_2)), (2, .c (.h 1))], [(1, .row (.pair (.int .i64) (.int .i64)) r_6)], 2⟩ [] (by kernel_rfl) rfl rfl ap0 ?_
  rcases Bool.eq_false_or_eq_true ((!(Option.isNone r_2))) with b_10 | b_10
  · have H_42 := of_t H_41 b_10
    obtain ⟨r_11, h_12, H_44⟩ := of_bind H_42
    rcases Bool.eq_false_or_eq_true ((r_11 == (1 : Int))) with b_13 | b_13
    · have H_45 := of_t H_44 b_13
      obtain ⟨r_14, h_15, H_47⟩ := of_bind H_45
      rcases Bool.eq_false_or_eq_true ((r_14 == (2 : Int))) with b_16 | b_16
      · have H_48 := of_t H_47 b_16
        obtain ⟨r_17, h_18, H_50⟩ := of_bind H_48
        rcases Bool.eq_false_or_eq_true ((r_17 == (4 : Int))) with b_19 | b_19
        · have H_51 := of_t H_50 b_19
          obtain ⟨r_20, h_21, H_53⟩ := of_bind H_51
          rcases Bool.eq_false_or_eq_true ((r_20 == (2 : Int))) with b_22 | b_22
          · have H_54 := of_t H_53 b_22
            obtain ⟨r_23, h_24, H_56⟩ := of_bind H_54
            rcases Bool.eq_false_or_eq_true ((r_23 == (4 : Int))) with b_25 | b_25
            · have H_57 := of_t H_56 b_25
              rcases Bool.eq_false_or_eq_true (((((List.length r_6) : Nat) : Int) == (2 : Int))) with b_26 | b_26
              · have H_59 := of_t H_57 b_26
                rcases Bool.eq_false_or_eq_true ((((List.getD r_6 1 ((0 : Int), (0 : Int))).1 == (3 : Int)) && ((List.getD r_6 1 ((0 : Int), (0 : Int))).2 == (4 : Int)))) with b_27 | b_27
                · have H_61 := of_t H_59 b_27
                  obtain ⟨r_28, h_29, H_63⟩ := of_bind H_61
                  obtain ⟨c_30, H_64⟩ := of_if H_63
                  refine V_reg hN hn [(4, ⟨25, 0, [.c (.imm (.opt (.pair (.slice (.pair (.int .i64) (.int .i64))) (.int .i64))) r_2), .c (.val (.int .i64 (2 : Int)))], [], .c (.val (.int .i64 r_11)), [], [], 2⟩), (9, ⟨27, 0, [.c (.imm (.opt (.pair (.slice (.pair (.int .i64) (.int .i64))) (.int .i64))) r_2), .c (.val (.int .i64 (1 : Int)))], [], .c (.val (.int .i64 r_14)), [], [], 2⟩), (14, ⟨27, 0, [.c (.imm (.opt (.pair (.slice (.pair (.int .i64) (.int .i64))) (.int .i64))) r_2), .c (.val (.int .i64 (2 : Int)))], [], .c (.val (.int .i64 r_17)), [], [], 2⟩), (19, ⟨29, 0, [.c (.imm (.opt (.pair (.slice (.pair (.int .i64) (.int .i64))) (.int .i64))) r_2), .c (.val (.int .i64 (1 : Int)))], [], .c (.val (.int .i64 r_20)), [], [], 2⟩), (24, ⟨29, 0, [.c (.imm (.opt (.pair (.slice (.pair (.int .i64) (.int .i64))) (.int .i64))) r_2), .c (.val (.int .i64 (3 : Int)))], [], .c (.val (.int .i64 r_23)), [], [], 2⟩), (40, ⟨25, 0, [.c (.val (.pointer none)), .c (.val (.int .i64 (5 : Int)))], [], .c (.val (.int .i64 r_28)), [], [], 2⟩)] [(9, true), (14, true), (19, true), (24, true), (29, true), (34, true), (39, true), (46, true)] (calls_cons (mapper_Down_spec K r_2 (2 : Int) r_11 h_12) (by kernel_rfl) (calls_cons (mapper_Up_spec K r_2 (1 : Int) r_14 h_15) (by kernel_rfl) (calls_cons (mapper_Up_spec K r_2 (2 : Int) r_17 h_18) (by kernel_rfl) (calls_cons (mapper_Next_spec K r_2 (1 : Int) r_20 h_21) (by kernel_rfl) (calls_cons (mapper_Next_spec K r_2 (3 : Int) r_23 h_24) (by kernel_rfl) (calls_cons (mapper_Down_pg_spec K (5 : Int) r_28 h_29) (by kernel_rfl) calls_nil)))))) 2 [0] [] ⟨[(0, .c (.val (.bool (r_28 == (0 : Int)))))], [], 2⟩ [(!(Option.isNone r_2)) = true, (r_11 == (1 : Int)) = true, (r_14 == (2 : Int)) = true, (r_17 == (4 : Int)) = true, (r_20 == (2 : Int)) = true, (r_23 == (4 : Int)) = true, ((((List.length r_6) : Nat) : Int) == (2 : Int)) = true, (0 : Int) ≤ (1 : Int), (1 : Int) < (((List.length r_6) : Nat) : Int), (((List.getD r_6 1 ((0 : Int), (0 : Int))).1 == (3 : Int)) && ((List.getD r_6 1 ((0 : Int), (0 : Int))).2 == (4 : Int))) = true] (by kernel_rfl) rfl rfl (ap2 b_10 (ap2 b_13 (ap2 b_16 (ap2 b_19 (ap2 b_22 (ap2 b_25 (ap2 b_26 (ap2 (by decide) (ap2 c_30 (ap1 b_27)))))))))) (by kernel_rfl) (by kernel_rfl) ?_
                  have H_65 := Option.some.inj (show some (r_28 == (0 : Int)) = some r from H_64); subst H_65
                  refine VL_ret ?_
                  exact P_to [(0, .c (.val (.bool (r_28 == (0 : Int)))))] [] [] hn (by kernel_rfl) (by kernel_rfl) rfl rfl rfl (QF_retS (by kernel_rfl) (by kernel_rfl) rfl)
                · have H_62 := of_f H_59 b_27
                  obtain ⟨c_31, H_66⟩ := of_if H_62
                  refine V_reg hN hn [(4, ⟨25, 0, [.c (.imm (.opt (.pair (.slice (.pair (.int .i64) (.int .i64))) (.int .i64))) r_2), .c (.val (.int .i64 (2 : Int)))], [], .c (.val (.int .i64 r_11)), [], [], 2⟩), (9, ⟨27, 0, [.c (.imm (.opt (.pair (.slice (.pair (.int .i64) (.int .i64))) (.int .i64))) r_2), .c (.val (.int .i64 (1 : Int)))], [], .c (.val (.int .i64 r_14)), [], [], 2⟩), (14, ⟨27, 0, [.c (.imm (.opt (.pair (.slice (.pair (.int .i64) (.int .i64))) (.int .i64))) r_2), .c (.val (.int .i64 (2 : Int)))], [], .c (.val (.int .i64 r_17)), [], [], 2⟩), (19, ⟨29, 0, [.c (.imm (.opt (.pair (.slice (.pair (.int .i64) (.int .i64))) (.int .i64))) r_2), .c (.val (.int .i64 (1 : Int)))], [], .c (.val (.int .i64 r_20)), [], [], 2⟩), (24, ⟨29, 0, [.c (.imm (.opt (.pair (.slice (.pair (.int .i64) (.int .i64))) (.int .i64))) r_2), .c (.val (.int .i64 (3 : Int)))], [], .c (.val (.int .i64 r_23)), [], [], 2⟩)] [(9, true), (14, true), (19, true), (24, true), (29, true), (34, true), (39, true), (46, false)] (calls_cons (mapper_Down_spec K r_2 (2 : Int) r_11 h_12) (by kernel_rfl) (calls_cons (mapper_Up_spec K r_2 (1 : Int) r_14 h_15) (by kernel_rfl) (calls_cons (mapper_Up_spec K r_2 (2 : Int) r_17 h_18) (by kernel_rfl) (calls_cons (mapper_Next_spec K r_2 (1 : Int) r_20 h_21) (by kernel_rfl) (calls_cons (mapper_Next_spec K r_2 (3 : Int) r_23 h_24) (by kernel_rfl) calls_nil))))) 2 [0] [] ⟨[(0, .c (.val (.bool false)))], [], 2⟩ [(!(Option.isNone r_2)) = true, (r_11 == (1 : Int)) = true, (r_14 == (2 : Int)) = true, (r_17 == (4 : Int)) = true, (r_20 == (2 : Int)) = true, (r_23 == (4 : Int)) = true, ((((List.length r_6) : Nat) : Int) == (2 : Int)) = true, (0 : Int) ≤ (1 : Int), (1 : Int) < (((List.length r_6) : Nat) : Int), (((List.getD r_6 1 ((0 : Int), (0 : Int))).1 == (3 : Int)) && ((List.getD r_6 1 ((0 : Int), (0 : Int))).2 == (4 : Int))) = false] (by kernel_rfl) rfl rfl (ap2 b_10 (ap2 b_13 (ap2 b_16 (ap2 b_19 (ap2 b_22 (ap2 b_25 (ap2 b_26 (ap2 (by decide) (ap2 c_31 (ap1 b_27)))))))))) (by kernel_rfl) (by kernel_rfl) ?_
                  have H_67 := Option.some.inj (show some false = some r from H_66); subst H_67
                  refine VL_ret ?_
                  exact P_to [(0, .c (.val (.bool false)))] [] [] hn (by kernel_rfl) (by kernel_rfl) rfl rfl rfl (QF_retS (by kernel_rfl) (by kernel_rfl) rfl)
              · have H_60 := of_f H_57 b_26
                refine V_reg hN hn [(4, ⟨25, 0, [.c (.imm (.opt (.pair (.slice (.pair (.int .i64) (.int .i64))) (.int .i64))) r_2), .c (.val (.int .i64 (2 : Int)))], [], .c (.val (.int .i64 r_11)), [], [], 2⟩), (9, ⟨27, 0, [.c (.imm (.opt (.pair (.slice (.pair (.int .i64) (.int .i64))) (.int .i64))) r_2), .c (.val (.int .i64 (1 : Int)))], [], .c (.val (.int .i64 r_14)), [], [], 2⟩), (14, ⟨27, 0, [.c (.imm (.opt (.pair (.slice (.pair (.int .i64) (.int .i64))) (.int .i64))) r_2), .c (.val (.int .i64 (2 : Int)))], [], .c (.val (.int .i64 r_17)), [], [], 2⟩), (19, ⟨29, 0, [.c (.imm (.opt (.pair (.slice (.pair (.int .i64) (.int .i64))) (.int .i64))) r_2), .c (.val (.int .i64 (1 : Int)))], [], .c (.val (.int .i64 r_20)), [], [], 2⟩), (24, ⟨29, 0, [.c (.imm (.opt (.pair (.slice (.pair (.int .i64) (.int .i64))) (.int .i64))) r_2), .c (.val (.int .i64 (3 : Int)))], [], .c (.val (.int .i64 r_23)), [], [], 2⟩)] [(9, true), (14, true), (19, true), (24, true), (29, true), (34, true), (39, false)] (calls_cons (mapper_Down_spec K r_2 (2 : Int) r_11 h_12) (by kernel_rfl) (calls_cons (mapper_Up_spec K r_2 (1 : Int) r_14 h_15) (by kernel_rfl) (calls_cons (mapper_Up_spec K r_2 (2 : Int) r_17 h_18) (by kernel_rfl) (calls_cons (mapper_Next_spec K r_2 (1 : Int) r_20 h_21) (by kernel_rfl) (calls_cons (mapper_Next_spec K r_2 (3 : Int) r_23 h_24) (by kernel_rfl) calls_nil))))) 2 [0] [] ⟨[(0, .c (.val (.bool false)))], [], 2⟩ [(!(Option.isNone r_2)) = true, (r_11 == (1 : Int)) = true, (r_14 == (2 : Int)) = true, (r_17 == (4 : Int)) = true, (r_20 == (2 : Int)) = true, (r_23 == (4 : Int)) = true, ((((List.length r_6) : Nat) : Int) == (2 : Int)) = false] (by kernel_rfl) rfl rfl (ap2 b_10 (ap2 b_13 (ap2 b_16 (ap2 b_19 (ap2 b_22 (ap2 b_25 (ap1 b_26))))))) (by kernel_rfl) (by kernel_rfl) ?_
                have H_68 := Option.some.inj (show some false = some r from H_60); subst H_68
                refine VL_ret ?_
                exact P_to [(0, .c (.val (.bool false)))] [] [] hn (by kernel_rfl) (by kernel_rfl) rfl rfl rfl (QF_retS (by kernel_rfl) (by kernel_rfl) rfl)
            · have H_58 := of_f H_56 b_25
              refine V_reg hN hn [(4, ⟨25, 0, [.c (.imm (.opt (.pair (.slice (.pair (.int .i64) (.int .i64))) (.int .i64))) r_2), .c (.val (.int .i64 (2 : Int)))], [], .c (.val (.int .i64 r_11)), [], [], 2⟩), (9, ⟨27, 0, [.c (.imm (.opt (.pair (.slice (.pair (.int .i64) (.int .i64))) (.int .i64))) r_2), .c (.val (.int .i64 (1 : Int)))], [], .c (.val (.int .i64 r_14)), [], [], 2⟩), (14, ⟨27, 0, [.c (.imm (.opt (.pair (.slice (.pair (.int .i64) (.int .i64))) (.int .i64))) r_2), .c (.val (.int .i64 (2 : Int)))], [], .c (.val (.int .i64 r_17)), [], [], 2⟩), (19, ⟨29, 0, [.c (.imm (.opt (.pair (.slice (.pair (.int .i64) (.int .i64))) (.int .i64))) r_2), .c (.val (.int .i64 (1 : Int)))], [], .c (.val (.int .i64 r_20)), [], [], 2⟩), (24, ⟨29, 0, [.c (.imm (.opt (.pair (.slice (.pair (.int .i64) (.int .i64))) (.int .i64))) r_2), .c (.val (.int .i64 (3 : Int)))], [], .c (.val (.int .i64 r_23)), [], [], 2⟩)] [(9, true), (14, true), (19, true), (24, true), (29, true), (34, false)] (calls_cons (mapper_Down_spec K r_2 (2 : Int) r_11 h_12) (by kernel_rfl) (calls_cons (mapper_Up_spec K r_2 (1 : Int) r_14 h_15) (by kernel_rfl) (calls_cons (mapper_Up_spec K r_2 (2 : Int) r_17 h_18) (by kernel_rfl) (calls_cons (mapper_Next_spec K r_2 (1 : Int) r_20 h_21) (by kernel_rfl) (calls_cons (mapper_Next_spec K r_2 (3 : Int) r_23 h_24) (by kernel_rfl) calls_nil))))) 2 [0] [] ⟨[(0, .c (.val (.bool false)))], [], 2⟩ [(!(Option.isNone r_2)) = true, (r_11 == (1 : Int)) = true, (r_14 == (2 : Int)) = true, (r_17 == (4 : Int)) = true, (r_20 == (2 : Int)) = true, (r_23 == (4 : Int)) = false] (by kernel_rfl) rfl rfl (ap2 b_10 (ap2 b_13 (ap2 b_16 (ap2 b_19 (ap2 b_22 (ap1 b_25)))))) (by kernel_rfl) (by kernel_rfl) ?_
              have H_69 := Option.some.inj (show some false = some r from H_58); subst H_69
              refine VL_ret ?_
              exact P_to [(0, .c (.val (.bool false)))] [] [] hn (by kernel_rfl) (by kernel_rfl) rfl rfl rfl (QF_retS (by kernel_rfl) (by kernel_rfl) rfl)
          · have H_55 := of_f H_53 b_22
            refine V_reg hN hn [(4, ⟨25, 0, [.c (.imm (.opt (.pair (.slice (.pair (.int .i64) (.int .i64))) (.int .i64))) r_2), .c (.val (.int .i64 (2 : Int)))], [], .c (.val (.int .i64 r_11)), [], [], 2⟩), (9, ⟨27, 0, [.c (.imm (.opt (.pair (.slice (.pair (.int .i64) (.int .i64))) (.int .i64))) r_2), .c (.val (.int .i64 (1 : Int)))], [], .c (.val (.int .i64 r_14)), [], [], 2⟩), (14, ⟨27, 0, [.c (.imm (.opt (.pair (.slice (.pair (.int .i64) (.int .i64))) (.int .i64))) r_2), .c (.val (.int .i64 (2 : Int)))], [], .c (.val (.int .i64 r_17)), [], [], 2⟩), (19, ⟨29, 0, [.c (.imm (.opt (.pair (.slice (.pair (.int .i64) (.int .i64))) (.int .i64))) r_2), .c (.val (.int .i64 (1 : Int)))], [], .c (.val (.int .i64 r_20)), [], [], 2⟩)] [(9, true), (14, true), (19, true), (24, true), (29, false)] (calls_cons (mapper_Down_spec K r_2 (2 : Int) r_11 h_12) (by kernel_rfl) (calls_cons (mapper_Up_spec K r_2 (1 : Int) r_14 h_15) (by kernel_rfl) (calls_cons (mapper_Up_spec K r_2 (2 : Int) r_17 h_18) (by kernel_rfl) (calls_cons (mapper_Next_spec K r_2 (1 : Int) r_20 h_21) (by kernel_rfl) calls_nil)))) 2 [0] [] ⟨[(0, .c (.val (.bool false)))], [], 2⟩ [(!(Option.isNone r_2)) = true, (r_11 == (1 : Int)) = true, (r_14 == (2 : Int)) = true, (r_17 == (4 : Int)) = true, (r_20 == (2 : Int)) = false] (by kernel_rfl) rfl rfl (ap2 b_10 (ap2 b_13 (ap2 b_16 (ap2 b_19 (ap1 b_22))))) (by kernel_rfl) (by kernel_rfl) ?_
            have H_70 := Option.some.inj (show some false = some r from H_55); subst H_70
            refine VL_ret ?_
            exact P_to [(0, .c (.val (.bool false)))] [] [] hn (by kernel_rfl) (by kernel_rfl) rfl rfl rfl (QF_retS (by kernel_rfl) (by kernel_rfl) rfl)
        · have H_52 := of_f H_50 b_19
          refine V_reg hN hn [(4, ⟨25, 0, [.c (.imm (.opt (.pair (.slice (.pair (.int .i64) (.int .i64))) (.int .i64))) r_2), .c (.val (.int .i64 (2 : Int)))], [], .c (.val (.int .i64 r_11)), [], [], 2⟩), (9, ⟨27, 0, [.c (.imm (.opt (.pair (.slice (.pair (.int .i64) (.int .i64))) (.int .i64))) r_2), .c (.val (.int .i64 (1 : Int)))], [], .c (.val (.int .i64 r_14)), [], [], 2⟩), (14, ⟨27, 0, [.c (.imm (.opt (.pair (.slice (.pair (.int .i64) (.int .i64))) (.int .i64))) r_2), .c (.val (.int .i64 (2 : Int)))], [], .c (.val (.int .i64 r_17)), [], [], 2⟩)] [(9, true), (14, true), (19, true), (24, false)] (calls_cons (mapper_Down_spec K r_2 (2 : Int) r_11 h_12) (by kernel_rfl) (calls_cons (mapper_Up_spec K r_2 (1 : Int) r_14 h_15) (by kernel_rfl) (calls_cons (mapper_Up_spec K r_2 (2 : Int) r_17 h_18) (by kernel_rfl) calls_nil))) 2 [0] [] ⟨[(0, .c (.val (.bool false)))], [], 2⟩ [(!(Option.isNone r_2)) = true, (r_11 == (1 : Int)) = true, (r_14 == (2 : Int)) = true, (r_17 == (4 : Int)) = false] (by kernel_rfl) rfl rfl (ap2 b_10 (ap2 b_13 (ap2 b_16 (ap1 b_19)))) (by kernel_rfl) (by kernel_rfl) ?_
          have H_71 := Option.some.inj (show some false = some r from H_52); subst H_71
          refine VL_ret ?_
          exact P_to [(0, .c (.val (.bool false)))] [] [] hn (by kernel_rfl) (by kernel_rfl) rfl rfl rfl (QF_retS (by kernel_rfl) (by kernel_rfl) rfl)
      · have H_49 := of_f H_47 b_16
        refine V_reg hN hn [(4, ⟨25, 0, [.c (.imm (.opt (.pair (.slice (.pair (.int .i64) (.int .i64))) (.int .i64))) r_2), .c (.val (.int .i64 (2 : Int)))], [], .c (.val (.int .i64 r_11)), [], [], 2⟩), (9, ⟨27, 0, [.c (.imm (.opt (.pair (.slice (.pair (.int .i64) (.int .i64))) (.int .i64))) r_2), .c (.val (.int .i64 (1 : Int)))], [], .c (.val (.int .i64 r_14)), [], [], 2⟩)] [(9, true), (14, true), (19, false)] (calls_cons (mapper_Down_spec K r_2 (2 : Int) r_11 h_12) (by kernel_rfl) (calls_cons (mapper_Up_spec K r_2 (1 : Int) r_14 h_15) (by kernel_rfl) calls_nil)) 2 [0] [] ⟨[(0, .c (.val (.bool false)))], [], 2⟩ [(!(Option.isNone r_2)) = true, (r_11 == (1 : Int)) = true, (r_14 == (2 : Int)) = false] (by kernel_rfl) rfl rfl (ap2 b_10 (ap2 b_13 (ap1 b_16))) (by kernel_rfl) (by kernel_rfl) ?_
        have H_72 := Option.some.inj (show some false = some r from H_49); subst H_72
        refine VL_ret ?_
        exact P_to [(0, .c (.val (.bool false)))] [] [] hn (by kernel_rfl) (by kernel_rfl) rfl rfl rfl (QF_retS (by kernel_rfl) (by kernel_rfl) rfl)
    · have H_46 := of_f H_44 b_13
      refine V_reg hN hn [(4, ⟨25, 0, [.c (.imm (.opt (.pair (.slice (.pair (.int .i64) (.int .i64))) (.int .i64))) r_2), .c (.val (.int .i64 (2 : Int)))], [], .c (.val (.int .i64 r_11)), [], [], 2⟩)] [(9, true), (14, false)] (calls_cons (mapper_Down_spec K r_2 (2 : Int) r_11 h_12) (by kernel_rfl) calls_nil) 2 [0] [] ⟨[(0, .c (.val (.bool false)))], [], 2⟩ [(!(Option.isNone r_2)) = true, (r_11 == (1 : Int)) = false] (by kernel_rfl) rfl rfl (ap2 b_10 (ap1 b_13)) (by kernel_rfl) (by kernel_rfl) ?_
      have H_73 := Option.some.inj (show some false = some r from H_46); subst H_73
      refine VL_ret ?_
      exact P_to [(0, .c (.val (.bool false)))] [] [] hn (by kernel_rfl) (by kernel_rfl) rfl rfl rfl (QF_retS (by kernel_rfl) (by kernel_rfl) rfl)
  · have H_43 := of_f H_41 b_10
    refine V_reg hN hn [] [(9, false)] calls_nil 2 [0] [] ⟨[(0, .c (.val (.bool false)))], [], 2⟩ [(!(Option.isNone r_2)) = false] (by kernel_rfl) rfl rfl (ap1 b_10) (by kernel_rfl) (by kernel_rfl) ?_
    have H_74 := Option.some.inj (show some false = some r from H_43); subst H_74
    refine VL_ret ?_
    exact P_to [(0, .c (.val (.bool false)))] [] [] hn (by kernel_rfl) (by kernel_rfl) rfl rfl rfl (QF_retS (by kernel_rfl) (by kernel_rfl) rfl)

theorem palinodelaw9_row_spec (K : Nat) (l_1 : (List Int)) (r : (List Int)) (H : palinodelaw9_row K l_1 = some r) : Spec Try.prog 23 0 [.c (.imm (.slice (.int .u8)) l_1)] [] (.c (.h 3)) [(3, .row (.int .i64) r)] := by
  refine Spec_mk (fn := Try.f23) (c := (Try.f23.body).get!) Try.func23 (by kernel_rfl) rfl ?_
  intro C hN hn
  replace hN : C.N = 29 := hN
  unfold palinodelaw9_row at H
  refine V_run hN hn 7 0 [0, 3, 4] [] ⟨[(0, .c (.imm (.slice (.int .u8)) l_1)), (3, .c (.val (.slice none 0 0))), (4, .c (.val (.int .i64 (0 : Int))))], [], 0⟩ [] (by kernel_rfl) rfl rfl ap0 ?_
  refine VL_block ?_
  refine V_ghost [.nilSlot 3 (.int .i64)] 0 hn [0, 3, 4] [0] ⟨[(0, .c (.imm (.slice (.int .u8)) l_1)), (3, .c (.h 0)), (4, .c (.val (.int .i64 (0 : Int))))], [(0, .row (.int .i64) ([] : List Int))], 1⟩ (by kernel_rfl) rfl rfl ?_
  refine V_to [(0, .c (.imm (.slice (.int .u8)) l_1)), (3, .c (.h 3)), (4, .c (.val (.int .i64 (0 : Int))))] [(3, .row (.int .i64) ([] : List Int))] [(3, 0)] hn (by kernel_rfl) (by kernel_rfl) rfl rfl rfl ?_
  refine VL_loop (X := ((List Int) × Int)) (fun x => [(0, .c (.imm (.slice (.int .u8)) l_1)), (3, .c (.h 3)), (4, .c (.val (.int .i64 x.2)))]) (fun x => [(3, .row (.int .i64) x.1)]) (fun k x => palinodelaw9_row.l0 K l_1 k x.1 x.2 = some r) K (([] : List Int), (0 : Int)) H (fun _ h => no_none h) ?_
  intro k_12 x_12 H_20
  obtain ⟨out_11, i_3⟩ := x_12
  have H_21 : palinodelaw9_row.l0 K l_1 (k_12 + 1) out_11 i_3 = some r := H_20
  rw [palinodelaw9_row.l0] at H_21
  refine V_run hN hn 3 4 [0, 3, 4, 8] [3] ⟨[(0, .c (.imm (.slice (.int .u8)) l_1)), (3, .c (.h 3)), (4, .c (.val (.int .i64 i_3))), (8, .c (.val (.bool (decide (i_3 < (((List.length l_1) : Nat) : Int))))))], [(3, .row (.int .i64) out_11)], 4⟩ [] (by kernel_rfl) rfl rfl ap0 ?_
  refine VL_cond ((decide (i_3 < (((List.length l_1) : Nat) : Int)))) (by kernel_rfl) ?_ ?_
  · intro b_14; have H_22 := of_t H_21 b_14
    refine V_run hN hn 2 4 [0, 3, 4, 8] [3] ⟨[(0, .c (.imm (.slice (.int .u8)) l_1)), (3, .c (.h 3)), (4, .c (.val (.int .i64 i_3))), (8, .c (.val (.bool (decide (i_3 < (((List.length l_1) : Nat) : Int))))))], [(3, .row (.int .i64) out_11)], 4⟩ [] (by kernel_rfl) rfl rfl ap0 ?_
    refine VL_block ?_
    obtain ⟨c_16, H_24⟩ := of_if H_22
    refine V_draw hN hn (by kernel_rfl) [] [] calls_nil 4 [0, 3, 4] [5] ⟨[(0, .c (.imm (.slice (.int .u8)) l_1)), (3, .c (.h 5)), (4, .c (.val (.int .i64 i_3)))], [(5, .row (.int .i64) (out_11 ++ ([(IntKind.wrap .i64 ((IntKind.wrap .i64 (Int.tmod (List.getD l_1 (Int.toNat i_3) (0 : Int)) (3 : Int))) * (IntKind.wrap .i64 (Int.tmod (IntKind.wrap .u8 (Int.tdiv (List.getD l_1 (Int.toNat i_3) (0 : Int)) (3 : Int))) (2 : Int)))))] : List Int)))], 6⟩ [0 ≤ i_3, i_3 < (((List.length l_1) : Nat) : Int), (3 : Int) ≠ (0 : Int), 0 ≤ i_3, i_3 < (((List.length l_1) : Nat) : Int), (3 : Int) ≠ (0 : Int), (2 : Int) ≠ (0 : Int), (List.length out_11 + List.length ([(IntKind.wrap .i64 ((IntKind.wrap .i64 (Int.tmod (List.getD l_1 (Int.toNat i_3) (0 : Int)) (3 : Int))) * (IntKind.wrap .i64 (Int.tmod (IntKind.wrap .u8 (Int.tdiv (List.getD l_1 (Int.toNat i_3) (0 : Int)) (3 : Int))) (2 : Int)))))] : List Int)) * 8 ≤ 140737488355328] (by kernel_rfl) rfl rfl (ap2 c_16.1 (ap2 c_16.2.1 (ap2 (by decide) (ap2 c_16.1 (ap2 c_16.2.1 (ap2 (by decide) (ap2 (by decide) (ap1 c_16.2.2)))))))) (by kernel_rfl) (by kernel_rfl) ?_
    refine VL_nil (QB_end ?_)
    refine V_run hN hn 1 6 [0, 3, 4] [5] ⟨[(0, .c (.imm (.slice (.int .u8)) l_1)), (3, .c (.h 5)), (4, .c (.val (.int .i64 (IntKind.wrap .i64 (i_3 + (1 : Int))))))], [(5, .row (.int .i64) (out_11 ++ ([(IntKind.wrap .i64 ((IntKind.wrap .i64 (Int.tmod (List.getD l_1 (Int.toNat i_3) (0 : Int)) (3 : Int))) * (IntKind.wrap .i64 (Int.tmod (IntKind.wrap .u8 (Int.tdiv (List.getD l_1 (Int.toNat i_3) (0 : Int)) (3 : Int))) (2 : Int)))))] : List Int)))], 6⟩ [] (by kernel_rfl) rfl rfl ap0 ?_
    refine VL_nil ?_
    exact V_roundEnd ((out_11 ++ ([(IntKind.wrap .i64 ((IntKind.wrap .i64 (Int.tmod (List.getD l_1 (Int.toNat i_3) (0 : Int)) (3 : Int))) * (IntKind.wrap .i64 (Int.tmod (IntKind.wrap .u8 (Int.tdiv (List.getD l_1 (Int.toNat i_3) (0 : Int)) (3 : Int))) (2 : Int)))))] : List Int)), (IntKind.wrap .i64 (i_3 + (1 : Int)))) H_24 [(3, 5)] hn (by kernel_rfl) (by kernel_rfl) rfl rfl rfl
  · intro b_14; have H_23 := of_f H_21 b_14
    refine VL_exit ?_
    refine QL_exit ?_
    refine QB_here ?_
    refine V_run hN hn 2 4 [2] [3] ⟨[(2, .c (.h 3))], [(3, .row (.int .i64) out_11)], 4⟩ [] (by kernel_rfl) rfl rfl ap0 ?_
    have H_25 := Option.some.inj (show some out_11 = some r from H_23); subst H_25
    refine VL_ret ?_
    exact P_to [(2, .c (.h 3))] [(3, .row (.int .i64) out_11)] [(3, 3)] hn (by kernel_rfl) (by kernel_rfl) rfl rfl rfl (QF_retS (by kernel_rfl) (by kernel_rfl) rfl)

theorem subset_Subset_Size_spec (K : Nat) (s_1 : (Option ((List (Int × Int)) × Int))) (r : Int) (H : subset_Subset_Size K s_1 = some r) : Spec Try.prog 15 0 [.c (.imm (.opt (.pair (.slice (.pair (.int .i64) (.int .i64))) (.int .i64))) s_1)] [] (.c (.val (.int .i64 r))) [] := by
  refine Spec_mk (fn := Try.f15) (c := (Try.f15.body).get!) Try.func15 (by kernel_rfl) rfl ?_
  intro C hN hn
  replace hN : C.N = 24 := hN
  unfold subset_Subset_Size at H
  obtain ⟨c_2, H_17⟩ := of_if H
  refine V_run hN hn 7 0 [3, 9, 10, 11] [] ⟨[(3, .c (.val (.int .i64 (0 : Int)))), (9, .c (.imm (.slice (.pair (.int .i64) (.int .i64))) (Option.getD s_1 (([] : (List (Int × Int))), (0 : Int))).1)), (10, .c (.val (.int .i64 (((List.length (Option.getD s_1 (([] : (List (Int × Int))), (0 : Int))).1) : Nat) : Int)))), (11, .c (.val (.int .i64 (0 : Int))))], [], 0⟩ [Option.isSome s_1 = true] (by kernel_rfl) rfl rfl (ap1 c_2) ?_
  refine VL_block ?_
  refine V_to [(3, .c (.val (.int .i64 (0 : Int)))), (9, .c (.imm (.slice (.pair (.int .i64) (.int .i64))) (Option.getD s_1 (([] : (List (Int × Int))), (0 : Int))).1)), (10, .c (.val (.int .i64 (((List.length (Option.getD s_1 (([] : (List (Int × Int))), (0 : Int))).1) : Nat) : Int)))), (11, .c (.val (.int .i64 (0 : Int))))] [] [] hn (by kernel_rfl) (by kernel_rfl) rfl rfl rfl ?_
  refine VL_loop (X := (Int × Int)) (fun x => [(3, .c (.val (.int .i64 x.1))), (9, .c (.imm (.slice (.pair (.int .i64) (.int .i64))) (Option.getD s_1 (([] : (List (Int × Int))), (0 : Int))).1)), (10, .c (.val (.int .i64 (((List.length (Option.getD s_1 (([] : (List (Int × Int))), (0 : Int))).1) : Nat) : Int)))), (11, .c (.val (.int .i64 x.2)))]) (fun x => []) (fun k x => subset_Subset_Size.l0 K s_1 k x.1 x.2 = some r) K ((0 : Int), (0 : Int)) H_17 (fun _ h => no_none h) ?_
  intro k_5 x_5 H_18
  obtain ⟨n_3, t_4⟩ := x_5
  have H_19 : subset_Subset_Size.l0 K s_1 (k_5 + 1) n_3 t_4 = some r := H_18
  rw [subset_Subset_Size.l0] at H_19
  refine V_run hN hn 3 0 [3, 9, 10, 11, 12] [] ⟨[(3, .c (.val (.int .i64 n_3))), (9, .c (.imm (.slice (.pair (.int .i64) (.int .i64))) (Option.getD s_1 (([] : (List (Int × Int))), (0 : Int))).1)), (10, .c (.val (.int .i64 (((List.length (Option.getD s_1 (([] : (List (Int × Int))), (0 : Int))).1) : Nat) : Int)))), (11, .c (.val (.int .i64 t_4))), (12, .c (.val (.bool (decide (t_4 < (((List.length (Option.getD s_1 (([] : (List (Int × Int))), (0 : Int))).1) : Nat) : Int))))))], [], 0⟩ [] (by kernel_rfl) rfl rfl ap0 ?_
  refine VL_cond ((decide (t_4 < (((List.length (Option.getD s_1 (([] : (List (Int × Int))), (0 : Int))).1) : Nat) : Int)))) (by kernel_rfl) ?_ ?_
  · intro b_7; have H_20 := of_t H_19 b_7
    refine V_run hN hn 2 0 [3, 9, 10, 11, 12] [] ⟨[(3, .c (.val (.int .i64 n_3))), (9, .c (.imm (.slice (.pair (.int .i64) (.int .i64))) (Option.getD s_1 (([] : (List (Int × Int))), (0 : Int))).1)), (10, .c (.val (.int .i64 (((List.length (Option.getD s_1 (([] : (List (Int × Int))), (0 : Int))).1) : Nat) : Int)))), (11, .c (.val (.int .i64 t_4))), (12, .c (.val (.bool (decide (t_4 < (((List.length (Option.getD s_1 (([] : (List (Int × Int))), (0 : Int))).1) : Nat) : Int))))))], [], 0⟩ [] (by kernel_rfl) rfl rfl ap0 ?_
    refine VL_block ?_
    obtain ⟨c_9, H_22⟩ := of_if H_20
    refine V_run hN hn 4 0 [3, 5, 9, 10, 11, 17] [0] ⟨[(3, .c (.val (.int .i64 n_3))), (5, .c (.h 0)), (9, .c (.imm (.slice (.pair (.int .i64) (.int .i64))) (Option.getD s_1 (([] : (List (Int × Int))), (0 : Int))).1)), (10, .c (.val (.int .i64 (((List.length (Option.getD s_1 (([] : (List (Int × Int))), (0 : Int))).1) : Nat) : Int)))), (11, .c (.val (.int .i64 t_4))), (17, .c (.val (.bool (decide ((List.getD (Option.getD s_1 (([] : (List (Int × Int))), (0 : Int))).1 (Int.toNat t_4) ((0 : Int), (0 : Int))).2 > (0 : Int))))))], [(0, .box [.val (.int .i64 (List.getD (Option.getD s_1 (([] : (List (Int × Int))), (0 : Int))).1 (Int.toNat t_4) ((0 : Int), (0 : Int))).1), .val (.int .i64 (List.getD (Option.getD s_1 (([] : (List (Int × Int))), (0 : Int))).1 (Int.toNat t_4) ((0 : Int), (0 : Int))).2)])], 1⟩ [0 ≤ t_4, t_4 < (((List.length (Option.getD s_1 (([] : (List (Int × Int))), (0 : Int))).1) : Nat) : Int)] (by kernel_rfl) rfl rfl (ap2 c_9.1 (ap1 c_9.2)) ?_
    refine VL_cond ((decide ((List.getD (Option.getD s_1 (([] : (List (Int × Int))), (0 : Int))).1 (Int.toNat t_4) ((0 : Int), (0 : Int))).2 > (0 : Int)))) (by kernel_rfl) ?_ ?_
    · intro b_10; have H_23 := of_t H_22 b_10
      refine V_run hN hn 1 1 [3, 9, 10, 11] [] ⟨[(3, .c (.val (.int .i64 (IntKind.wrap .i64 (n_3 + (List.getD (Option.getD s_1 (([] : (List (Int × Int))), (0 : Int))).1 (Int.toNat t_4) ((0 : Int), (0 : Int))).1))))), (9, .c (.imm (.slice (.pair (.int .i64) (.int .i64))) (Option.getD s_1 (([] : (List (Int × Int))), (0 : Int))).1)), (10, .c (.val (.int .i64 (((List.length (Option.getD s_1 (([] : (List (Int × Int))), (0 : Int))).1) : Nat) : Int)))), (11, .c (.val (.int .i64 t_4)))], [], 1⟩ [] (by kernel_rfl) rfl rfl ap0 ?_
      refine VL_nil (QB_end ?_)
      refine V_run hN hn 1 1 [3, 9, 10, 11] [] ⟨[(3, .c (.val (.int .i64 (IntKind.wrap .i64 (n_3 + (List.getD (Option.getD s_1 (([] : (List (Int × Int))), (0 : Int))).1 (Int.toNat t_4) ((0 : Int), (0 : Int))).1))))), (9, .c (.imm (.slice (.pair (.int .i64) (.int .i64))) (Option.getD s_1 (([] : (List (Int × Int))), (0 : Int))).1)), (10, .c (.val (.int .i64 (((List.length (Option.getD s_1 (([] : (List (Int × Int))), (0 : Int))).1) : Nat) : Int)))), (11, .c (.val (.int .i64 (IntKind.wrap .i64 (t_4 + (1 : Int))))))], [], 1⟩ [] (by kernel_rfl) rfl rfl ap0 ?_
      refine VL_nil ?_
      exact V_roundEnd ((IntKind.wrap .i64 (n_3 + (List.getD (Option.getD s_1 (([] : (List (Int × Int))), (0 : Int))).1 (Int.toNat t_4) ((0 : Int), (0 : Int))).1)), (IntKind.wrap .i64 (t_4 + (1 : Int)))) H_23 [] hn (by kernel_rfl) (by kernel_rfl) rfl rfl rfl
    · intro b_10; have H_24 := of_f H_22 b_10
      refine V_run hN hn 1 1 [3, 5, 9, 10, 11, 17] [0] ⟨[(3, .c (.val (.int .i64 n_3))), (5, .c (.h 0)), (9, .c (.imm (.slice (.pair (.int .i64) (.int .i64))) (Option.getD s_1 (([] : (List (Int × Int))), (0 : Int))).1)), (10, .c (.val (.int .i64 (((List.length (Option.getD s_1 (([] : (List (Int × Int))), (0 : Int))).1) : Nat) : Int)))), (11, .c (.val (.int .i64 t_4))), (17, .c (.val (.bool (decide ((List.getD (Option.getD s_1 (([] : (List (Int × Int))), (0 : Int))).1 (Int.toNat t_4) ((0 : Int), (0 : Int))).2 > (0 : Int))))))], [(0, .box [.val (.int .i64 (List.getD (Option.getD s_1 (([] : (List (Int × Int))), (0 : Int))).1 (Int.toNat t_4) ((0 : Int), (0 : Int))).1), .val (.int .i64 (List.getD (Option.getD s_1 (([] : (List (Int × Int))), (0 : Int))).1 (Int.toNat t_4) ((0 : Int), (0 : Int))).2)])], 1⟩ [] (by kernel_rfl) rfl rfl ap0 ?_
      refine VL_nil (QB_end ?_)
      refine V_run hN hn 1 1 [3, 9, 10, 11] [] ⟨[(3, .c (.val (.int .i64 n_3))), (9, .c (.imm (.slice (.pair (.int .i64) (.int .i64))) (Option.getD s_1 (([] : (List (Int × Int))), (0 : Int))).1)), (10, .c (.val (.int .i64 (((List.length (Option.getD s_1 (([] : (List (Int × Int))), (0 : Int))).1) : Nat) : Int)))), (11, .c (.val (.int .i64 (IntKind.wrap .i64 (t_4 + (1 : Int))))))], [], 1⟩ [] (by kernel_rfl) rfl rfl ap0 ?_
      refine VL_nil ?_
      exact V_roundEnd (n_3, (IntKind.wrap .i64 (t_4 + (1 : Int)))) H_24 [] hn (by kernel_rfl) (by kernel_rfl) rfl rfl rfl
  · intro b_7; have H_21 := of_f H_19 b_7
    refine VL_exit ?_
    refine QL_exit ?_
    refine QB_here ?_
    refine V_run hN hn 2 0 [2] [] ⟨[(2, .c (.val (.int .i64 n_3)))], [], 0⟩ [] (by kernel_rfl) rfl rfl ap0 ?_
    have H_25 := Option.some.inj (show some n_3 = some r from H_21); subst H_25
    refine VL_ret ?_
    exact P_to [(2, .c (.val (.int .i64 n_3)))] [] [] hn (by kernel_rfl) (by kernel_rfl) rfl rfl rfl (QF_retS (by kernel_rfl) (by kernel_rfl) rfl)

theorem subset_Subset_Count_spec (K : Nat) (s_1 : (Option ((List (Int × Int)) × Int))) (at_2 : Int) (r : Int) (H : subset_Subset_Count K s_1 at_2 = some r) : Spec Try.prog 20 0 [.c (.imm (.opt (.pair (.slice (.pair (.int .i64) (.int .i64))) (.int .i64))) s_1), .c (.val (.int .i64 at_2))] [] (.c (.val (.int .i64 r))) [] := by
  refine Spec_mk (fn := Try.f20) (c := (Try.f20.body).get!) Try.func20 (by kernel_rfl) rfl ?_
  intro C hN hn
  replace hN : C.N = 37 := hN
  unfold subset_Subset_Count at H
  refine V_run hN hn 4 0 [0, 1] [] ⟨[(0, .c (.imm (.opt (.pair (.slice (.pair (.int .i64) (.int .i64))) (.int .i64))) s_1)), (1, .c (.val (.int .i64 at_2)))], [], 0⟩ [] (by kernel_rfl) rfl rfl ap0 ?_
  obtain ⟨q_25, H_26, H_27⟩ := of_bind H
  refine V_cut (Y := Bool) (R := Bool) q_25 (fun y => y) (fun y => [(0, .c (.imm (.opt (.pair (.slice (.pair (.int .i64) (.int .i64))) (.int .i64))) s_1)), (1, .c (.val (.int .i64 at_2))), (16, .c (.val (.bool y)))]) (fun y => []) ?_ ?_
  · skip
    rcases Bool.eq_false_or_eq_true ((decide (at_2 < (0 : Int)))) with b_4 | b_4
    · have H_29 := of_t H_26 b_4
      refine V_reg hN hn [] [(9, true)] calls_nil 0 [0, 1, 16] [] ⟨[(0, .c (.imm (.opt (.pair (.slice (.pair (.int .i64) (.int .i64))) (.int .i64))) s_1)), (1, .c (.val (.int .i64 at_2))), (16, .c (.val (.bool true)))], [], 0⟩ [(decide (at_2 < (0 : Int))) = true] (by kernel_rfl) rfl rfl (ap1 b_4) (by kernel_rfl) (by kernel_rfl) ?_
      have H_31 := Option.some.inj (show some true = some q_25 from H_29); subst H_31
      refine VL_nil ?_
      exact QP_end true rfl [] hn (by kernel_rfl) (by kernel_rfl) rfl rfl rfl
    · have H_30 := of_f H_26 b_4
      obtain ⟨c_6, H_32⟩ := of_if H_30
      refine V_reg hN hn [] [(9, false)] calls_nil 0 [0, 1, 16] [] ⟨[(0, .c (.imm (.opt (.pair (.slice (.pair (.int .i64) (.int .i64))) (.int .i64))) s_1)), (1, .c (.val (.int .i64 at_2))), (16, .c (.val (.bool (decide (at_2 ≥ (Option.getD s_1 (([] : (List (Int × Int))), (0 : Int))).2)))))], [], 0⟩ [(decide (at_2 < (0 : Int))) = false, Option.isSome s_1 = true] (by kernel_rfl) rfl rfl (ap2 b_4 (ap1 c_6)) (by kernel_rfl) (by kernel_rfl) ?_
      have H_33 := Option.some.inj (show some (decide (at_2 ≥ (Option.getD s_1 (([] : (List (Int × Int))), (0 : Int))).2)) = some q_25 from H_32); subst H_33
      refine VL_nil ?_
      exact QP_end (decide (at_2 ≥ (Option.getD s_1 (([] : (List (Int × Int))), (0 : Int))).2)) rfl [] hn (by kernel_rfl) (by kernel_rfl) rfl rfl rfl
  · intro y_28 hy; subst hy
    skip
    skip
    refine VL_cond (y_28) (by kernel_rfl) ?_ ?_
    · intro b_8; have H_34 := of_t H_27 b_8
      refine V_run hN hn 2 0 [4] [] ⟨[(4, .c (.val (.int .i64 (0 : Int))))], [], 0⟩ [] (by kernel_rfl) rfl rfl ap0 ?_
      have H_36 := Option.some.inj (show some (0 : Int) = some r from H_34); subst H_36
      refine VL_ret ?_
      exact P_to [(4, .c (.val (.int .i64 (0 : Int))))] [] [] hn (by kernel_rfl) (by kernel_rfl) rfl rfl rfl (QF_retS (by kernel_rfl) (by kernel_rfl) rfl)
    · intro b_8; have H_35 := of_f H_27 b_8
      obtain ⟨c_10, H_37⟩ := of_if H_35
      refine V_run hN hn 4 0 [1, 20, 21, 22] [] ⟨[(1, .c (.val (.int .i64 at_2))), (20, .c (.imm (.slice (.pair (.int .i64) (.int .i64))) (Option.getD s_1 (([] : (List (Int × Int))), (0 : Int))).1)), (21, .c (.val (.int .i64 (((List.length (Option.getD s_1 (([] : (List (Int × Int))), (0 : Int))).1) : Nat) : Int)))), (22, .c (.val (.int .i64 (0 : Int))))], [], 0⟩ [Option.isSome s_1 = true] (by kernel_rfl) rfl rfl (ap1 c_10) ?_
      refine VL_block ?_
      refine V_to [(1, .c (.val (.int .i64 at_2))), (20, .c (.imm (.slice (.pair (.int .i64) (.int .i64))) (Option.getD s_1 (([] : (List (Int × Int))), (0 : Int))).1)), (21, .c (.val (.int .i64 (((List.length (Option.getD s_1 (([] : (List (Int × Int))), (0 : Int))).1) : Nat) : Int)))), (22, .c (.val (.int .i64 (0 : Int))))] [] [] hn (by kernel_rfl) (by kernel_rfl) rfl rfl rfl ?_
      refine VL_loop (X := (Int × Int)) (fun x => [(1, .c (.val (.int .i64 x.1))), (20, .c (.imm (.slice (.pair (.int .i64) (.int .i64))) (Option.getD s_1 (([] : (List (Int × Int))), (0 : Int))).1)), (21, .c (.val (.int .i64 (((List.length (Option.getD s_1 (([] : (List (Int × Int))), (0 : Int))).1) : Nat) : Int)))), (22, .c (.val (.int .i64 x.2)))]) (fun x => []) (fun k x => subset_Subset_Count.l0 K s_1 k x.1 x.2 = some r) K (at_2, (0 : Int)) H_37 (fun _ h => no_none h) ?_
      intro k_13 x_13 H_38
      obtain ⟨at_11, t_12⟩ := x_13
      have H_39 : subset_Subset_Count.l0 K s_1 (k_13 + 1) at_11 t_12 = some r := H_38
      rw [subset_Subset_Count.l0] at H_39
      refine V_run hN hn 3 0 [1, 20, 21, 22, 23] [] ⟨[(1, .c (.val (.int .i64 at_11))), (20, .c (.imm (.slice (.pair (.int .i64) (.int .i64))) (Option.getD s_1 (([] : (List (Int × Int))), (0 : Int))).1)), (21, .c (.val (.int .i64 (((List.length (Option.getD s_1 (([] : (List (Int × Int))), (0 : Int))).1) : Nat) : Int)))), (22, .c (.val (.int .i64 t_12))), (23, .c (.val (.bool (decide (t_12 < (((List.length (Option.getD s_1 (([] : (List (Int × Int))), (0 : Int))).1) : Nat) : Int))))))], [], 0⟩ [] (by kernel_rfl) rfl rfl ap0 ?_
      refine VL_cond ((decide (t_12 < (((List.length (Option.getD s_1 (([] : (List (Int × Int))), (0 : Int))).1) : Nat) : Int)))) (by kernel_rfl) ?_ ?_
      · intro b_15; have H_40 := of_t H_39 b_15
        refine V_run hN hn 2 0 [1, 20, 21, 22, 23] [] ⟨[(1, .c (.val (.int .i64 at_11))), (20, .c (.imm (.slice (.pair (.int .i64) (.int .i64))) (Option.getD s_1 (([] : (List (Int × Int))), (0 : Int))).1)), (21, .c (.val (.int .i64 (((List.length (Option.getD s_1 (([] : (List (Int × Int))), (0 : Int))).1) : Nat) : Int)))), (22, .c (.val (.int .i64 t_12))), (23, .c (.val (.bool (decide (t_12 < (((List.length (Option.getD s_1 (([] : (List (Int × Int))), (0 : Int))).1) : Nat) : Int))))))], [], 0⟩ [] (by kernel_rfl) rfl rfl ap0 ?_
        refine VL_block ?_
        obtain ⟨c_17, H_42⟩ := of_if H_40
        refine V_run hN hn 5 0 [1, 6, 20, 21, 22, 29] [0] ⟨[(1, .c (.val (.int .i64 at_11))), (6, .c (.h 0)), (20, .c (.imm (.slice (.pair (.int .i64) (.int .i64))) (Option.getD s_1 (([] : (List (Int × Int))), (0 : Int))).1)), (21, .c (.val (.int .i64 (((List.length (Option.getD s_1 (([] : (List (Int × Int))), (0 : Int))).1) : Nat) : Int)))), (22, .c (.val (.int .i64 t_12))), (29, .c (.val (.bool (decide (at_11 < (List.getD (Option.getD s_1 (([] : (List (Int × Int))), (0 : Int))).1 (Int.toNat t_12) ((0 : Int), (0 : Int))).1)))))], [(0, .box [.val (.int .i64 (List.getD (Option.getD s_1 (([] : (List (Int × Int))), (0 : Int))).1 (Int.toNat t_12) ((0 : Int), (0 : Int))).1), .val (.int .i64 (List.getD (Option.getD s_1 (([] : (List (Int × Int))), (0 : Int))).1 (Int.toNat t_12) ((0 : Int), (0 : Int))).2)])], 1⟩ [0 ≤ t_12, t_12 < (((List.length (Option.getD s_1 (([] : (List (Int × Int))), (0 : Int))).1) : Nat) : Int)] (by kernel_rfl) rfl rfl (ap2 c_17.1 (ap1 c_17.2)) ?_
        refine VL_cond ((decide (at_11 < (List.getD (Option.getD s_1 (([] : (List (Int × Int))), (0 : Int))).1 (Int.toNat t_12) ((0 : Int), (0 : Int))).1))) (by kernel_rfl) ?_ ?_
        · intro b_18; have H_43 := of_t H_42 b_18
          refine V_run hN hn 2 1 [4] [] ⟨[(4, .c (.val (.int .i64 (List.getD (Option.getD s_1 (([] : (List (Int × Int))), (0 : Int))).1 (Int.toNat t_12) ((0 : Int), (0 : Int))).2)))], [], 1⟩ [] (by kernel_rfl) rfl rfl ap0 ?_
          have H_45 := Option.some.inj (show some (List.getD (Option.getD s_1 (([] : (List (Int × Int))), (0 : Int))).1 (Int.toNat t_12) ((0 : Int), (0 : Int))).2 = some r from H_43); subst H_45
          refine VL_ret ?_
          refine QB_ret ?_
          refine QL_ret ?_
          refine QB_ret ?_
          exact P_to [(4, .c (.val (.int .i64 (List.getD (Option.getD s_1 (([] : (List (Int × Int))), (0 : Int))).1 (Int.toNat t_12) ((0 : Int), (0 : Int))).2)))] [] [] hn (by kernel_rfl) (by kernel_rfl) rfl rfl rfl (QF_retS (by kernel_rfl) (by kernel_rfl) rfl)
        · intro b_18; have H_44 := of_f H_42 b_18
          refine V_run hN hn 2 1 [1, 20, 21, 22] [] ⟨[(1, .c (.val (.int .i64 (IntKind.wrap .i64 (at_11 - (List.getD (Option.getD s_1 (([] : (List (Int × Int))), (0 : Int))).1 (Int.toNat t_12) ((0 : Int), (0 : Int))).1))))), (20, .c (.imm (.slice (.pair (.int .i64) (.int .i64))) (Option.getD s_1 (([] : (List (Int × Int))), (0 : Int))).1)), (21, .c (.val (.int .i64 (((List.length (Option.getD s_1 (([] : (List (Int × Int))), (0 : Int))).1) : Nat) : Int)))), (22, .c (.val (.int .i64 t_12)))], [], 1⟩ [] (by kernel_rfl) rfl rfl ap0 ?_
          refine VL_nil (QB_end ?_)
          refine V_run hN hn 1 1 [1, 20, 21, 22] [] ⟨[(1, .c (.val (.int .i64 (IntKind.wrap .i64 (at_11 - (List.getD (Option.getD s_1 (([] : (List (Int × Int))), (0 : Int))).1 (Int.toNat t_12) ((0 : Int), (0 : Int))).1))))), (20, .c (.imm (.slice (.pair (.int .i64) (.int .i64))) (Option.getD s_1 (([] : (List (Int × Int))), (0 : Int))).1)), (21, .c (.val (.int .i64 (((List.length (Option.getD s_1 (([] : (List (Int × Int))), (0 : Int))).1) : Nat) : Int)))), (22, .c (.val (.int .i64 (IntKind.wrap .i64 (t_12 + (1 : Int))))))], [], 1⟩ [] (by kernel_rfl) rfl rfl ap0 ?_
          refine VL_nil ?_
          exact V_roundEnd ((IntKind.wrap .i64 (at_11 - (List.getD (Option.getD s_1 (([] : (List (Int × Int))), (0 : Int))).1 (Int.toNat t_12) ((0 : Int), (0 : Int))).1)), (IntKind.wrap .i64 (t_12 + (1 : Int)))) H_44 [] hn (by kernel_rfl) (by kernel_rfl) rfl rfl rfl
      · intro b_15; have H_41 := of_f H_39 b_15
        refine VL_exit ?_
        refine QL_exit ?_
        refine QB_here ?_
        refine V_run hN hn 2 0 [4] [] ⟨[(4, .c (.val (.int .i64 (0 : Int))))], [], 0⟩ [] (by kernel_rfl) rfl rfl ap0 ?_
        have H_46 := Option.some.inj (show some (0 : Int) = some r from H_41); subst H_46
        refine VL_ret ?_
        exact P_to [(4, .c (.val (.int .i64 (0 : Int))))] [] [] hn (by kernel_rfl) (by kernel_rfl) rfl rfl rfl (QF_retS (by kernel_rfl) (by kernel_rfl) rfl)

theorem subset_Subset_Has_spec (K : Nat) (s_1 : (Option ((List (Int × Int)) × Int))) (at_2 : Int) (r : Bool) (H : subset_Subset_Has K s_1 at_2 = some r) : Spec Try.prog 39 0 [.c (.imm (.opt (.pair (.slice (.pair (.int .i64) (.int .i64))) (.int .i64))) s_1), .c (.val (.int .i64 at_2))] [] (.c (.val (.bool r))) [] := by
  refine Spec_mk (fn := Try.f39) (c := (Try.f39.body).get!) Try.func39 (by kernel_rfl) rfl ?_
  intro C hN hn
  replace hN : C.N = 9 := hN
  unfold subset_Subset_Has at H
  refine V_run hN hn 3 0 [0, 1] [] ⟨[(0, .c (.imm (.opt (.pair (.slice (.pair (.int .i64) (.int .i64))) (.int .i64))) s_1)), (1, .c (.val (.int .i64 at_2)))], [], 0⟩ [] (by kernel_rfl) rfl rfl ap0 ?_
  obtain ⟨r_4, h_5, H_8⟩ := of_bind H
  refine V_reg hN hn [(2, ⟨20, 0, [.c (.imm (.opt (.pair (.slice (.pair (.int .i64) (.int .i64))) (.int .i64))) s_1), .c (.val (.int .i64 at_2))], [], .c (.val (.int .i64 r_4)), [], [], 0⟩)] [] (calls_cons (subset_Subset_Count_spec K s_1 at_2 r_4 h_5) (by kernel_rfl) calls_nil) 0 [4] [] ⟨[(4, .c (.val (.bool (decide (r_4 > (0 : Int))))))], [], 0⟩ [] (by kernel_rfl) rfl rfl ap0 (by kernel_rfl) (by kernel_rfl) ?_
  have H_9 := Option.some.inj (show some (decide (r_4 > (0 : Int))) = some r from H_8); subst H_9
  refine VL_ret ?_
  exact P_to [(4, .c (.val (.bool (decide (r_4 > (0 : Int))))))] [] [] hn (by kernel_rfl) (by kernel_rfl) rfl rfl rfl (QF_retS (by kernel_rfl) (by kernel_rfl) rfl)

theorem palinodelaw9_MapperBack_spec (K : Nat) (l_1 : (List Int)) (r : Bool) (H : palinodelaw9_MapperBack K l_1 = some r) : Spec Try.prog 10 0 [.c (.imm (.slice (.int .u8)) l_1)] [] (.c (.val (.bool r))) [] := by
  refine Spec_mk (fn := Try.f10) (c := (Try.f10.body).get!) Try.func10 (by kernel_rfl) rfl ?_
  intro C hN hn
  replace hN : C.N = 137 := hN
  unfold palinodelaw9_MapperBack at H
  refine V_run hN hn 4 0 [0] [] ⟨[(0, .c (.imm (.slice (.int .u8)) l_1))], [], 0⟩ [] (by kernel_rfl) rfl rfl ap0 ?_
  obtain ⟨r_3, h_4, H_122⟩ := of_bind H
  refine V_reg hN hn [(0, ⟨22, 0, [], [], .c (.val (.bool r_3)), [], [], 0⟩)] [] (calls_cons (palinodelaw9_known_spec K  r_3 h_4) (by kernel_rfl) calls_nil) 0 [0, 13] [] ⟨[(0, .c (.imm (.slice (.int .u8)) l_1)), (13, .c (.val (.bool (!r_3))))], [], 0⟩ [] (by kernel_rfl) rfl rfl ap0 (by kernel_rfl) (by kernel_rfl) ?_
  refine VL_cond ((!r_3)) (by kernel_rfl) ?_ ?_
  · intro b_6; have H_123 := of_t H_122 b_6
    refine V_run hN hn 2 0 [2] [] ⟨[(2, .c (.val (.bool false)))], [], 0⟩ [] (by kernel_rfl) rfl rfl ap0 ?_
    have H_125 := Option.some.inj (show some false = some r from H_123); subst H_125
    refine VL_ret ?_
    exact P_to [(2, .c (.val (.bool false)))] [] [] hn (by kernel_rfl) (by kernel_rfl) rfl rfl rfl (QF_retS (by kernel_rfl) (by kernel_rfl) rfl)
  · intro b_6; have H_124 := of_f H_122 b_6
    refine V_run hN hn 2 0 [0, 13] [] ⟨[(0, .c (.imm (.slice (.int .u8)) l_1)), (13, .c (.val (.bool (!r_3))))], [], 0⟩ [] (by kernel_rfl) rfl rfl ap0 ?_
    obtain ⟨r_9, h_10, H_126⟩ := of_bind H_124
    obtain ⟨r_11, h_12, H_127⟩ := of_bind H_126
    refine V_reg hN hn [(1, ⟨23, 0, [.c (.imm (.slice (.int .u8)) l_1)], [], .c (.h 3), [(3, .row (.int .i64) r_9)], [(3, 0)], 1⟩), (2, ⟨24, 1, [.c (.h 0)], [(0, .row (.int .i64) r_9)], .c (.imm (.opt (.pair (.slice (.pair (.int .i64) (.int .i64))) (.int .i64))) r_11), [(0, .row (.int .i64) r_9)], [(0, 0)], 1⟩)] [] (calls_cons (palinodelaw9_row_spec K l_1 r_9 h_10) (by kernel_rfl) (calls_cons (palinodelaw9_made_r_spec K r_9 r_11 h_12) (by kernel_rfl) calls_nil)) 0 [0, 3] [] ⟨[(0, .c (.imm (.slice (.int .u8)) l_1)), (3, .c (.imm (.opt (.pair (.slice (.pair (.int .i64) (.int .i64))) (.int .i64))) r_11))], [], 1⟩ [] (by kernel_rfl) rfl rfl ap0 (by kernel_rfl) (by kernel_rfl) ?_
    refine V_run hN hn 2 1 [0, 3] [] ⟨[(0, .c (.imm (.slice (.int .u8)) l_1)), (3, .c (.imm (.opt (.pair (.slice (.pair (.int .i64) (.int .i64))) (.int .i64))) r_11))], [], 1⟩ [] (by kernel_rfl) rfl rfl ap0 ?_
    obtain ⟨q_128, H_129, H_130⟩ := of_bind H_127
    refine V_cut (Y := Bool) (R := Bool) q_128 (fun y => y) (fun y => [(3, .c (.imm (.opt (.pair (.slice (.pair (.int .i64) (.int .i64))) (.int .i64))) r_11)), (23, .c (.val (.bool y)))]) (fun y => []) ?_ ?_
    · skip
      rcases Bool.eq_false_or_eq_true ((decide ((((List.length l_1) : Nat) : Int) > (150 : Int)))) with b_15 | b_15
      · have H_132 := of_t H_129 b_15
        refine V_reg hN hn [] [(20, true)] calls_nil 1 [3, 23] [] ⟨[(3, .c (.imm (.opt (.pair (.slice (.pair (.int .i64) (.int .i64))) (.int .i64))) r_11)), (23, .c (.val (.bool true)))], [], 1⟩ [(decide ((((List.length l_1) : Nat) : Int) > (150 : Int))) = true] (by kernel_rfl) rfl rfl (ap1 b_15) (by kernel_rfl) (by kernel_rfl) ?_
        have H_134 := Option.some.inj (show some true = some q_128 from H_132); subst H_134
        refine VL_nil ?_
        exact QP_end true rfl [] hn (by kernel_rfl) (by kernel_rfl) rfl rfl rfl
      · have H_133 := of_f H_129 b_15
        refine V_reg hN hn [] [(20, false)] calls_nil 1 [3, 23] [] ⟨[(3, .c (.imm (.opt (.pair (.slice (.pair (.int .i64) (.int .i64))) (.int .i64))) r_11)), (23, .c (.val (.bool (Option.isNone r_11))))], [], 1⟩ [(decide ((((List.length l_1) : Nat) : Int) > (150 : Int))) = false] (by kernel_rfl) rfl rfl (ap1 b_15) (by kernel_rfl) (by kernel_rfl) ?_
        have H_135 := Option.some.inj (show some (Option.isNone r_11) = some q_128 from H_133); subst H_135
        refine VL_nil ?_
        exact QP_end (Option.isNone r_11) rfl [] hn (by kernel_rfl) (by kernel_rfl) rfl rfl rfl
    · intro y_131 hy; subst hy
      skip
      skip
      refine VL_cond (y_131) (by kernel_rfl) ?_ ?_
      · intro b_19; have H_136 := of_t H_130 b_19
        refine V_run hN hn 2 1 [2] [] ⟨[(2, .c (.val (.bool true)))], [], 1⟩ [] (by kernel_rfl) rfl rfl ap0 ?_
        have H_138 := Option.some.inj (show some true = some r from H_136); subst H_138
        refine VL_ret ?_
        exact P_to [(2, .c (.val (.bool true)))] [] [] hn (by kernel_rfl) (by kernel_rfl) rfl rfl rfl (QF_retS (by kernel_rfl) (by kernel_rfl) rfl)
      · intro b_19; have H_137 := of_f H_130 b_19
        refine V_run hN hn 2 1 [3, 23] [] ⟨[(3, .c (.imm (.opt (.pair (.slice (.pair (.int .i64) (.int .i64))) (.int .i64))) r_11)), (23, .c (.val (.bool y_131)))], [], 1⟩ [] (by kernel_rfl) rfl rfl ap0 ?_
        obtain ⟨r_22, h_23, H_139⟩ := of_bind H_137
        obtain ⟨r_24, h_25, H_140⟩ := of_bind H_139
        refine V_reg hN hn [(1, ⟨18, 0, [.c (.imm (.opt (.pair (.slice (.pair (.int .i64) (.int .i64))) (.int .i64))) r_11)], [], .c (.val (.int .i64 r_22)), [], [], 1⟩), (3, ⟨15, 0, [.c (.imm (.opt (.pair (.slice (.pair (.int .i64) (.int .i64))) (.int .i64))) r_11)], [], .c (.val (.int .i64 r_24)), [], [], 1⟩)] [] (calls_cons (subset_Subset_Len_spec K r_11 r_22 h_23) (by kernel_rfl) (calls_cons (subset_Subset_Size_spec K r_11 r_24 h_25) (by kernel_rfl) calls_nil)) 1 [3, 4] [] ⟨[(3, .c (.imm (.opt (.pair (.slice (.pair (.int .i64) (.int .i64))) (.int .i64))) r_11)), (4, .c (.val (.int .i64 (IntKind.wrap .i64 (r_22 - r_24)))))], [], 1⟩ [] (by kernel_rfl) rfl rfl ap0 (by kernel_rfl) (by kernel_rfl) ?_
        refine V_run hN hn 3 1 [3, 4, 5] [] ⟨[(3, .c (.imm (.opt (.pair (.slice (.pair (.int .i64) (.int .i64))) (.int .i64))) r_11)), (4, .c (.val (.int .i64 (IntKind.wrap .i64 (r_22 - r_24))))), (5, .c (.val (.int .i64 (0 : Int))))], [], 1⟩ [] (by kernel_rfl) rfl rfl ap0 ?_
        obtain ⟨q_141, H_142, H_143⟩ := of_bind H_140
        refine V_cut (Y := Unit) (R := (Bool ⊕ Unit)) q_141 (fun y => (Sum.inr y)) (fun y => [(3, .c (.imm (.opt (.pair (.slice (.pair (.int .i64) (.int .i64))) (.int .i64))) r_11)), (4, .c (.val (.int .i64 (IntKind.wrap .i64 (r_22 - r_24)))))]) (fun y => []) ?_ ?_
        · skip
          refine VL_block ?_
          refine V_to [(3, .c (.imm (.opt (.pair (.slice (.pair (.int .i64) (.int .i64))) (.int .i64))) r_11)), (4, .c (.val (.int .i64 (IntKind.wrap .i64 (r_22 - r_24))))), (5, .c (.val (.int .i64 (0 : Int))))] [] [] hn (by kernel_rfl) (by kernel_rfl) rfl rfl rfl ?_
          refine VL_loop (X := Int) (fun x => [(3, .c (.imm (.opt (.pair (.slice (.pair (.int .i64) (.int .i64))) (.int .i64))) r_11)), (4, .c (.val (.int .i64 (IntKind.wrap .i64 (r_22 - r_24))))), (5, .c (.val (.int .i64 x)))]) (fun x => []) (fun k x => palinodelaw9_MapperBack.l0 K r_22 r_24 r_11 k x = some q_141) K (0 : Int) H_142 (fun _ h => no_none h) ?_
          intro k_29 i_28 H_145
          have H_146 : palinodelaw9_MapperBack.l0 K r_22 r_24 r_11 (k_29 + 1) i_28 = some q_141 := H_145
          rw [palinodelaw9_MapperBack.l0] at H_146
          refine V_run hN hn 3 1 [3, 4, 5, 31] [] ⟨[(3, .c (.imm (.opt (.pair (.slice (.pair (.int .i64) (.int .i64))) (.int .i64))) r_11)), (4, .c (.val (.int .i64 (IntKind.wrap .i64 (r_22 - r_24))))), (5, .c (.val (.int .i64 i_28))), (31, .c (.val (.bool (decide (i_28 < (IntKind.wrap .i64 (r_22 - r_24)))))))], [], 1⟩ [] (by kernel_rfl) rfl rfl ap0 ?_
          refine VL_cond ((decide (i_28 < (IntKind.wrap .i64 (r_22 - r_24))))) (by kernel_rfl) ?_ ?_
          · intro b_31; have H_147 := of_t H_146 b_31
            refine V_run hN hn 2 1 [3, 4, 5, 31] [] ⟨[(3, .c (.imm (.opt (.pair (.slice (.pair (.int .i64) (.int .i64))) (.int .i64))) r_11)), (4, .c (.val (.int .i64 (IntKind.wrap .i64 (r_22 - r_24))))), (5, .c (.val (.int .i64 i_28))), (31, .c (.val (.bool (decide (i_28 < (IntKind.wrap .i64 (r_22 - r_24)))))))], [], 1⟩ [] (by kernel_rfl) rfl rfl ap0 ?_
            refine VL_block ?_
            refine V_run hN hn 1 1 [3, 4, 5, 31] [] ⟨[(3, .c (.imm (.opt (.pair (.slice (.pair (.int .i64) (.int .i64))) (.int .i64))) r_11)), (4, .c (.val (.int .i64 (IntKind.wrap .i64 (r_22 - r_24))))), (5, .c (.val (.int .i64 i_28))), (31, .c (.val (.bool (decide (i_28 < (IntKind.wrap .i64 (r_22 - r_24)))))))], [], 1⟩ [] (by kernel_rfl) rfl rfl ap0 ?_
            obtain ⟨r_34, h_35, H_149⟩ := of_bind H_147
            refine V_reg hN hn [(2, ⟨27, 0, [.c (.imm (.opt (.pair (.slice (.pair (.int .i64) (.int .i64))) (.int .i64))) r_11), .c (.val (.int .i64 i_28))], [], .c (.val (.int .i64 r_34)), [], [], 1⟩)] [] (calls_cons (mapper_Up_spec K r_11 i_28 r_34 h_35) (by kernel_rfl) calls_nil) 1 [3, 4, 5, 6] [] ⟨[(3, .c (.imm (.opt (.pair (.slice (.pair (.int .i64) (.int .i64))) (.int .i64))) r_11)), (4, .c (.val (.int .i64 (IntKind.wrap .i64 (r_22 - r_24))))), (5, .c (.val (.int .i64 i_28))), (6, .c (.val (.int .i64 r_34)))], [], 1⟩ [] (by kernel_rfl) rfl rfl ap0 (by kernel_rfl) (by kernel_rfl) ?_
            refine V_run hN hn 1 1 [3, 4, 5, 6] [] ⟨[(3, .c (.imm (.opt (.pair (.slice (.pair (.int .i64) (.int .i64))) (.int .i64))) r_11)), (4, .c (.val (.int .i64 (IntKind.wrap .i64 (r_22 - r_24))))), (5, .c (.val (.int .i64 i_28))), (6, .c (.val (.int .i64 r_34)))], [], 1⟩ [] (by kernel_rfl) rfl rfl ap0 ?_
            obtain ⟨q_150, H_151, H_152⟩ := of_bind H_149
            refine V_cut (Y := Bool) (R := Bool) q_150 (fun y => y) (fun y => [(3, .c (.imm (.opt (.pair (.slice (.pair (.int .i64) (.int .i64))) (.int .i64))) r_11)), (4, .c (.val (.int .i64 (IntKind.wrap .i64 (r_22 - r_24))))), (5, .c (.val (.int .i64 i_28))), (62, .c (.val (.bool y)))]) (fun y => []) ?_ ?_
            · skip
              obtain ⟨r_38, h_39, H_154⟩ := of_bind H_151
              rcases Bool.eq_false_or_eq_true (r_38) with b_40 | b_40
              · have H_155 := of_t H_154 b_40
                refine V_reg hN hn [(2, ⟨39, 0, [.c (.imm (.opt (.pair (.slice (.pair (.int .i64) (.int .i64))) (.int .i64))) r_11), .c (.val (.int .i64 r_34))], [], .c (.val (.bool r_38)), [], [], 1⟩)] [(40, true)] (calls_cons (subset_Subset_Has_spec K r_11 r_34 r_38 h_39) (by kernel_rfl) calls_nil) 1 [3, 4, 5, 62] [] ⟨[(3, .c (.imm (.opt (.pair (.slice (.pair (.int .i64) (.int .i64))) (.int .i64))) r_11)), (4, .c (.val (.int .i64 (IntKind.wrap .i64 (r_22 - r_24))))), (5, .c (.val (.int .i64 i_28))), (62, .c (.val (.bool true)))], [], 1⟩ [r_38 = true] (by kernel_rfl) rfl rfl (ap1 b_40) (by kernel_rfl) (by kernel_rfl) ?_
                have H_157 := Option.some.inj (show some true = some q_150 from H_155); subst H_157
                refine VL_nil ?_
                exact QP_end true rfl [] hn (by kernel_rfl) (by kernel_rfl) rfl rfl rfl
              · have H_156 := of_f H_154 b_40
                obtain ⟨r_42, h_43, H_158⟩ := of_bind H_156
                rcases Bool.eq_false_or_eq_true ((r_42 != i_28)) with b_44 | b_44
                · have H_159 := of_t H_158 b_44
                  refine V_reg hN hn [(2, ⟨39, 0, [.c (.imm (.opt (.pair (.slice (.pair (.int .i64) (.int .i64))) (.int .i64))) r_11), .c (.val (.int .i64 r_34))], [], .c (.val (.bool r_38)), [], [], 1⟩), (6, ⟨25, 0, [.c (.imm (.opt (.pair (.slice (.pair (.int .i64) (.int .i64))) (.int .i64))) r_11), .c (.val (.int .i64 r_34))], [], .c (.val (.int .i64 r_42)), [], [], 1⟩)] [(40, false), (47, true)] (calls_cons (subset_Subset_Has_spec K r_11 r_34 r_38 h_39) (by kernel_rfl) (calls_cons (mapper_Down_spec K r_11 r_34 r_42 h_43) (by kernel_rfl) calls_nil)) 1 [3, 4, 5, 62] [] ⟨[(3, .c (.imm (.opt (.pair (.slice (.pair (.int .i64) (.int .i64))) (.int .i64))) r_11)), (4, .c (.val (.int .i64 (IntKind.wrap .i64 (r_22 - r_24))))), (5, .c (.val (.int .i64 i_28))), (62, .c (.val (.bool true)))], [], 1⟩ [r_38 = false, (r_42 != i_28) = true] (by kernel_rfl) rfl rfl (ap2 b_40 (ap1 b_44)) (by kernel_rfl) (by kernel_rfl) ?_
                  have H_161 := Option.some.inj (show some true = some q_150 from H_159); subst H_161
                  refine VL_nil ?_
                  exact QP_end true rfl [] hn (by kernel_rfl) (by kernel_rfl) rfl rfl rfl
                · have H_160 := of_f H_158 b_44
                  obtain ⟨r_46, h_47, H_162⟩ := of_bind H_160
                  rcases Bool.eq_false_or_eq_true ((r_46 != (IntKind.wrap .i64 (i_28 + (1 : Int))))) with b_48 | b_48
                  · have H_163 := of_t H_162 b_48
                    refine V_reg hN hn [(2, ⟨39, 0, [.c (.imm (.opt (.pair (.slice (.pair (.int .i64) (.int .i64))) (.int .i64))) r_11), .c (.val (.int .i64 r_34))], [], .c (.val (.bool r_38)), [], [], 1⟩), (6, ⟨25, 0, [.c (.imm (.opt (.pair (.slice (.pair (.int .i64) (.int .i64))) (.int .i64))) r_11), .c (.val (.int .i64 r_34))], [], .c (.val (.int .i64 r_42)), [], [], 1⟩), (14, ⟨25, 0, [.c (.imm (.opt (.pair (.slice (.pair (.int .i64) (.int .i64))) (.int .i64))) r_11), .c (.val (.int .i64 (IntKind.wrap .i64 (r_34 + (1 : Int)))))], [], .c (.val (.int .i64 r_46)), [], [], 1⟩)] [(40, false), (47, false), (56, true)] (calls_cons (subset_Subset_Has_spec K r_11 r_34 r_38 h_39) (by kernel_rfl) (calls_cons (mapper_Down_spec K r_11 r_34 r_42 h_43) (by kernel_rfl) (calls_cons (mapper_Down_spec K r_11 (IntKind.wrap .i64 (r_34 + (1 : Int))) r_46 h_47) (by kernel_rfl) calls_nil))) 1 [3, 4, 5, 62] [] ⟨[(3, .c (.imm (.opt (.pair (.slice (.pair (.int .i64) (.int .i64))) (.int .i64))) r_11)), (4, .c (.val (.int .i64 (IntKind.wrap .i64 (r_22 - r_24))))), (5, .c (.val (.int .i64 i_28))), (62, .c (.val (.bool true)))], [], 1⟩ [r_38 = false, (r_42 != i_28) = false, (r_46 != (IntKind.wrap .i64 (i_28 + (1 : Int)))) = true] (by kernel_rfl) rfl rfl (ap2 b_40 (ap2 b_44 (ap1 b_48))) (by kernel_rfl) (by kernel_rfl) ?_
                    have H_165 := Option.some.inj (show some true = some q_150 from H_163); subst H_165
                    refine VL_nil ?_
                    exact QP_end true rfl [] hn (by kernel_rfl) (by kernel_rfl) rfl rfl rfl
                  · have H_164 := of_f H_162 b_48
                    obtain ⟨r_50, h_51, H_166⟩ := of_bind H_164
                    refine V_reg hN hn [(2, ⟨39, 0, [.c (.imm (.opt (.pair (.slice (.pair (.int .i64) (.int .i64))) (.int .i64))) r_11), .c (.val (.int .i64 r_34))], [], .c (.val (.bool r_38)), [], [], 1⟩), (6, ⟨25, 0, [.c (.imm (.opt (.pair (.slice (.pair (.int .i64) (.int .i64))) (.int .i64))) r_11), .c (.val (.int .i64 r_34))], [], .c (.val (.int .i64 r_42)), [], [], 1⟩), (14, ⟨25, 0, [.c (.imm (.opt (.pair (.slice (.pair (.int .i64) (.int .i64))) (.int .i64))) r_11), .c (.val (.int .i64 (IntKind.wrap .i64 (r_34 + (1 : Int)))))], [], .c (.val (.int .i64 r_46)), [], [], 1⟩), (22, ⟨29, 0, [.c (.imm (.opt (.pair (.slice (.pair (.int .i64) (.int .i64))) (.int .i64))) r_11), .c (.val (.int .i64 r_34))], [], .c (.val (.int .i64 r_50)), [], [], 1⟩)] [(40, false), (47, false), (56, false)] (calls_cons (subset_Subset_Has_spec K r_11 r_34 r_38 h_39) (by kernel_rfl) (calls_cons (mapper_Down_spec K r_11 r_34 r_42 h_43) (by kernel_rfl) (calls_cons (mapper_Down_spec K r_11 (IntKind.wrap .i64 (r_34 + (1 : Int))) r_46 h_47) (by kernel_rfl) (calls_cons (mapper_Next_spec K r_11 r_34 r_50 h_51) (by kernel_rfl) calls_nil)))) 1 [3, 4, 5, 62] [] ⟨[(3, .c (.imm (.opt (.pair (.slice (.pair (.int .i64) (.int .i64))) (.int .i64))) r_11)), (4, .c (.val (.int .i64 (IntKind.wrap .i64 (r_22 - r_24))))), (5, .c (.val (.int .i64 i_28))), (62, .c (.val (.bool (r_50 != r_34))))], [], 1⟩ [r_38 = false, (r_42 != i_28) = false, (r_46 != (IntKind.wrap .i64 (i_28 + (1 : Int)))) = false] (by kernel_rfl) rfl rfl (ap2 b_40 (ap2 b_44 (ap1 b_48))) (by kernel_rfl) (by kernel_rfl) ?_
                    have H_167 := Option.some.inj (show some (r_50 != r_34) = some q_150 from H_166); subst H_167
                    refine VL_nil ?_
                    exact QP_end (r_50 != r_34) rfl [] hn (by kernel_rfl) (by kernel_rfl) rfl rfl rfl
            · intro y_153 hy; subst hy
              skip
              skip
              refine VL_cond (y_153) (by kernel_rfl) ?_ ?_
              · intro b_54; have H_168 := of_t H_152 b_54
                refine V_run hN hn 2 1 [2] [] ⟨[(2, .c (.val (.bool false)))], [], 1⟩ [] (by kernel_rfl) rfl rfl ap0 ?_
                have H_170 := Option.some.inj (show some (Sum.inl false) = some q_141 from H_168); subst H_170
                have H_171 := Option.some.inj (show some false = some r from H_143); subst H_171
                refine VL_ret ?_
                refine QB_ret ?_
                refine QL_ret ?_
                refine QB_ret ?_
                refine QP_ret ?_
                exact P_to [(2, .c (.val (.bool false)))] [] [] hn (by kernel_rfl) (by kernel_rfl) rfl rfl rfl (QF_retS (by kernel_rfl) (by kernel_rfl) rfl)
              · intro b_54; have H_169 := of_f H_152 b_54
                refine V_run hN hn 1 1 [3, 4, 5, 62] [] ⟨[(3, .c (.imm (.opt (.pair (.slice (.pair (.int .i64) (.int .i64))) (.int .i64))) r_11)), (4, .c (.val (.int .i64 (IntKind.wrap .i64 (r_22 - r_24))))), (5, .c (.val (.int .i64 i_28))), (62, .c (.val (.bool y_153)))], [], 1⟩ [] (by kernel_rfl) rfl rfl ap0 ?_
                refine VL_nil (QB_end ?_)
                refine V_run hN hn 1 1 [3, 4, 5] [] ⟨[(3, .c (.imm (.opt (.pair (.slice (.pair (.int .i64) (.int .i64))) (.int .i64))) r_11)), (4, .c (.val (.int .i64 (IntKind.wrap .i64 (r_22 - r_24))))), (5, .c (.val (.int .i64 (IntKind.wrap .i64 (i_28 + (1 : Int))))))], [], 1⟩ [] (by kernel_rfl) rfl rfl ap0 ?_
                refine VL_nil ?_
                exact V_roundEnd (IntKind.wrap .i64 (i_28 + (1 : Int))) H_169 [] hn (by kernel_rfl) (by kernel_rfl) rfl rfl rfl
          · intro b_31; have H_148 := of_f H_146 b_31
            refine VL_exit ?_
            refine QL_exit ?_
            refine QB_here ?_
            have H_172 := Option.some.inj (show some (Sum.inr ()) = some q_141 from H_148); subst H_172
            refine VL_nil ?_
            exact QP_end () rfl [] hn (by kernel_rfl) (by kernel_rfl) rfl rfl rfl
        · intro y_144 hy; subst hy
          skip
          refine V_run hN hn 1 1 [3, 4] [] ⟨[(3, .c (.imm (.opt (.pair (.slice (.pair (.int .i64) (.int .i64))) (.int .i64))) r_11)), (4, .c (.val (.int .i64 (IntKind.wrap .i64 (r_22 - r_24)))))], [], 1⟩ [] (by kernel_rfl) rfl rfl ap0 ?_
          obtain ⟨r_59, h_60, H_173⟩ := of_bind H_143
          obtain ⟨r_61, h_62, H_174⟩ := of_bind H_173
          refine V_reg hN hn [(1, ⟨32, 0, [.c (.imm (.opt (.pair (.slice (.pair (.int .i64) (.int .i64))) (.int .i64))) r_11), .c (.val (.bool true))], [], .c (.h 5), [(5, .row (.pair (.int .i64) (.int .i64)) r_59)], [(5, 1)], 2⟩), (3, ⟨32, 0, [.c (.imm (.opt (.pair (.slice (.pair (.int .i64) (.int .i64))) (.int .i64))) r_11), .c (.val (.bool false))], [], .c (.h 5), [(5, .row (.pair (.int .i64) (.int .i64)) r_61)], [(5, 2)], 3⟩)] [] (calls_cons (mapper_Runs_spec K r_11 true r_59 h_60) (by kernel_rfl) (calls_cons (mapper_Runs_spec K r_11 false r_61 h_62) (by kernel_rfl) calls_nil)) 1 [3, 4, 7, 8] [1, 2] ⟨[(3, .c (.imm (.opt (.pair (.slice (.pair (.int .i64) (.int .i64))) (.int .i64))) r_11)), (4, .c (.val (.int .i64 (IntKind.wrap .i64 (r_22 - r_24))))), (7, .c (.h 1)), (8, .c (.h 2))], [(1, .row (.pair (.int .i64) (.int .i64)) r_59), (2, .row (.pair (.int .i64) (.int .i64)) r_61)], 3⟩ [] (by kernel_rfl) rfl rfl ap0 (by kernel_rfl) (by kernel_rfl) ?_
          refine V_run hN hn 3 3 [3, 4, 7, 8, 9, 10, 11] [1, 2] ⟨[(3, .c (.imm (.opt (.pair (.slice (.pair (.int .i64) (.int .i64))) (.int .i64))) r_11)), (4, .c (.val (.int .i64 (IntKind.wrap .i64 (r_22 - r_24))))), (7, .c (.h 1)), (8, .c (.h 2)), (9, .c (.val (.int .i64 (0 : Int)))), (10, .c (.val (.int .i64 (0 : Int)))), (11, .c (.val (.int .i64 (0 : Int))))], [(1, .row (.pair (.int .i64) (.int .i64)) r_59), (2, .row (.pair (.int .i64) (.int .i64)) r_61)], 3⟩ [] (by kernel_rfl) rfl rfl ap0 ?_
          obtain ⟨q_175, H_176, H_177⟩ := of_bind H_174
          refine V_cut (Y := Int) (R := (Bool ⊕ Int)) q_175 (fun y => (Sum.inr y)) (fun y => [(3, .c (.imm (.opt (.pair (.slice (.pair (.int .i64) (.int .i64))) (.int .i64))) r_11)), (4, .c (.val (.int .i64 (IntKind.wrap .i64 (r_22 - r_24))))), (9, .c (.val (.int .i64 y)))]) (fun y => []) ?_ ?_
          · skip
            refine VL_block ?_
            refine V_to [(3, .c (.imm (.opt (.pair (.slice (.pair (.int .i64) (.int .i64))) (.int .i64))) r_11)), (4, .c (.val (.int .i64 (IntKind.wrap .i64 (r_22 - r_24))))), (7, .c (.h 1)), (8, .c (.h 2)), (9, .c (.val (.int .i64 (0 : Int)))), (10, .c (.val (.int .i64 (0 : Int)))), (11, .c (.val (.int .i64 (0 : Int))))] [(1, .row (.pair (.int .i64) (.int .i64)) r_59), (2, .row (.pair (.int .i64) (.int .i64)) r_61)] [(1, 1), (2, 2)] hn (by kernel_rfl) (by kernel_rfl) rfl rfl rfl ?_
            refine VL_loop (X := (Int × Int × Int)) (fun x => [(3, .c (.imm (.opt (.pair (.slice (.pair (.int .i64) (.int .i64))) (.int .i64))) r_11)), (4, .c (.val (.int .i64 (IntKind.wrap .i64 (r_22 - r_24))))), (7, .c (.h 1)), (8, .c (.h 2)), (9, .c (.val (.int .i64 x.1))), (10, .c (.val (.int .i64 x.2.1))), (11, .c (.val (.int .i64 x.2.2)))]) (fun x => [(1, .row (.pair (.int .i64) (.int .i64)) r_59), (2, .row (.pair (.int .i64) (.int .i64)) r_61)]) (fun k x => palinodelaw9_MapperBack.l1 K r_59 r_61 k x.1 x.2.1 x.2.2 = some q_175) K ((0 : Int), (0 : Int), (0 : Int)) H_176 (fun _ h => no_none h) ?_
            intro k_68 x_68 H_179
            obtain ⟨at_65, i_66, k_67⟩ := x_68
            have H_180 : palinodelaw9_MapperBack.l1 K r_59 r_61 (k_68 + 1) at_65 i_66 k_67 = some q_175 := H_179
            rw [palinodelaw9_MapperBack.l1] at H_180
            refine V_run hN hn 2 3 [3, 4, 7, 8, 9, 10, 11] [1, 2] ⟨[(3, .c (.imm (.opt (.pair (.slice (.pair (.int .i64) (.int .i64))) (.int .i64))) r_11)), (4, .c (.val (.int .i64 (IntKind.wrap .i64 (r_22 - r_24))))), (7, .c (.h 1)), (8, .c (.h 2)), (9, .c (.val (.int .i64 at_65))), (10, .c (.val (.int .i64 i_66))), (11, .c (.val (.int .i64 k_67)))], [(1, .row (.pair (.int .i64) (.int .i64)) r_59), (2, .row (.pair (.int .i64) (.int .i64)) r_61)], 3⟩ [] (by kernel_rfl) rfl rfl ap0 ?_
            obtain ⟨q_181, H_182, H_183⟩ := of_bind H_180
            refine V_cut (Y := Bool) (R := Bool) q_181 (fun y => y) (fun y => [(3, .c (.imm (.opt (.pair (.slice (.pair (.int .i64) (.int .i64))) (.int .i64))) r_11)), (4, .c (.val (.int .i64 (IntKind.wrap .i64 (r_22 - r_24))))), (7, .c (.h 1)), (8, .c (.h 2)), (9, .c (.val (.int .i64 at_65))), (10, .c (.val (.int .i64 i_66))), (11, .c (.val (.int .i64 k_67))), (76, .c (.val (.bool y)))]) (fun y => [(1, .row (.pair (.int .i64) (.int .i64)) r_59), (2, .row (.pair (.int .i64) (.int .i64)) r_61)]) ?_ ?_
            · skip
              rcases Bool.eq_false_or_eq_true ((decide (i_66 < (((List.length r_59) : Nat) : Int)))) with b_70 | b_70
              · have H_185 := of_t H_182 b_70
                refine V_reg hN hn [] [(71, true)] calls_nil 3 [3, 4, 7, 8, 9, 10, 11, 76] [1, 2] ⟨[(3, .c (.imm (.opt (.pair (.slice (.pair (.int .i64) (.int .i64))) (.int .i64))) r_11)), (4, .c (.val (.int .i64 (IntKind.wrap .i64 (r_22 - r_24))))), (7, .c (.h 1)), (8, .c (.h 2)), (9, .c (.val (.int .i64 at_65))), (10, .c (.val (.int .i64 i_66))), (11, .c (.val (.int .i64 k_67))), (76, .c (.val (.bool true)))], [(1, .row (.pair (.int .i64) (.int .i64)) r_59), (2, .row (.pair (.int .i64) (.int .i64)) r_61)], 3⟩ [(decide (i_66 < (((List.length r_59) : Nat) : Int))) = true] (by kernel_rfl) rfl rfl (ap1 b_70) (by kernel_rfl) (by kernel_rfl) ?_
                have H_187 := Option.some.inj (show some true = some q_181 from H_185); subst H_187
                refine VL_nil ?_
                exact QP_end true rfl [(1, 1), (2, 2)] hn (by kernel_rfl) (by kernel_rfl) rfl rfl rfl
              · have H_186 := of_f H_182 b_70
                refine V_reg hN hn [] [(71, false)] calls_nil 3 [3, 4, 7, 8, 9, 10, 11, 76] [1, 2] ⟨[(3, .c (.imm (.opt (.pair (.slice (.pair (.int .i64) (.int .i64))) (.int .i64))) r_11)), (4, .c (.val (.int .i64 (IntKind.wrap .i64 (r_22 - r_24))))), (7, .c (.h 1)), (8, .c (.h 2)), (9, .c (.val (.int .i64 at_65))), (10, .c (.val (.int .i64 i_66))), (11, .c (.val (.int .i64 k_67))), (76, .c (.val (.bool (decide (k_67 < (((List.length r_61) : Nat) : Int))))))], [(1, .row (.pair (.int .i64) (.int .i64)) r_59), (2, .row (.pair (.int .i64) (.int .i64)) r_61)], 3⟩ [(decide (i_66 < (((List.length r_59) : Nat) : Int))) = false] (by kernel_rfl) rfl rfl (ap1 b_70) (by kernel_rfl) (by kernel_rfl) ?_
                have H_188 := Option.some.inj (show some (decide (k_67 < (((List.length r_61) : Nat) : Int))) = some q_181 from H_186); subst H_188
                refine VL_nil ?_
                exact QP_end (decide (k_67 < (((List.length r_61) : Nat) : Int))) rfl [(1, 1), (2, 2)] hn (by kernel_rfl) (by kernel_rfl) rfl rfl rfl
            · intro y_184 hy; subst hy
              skip
              skip
              refine VL_cond (y_184) (by kernel_rfl) ?_ ?_
              · intro b_74; have H_189 := of_t H_183 b_74
                refine V_run hN hn 1 3 [3, 4, 7, 8, 9, 10, 11, 76] [1, 2] ⟨[(3, .c (.imm (.opt (.pair (.slice (.pair (.int .i64) (.int .i64))) (.int .i64))) r_11)), (4, .c (.val (.int .i64 (IntKind.wrap .i64 (r_22 - r_24))))), (7, .c (.h 1)), (8, .c (.h 2)), (9, .c (.val (.int .i64 at_65))), (10, .c (.val (.int .i64 i_66))), (11, .c (.val (.int .i64 k_67))), (76, .c (.val (.bool y_184)))], [(1, .row (.pair (.int .i64) (.int .i64)) r_59), (2, .row (.pair (.int .i64) (.int .i64)) r_61)], 3⟩ [] (by kernel_rfl) rfl rfl ap0 ?_
                refine VL_block ?_
                refine V_run hN hn 2 3 [3, 4, 7, 8, 9, 10, 11, 76] [1, 2] ⟨[(3, .c (.imm (.opt (.pair (.slice (.pair (.int .i64) (.int .i64))) (.int .i64))) r_11)), (4, .c (.val (.int .i64 (IntKind.wrap .i64 (r_22 - r_24))))), (7, .c (.h 1)), (8, .c (.h 2)), (9, .c (.val (.int .i64 at_65))), (10, .c (.val (.int .i64 i_66))), (11, .c (.val (.int .i64 k_67))), (76, .c (.val (.bool y_184)))], [(1, .row (.pair (.int .i64) (.int .i64)) r_59), (2, .row (.pair (.int .i64) (.int .i64)) r_61)], 3⟩ [] (by kernel_rfl) rfl rfl ap0 ?_
                obtain ⟨q_191, H_192, H_193⟩ := of_bind H_189
                refine V_cut (Y := Bool) (R := Bool) q_191 (fun y => y) (fun y => [(3, .c (.imm (.opt (.pair (.slice (.pair (.int .i64) (.int .i64))) (.int .i64))) r_11)), (4, .c (.val (.int .i64 (IntKind.wrap .i64 (r_22 - r_24))))), (7, .c (.h 1)), (8, .c (.h 2)), (9, .c (.val (.int .i64 at_65))), (10, .c (.val (.int .i64 i_66))), (11, .c (.val (.int .i64 k_67))), (89, .c (.val (.bool y)))]) (fun y => [(1, .row (.pair (.int .i64) (.int .i64)) r_59), (2, .row (.pair (.int .i64) (.int .i64)) r_61)]) ?_ ?_
                · skip
                  rcases Bool.eq_false_or_eq_true ((decide (i_66 < (((List.length r_59) : Nat) : Int)))) with b_77 | b_77
                  · have H_195 := of_t H_192 b_77
                    obtain ⟨c_78, H_197⟩ := of_if H_195
                    refine V_reg hN hn [] [(81, true)] calls_nil 3 [3, 4, 7, 8, 9, 10, 11, 89] [1, 2] ⟨[(3, .c (.imm (.opt (.pair (.slice (.pair (.int .i64) (.int .i64))) (.int .i64))) r_11)), (4, .c (.val (.int .i64 (IntKind.wrap .i64 (r_22 - r_24))))), (7, .c (.h 1)), (8, .c (.h 2)), (9, .c (.val (.int .i64 at_65))), (10, .c (.val (.int .i64 i_66))), (11, .c (.val (.int .i64 k_67))), (89, .c (.val (.bool ((List.getD r_59 (Int.toNat i_66) ((0 : Int), (0 : Int))).1 == at_65))))], [(1, .row (.pair (.int .i64) (.int .i64)) r_59), (2, .row (.pair (.int .i64) (.int .i64)) r_61)], 3⟩ [(decide (i_66 < (((List.length r_59) : Nat) : Int))) = true, 0 ≤ i_66, i_66 < (((List.length r_59) : Nat) : Int)] (by kernel_rfl) rfl rfl (ap2 b_77 (ap2 c_78.1 (ap1 c_78.2))) (by kernel_rfl) (by kernel_rfl) ?_
                    have H_198 := Option.some.inj (show some ((List.getD r_59 (Int.toNat i_66) ((0 : Int), (0 : Int))).1 == at_65) = some q_191 from H_197); subst H_198
                    refine VL_nil ?_
                    exact QP_end ((List.getD r_59 (Int.toNat i_66) ((0 : Int), (0 : Int))).1 == at_65) rfl [(1, 1), (2, 2)] hn (by kernel_rfl) (by kernel_rfl) rfl rfl rfl
                  · have H_196 := of_f H_192 b_77
                    refine V_reg hN hn [] [(81, false)] calls_nil 3 [3, 4, 7, 8, 9, 10, 11, 89] [1, 2] ⟨[(3, .c (.imm (.opt (.pair (.slice (.pair (.int .i64) (.int .i64))) (.int .i64))) r_11)), (4, .c (.val (.int .i64 (IntKind.wrap .i64 (r_22 - r_24))))), (7, .c (.h 1)), (8, .c (.h 2)), (9, .c (.val (.int .i64 at_65))), (10, .c (.val (.int .i64 i_66))), (11, .c (.val (.int .i64 k_67))), (89, .c (.val (.bool false)))], [(1, .row (.pair (.int .i64) (.int .i64)) r_59), (2, .row (.pair (.int .i64) (.int .i64)) r_61)], 3⟩ [(decide (i_66 < (((List.length r_59) : Nat) : Int))) = false] (by kernel_rfl) rfl rfl (ap1 b_77) (by kernel_rfl) (by kernel_rfl) ?_
                    have H_199 := Option.some.inj (show some false = some q_191 from H_196); subst H_199
                    refine VL_nil ?_
                    exact QP_end false rfl [(1, 1), (2, 2)] hn (by kernel_rfl) (by kernel_rfl) rfl rfl rfl
                · intro y_194 hy; subst hy
                  skip
                  skip
                  refine VL_cond (y_194) (by kernel_rfl) ?_ ?_
                  · intro b_81; have H_200 := of_t H_193 b_81
                    obtain ⟨c_82, H_202⟩ := of_if H_200
                    refine V_run hN hn 4 3 [3, 4, 7, 8, 9, 10, 11] [1, 2] ⟨[(3, .c (.imm (.opt (.pair (.slice (.pair (.int .i64) (.int .i64))) (.int .i64))) r_11)), (4, .c (.val (.int .i64 (IntKind.wrap .i64 (r_22 - r_24))))), (7, .c (.h 1)), (8, .c (.h 2)), (9, .c (.val (.int .i64 (List.getD r_59 (Int.toNat i_66) ((0 : Int), (0 : Int))).2))), (10, .c (.val (.int .i64 (IntKind.wrap .i64 (i_66 + (1 : Int)))))), (11, .c (.val (.int .i64 k_67)))], [(1, .row (.pair (.int .i64) (.int .i64)) r_59), (2, .row (.pair (.int .i64) (.int .i64)) r_61)], 3⟩ [0 ≤ i_66, i_66 < (((List.length r_59) : Nat) : Int)] (by kernel_rfl) rfl rfl (ap2 c_82.1 (ap1 c_82.2)) ?_
                    refine VL_exit ?_
                    refine QB_here ?_
                    refine VL_nil ?_
                    exact V_roundEnd ((List.getD r_59 (Int.toNat i_66) ((0 : Int), (0 : Int))).2, (IntKind.wrap .i64 (i_66 + (1 : Int))), k_67) H_202 [(1, 1), (2, 2)] hn (by kernel_rfl) (by kernel_rfl) rfl rfl rfl
                  · intro b_81; have H_201 := of_f H_193 b_81
                    refine V_run hN hn 3 3 [3, 4, 7, 8, 9, 10, 11, 89] [1, 2] ⟨[(3, .c (.imm (.opt (.pair (.slice (.pair (.int .i64) (.int .i64))) (.int .i64))) r_11)), (4, .c (.val (.int .i64 (IntKind.wrap .i64 (r_22 - r_24))))), (7, .c (.h 1)), (8, .c (.h 2)), (9, .c (.val (.int .i64 at_65))), (10, .c (.val (.int .i64 i_66))), (11, .c (.val (.int .i64 k_67))), (89, .c (.val (.bool y_194)))], [(1, .row (.pair (.int .i64) (.int .i64)) r_59), (2, .row (.pair (.int .i64) (.int .i64)) r_61)], 3⟩ [] (by kernel_rfl) rfl rfl ap0 ?_
                    obtain ⟨q_203, H_204, H_205⟩ := of_bind H_201
                    refine V_cut (Y := Bool) (R := Bool) q_203 (fun y => y) (fun y => [(3, .c (.imm (.opt (.pair (.slice (.pair (.int .i64) (.int .i64))) (.int .i64))) r_11)), (4, .c (.val (.int .i64 (IntKind.wrap .i64 (r_22 - r_24))))), (7, .c (.h 1)), (8, .c (.h 2)), (10, .c (.val (.int .i64 i_66))), (11, .c (.val (.int .i64 k_67))), (109, .c (.val (.bool y)))]) (fun y => [(1, .row (.pair (.int .i64) (.int .i64)) r_59), (2, .row (.pair (.int .i64) (.int .i64)) r_61)]) ?_ ?_
                    · skip
                      rcases Bool.eq_false_or_eq_true ((decide (k_67 ≥ (((List.length r_61) : Nat) : Int)))) with b_84 | b_84
                      · have H_207 := of_t H_204 b_84
                        refine V_reg hN hn [] [(101, true)] calls_nil 3 [3, 4, 7, 8, 10, 11, 109] [1, 2] ⟨[(3, .c (.imm (.opt (.pair (.slice (.pair (.int .i64) (.int .i64))) (.int .i64))) r_11)), (4, .c (.val (.int .i64 (IntKind.wrap .i64 (r_22 - r_24))))), (7, .c (.h 1)), (8, .c (.h 2)), (10, .c (.val (.int .i64 i_66))), (11, .c (.val (.int .i64 k_67))), (109, .c (.val (.bool true)))], [(1, .row (.pair (.int .i64) (.int .i64)) r_59), (2, .row (.pair (.int .i64) (.int .i64)) r_61)], 3⟩ [(decide (k_67 ≥ (((List.length r_61) : Nat) : Int))) = true] (by kernel_rfl) rfl rfl (ap1 b_84) (by kernel_rfl) (by kernel_rfl) ?_
                        have H_209 := Option.some.inj (show some true = some q_203 from H_207); subst H_209
                        refine VL_nil ?_
                        exact QP_end true rfl [(1, 1), (2, 2)] hn (by kernel_rfl) (by kernel_rfl) rfl rfl rfl
                      · have H_208 := of_f H_204 b_84
                        obtain ⟨c_86, H_210⟩ := of_if H_208
                        refine V_reg hN hn [] [(101, false)] calls_nil 3 [3, 4, 7, 8, 10, 11, 109] [1, 2] ⟨[(3, .c (.imm (.opt (.pair (.slice (.pair (.int .i64) (.int .i64))) (.int .i64))) r_11)), (4, .c (.val (.int .i64 (IntKind.wrap .i64 (r_22 - r_24))))), (7, .c (.h 1)), (8, .c (.h 2)), (10, .c (.val (.int .i64 i_66))), (11, .c (.val (.int .i64 k_67))), (109, .c (.val (.bool ((List.getD r_61 (Int.toNat k_67) ((0 : Int), (0 : Int))).1 != at_65))))], [(1, .row (.pair (.int .i64) (.int .i64)) r_59), (2, .row (.pair (.int .i64) (.int .i64)) r_61)], 3⟩ [(decide (k_67 ≥ (((List.length r_61) : Nat) : Int))) = false, 0 ≤ k_67, k_67 < (((List.length r_61) : Nat) : Int)] (by kernel_rfl) rfl rfl (ap2 b_84 (ap2 c_86.1 (ap1 c_86.2))) (by kernel_rfl) (by kernel_rfl) ?_
                        have H_211 := Option.some.inj (show some ((List.getD r_61 (Int.toNat k_67) ((0 : Int), (0 : Int))).1 != at_65) = some q_203 from H_210); subst H_211
                        refine VL_nil ?_
                        exact QP_end ((List.getD r_61 (Int.toNat k_67) ((0 : Int), (0 : Int))).1 != at_65) rfl [(1, 1), (2, 2)] hn (by kernel_rfl) (by kernel_rfl) rfl rfl rfl
                    · intro y_206 hy; subst hy
                      skip
                      skip
                      refine VL_cond (y_206) (by kernel_rfl) ?_ ?_
                      · intro b_88; have H_212 := of_t H_205 b_88
                        refine V_run hN hn 2 3 [2] [] ⟨[(2, .c (.val (.bool false)))], [], 3⟩ [] (by kernel_rfl) rfl rfl ap0 ?_
                        have H_214 := Option.some.inj (show some (Sum.inl false) = some q_175 from H_212); subst H_214
                        have H_215 := Option.some.inj (show some false = some r from H_177); subst H_215
                        refine VL_ret ?_
                        refine QB_ret ?_
                        refine QL_ret ?_
                        refine QB_ret ?_
                        refine QP_ret ?_
                        exact P_to [(2, .c (.val (.bool false)))] [] [] hn (by kernel_rfl) (by kernel_rfl) rfl rfl rfl (QF_retS (by kernel_rfl) (by kernel_rfl) rfl)
                      · intro b_88; have H_213 := of_f H_205 b_88
                        obtain ⟨c_90, H_216⟩ := of_if H_213
                        refine V_run hN hn 4 3 [3, 4, 7, 8, 9, 10, 11] [1, 2] ⟨[(3, .c (.imm (.opt (.pair (.slice (.pair (.int .i64) (.int .i64))) (.int .i64))) r_11)), (4, .c (.val (.int .i64 (IntKind.wrap .i64 (r_22 - r_24))))), (7, .c (.h 1)), (8, .c (.h 2)), (9, .c (.val (.int .i64 (List.getD r_61 (Int.toNat k_67) ((0 : Int), (0 : Int))).2))), (10, .c (.val (.int .i64 i_66))), (11, .c (.val (.int .i64 (IntKind.wrap .i64 (k_67 + (1 : Int))))))], [(1, .row (.pair (.int .i64) (.int .i64)) r_59), (2, .row (.pair (.int .i64) (.int .i64)) r_61)], 3⟩ [0 ≤ k_67, k_67 < (((List.length r_61) : Nat) : Int)] (by kernel_rfl) rfl rfl (ap2 c_90.1 (ap1 c_90.2)) ?_
                        refine VL_nil (QB_end ?_)
                        refine VL_nil ?_
                        exact V_roundEnd ((List.getD r_61 (Int.toNat k_67) ((0 : Int), (0 : Int))).2, i_66, (IntKind.wrap .i64 (k_67 + (1 : Int)))) H_216 [(1, 1), (2, 2)] hn (by kernel_rfl) (by kernel_rfl) rfl rfl rfl
              · intro b_74; have H_190 := of_f H_183 b_74
                refine VL_exit ?_
                refine QL_exit ?_
                refine QB_here ?_
                have H_217 := Option.some.inj (show some (Sum.inr at_65) = some q_175 from H_190); subst H_217
                refine VL_nil ?_
                exact QP_end at_65 rfl [] hn (by kernel_rfl) (by kernel_rfl) rfl rfl rfl
          · intro y_178 hy; subst hy
            skip
            skip
            refine V_run hN hn 1 3 [3, 4, 9] [] ⟨[(3, .c (.imm (.opt (.pair (.slice (.pair (.int .i64) (.int .i64))) (.int .i64))) r_11)), (4, .c (.val (.int .i64 (IntKind.wrap .i64 (r_22 - r_24))))), (9, .c (.val (.int .i64 y_178)))], [], 3⟩ [] (by kernel_rfl) rfl rfl ap0 ?_
            obtain ⟨r_93, h_94, H_218⟩ := of_bind H_177
            rcases Bool.eq_false_or_eq_true ((y_178 == r_93)) with b_95 | b_95
            · have H_219 := of_t H_218 b_95
              obtain ⟨r_96, h_97, H_221⟩ := of_bind H_219
              obtain ⟨r_98, h_99, H_222⟩ := of_bind H_221
              rcases Bool.eq_false_or_eq_true ((r_96 == r_98)) with b_100 | b_100
              · have H_223 := of_t H_222 b_100
                obtain ⟨r_101, h_102, H_225⟩ := of_bind H_223
                obtain ⟨r_103, h_104, H_226⟩ := of_bind H_225
                refine V_reg hN hn [(2, ⟨18, 0, [.c (.imm (.opt (.pair (.slice (.pair (.int .i64) (.int .i64))) (.int .i64))) r_11)], [], .c (.val (.int .i64 r_93)), [], [], 3⟩), (7, ⟨27, 0, [.c (.imm (.opt (.pair (.slice (.pair (.int .i64) (.int .i64))) (.int .i64))) r_11), .c (.val (.int .i64 (IntKind.wrap .i64 (r_22 - r_24))))], [], .c (.val (.int .i64 r_96)), [], [], 3⟩), (9, ⟨18, 0, [.c (.imm (.opt (.pair (.slice (.pair (.int .i64) (.int .i64))) (.int .i64))) r_11)], [], .c (.val (.int .i64 r_98)), [], [], 3⟩), (15, ⟨18, 0, [.c (.imm (.opt (.pair (.slice (.pair (.int .i64) (.int .i64))) (.int .i64))) r_11)], [], .c (.val (.int .i64 r_101)), [], [], 3⟩), (16, ⟨25, 0, [.c (.imm (.opt (.pair (.slice (.pair (.int .i64) (.int .i64))) (.int .i64))) r_11), .c (.val (.int .i64 r_101))], [], .c (.val (.int .i64 r_103)), [], [], 3⟩)] [(121, true), (129, true)] (calls_cons (subset_Subset_Len_spec K r_11 r_93 h_94) (by kernel_rfl) (calls_cons (mapper_Up_spec K r_11 (IntKind.wrap .i64 (r_22 - r_24)) r_96 h_97) (by kernel_rfl) (calls_cons (subset_Subset_Len_spec K r_11 r_98 h_99) (by kernel_rfl) (calls_cons (subset_Subset_Len_spec K r_11 r_101 h_102) (by kernel_rfl) (calls_cons (mapper_Down_spec K r_11 r_101 r_103 h_104) (by kernel_rfl) calls_nil))))) 3 [2] [] ⟨[(2, .c (.val (.bool (r_103 == (IntKind.wrap .i64 (r_22 - r_24))))))], [], 3⟩ [(y_178 == r_93) = true, (r_96 == r_98) = true] (by kernel_rfl) rfl rfl (ap2 b_95 (ap1 b_100)) (by kernel_rfl) (by kernel_rfl) ?_
                have H_227 := Option.some.inj (show some (r_103 == (IntKind.wrap .i64 (r_22 - r_24))) = some r from H_226); subst H_227
                refine VL_ret ?_
                exact P_to [(2, .c (.val (.bool (r_103 == (IntKind.wrap .i64 (r_22 - r_24))))))] [] [] hn (by kernel_rfl) (by kernel_rfl) rfl rfl rfl (QF_retS (by kernel_rfl) (by kernel_rfl) rfl)
              · have H_224 := of_f H_222 b_100
                refine V_reg hN hn [(2, ⟨18, 0, [.c (.imm (.opt (.pair (.slice (.pair (.int .i64) (.int .i64))) (.int .i64))) r_11)], [], .c (.val (.int .i64 r_93)), [], [], 3⟩), (7, ⟨27, 0, [.c (.imm (.opt (.pair (.slice (.pair (.int .i64) (.int .i64))) (.int .i64))) r_11), .c (.val (.int .i64 (IntKind.wrap .i64 (r_22 - r_24))))], [], .c (.val (.int .i64 r_96)), [], [], 3⟩), (9, ⟨18, 0, [.c (.imm (.opt (.pair (.slice (.pair (.int .i64) (.int .i64))) (.int .i64))) r_11)], [], .c (.val (.int .i64 r_98)), [], [], 3⟩)] [(121, true), (129, false)] (calls_cons (subset_Subset_Len_spec K r_11 r_93 h_94) (by kernel_rfl) (calls_cons (mapper_Up_spec K r_11 (IntKind.wrap .i64 (r_22 - r_24)) r_96 h_97) (by kernel_rfl) (calls_cons (subset_Subset_Len_spec K r_11 r_98 h_99) (by kernel_rfl) calls_nil))) 3 [2] [] ⟨[(2, .c (.val (.bool false)))], [], 3⟩ [(y_178 == r_93) = true, (r_96 == r_98) = false] (by kernel_rfl) rfl rfl (ap2 b_95 (ap1 b_100)) (by kernel_rfl) (by kernel_rfl) ?_
                have H_228 := Option.some.inj (show some false = some r from H_224); subst H_228
                refine VL_ret ?_
                exact P_to [(2, .c (.val (.bool false)))] [] [] hn (by kernel_rfl) (by kernel_rfl) rfl rfl rfl (QF_retS (by kernel_rfl) (by kernel_rfl) rfl)
            · have H_220 := of_f H_218 b_95
              refine V_reg hN hn [(2, ⟨18, 0, [.c (.imm (.opt (.pair (.slice (.pair (.int .i64) (.int .i64))) (.int .i64))) r_11)], [], .c (.val (.int .i64 r_93)), [], [], 3⟩)] [(121, false)] (calls_cons (subset_Subset_Len_spec K r_11 r_93 h_94) (by kernel_rfl) calls_nil) 3 [2] [] ⟨[(2, .c (.val (.bool false)))], [], 3⟩ [(y_178 == r_93) = false] (by kernel_rfl) rfl rfl (ap1 b_95) (by kernel_rfl) (by kernel_rfl) ?_
              have H_229 := Option.some.inj (show some false = some r from H_220); subst H_229
              refine VL_ret ?_
              exact P_to [(2, .c (.val (.bool false)))] [] [] hn (by kernel_rfl) (by kernel_rfl) rfl rfl rfl (QF_retS (by kernel_rfl) (by kernel_rfl) rfl)

end Go.Pal
