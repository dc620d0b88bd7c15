/- The Go functions that SubsetPlays reaches compute what the plain functions say: part 0, printed by a program of this workplace. -/
import Derived.Test.YtlogcamkdjdocaaChecked
import Derived.Test.YtlogcamkdjdocaaFunSubsetPlays
namespace Go.Pal
open Go Go.Proofs
set_option maxRecDepth 100000
set_option linter.unusedVariables false

theorem subset_isCount_spec (K : Nat) (n_1 : Int) (r : Bool) (H : subset_isCount K n_1 = some r) : Spec Try.prog 41 0 [.c (.val (.int .i64 n_1))] [] (.c (.val (.bool r))) [] := by
  refine Spec_mk (fn := Try.f41) (c := (Try.f41.body).get!) Try.func41 (by kernel_rfl) rfl ?_
  intro C hN hn
  replace hN : C.N = 9 := hN
  unfold subset_isCount at H
  refine V_run hN hn 3 0 [0] [] ⟨[(0, .c (.val (.int .i64 n_1)))], [], 0⟩ [] (by kernel_rfl) rfl rfl ap0 ?_
  rcases Bool.eq_false_or_eq_true ((decide (n_1 ≥ (0 : Int)))) with b_3 | b_3
  · have H_7 := of_t H b_3
    refine V_reg hN hn [] [(5, true)] calls_nil 0 [2] [] ⟨[(2, .c (.val (.bool (decide (n_1 ≤ (100 : Int))))))], [], 0⟩ [(decide (n_1 ≥ (0 : Int))) = true] (by kernel_rfl) rfl rfl (ap1 b_3) (by kernel_rfl) (by kernel_rfl) ?_
    have H_9 := Option.some.inj (show some (decide (n_1 ≤ (100 : Int))) = some r from H_7); subst H_9
    refine VL_ret ?_
    exact P_to [(2, .c (.val (.bool (decide (n_1 ≤ (100 : Int))))))] [] [] hn (by kernel_rfl) (by kernel_rfl) rfl rfl rfl (QF_retS (by kernel_rfl) (by kernel_rfl) rfl)
  · have H_8 := of_f H b_3
    refine V_reg hN hn [] [(5, false)] calls_nil 0 [2] [] ⟨[(2, .c (.val (.bool false)))], [], 0⟩ [(decide (n_1 ≥ (0 : Int))) = false] (by kernel_rfl) rfl rfl (ap1 b_3) (by kernel_rfl) (by kernel_rfl) ?_
    have H_10 := Option.some.inj (show some false = some r from H_8); subst H_10
    refine VL_ret ?_
    exact P_to [(2, .c (.val (.bool false)))] [] [] hn (by kernel_rfl) (by kernel_rfl) rfl rfl rfl (QF_retS (by kernel_rfl) (by kernel_rfl) rfl)

theorem subset_Pack_r_spec (K : Nat) (segs_1 : (List (Int × Int))) (r : ((Option ((List (Int × Int)) × Int)) × Int)) (H : subset_Pack_r K segs_1 = some r) : Spec Try.prog 40 1 [.c (.h 0)] [(0, .row (.pair (.int .i64) (.int .i64)) segs_1)] (.tup [(false, [.imm (.opt (.pair (.slice (.pair (.int .i64) (.int .i64))) (.int .i64))) r.1]), (false, [.val (.int .i64 r.2)])]) [(0, .row (.pair (.int .i64) (.int .i64)) segs_1)] := by
  refine Spec_mk (fn := Try.f40) (c := (Try.f40.body).get!) Try.func40 (by kernel_rfl) rfl ?_
  intro C hN hn
  replace hN : C.N = 88 := hN
  unfold subset_Pack_r at H
  refine V_run hN hn 7 1 [4, 10, 11, 12] [0, 1] ⟨[(4, .c (.h 1)), (10, .c (.h 0)), (11, .c (.val (.int .i64 (((List.length segs_1) : Nat) : Int)))), (12, .c (.val (.int .i64 (0 : Int))))], [(0, .row (.pair (.int .i64) (.int .i64)) segs_1), (1, .box [.val (.slice none 0 0), .val (.int .i64 (0 : Int))])], 2⟩ [] (by kernel_rfl) rfl rfl ap0 ?_
  obtain ⟨q_61, H_62, H_63⟩ := of_bind H
  refine V_cut (Y := ((List (Int × Int)) × Int)) (R := (((Option ((List (Int × Int)) × Int)) × Int) ⊕ ((List (Int × Int)) × Int))) q_61 (fun y => (Sum.inr y)) (fun y => [(4, .c (.h 1))]) (fun y => [(0, .row (.pair (.int .i64) (.int .i64)) segs_1), (1, .box [.h 5, .val (.int .i64 y.2)]), (5, .row (.pair (.int .i64) (.int .i64)) y.1)]) ?_ ?_
  · skip
    refine VL_block ?_
    refine V_ghost [.nilCell 1 0 (.pair (.int .i64) (.int .i64))] 2 hn [4, 10, 11, 12] [0, 1, 2] ⟨[(4, .c (.h 1)), (10, .c (.h 0)), (11, .c (.val (.int .i64 (((List.length segs_1) : Nat) : Int)))), (12, .c (.val (.int .i64 (0 : Int))))], [(0, .row (.pair (.int .i64) (.int .i64)) segs_1), (1, .box [.h 2, .val (.int .i64 (0 : Int))]), (2, .row (.pair (.int .i64) (.int .i64)) ([] : List (Int × Int)))], 3⟩ (by kernel_rfl) rfl rfl ?_
    refine V_to [(4, .c (.h 1)), (10, .c (.h 0)), (11, .c (.val (.int .i64 (((List.length segs_1) : Nat) : Int)))), (12, .c (.val (.int .i64 (0 : Int))))] [(0, .row (.pair (.int .i64) (.int .i64)) segs_1), (1, .box [.h 5, .val (.int .i64 (0 : Int))]), (5, .row (.pair (.int .i64) (.int .i64)) ([] : List (Int × Int)))] [(1, 1), (5, 2)] hn (by kernel_rfl) (by kernel_rfl) rfl rfl rfl ?_
    refine VL_loop (X := ((List (Int × Int)) × Int × Int)) (fun x => [(4, .c (.h 1)), (10, .c (.h 0)), (11, .c (.val (.int .i64 (((List.length segs_1) : Nat) : Int)))), (12, .c (.val (.int .i64 x.2.2)))]) (fun x => [(0, .row (.pair (.int .i64) (.int .i64)) segs_1), (1, .box [.h 5, .val (.int .i64 x.2.1)]), (5, .row (.pair (.int .i64) (.int .i64)) x.1)]) (fun k x => subset_Pack_r.l0 K segs_1 k x.1 x.2.1 x.2.2 = some q_61) K (([] : List (Int × Int)), (0 : Int), (0 : Int)) H_62 (fun _ h => no_none h) ?_
    intro k_24 x_24 H_65
    obtain ⟨x_22, x_23, t_3⟩ := x_24
    have H_66 : subset_Pack_r.l0 K segs_1 (k_24 + 1) x_22 x_23 t_3 = some q_61 := H_65
    rw [subset_Pack_r.l0] at H_66
    refine V_run hN hn 3 6 [4, 10, 11, 12, 13] [0, 1, 5] ⟨[(4, .c (.h 1)), (10, .c (.h 0)), (11, .c (.val (.int .i64 (((List.length segs_1) : Nat) : Int)))), (12, .c (.val (.int .i64 t_3))), (13, .c (.val (.bool (decide (t_3 < (((List.length segs_1) : Nat) : Int))))))], [(0, .row (.pair (.int .i64) (.int .i64)) segs_1), (1, .box [.h 5, .val (.int .i64 x_23)]), (5, .row (.pair (.int .i64) (.int .i64)) x_22)], 6⟩ [] (by kernel_rfl) rfl rfl ap0 ?_
    refine VL_cond ((decide (t_3 < (((List.length segs_1) : Nat) : Int)))) (by kernel_rfl) ?_ ?_
    · intro b_26; have H_67 := of_t H_66 b_26
      refine V_run hN hn 2 6 [4, 10, 11, 12, 13] [0, 1, 5] ⟨[(4, .c (.h 1)), (10, .c (.h 0)), (11, .c (.val (.int .i64 (((List.length segs_1) : Nat) : Int)))), (12, .c (.val (.int .i64 t_3))), (13, .c (.val (.bool (decide (t_3 < (((List.length segs_1) : Nat) : Int))))))], [(0, .row (.pair (.int .i64) (.int .i64)) segs_1), (1, .box [.h 5, .val (.int .i64 x_23)]), (5, .row (.pair (.int .i64) (.int .i64)) x_22)], 6⟩ [] (by kernel_rfl) rfl rfl ap0 ?_
      refine VL_block ?_
      obtain ⟨c_28, H_69⟩ := of_if H_67
      refine V_run hN hn 5 6 [4, 6, 10, 11, 12, 18] [0, 1, 5, 6] ⟨[(4, .c (.h 1)), (6, .c (.h 6)), (10, .c (.h 0)), (11, .c (.val (.int .i64 (((List.length segs_1) : Nat) : Int)))), (12, .c (.val (.int .i64 t_3))), (18, .c (.val (.bool ((List.getD segs_1 (Int.toNat t_3) ((0 : Int), (0 : Int))).1 == (0 : Int)))))], [(0, .row (.pair (.int .i64) (.int .i64)) segs_1), (1, .box [.h 5, .val (.int .i64 x_23)]), (5, .row (.pair (.int .i64) (.int .i64)) x_22), (6, .box [.val (.int .i64 (List.getD segs_1 (Int.toNat t_3) ((0 : Int), (0 : Int))).1), .val (.int .i64 (List.getD segs_1 (Int.toNat t_3) ((0 : Int), (0 : Int))).2)])], 7⟩ [0 ≤ t_3, t_3 < (((List.length segs_1) : Nat) : Int)] (by kernel_rfl) rfl rfl (ap2 c_28.1 (ap1 c_28.2)) ?_
      refine VL_cond (((List.getD segs_1 (Int.toNat t_3) ((0 : Int), (0 : Int))).1 == (0 : Int))) (by kernel_rfl) ?_ ?_
      · intro b_29; have H_70 := of_t H_69 b_29
        refine VL_exit ?_
        refine QB_here ?_
        refine V_run hN hn 1 7 [4, 10, 11, 12] [0, 1, 5] ⟨[(4, .c (.h 1)), (10, .c (.h 0)), (11, .c (.val (.int .i64 (((List.length segs_1) : Nat) : Int)))), (12, .c (.val (.int .i64 (IntKind.wrap .i64 (t_3 + (1 : Int))))))], [(0, .row (.pair (.int .i64) (.int .i64)) segs_1), (1, .box [.h 5, .val (.int .i64 x_23)]), (5, .row (.pair (.int .i64) (.int .i64)) x_22)], 7⟩ [] (by kernel_rfl) rfl rfl ap0 ?_
        refine VL_nil ?_
        exact V_roundEnd (x_22, x_23, (IntKind.wrap .i64 (t_3 + (1 : Int)))) H_70 [(1, 1), (5, 5)] hn (by kernel_rfl) (by kernel_rfl) rfl rfl rfl
      · intro b_29; have H_71 := of_f H_69 b_29
        refine V_run hN hn 3 7 [4, 6, 10, 11, 12, 18] [0, 1, 5, 6] ⟨[(4, .c (.h 1)), (6, .c (.h 6)), (10, .c (.h 0)), (11, .c (.val (.int .i64 (((List.length segs_1) : Nat) : Int)))), (12, .c (.val (.int .i64 t_3))), (18, .c (.val (.bool ((List.getD segs_1 (Int.toNat t_3) ((0 : Int), (0 : Int))).1 == (0 : Int)))))], [(0, .row (.pair (.int .i64) (.int .i64)) segs_1), (1, .box [.h 5, .val (.int .i64 x_23)]), (5, .row (.pair (.int .i64) (.int .i64)) x_22), (6, .box [.val (.int .i64 (List.getD segs_1 (Int.toNat t_3) ((0 : Int), (0 : Int))).1), .val (.int .i64 (List.getD segs_1 (Int.toNat t_3) ((0 : Int), (0 : Int))).2)])], 7⟩ [] (by kernel_rfl) rfl rfl ap0 ?_
        refine V_draw hN hn (by kernel_rfl) [] [] calls_nil 7 [4, 6, 10, 11, 12, 26] [0, 1, 5, 6] ⟨[(4, .c (.h 1)), (6, .c (.h 6)), (10, .c (.h 0)), (11, .c (.val (.int .i64 (((List.length segs_1) : Nat) : Int)))), (12, .c (.val (.int .i64 t_3))), (26, .c (.val (.bool (decide ((List.getD segs_1 (Int.toNat t_3) ((0 : Int), (0 : Int))).1 > (IntKind.wrap .i64 ((20000 : Int) - x_23)))))))], [(0, .row (.pair (.int .i64) (.int .i64)) segs_1), (1, .box [.h 5, .val (.int .i64 x_23)]), (5, .row (.pair (.int .i64) (.int .i64)) x_22), (6, .box [.val (.int .i64 (List.getD segs_1 (Int.toNat t_3) ((0 : Int), (0 : Int))).1), .val (.int .i64 (List.getD segs_1 (Int.toNat t_3) ((0 : Int), (0 : Int))).2)])], 7⟩ [] (by kernel_rfl) rfl rfl ap0 (by kernel_rfl) (by kernel_rfl) ?_
        refine VL_cond ((decide ((List.getD segs_1 (Int.toNat t_3) ((0 : Int), (0 : Int))).1 > (IntKind.wrap .i64 ((20000 : Int) - x_23))))) (by kernel_rfl) ?_ ?_
        · intro b_33; have H_72 := of_t H_71 b_33
          refine V_run hN hn 2 7 [2, 3] [0] ⟨[(2, .c (.val (.pointer none))), (3, .c (.val (.int .i64 (70 : Int))))], [(0, .row (.pair (.int .i64) (.int .i64)) segs_1)], 7⟩ [] (by kernel_rfl) rfl rfl ap0 ?_
          have H_74 := Option.some.inj (show some (Sum.inl ((none : (Option ((List (Int × Int)) × Int))), (70 : Int))) = some q_61 from H_72); subst H_74
          have H_75 := Option.some.inj (show some ((none : (Option ((List (Int × Int)) × Int))), (70 : Int)) = some r from H_63); subst H_75
          refine VL_ret ?_
          refine QB_ret ?_
          refine QL_ret ?_
          refine QB_ret ?_
          refine QP_ret ?_
          refine P_ghost [.read 2 (.opt (.pair (.slice (.pair (.int .i64) (.int .i64))) (.int .i64)))] 7 hn [2, 3] [0] ⟨[(2, .c (.imm (.opt (.pair (.slice (.pair (.int .i64) (.int .i64))) (.int .i64))) (none : (Option ((List (Int × Int)) × Int))))), (3, .c (.val (.int .i64 (70 : Int))))], [(0, .row (.pair (.int .i64) (.int .i64)) segs_1)], 7⟩ (by kernel_rfl) rfl rfl ?_
          exact P_to [(2, .c (.imm (.opt (.pair (.slice (.pair (.int .i64) (.int .i64))) (.int .i64))) (none : (Option ((List (Int × Int)) × Int))))), (3, .c (.val (.int .i64 (70 : Int))))] [(0, .row (.pair (.int .i64) (.int .i64)) segs_1)] [] hn (by kernel_rfl) (by kernel_rfl) rfl rfl rfl (QF_retS (by kernel_rfl) (by kernel_rfl) rfl)
        · intro b_33; have H_73 := of_f H_71 b_33
          refine V_run hN hn 2 7 [4, 6, 10, 11, 12, 26] [0, 1, 5, 6] ⟨[(4, .c (.h 1)), (6, .c (.h 6)), (10, .c (.h 0)), (11, .c (.val (.int .i64 (((List.length segs_1) : Nat) : Int)))), (12, .c (.val (.int .i64 t_3))), (26, .c (.val (.bool (decide ((List.getD segs_1 (Int.toNat t_3) ((0 : Int), (0 : Int))).1 > (IntKind.wrap .i64 ((20000 : Int) - x_23)))))))], [(0, .row (.pair (.int .i64) (.int .i64)) segs_1), (1, .box [.h 5, .val (.int .i64 x_23)]), (5, .row (.pair (.int .i64) (.int .i64)) x_22), (6, .box [.val (.int .i64 (List.getD segs_1 (Int.toNat t_3) ((0 : Int), (0 : Int))).1), .val (.int .i64 (List.getD segs_1 (Int.toNat t_3) ((0 : Int), (0 : Int))).2)])], 7⟩ [] (by kernel_rfl) rfl rfl ap0 ?_
          refine V_draw hN hn (by kernel_rfl) [] [] calls_nil 7 [4, 6, 10, 11, 12] [0, 1, 5, 6] ⟨[(4, .c (.h 1)), (6, .c (.h 6)), (10, .c (.h 0)), (11, .c (.val (.int .i64 (((List.length segs_1) : Nat) : Int)))), (12, .c (.val (.int .i64 t_3)))], [(0, .row (.pair (.int .i64) (.int .i64)) segs_1), (1, .box [.h 5, .val (.int .i64 (IntKind.wrap .i64 (x_23 + (List.getD segs_1 (Int.toNat t_3) ((0 : Int), (0 : Int))).1)))]), (5, .row (.pair (.int .i64) (.int .i64)) x_22), (6, .box [.val (.int .i64 (List.getD segs_1 (Int.toNat t_3) ((0 : Int), (0 : Int))).1), .val (.int .i64 (List.getD segs_1 (Int.toNat t_3) ((0 : Int), (0 : Int))).2)])], 7⟩ [] (by kernel_rfl) rfl rfl ap0 (by kernel_rfl) (by kernel_rfl) ?_
          refine V_run hN hn 4 7 [4, 6, 7, 10, 11, 12] [0, 1, 5, 6] ⟨[(4, .c (.h 1)), (6, .c (.h 6)), (7, .c (.val (.int .i64 (IntKind.wrap .i64 ((((List.length x_22) : Nat) : Int) - (1 : Int)))))), (10, .c (.h 0)), (11, .c (.val (.int .i64 (((List.length segs_1) : Nat) : Int)))), (12, .c (.val (.int .i64 t_3)))], [(0, .row (.pair (.int .i64) (.int .i64)) segs_1), (1, .box [.h 5, .val (.int .i64 (IntKind.wrap .i64 (x_23 + (List.getD segs_1 (Int.toNat t_3) ((0 : Int), (0 : Int))).1)))]), (5, .row (.pair (.int .i64) (.int .i64)) x_22), (6, .box [.val (.int .i64 (List.getD segs_1 (Int.toNat t_3) ((0 : Int), (0 : Int))).1), .val (.int .i64 (List.getD segs_1 (Int.toNat t_3) ((0 : Int), (0 : Int))).2)])], 7⟩ [] (by kernel_rfl) rfl rfl ap0 ?_
          obtain ⟨q_76, H_77, H_78⟩ := of_bind H_73
          refine V_cut (Y := Bool) (R := Bool) q_76 (fun y => y) (fun y => [(4, .c (.h 1)), (6, .c (.h 6)), (7, .c (.val (.int .i64 (IntKind.wrap .i64 ((((List.length x_22) : Nat) : Int) - (1 : Int)))))), (10, .c (.h 0)), (11, .c (.val (.int .i64 (((List.length segs_1) : Nat) : Int)))), (12, .c (.val (.int .i64 t_3))), (56, .c (.val (.bool y)))]) (fun y => [(0, .row (.pair (.int .i64) (.int .i64)) segs_1), (1, .box [.h 5, .val (.int .i64 (IntKind.wrap .i64 (x_23 + (List.getD segs_1 (Int.toNat t_3) ((0 : Int), (0 : Int))).1)))]), (5, .row (.pair (.int .i64) (.int .i64)) x_22), (6, .box [.val (.int .i64 (List.getD segs_1 (Int.toNat t_3) ((0 : Int), (0 : Int))).1), .val (.int .i64 (List.getD segs_1 (Int.toNat t_3) ((0 : Int), (0 : Int))).2)])]) ?_ ?_
          · skip
            rcases Bool.eq_false_or_eq_true ((decide ((IntKind.wrap .i64 ((((List.length x_22) : Nat) : Int) - (1 : Int))) ≥ (0 : Int)))) with b_38 | b_38
            · have H_80 := of_t H_77 b_38
              obtain ⟨c_39, H_82⟩ := of_if H_80
              refine V_draw hN hn (by kernel_rfl) [] [(44, true)] calls_nil 7 [4, 6, 7, 10, 11, 12, 56] [0, 1, 5, 6] ⟨[(4, .c (.h 1)), (6, .c (.h 6)), (7, .c (.val (.int .i64 (IntKind.wrap .i64 ((((List.length x_22) : Nat) : Int) - (1 : Int)))))), (10, .c (.h 0)), (11, .c (.val (.int .i64 (((List.length segs_1) : Nat) : Int)))), (12, .c (.val (.int .i64 t_3))), (56, .c (.val (.bool ((List.getD x_22 (Int.toNat (IntKind.wrap .i64 ((((List.length x_22) : Nat) : Int) - (1 : Int)))) ((0 : Int), (0 : Int))).2 == (List.getD segs_1 (Int.toNat t_3) ((0 : Int), (0 : Int))).2))))], [(0, .row (.pair (.int .i64) (.int .i64)) segs_1), (1, .box [.h 5, .val (.int .i64 (IntKind.wrap .i64 (x_23 + (List.getD segs_1 (Int.toNat t_3) ((0 : Int), (0 : Int))).1)))]), (5, .row (.pair (.int .i64) (.int .i64)) x_22), (6, .box [.val (.int .i64 (List.getD segs_1 (Int.toNat t_3) ((0 : Int), (0 : Int))).1), .val (.int .i64 (List.getD segs_1 (Int.toNat t_3) ((0 : Int), (0 : Int))).2)])], 7⟩ [(decide ((IntKind.wrap .i64 ((((List.length x_22) : Nat) : Int) - (1 : Int))) ≥ (0 : Int))) = true, 0 ≤ (IntKind.wrap .i64 ((((List.length x_22) : Nat) : Int) - (1 : Int))), (IntKind.wrap .i64 ((((List.length x_22) : Nat) : Int) - (1 : Int))) < (((List.length x_22) : Nat) : Int)] (by kernel_rfl) rfl rfl (ap2 b_38 (ap2 c_39.1 (ap1 c_39.2))) (by kernel_rfl) (by kernel_rfl) ?_
              have H_83 := Option.some.inj (show some ((List.getD x_22 (Int.toNat (IntKind.wrap .i64 ((((List.length x_22) : Nat) : Int) - (1 : Int)))) ((0 : Int), (0 : Int))).2 == (List.getD segs_1 (Int.toNat t_3) ((0 : Int), (0 : Int))).2) = some q_76 from H_82); subst H_83
              refine VL_nil ?_
              exact QP_end ((List.getD x_22 (Int.toNat (IntKind.wrap .i64 ((((List.length x_22) : Nat) : Int) - (1 : Int)))) ((0 : Int), (0 : Int))).2 == (List.getD segs_1 (Int.toNat t_3) ((0 : Int), (0 : Int))).2) rfl [(1, 1), (5, 5), (6, 6)] hn (by kernel_rfl) (by kernel_rfl) rfl rfl rfl
            · have H_81 := of_f H_77 b_38
              refine V_draw hN hn (by kernel_rfl) [] [(44, false)] calls_nil 7 [4, 6, 7, 10, 11, 12, 56] [0, 1, 5, 6] ⟨[(4, .c (.h 1)), (6, .c (.h 6)), (7, .c (.val (.int .i64 (IntKind.wrap .i64 ((((List.length x_22) : Nat) : Int) - (1 : Int)))))), (10, .c (.h 0)), (11, .c (.val (.int .i64 (((List.length segs_1) : Nat) : Int)))), (12, .c (.val (.int .i64 t_3))), (56, .c (.val (.bool false)))], [(0, .row (.pair (.int .i64) (.int .i64)) segs_1), (1, .box [.h 5, .val (.int .i64 (IntKind.wrap .i64 (x_23 + (List.getD segs_1 (Int.toNat t_3) ((0 : Int), (0 : Int))).1)))]), (5, .row (.pair (.int .i64) (.int .i64)) x_22), (6, .box [.val (.int .i64 (List.getD segs_1 (Int.toNat t_3) ((0 : Int), (0 : Int))).1), .val (.int .i64 (List.getD segs_1 (Int.toNat t_3) ((0 : Int), (0 : Int))).2)])], 7⟩ [(decide ((IntKind.wrap .i64 ((((List.length x_22) : Nat) : Int) - (1 : Int))) ≥ (0 : Int))) = false] (by kernel_rfl) rfl rfl (ap1 b_38) (by kernel_rfl) (by kernel_rfl) ?_
              have H_84 := Option.some.inj (show some false = some q_76 from H_81); subst H_84
              refine VL_nil ?_
              exact QP_end false rfl [(1, 1), (5, 5), (6, 6)] hn (by kernel_rfl) (by kernel_rfl) rfl rfl rfl
          · intro y_79 hy; subst hy
            skip
            skip
            refine VL_cond (y_79) (by kernel_rfl) ?_ ?_
            · intro b_42; have H_85 := of_t H_78 b_42
              refine V_run hN hn 1 7 [4, 6, 7, 10, 11, 12, 56] [0, 1, 5, 6] ⟨[(4, .c (.h 1)), (6, .c (.h 6)), (7, .c (.val (.int .i64 (IntKind.wrap .i64 ((((List.length x_22) : Nat) : Int) - (1 : Int)))))), (10, .c (.h 0)), (11, .c (.val (.int .i64 (((List.length segs_1) : Nat) : Int)))), (12, .c (.val (.int .i64 t_3))), (56, .c (.val (.bool y_79)))], [(0, .row (.pair (.int .i64) (.int .i64)) segs_1), (1, .box [.h 5, .val (.int .i64 (IntKind.wrap .i64 (x_23 + (List.getD segs_1 (Int.toNat t_3) ((0 : Int), (0 : Int))).1)))]), (5, .row (.pair (.int .i64) (.int .i64)) x_22), (6, .box [.val (.int .i64 (List.getD segs_1 (Int.toNat t_3) ((0 : Int), (0 : Int))).1), .val (.int .i64 (List.getD segs_1 (Int.toNat t_3) ((0 : Int), (0 : Int))).2)])], 7⟩ [] (by kernel_rfl) rfl rfl ap0 ?_
              obtain ⟨c_44, H_87⟩ := of_if H_85
              refine V_draw hN hn (by kernel_rfl) [] [] calls_nil 7 [4, 10, 11, 12] [0, 1, 5] ⟨[(4, .c (.h 1)), (10, .c (.h 0)), (11, .c (.val (.int .i64 (((List.length segs_1) : Nat) : Int)))), (12, .c (.val (.int .i64 t_3)))], [(0, .row (.pair (.int .i64) (.int .i64)) segs_1), (1, .box [.h 5, .val (.int .i64 (IntKind.wrap .i64 (x_23 + (List.getD segs_1 (Int.toNat t_3) ((0 : Int), (0 : Int))).1)))]), (5, .row (.pair (.int .i64) (.int .i64)) (List.set x_22 (Int.toNat (IntKind.wrap .i64 ((((List.length x_22) : Nat) : Int) - (1 : Int)))) ((IntKind.wrap .i64 ((List.getD x_22 (Int.toNat (IntKind.wrap .i64 ((((List.length x_22) : Nat) : Int) - (1 : Int)))) ((0 : Int), (0 : Int))).1 + (List.getD segs_1 (Int.toNat t_3) ((0 : Int), (0 : Int))).1)), (List.getD x_22 (Int.toNat (IntKind.wrap .i64 ((((List.length x_22) : Nat) : Int) - (1 : Int)))) ((0 : Int), (0 : Int))).2)))], 7⟩ [0 ≤ (IntKind.wrap .i64 ((((List.length x_22) : Nat) : Int) - (1 : Int))), (IntKind.wrap .i64 ((((List.length x_22) : Nat) : Int) - (1 : Int))) < (((List.length x_22) : Nat) : Int), 0 ≤ (IntKind.wrap .i64 ((((List.length x_22) : Nat) : Int) - (1 : Int))), (IntKind.wrap .i64 ((((List.length x_22) : Nat) : Int) - (1 : Int))) < (((List.length x_22) : Nat) : Int)] (by kernel_rfl) rfl rfl (ap2 c_44.1 (ap2 c_44.2 (ap2 c_44.1 (ap1 c_44.2)))) (by kernel_rfl) (by kernel_rfl) ?_
              refine VL_exit ?_
              refine QB_here ?_
              refine V_run hN hn 1 7 [4, 10, 11, 12] [0, 1, 5] ⟨[(4, .c (.h 1)), (10, .c (.h 0)), (11, .c (.val (.int .i64 (((List.length segs_1) : Nat) : Int)))), (12, .c (.val (.int .i64 (IntKind.wrap .i64 (t_3 + (1 : Int))))))], [(0, .row (.pair (.int .i64) (.int .i64)) segs_1), (1, .box [.h 5, .val (.int .i64 (IntKind.wrap .i64 (x_23 + (List.getD segs_1 (Int.toNat t_3) ((0 : Int), (0 : Int))).1)))]), (5, .row (.pair (.int .i64) (.int .i64)) (List.set x_22 (Int.toNat (IntKind.wrap .i64 ((((List.length x_22) : Nat) : Int) - (1 : Int)))) ((IntKind.wrap .i64 ((List.getD x_22 (Int.toNat (IntKind.wrap .i64 ((((List.length x_22) : Nat) : Int) - (1 : Int)))) ((0 : Int), (0 : Int))).1 + (List.getD segs_1 (Int.toNat t_3) ((0 : Int), (0 : Int))).1)), (List.getD x_22 (Int.toNat (IntKind.wrap .i64 ((((List.length x_22) : Nat) : Int) - (1 : Int)))) ((0 : Int), (0 : Int))).2)))], 7⟩ [] (by kernel_rfl) rfl rfl ap0 ?_
              refine VL_nil ?_
              exact V_roundEnd ((List.set x_22 (Int.toNat (IntKind.wrap .i64 ((((List.length x_22) : Nat) : Int) - (1 : Int)))) ((IntKind.wrap .i64 ((List.getD x_22 (Int.toNat (IntKind.wrap .i64 ((((List.length x_22) : Nat) : Int) - (1 : Int)))) ((0 : Int), (0 : Int))).1 + (List.getD segs_1 (Int.toNat t_3) ((0 : Int), (0 : Int))).1)), (List.getD x_22 (Int.toNat (IntKind.wrap .i64 ((((List.length x_22) : Nat) : Int) - (1 : Int)))) ((0 : Int), (0 : Int))).2)), (IntKind.wrap .i64 (x_23 + (List.getD segs_1 (Int.toNat t_3) ((0 : Int), (0 : Int))).1)), (IntKind.wrap .i64 (t_3 + (1 : Int)))) H_87 [(1, 1), (5, 5)] hn (by kernel_rfl) (by kernel_rfl) rfl rfl rfl
            · intro b_42; have H_86 := of_f H_78 b_42
              refine V_run hN hn 1 7 [4, 6, 7, 10, 11, 12, 56] [0, 1, 5, 6] ⟨[(4, .c (.h 1)), (6, .c (.h 6)), (7, .c (.val (.int .i64 (IntKind.wrap .i64 ((((List.length x_22) : Nat) : Int) - (1 : Int)))))), (10, .c (.h 0)), (11, .c (.val (.int .i64 (((List.length segs_1) : Nat) : Int)))), (12, .c (.val (.int .i64 t_3))), (56, .c (.val (.bool y_79)))], [(0, .row (.pair (.int .i64) (.int .i64)) segs_1), (1, .box [.h 5, .val (.int .i64 (IntKind.wrap .i64 (x_23 + (List.getD segs_1 (Int.toNat t_3) ((0 : Int), (0 : Int))).1)))]), (5, .row (.pair (.int .i64) (.int .i64)) x_22), (6, .box [.val (.int .i64 (List.getD segs_1 (Int.toNat t_3) ((0 : Int), (0 : Int))).1), .val (.int .i64 (List.getD segs_1 (Int.toNat t_3) ((0 : Int), (0 : Int))).2)])], 7⟩ [] (by kernel_rfl) rfl rfl ap0 ?_
              obtain ⟨c_47, H_88⟩ := of_if H_86
              refine V_draw hN hn (by kernel_rfl) [] [] calls_nil 7 [4, 10, 11, 12] [0, 1, 8] ⟨[(4, .c (.h 1)), (10, .c (.h 0)), (11, .c (.val (.int .i64 (((List.length segs_1) : Nat) : Int)))), (12, .c (.val (.int .i64 t_3)))], [(0, .row (.pair (.int .i64) (.int .i64)) segs_1), (1, .box [.h 8, .val (.int .i64 (IntKind.wrap .i64 (x_23 + (List.getD segs_1 (Int.toNat t_3) ((0 : Int), (0 : Int))).1)))]), (8, .row (.pair (.int .i64) (.int .i64)) (x_22 ++ ([((List.getD segs_1 (Int.toNat t_3) ((0 : Int), (0 : Int))).1, (List.getD segs_1 (Int.toNat t_3) ((0 : Int), (0 : Int))).2)] : List (Int × Int))))], 9⟩ [(List.length x_22 + List.length ([((List.getD segs_1 (Int.toNat t_3) ((0 : Int), (0 : Int))).1, (List.getD segs_1 (Int.toNat t_3) ((0 : Int), (0 : Int))).2)] : List (Int × Int))) * 16 ≤ 140737488355328] (by kernel_rfl) rfl rfl (ap1 c_47) (by kernel_rfl) (by kernel_rfl) ?_
              refine VL_nil (QB_end ?_)
              refine V_run hN hn 1 9 [4, 10, 11, 12] [0, 1, 8] ⟨[(4, .c (.h 1)), (10, .c (.h 0)), (11, .c (.val (.int .i64 (((List.length segs_1) : Nat) : Int)))), (12, .c (.val (.int .i64 (IntKind.wrap .i64 (t_3 + (1 : Int))))))], [(0, .row (.pair (.int .i64) (.int .i64)) segs_1), (1, .box [.h 8, .val (.int .i64 (IntKind.wrap .i64 (x_23 + (List.getD segs_1 (Int.toNat t_3) ((0 : Int), (0 : Int))).1)))]), (8, .row (.pair (.int .i64) (.int .i64)) (x_22 ++ ([((List.getD segs_1 (Int.toNat t_3) ((0 : Int), (0 : Int))).1, (List.getD segs_1 (Int.toNat t_3) ((0 : Int), (0 : Int))).2)] : List (Int × Int))))], 9⟩ [] (by kernel_rfl) rfl rfl ap0 ?_
              refine VL_nil ?_
              exact V_roundEnd ((x_22 ++ ([((List.getD segs_1 (Int.toNat t_3) ((0 : Int), (0 : Int))).1, (List.getD segs_1 (Int.toNat t_3) ((0 : Int), (0 : Int))).2)] : List (Int × Int))), (IntKind.wrap .i64 (x_23 + (List.getD segs_1 (Int.toNat t_3) ((0 : Int), (0 : Int))).1)), (IntKind.wrap .i64 (t_3 + (1 : Int)))) H_88 [(1, 1), (5, 8)] hn (by kernel_rfl) (by kernel_rfl) rfl rfl rfl
    · intro b_26; have H_68 := of_f H_66 b_26
      refine VL_exit ?_
      refine QL_exit ?_
      refine QB_here ?_
      have H_89 := Option.some.inj (show some (Sum.inr (x_22, x_23)) = some q_61 from H_68); subst H_89
      refine VL_nil ?_
      exact QP_end (x_22, x_23) rfl [(1, 1), (5, 5)] hn (by kernel_rfl) (by kernel_rfl) rfl rfl rfl
  · intro y_64 hy; subst hy
    obtain ⟨x_49, x_50⟩ := y_64
    refine V_run hN hn 3 6 [4, 86] [0, 1, 5] ⟨[(4, .c (.h 1)), (86, .c (.val (.bool (decide ((((List.length x_49) : Nat) : Int) > (200 : Int))))))], [(0, .row (.pair (.int .i64) (.int .i64)) segs_1), (1, .box [.h 5, .val (.int .i64 x_50)]), (5, .row (.pair (.int .i64) (.int .i64)) x_49)], 6⟩ [] (by kernel_rfl) rfl rfl ap0 ?_
    refine VL_cond ((decide ((((List.length x_49) : Nat) : Int) > (200 : Int)))) (by kernel_rfl) ?_ ?_
    · intro b_52; have H_90 := of_t H_63 b_52
      refine V_run hN hn 2 6 [2, 3] [0] ⟨[(2, .c (.val (.pointer none))), (3, .c (.val (.int .i64 (70 : Int))))], [(0, .row (.pair (.int .i64) (.int .i64)) segs_1)], 6⟩ [] (by kernel_rfl) rfl rfl ap0 ?_
      have H_92 := Option.some.inj (show some ((none : (Option ((List (Int × Int)) × Int))), (70 : Int)) = some r from H_90); subst H_92
      refine VL_ret ?_
      refine P_ghost [.read 2 (.opt (.pair (.slice (.pair (.int .i64) (.int .i64))) (.int .i64)))] 6 hn [2, 3] [0] ⟨[(2, .c (.imm (.opt (.pair (.slice (.pair (.int .i64) (.int .i64))) (.int .i64))) (none : (Option ((List (Int × Int)) × Int))))), (3, .c (.val (.int .i64 (70 : Int))))], [(0, .row (.pair (.int .i64) (.int .i64)) segs_1)], 6⟩ (by kernel_rfl) rfl rfl ?_
      exact P_to [(2, .c (.imm (.opt (.pair (.slice (.pair (.int .i64) (.int .i64))) (.int .i64))) (none : (Option ((List (Int × Int)) × Int))))), (3, .c (.val (.int .i64 (70 : Int))))] [(0, .row (.pair (.int .i64) (.int .i64)) segs_1)] [] hn (by kernel_rfl) (by kernel_rfl) rfl rfl rfl (QF_retS (by kernel_rfl) (by kernel_rfl) rfl)
    · intro b_52; have H_91 := of_f H_63 b_52
      refine V_run hN hn 3 6 [2, 3] [0, 1, 5] ⟨[(2, .c (.h 1)), (3, .c (.val (.int .i64 (0 : Int))))], [(0, .row (.pair (.int .i64) (.int .i64)) segs_1), (1, .box [.h 5, .val (.int .i64 x_50)]), (5, .row (.pair (.int .i64) (.int .i64)) x_49)], 6⟩ [] (by kernel_rfl) rfl rfl ap0 ?_
      have H_93 := Option.some.inj (show some ((some (x_49, x_50)), (0 : Int)) = some r from H_91); subst H_93
      refine VL_ret ?_
      refine P_ghost [.shut 5, .shutBox 1 (.pair (.slice (.pair (.int .i64) (.int .i64))) (.int .i64)), .read 2 (.opt (.pair (.slice (.pair (.int .i64) (.int .i64))) (.int .i64)))] 6 hn [2, 3] [0] ⟨[(2, .c (.imm (.opt (.pair (.slice (.pair (.int .i64) (.int .i64))) (.int .i64))) (some (x_49, x_50)))), (3, .c (.val (.int .i64 (0 : Int))))], [(0, .row (.pair (.int .i64) (.int .i64)) segs_1)], 6⟩ (by kernel_rfl) rfl rfl ?_
      exact P_to [(2, .c (.imm (.opt (.pair (.slice (.pair (.int .i64) (.int .i64))) (.int .i64))) (some (x_49, x_50)))), (3, .c (.val (.int .i64 (0 : Int))))] [(0, .row (.pair (.int .i64) (.int .i64)) segs_1)] [] hn (by kernel_rfl) (by kernel_rfl) rfl rfl rfl (QF_retS (by kernel_rfl) (by kernel_rfl) rfl)

theorem subset_Of_r_spec (K : Nat) (segs_1 : (List (Int × Int))) (r : ((Option ((List (Int × Int)) × Int)) × Int)) (H : subset_Of_r K segs_1 = some r) : Spec Try.prog 16 1 [.c (.h 0)] [(0, .row (.pair (.int .i64) (.int .i64)) segs_1)] (.tup [(false, [.imm (.opt (.pair (.slice (.pair (.int .i64) (.int .i64))) (.int .i64))) r.1]), (false, [.val (.int .i64 r.2)])]) [(0, .row (.pair (.int .i64) (.int .i64)) segs_1)] := by
  refine Spec_mk (fn := Try.f16) (c := (Try.f16.body).get!) Try.func16 (by kernel_rfl) rfl ?_
  intro C hN hn
  replace hN : C.N = 42 := hN
  unfold subset_Of_r at H
  refine V_run hN hn 5 1 [0, 6, 7, 8] [0] ⟨[(0, .c (.h 0)), (6, .c (.h 0)), (7, .c (.val (.int .i64 (((List.length segs_1) : Nat) : Int)))), (8, .c (.val (.int .i64 (0 : Int))))], [(0, .row (.pair (.int .i64) (.int .i64)) segs_1)], 1⟩ [] (by kernel_rfl) rfl rfl ap0 ?_
  obtain ⟨q_33, H_34, H_35⟩ := of_bind H
  refine V_cut (Y := Unit) (R := (((Option ((List (Int × Int)) × Int)) × Int) ⊕ Unit)) q_33 (fun y => (Sum.inr y)) (fun y => [(0, .c (.h 0))]) (fun y => [(0, .row (.pair (.int .i64) (.int .i64)) segs_1)]) ?_ ?_
  · skip
    refine VL_block ?_
    refine V_to [(0, .c (.h 0)), (6, .c (.h 0)), (7, .c (.val (.int .i64 (((List.length segs_1) : Nat) : Int)))), (8, .c (.val (.int .i64 (0 : Int))))] [(0, .row (.pair (.int .i64) (.int .i64)) segs_1)] [] hn (by kernel_rfl) (by kernel_rfl) rfl rfl rfl ?_
    refine VL_loop (X := Int) (fun x => [(0, .c (.h 0)), (6, .c (.h 0)), (7, .c (.val (.int .i64 (((List.length segs_1) : Nat) : Int)))), (8, .c (.val (.int .i64 x)))]) (fun x => [(0, .row (.pair (.int .i64) (.int .i64)) segs_1)]) (fun k x => subset_Of_r.l0 K segs_1 k x = some q_33) K (0 : Int) H_34 (fun _ h => no_none h) ?_
    intro k_4 t_3 H_37
    have H_38 : subset_Of_r.l0 K segs_1 (k_4 + 1) t_3 = some q_33 := H_37
    rw [subset_Of_r.l0] at H_38
    refine V_run hN hn 3 1 [0, 6, 7, 8, 9] [0] ⟨[(0, .c (.h 0)), (6, .c (.h 0)), (7, .c (.val (.int .i64 (((List.length segs_1) : Nat) : Int)))), (8, .c (.val (.int .i64 t_3))), (9, .c (.val (.bool (decide (t_3 < (((List.length segs_1) : Nat) : Int))))))], [(0, .row (.pair (.int .i64) (.int .i64)) segs_1)], 1⟩ [] (by kernel_rfl) rfl rfl ap0 ?_
    refine VL_cond ((decide (t_3 < (((List.length segs_1) : Nat) : Int)))) (by kernel_rfl) ?_ ?_
    · intro b_6; have H_39 := of_t H_38 b_6
      refine V_run hN hn 2 1 [0, 6, 7, 8, 9] [0] ⟨[(0, .c (.h 0)), (6, .c (.h 0)), (7, .c (.val (.int .i64 (((List.length segs_1) : Nat) : Int)))), (8, .c (.val (.int .i64 t_3))), (9, .c (.val (.bool (decide (t_3 < (((List.length segs_1) : Nat) : Int))))))], [(0, .row (.pair (.int .i64) (.int .i64)) segs_1)], 1⟩ [] (by kernel_rfl) rfl rfl ap0 ?_
      refine VL_block ?_
      obtain ⟨c_8, H_41⟩ := of_if H_39
      refine V_run hN hn 3 1 [0, 4, 5, 6, 7, 8] [0, 1] ⟨[(0, .c (.h 0)), (4, .c (.val (.int .i64 t_3))), (5, .c (.h 1)), (6, .c (.h 0)), (7, .c (.val (.int .i64 (((List.length segs_1) : Nat) : Int)))), (8, .c (.val (.int .i64 t_3)))], [(0, .row (.pair (.int .i64) (.int .i64)) segs_1), (1, .box [.val (.int .i64 (List.getD segs_1 (Int.toNat t_3) ((0 : Int), (0 : Int))).1), .val (.int .i64 (List.getD segs_1 (Int.toNat t_3) ((0 : Int), (0 : Int))).2)])], 2⟩ [0 ≤ t_3, t_3 < (((List.length segs_1) : Nat) : Int)] (by kernel_rfl) rfl rfl (ap2 c_8.1 (ap1 c_8.2)) ?_
      obtain ⟨q_42, H_43, H_44⟩ := of_bind H_41
      refine V_cut (Y := Bool) (R := Bool) q_42 (fun y => y) (fun y => [(0, .c (.h 0)), (6, .c (.h 0)), (7, .c (.val (.int .i64 (((List.length segs_1) : Nat) : Int)))), (8, .c (.val (.int .i64 t_3))), (36, .c (.val (.bool y)))]) (fun y => [(0, .row (.pair (.int .i64) (.int .i64)) segs_1)]) ?_ ?_
      · skip
        rcases Bool.eq_false_or_eq_true ((decide ((List.getD segs_1 (Int.toNat t_3) ((0 : Int), (0 : Int))).1 < (1 : Int)))) with b_9 | b_9
        · have H_46 := of_t H_43 b_9
          refine V_draw hN hn (by kernel_rfl) [] [(16, true)] calls_nil 2 [0, 6, 7, 8, 36] [0] ⟨[(0, .c (.h 0)), (6, .c (.h 0)), (7, .c (.val (.int .i64 (((List.length segs_1) : Nat) : Int)))), (8, .c (.val (.int .i64 t_3))), (36, .c (.val (.bool true)))], [(0, .row (.pair (.int .i64) (.int .i64)) segs_1)], 2⟩ [(decide ((List.getD segs_1 (Int.toNat t_3) ((0 : Int), (0 : Int))).1 < (1 : Int))) = true] (by kernel_rfl) rfl rfl (ap1 b_9) (by kernel_rfl) (by kernel_rfl) ?_
          have H_48 := Option.some.inj (show some true = some q_42 from H_46); subst H_48
          refine VL_nil ?_
          exact QP_end true rfl [] hn (by kernel_rfl) (by kernel_rfl) rfl rfl rfl
        · have H_47 := of_f H_43 b_9
          obtain ⟨r_11, h_12, H_49⟩ := of_bind H_47
          rcases Bool.eq_false_or_eq_true ((!r_11)) with b_13 | b_13
          · have H_50 := of_t H_49 b_13
            refine V_draw hN hn (by kernel_rfl) [(6, ⟨41, 0, [.c (.val (.int .i64 (List.getD segs_1 (Int.toNat t_3) ((0 : Int), (0 : Int))).2))], [], .c (.val (.bool r_11)), [], [], 2⟩)] [(16, false), (22, true)] (calls_cons (subset_isCount_spec K (List.getD segs_1 (Int.toNat t_3) ((0 : Int), (0 : Int))).2 r_11 h_12) (by kernel_rfl) calls_nil) 2 [0, 6, 7, 8, 36] [0] ⟨[(0, .c (.h 0)), (6, .c (.h 0)), (7, .c (.val (.int .i64 (((List.length segs_1) : Nat) : Int)))), (8, .c (.val (.int .i64 t_3))), (36, .c (.val (.bool true)))], [(0, .row (.pair (.int .i64) (.int .i64)) segs_1)], 2⟩ [(decide ((List.getD segs_1 (Int.toNat t_3) ((0 : Int), (0 : Int))).1 < (1 : Int))) = false, (!r_11) = true] (by kernel_rfl) rfl rfl (ap2 b_9 (ap1 b_13)) (by kernel_rfl) (by kernel_rfl) ?_
            have H_52 := Option.some.inj (show some true = some q_42 from H_50); subst H_52
            refine VL_nil ?_
            exact QP_end true rfl [] hn (by kernel_rfl) (by kernel_rfl) rfl rfl rfl
          · have H_51 := of_f H_49 b_13
            rcases Bool.eq_false_or_eq_true ((decide (t_3 > (0 : Int)))) with b_15 | b_15
            · have H_53 := of_t H_51 b_15
              obtain ⟨c_16, H_55⟩ := of_if H_53
              refine V_draw hN hn (by kernel_rfl) [(6, ⟨41, 0, [.c (.val (.int .i64 (List.getD segs_1 (Int.toNat t_3) ((0 : Int), (0 : Int))).2))], [], .c (.val (.bool r_11)), [], [], 2⟩)] [(16, false), (22, false), (25, true)] (calls_cons (subset_isCount_spec K (List.getD segs_1 (Int.toNat t_3) ((0 : Int), (0 : Int))).2 r_11 h_12) (by kernel_rfl) calls_nil) 2 [0, 6, 7, 8, 36] [0] ⟨[(0, .c (.h 0)), (6, .c (.h 0)), (7, .c (.val (.int .i64 (((List.length segs_1) : Nat) : Int)))), (8, .c (.val (.int .i64 t_3))), (36, .c (.val (.bool ((List.getD segs_1 (Int.toNat t_3) ((0 : Int), (0 : Int))).2 == (List.getD segs_1 (Int.toNat (IntKind.wrap .i64 (t_3 - (1 : Int)))) ((0 : Int), (0 : Int))).2))))], [(0, .row (.pair (.int .i64) (.int .i64)) segs_1)], 2⟩ [(decide ((List.getD segs_1 (Int.toNat t_3) ((0 : Int), (0 : Int))).1 < (1 : Int))) = false, (!r_11) = false, (decide (t_3 > (0 : Int))) = true, 0 ≤ (IntKind.wrap .i64 (t_3 - (1 : Int))), (IntKind.wrap .i64 (t_3 - (1 : Int))) < (((List.length segs_1) : Nat) : Int)] (by kernel_rfl) rfl rfl (ap2 b_9 (ap2 b_13 (ap2 b_15 (ap2 c_16.1 (ap1 c_16.2))))) (by kernel_rfl) (by kernel_rfl) ?_
              have H_56 := Option.some.inj (show some ((List.getD segs_1 (Int.toNat t_3) ((0 : Int), (0 : Int))).2 == (List.getD segs_1 (Int.toNat (IntKind.wrap .i64 (t_3 - (1 : Int)))) ((0 : Int), (0 : Int))).2) = some q_42 from H_55); subst H_56
              refine VL_nil ?_
              exact QP_end ((List.getD segs_1 (Int.toNat t_3) ((0 : Int), (0 : Int))).2 == (List.getD segs_1 (Int.toNat (IntKind.wrap .i64 (t_3 - (1 : Int)))) ((0 : Int), (0 : Int))).2) rfl [] hn (by kernel_rfl) (by kernel_rfl) rfl rfl rfl
            · have H_54 := of_f H_51 b_15
              refine V_draw hN hn (by kernel_rfl) [(6, ⟨41, 0, [.c (.val (.int .i64 (List.getD segs_1 (Int.toNat t_3) ((0 : Int), (0 : Int))).2))], [], .c (.val (.bool r_11)), [], [], 2⟩)] [(16, false), (22, false), (25, false)] (calls_cons (subset_isCount_spec K (List.getD segs_1 (Int.toNat t_3) ((0 : Int), (0 : Int))).2 r_11 h_12) (by kernel_rfl) calls_nil) 2 [0, 6, 7, 8, 36] [0] ⟨[(0, .c (.h 0)), (6, .c (.h 0)), (7, .c (.val (.int .i64 (((List.length segs_1) : Nat) : Int)))), (8, .c (.val (.int .i64 t_3))), (36, .c (.val (.bool false)))], [(0, .row (.pair (.int .i64) (.int .i64)) segs_1)], 2⟩ [(decide ((List.getD segs_1 (Int.toNat t_3) ((0 : Int), (0 : Int))).1 < (1 : Int))) = false, (!r_11) = false, (decide (t_3 > (0 : Int))) = false] (by kernel_rfl) rfl rfl (ap2 b_9 (ap2 b_13 (ap1 b_15))) (by kernel_rfl) (by kernel_rfl) ?_
              have H_57 := Option.some.inj (show some false = some q_42 from H_54); subst H_57
              refine VL_nil ?_
              exact QP_end false rfl [] hn (by kernel_rfl) (by kernel_rfl) rfl rfl rfl
      · intro y_45 hy; subst hy
        skip
        skip
        refine VL_cond (y_45) (by kernel_rfl) ?_ ?_
        · intro b_19; have H_58 := of_t H_44 b_19
          refine V_run hN hn 2 2 [2, 3] [0] ⟨[(2, .c (.val (.pointer none))), (3, .c (.val (.int .i64 (12 : Int))))], [(0, .row (.pair (.int .i64) (.int .i64)) segs_1)], 2⟩ [] (by kernel_rfl) rfl rfl ap0 ?_
          have H_60 := Option.some.inj (show some (Sum.inl ((none : (Option ((List (Int × Int)) × Int))), (12 : Int))) = some q_33 from H_58); subst H_60
          have H_61 := Option.some.inj (show some ((none : (Option ((List (Int × Int)) × Int))), (12 : Int)) = some r from H_35); subst H_61
          refine VL_ret ?_
          refine QB_ret ?_
          refine QL_ret ?_
          refine QB_ret ?_
          refine QP_ret ?_
          refine P_ghost [.read 2 (.opt (.pair (.slice (.pair (.int .i64) (.int .i64))) (.int .i64)))] 2 hn [2, 3] [0] ⟨[(2, .c (.imm (.opt (.pair (.slice (.pair (.int .i64) (.int .i64))) (.int .i64))) (none : (Option ((List (Int × Int)) × Int))))), (3, .c (.val (.int .i64 (12 : Int))))], [(0, .row (.pair (.int .i64) (.int .i64)) segs_1)], 2⟩ (by kernel_rfl) rfl rfl ?_
          exact P_to [(2, .c (.imm (.opt (.pair (.slice (.pair (.int .i64) (.int .i64))) (.int .i64))) (none : (Option ((List (Int × Int)) × Int))))), (3, .c (.val (.int .i64 (12 : Int))))] [(0, .row (.pair (.int .i64) (.int .i64)) segs_1)] [] hn (by kernel_rfl) (by kernel_rfl) rfl rfl rfl (QF_retS (by kernel_rfl) (by kernel_rfl) rfl)
        · intro b_19; have H_59 := of_f H_44 b_19
          refine V_run hN hn 1 2 [0, 6, 7, 8, 36] [0] ⟨[(0, .c (.h 0)), (6, .c (.h 0)), (7, .c (.val (.int .i64 (((List.length segs_1) : Nat) : Int)))), (8, .c (.val (.int .i64 t_3))), (36, .c (.val (.bool y_45)))], [(0, .row (.pair (.int .i64) (.int .i64)) segs_1)], 2⟩ [] (by kernel_rfl) rfl rfl ap0 ?_
          refine VL_nil (QB_end ?_)
          refine V_run hN hn 1 2 [0, 6, 7, 8] [0] ⟨[(0, .c (.h 0)), (6, .c (.h 0)), (7, .c (.val (.int .i64 (((List.length segs_1) : Nat) : Int)))), (8, .c (.val (.int .i64 (IntKind.wrap .i64 (t_3 + (1 : Int))))))], [(0, .row (.pair (.int .i64) (.int .i64)) segs_1)], 2⟩ [] (by kernel_rfl) rfl rfl ap0 ?_
          refine VL_nil ?_
          exact V_roundEnd (IntKind.wrap .i64 (t_3 + (1 : Int))) H_59 [] hn (by kernel_rfl) (by kernel_rfl) rfl rfl rfl
    · intro b_6; have H_40 := of_f H_38 b_6
      refine VL_exit ?_
      refine QL_exit ?_
      refine QB_here ?_
      have H_62 := Option.some.inj (show some (Sum.inr ()) = some q_33 from H_40); subst H_62
      refine VL_nil ?_
      exact QP_end () rfl [] hn (by kernel_rfl) (by kernel_rfl) rfl rfl rfl
  · intro y_36 hy; subst hy
    skip
    refine V_run hN hn 1 1 [0] [0] ⟨[(0, .c (.h 0))], [(0, .row (.pair (.int .i64) (.int .i64)) segs_1)], 1⟩ [] (by kernel_rfl) rfl rfl ap0 ?_
    obtain ⟨r_24, h_25, H_63⟩ := of_bind H_35
    refine V_reg hN hn [(1, ⟨40, 1, [.c (.h 0)], [(0, .row (.pair (.int .i64) (.int .i64)) segs_1)], .tup [(false, [.imm (.opt (.pair (.slice (.pair (.int .i64) (.int .i64))) (.int .i64))) r_24.1]), (false, [.val (.int .i64 r_24.2)])], [(0, .row (.pair (.int .i64) (.int .i64)) segs_1)], [(0, 0)], 1⟩)] [] (calls_cons (subset_Pack_r_spec K segs_1 r_24 h_25) (by kernel_rfl) calls_nil) 1 [2, 3] [0] ⟨[(2, .c (.imm (.opt (.pair (.slice (.pair (.int .i64) (.int .i64))) (.int .i64))) r_24.1)), (3, .c (.val (.int .i64 r_24.2)))], [(0, .row (.pair (.int .i64) (.int .i64)) segs_1)], 1⟩ [] (by kernel_rfl) rfl rfl ap0 (by kernel_rfl) (by kernel_rfl) ?_
    have H_64 := Option.some.inj (show some (r_24.1, r_24.2) = some r from H_63); subst H_64
    refine VL_ret ?_
    exact P_to [(2, .c (.imm (.opt (.pair (.slice (.pair (.int .i64) (.int .i64))) (.int .i64))) r_24.1)), (3, .c (.val (.int .i64 r_24.2)))] [(0, .row (.pair (.int .i64) (.int .i64)) segs_1)] [] hn (by kernel_rfl) (by kernel_rfl) rfl rfl rfl (QF_retS (by kernel_rfl) (by kernel_rfl) rfl)

theorem subset_Subset_part_spec (K : Nat) (s_1 : (Option ((List (Int × Int)) × Int))) (from_2 : Int) (to_3 : Int) (r : (List (Int × Int))) (H : subset_Subset_part K s_1 from_2 to_3 = some r) : Spec Try.prog 42 0 [.c (.imm (.opt (.pair (.slice (.pair (.int .i64) (.int .i64))) (.int .i64))) s_1), .c (.val (.int .i64 from_2)), .c (.val (.int .i64 to_3))] [] (.c (.h 4)) [(4, .row (.pair (.int .i64) (.int .i64)) r)] := by
  refine Spec_mk (fn := Try.f42) (c := (Try.f42.body).get!) Try.func42 (by kernel_rfl) rfl ?_
  intro C hN hn
  replace hN : C.N = 49 := hN
  unfold subset_Subset_part at H
  obtain ⟨c_4, H_35⟩ := of_if H
  refine V_run hN hn 9 0 [1, 2, 7, 8, 16, 17, 18] [] ⟨[(1, .c (.val (.int .i64 from_2))), (2, .c (.val (.int .i64 to_3))), (7, .c (.val (.slice none 0 0))), (8, .c (.val (.int .i64 (0 : Int)))), (16, .c (.imm (.slice (.pair (.int .i64) (.int .i64))) (Option.getD s_1 (([] : (List (Int × Int))), (0 : Int))).1)), (17, .c (.val (.int .i64 (((List.length (Option.getD s_1 (([] : (List (Int × Int))), (0 : Int))).1) : Nat) : Int)))), (18, .c (.val (.int .i64 (0 : Int))))], [], 0⟩ [Option.isSome s_1 = true] (by kernel_rfl) rfl rfl (ap1 c_4) ?_
  refine VL_block ?_
  refine V_ghost [.nilSlot 7 (.pair (.int .i64) (.int .i64))] 0 hn [1, 2, 7, 8, 16, 17, 18] [0] ⟨[(1, .c (.val (.int .i64 from_2))), (2, .c (.val (.int .i64 to_3))), (7, .c (.h 0)), (8, .c (.val (.int .i64 (0 : Int)))), (16, .c (.imm (.slice (.pair (.int .i64) (.int .i64))) (Option.getD s_1 (([] : (List (Int × Int))), (0 : Int))).1)), (17, .c (.val (.int .i64 (((List.length (Option.getD s_1 (([] : (List (Int × Int))), (0 : Int))).1) : Nat) : Int)))), (18, .c (.val (.int .i64 (0 : Int))))], [(0, .row (.pair (.int .i64) (.int .i64)) ([] : List (Int × Int)))], 1⟩ (by kernel_rfl) rfl rfl ?_
  refine V_to [(1, .c (.val (.int .i64 from_2))), (2, .c (.val (.int .i64 to_3))), (7, .c (.h 4)), (8, .c (.val (.int .i64 (0 : Int)))), (16, .c (.imm (.slice (.pair (.int .i64) (.int .i64))) (Option.getD s_1 (([] : (List (Int × Int))), (0 : Int))).1)), (17, .c (.val (.int .i64 (((List.length (Option.getD s_1 (([] : (List (Int × Int))), (0 : Int))).1) : Nat) : Int)))), (18, .c (.val (.int .i64 (0 : Int))))] [(4, .row (.pair (.int .i64) (.int .i64)) ([] : List (Int × Int)))] [(4, 0)] hn (by kernel_rfl) (by kernel_rfl) rfl rfl rfl ?_
  refine VL_loop (X := ((List (Int × Int)) × Int × Int)) (fun x => [(1, .c (.val (.int .i64 from_2))), (2, .c (.val (.int .i64 to_3))), (7, .c (.h 4)), (8, .c (.val (.int .i64 x.2.1))), (16, .c (.imm (.slice (.pair (.int .i64) (.int .i64))) (Option.getD s_1 (([] : (List (Int × Int))), (0 : Int))).1)), (17, .c (.val (.int .i64 (((List.length (Option.getD s_1 (([] : (List (Int × Int))), (0 : Int))).1) : Nat) : Int)))), (18, .c (.val (.int .i64 x.2.2)))]) (fun x => [(4, .row (.pair (.int .i64) (.int .i64)) x.1)]) (fun k x => subset_Subset_part.l0 K s_1 from_2 to_3 k x.1 x.2.1 x.2.2 = some r) K (([] : List (Int × Int)), (0 : Int), (0 : Int)) H_35 (fun _ h => no_none h) ?_
  intro k_21 x_21 H_36
  obtain ⟨out_20, at_5, t_6⟩ := x_21
  have H_37 : subset_Subset_part.l0 K s_1 from_2 to_3 (k_21 + 1) out_20 at_5 t_6 = some r := H_36
  rw [subset_Subset_part.l0] at H_37
  refine V_run hN hn 3 5 [1, 2, 7, 8, 16, 17, 18, 19] [4] ⟨[(1, .c (.val (.int .i64 from_2))), (2, .c (.val (.int .i64 to_3))), (7, .c (.h 4)), (8, .c (.val (.int .i64 at_5))), (16, .c (.imm (.slice (.pair (.int .i64) (.int .i64))) (Option.getD s_1 (([] : (List (Int × Int))), (0 : Int))).1)), (17, .c (.val (.int .i64 (((List.length (Option.getD s_1 (([] : (List (Int × Int))), (0 : Int))).1) : Nat) : Int)))), (18, .c (.val (.int .i64 t_6))), (19, .c (.val (.bool (decide (t_6 < (((List.length (Option.getD s_1 (([] : (List (Int × Int))), (0 : Int))).1) : Nat) : Int))))))], [(4, .row (.pair (.int .i64) (.int .i64)) out_20)], 5⟩ [] (by kernel_rfl) rfl rfl ap0 ?_
  refine VL_cond ((decide (t_6 < (((List.length (Option.getD s_1 (([] : (List (Int × Int))), (0 : Int))).1) : Nat) : Int)))) (by kernel_rfl) ?_ ?_
  · intro b_23; have H_38 := of_t H_37 b_23
    refine V_run hN hn 2 5 [1, 2, 7, 8, 16, 17, 18, 19] [4] ⟨[(1, .c (.val (.int .i64 from_2))), (2, .c (.val (.int .i64 to_3))), (7, .c (.h 4)), (8, .c (.val (.int .i64 at_5))), (16, .c (.imm (.slice (.pair (.int .i64) (.int .i64))) (Option.getD s_1 (([] : (List (Int × Int))), (0 : Int))).1)), (17, .c (.val (.int .i64 (((List.length (Option.getD s_1 (([] : (List (Int × Int))), (0 : Int))).1) : Nat) : Int)))), (18, .c (.val (.int .i64 t_6))), (19, .c (.val (.bool (decide (t_6 < (((List.length (Option.getD s_1 (([] : (List (Int × Int))), (0 : Int))).1) : Nat) : Int))))))], [(4, .row (.pair (.int .i64) (.int .i64)) out_20)], 5⟩ [] (by kernel_rfl) rfl rfl ap0 ?_
    refine VL_block ?_
    obtain ⟨c_25, H_40⟩ := of_if H_38
    refine V_run hN hn 3 5 [1, 2, 7, 8, 10, 16, 17, 18] [4, 5] ⟨[(1, .c (.val (.int .i64 from_2))), (2, .c (.val (.int .i64 to_3))), (7, .c (.h 4)), (8, .c (.val (.int .i64 at_5))), (10, .c (.h 5)), (16, .c (.imm (.slice (.pair (.int .i64) (.int .i64))) (Option.getD s_1 (([] : (List (Int × Int))), (0 : Int))).1)), (17, .c (.val (.int .i64 (((List.length (Option.getD s_1 (([] : (List (Int × Int))), (0 : Int))).1) : Nat) : Int)))), (18, .c (.val (.int .i64 t_6)))], [(4, .row (.pair (.int .i64) (.int .i64)) out_20), (5, .box [.val (.int .i64 (List.getD (Option.getD s_1 (([] : (List (Int × Int))), (0 : Int))).1 (Int.toNat t_6) ((0 : Int), (0 : Int))).1), .val (.int .i64 (List.getD (Option.getD s_1 (([] : (List (Int × Int))), (0 : Int))).1 (Int.toNat t_6) ((0 : Int), (0 : Int))).2)])], 6⟩ [0 ≤ t_6, t_6 < (((List.length (Option.getD s_1 (([] : (List (Int × Int))), (0 : Int))).1) : Nat) : Int)] (by kernel_rfl) rfl rfl (ap2 c_25.1 (ap1 c_25.2)) ?_
    refine V_draw hN hn (by kernel_rfl) [] [] calls_nil 6 [1, 2, 7, 8, 10, 11, 12, 16, 17, 18] [4, 5] ⟨[(1, .c (.val (.int .i64 from_2))), (2, .c (.val (.int .i64 to_3))), (7, .c (.h 4)), (8, .c (.val (.int .i64 at_5))), (10, .c (.h 5)), (11, .c (.val (.int .i64 (mx2 at_5 from_2)))), (12, .c (.val (.int .i64 (mn2 (IntKind.wrap .i64 (at_5 + (List.getD (Option.getD s_1 (([] : (List (Int × Int))), (0 : Int))).1 (Int.toNat t_6) ((0 : Int), (0 : Int))).1)) to_3)))), (16, .c (.imm (.slice (.pair (.int .i64) (.int .i64))) (Option.getD s_1 (([] : (List (Int × Int))), (0 : Int))).1)), (17, .c (.val (.int .i64 (((List.length (Option.getD s_1 (([] : (List (Int × Int))), (0 : Int))).1) : Nat) : Int)))), (18, .c (.val (.int .i64 t_6)))], [(4, .row (.pair (.int .i64) (.int .i64)) out_20), (5, .box [.val (.int .i64 (List.getD (Option.getD s_1 (([] : (List (Int × Int))), (0 : Int))).1 (Int.toNat t_6) ((0 : Int), (0 : Int))).1), .val (.int .i64 (List.getD (Option.getD s_1 (([] : (List (Int × Int))), (0 : Int))).1 (Int.toNat t_6) ((0 : Int), (0 : Int))).2)])], 6⟩ [] (by kernel_rfl) rfl rfl ap0 (by kernel_rfl) (by kernel_rfl) ?_
    refine V_run hN hn 3 6 [1, 2, 7, 8, 10, 11, 12, 16, 17, 18, 33] [4, 5] ⟨[(1, .c (.val (.int .i64 from_2))), (2, .c (.val (.int .i64 to_3))), (7, .c (.h 4)), (8, .c (.val (.int .i64 at_5))), (10, .c (.h 5)), (11, .c (.val (.int .i64 (mx2 at_5 from_2)))), (12, .c (.val (.int .i64 (mn2 (IntKind.wrap .i64 (at_5 + (List.getD (Option.getD s_1 (([] : (List (Int × Int))), (0 : Int))).1 (Int.toNat t_6) ((0 : Int), (0 : Int))).1)) to_3)))), (16, .c (.imm (.slice (.pair (.int .i64) (.int .i64))) (Option.getD s_1 (([] : (List (Int × Int))), (0 : Int))).1)), (17, .c (.val (.int .i64 (((List.length (Option.getD s_1 (([] : (List (Int × Int))), (0 : Int))).1) : Nat) : Int)))), (18, .c (.val (.int .i64 t_6))), (33, .c (.val (.bool (decide ((mx2 at_5 from_2) < (mn2 (IntKind.wrap .i64 (at_5 + (List.getD (Option.getD s_1 (([] : (List (Int × Int))), (0 : Int))).1 (Int.toNat t_6) ((0 : Int), (0 : Int))).1)) to_3))))))], [(4, .row (.pair (.int .i64) (.int .i64)) out_20), (5, .box [.val (.int .i64 (List.getD (Option.getD s_1 (([] : (List (Int × Int))), (0 : Int))).1 (Int.toNat t_6) ((0 : Int), (0 : Int))).1), .val (.int .i64 (List.getD (Option.getD s_1 (([] : (List (Int × Int))), (0 : Int))).1 (Int.toNat t_6) ((0 : Int), (0 : Int))).2)])], 6⟩ [] (by kernel_rfl) rfl rfl ap0 ?_
    refine VL_cond ((decide ((mx2 at_5 from_2) < (mn2 (IntKind.wrap .i64 (at_5 + (List.getD (Option.getD s_1 (([] : (List (Int × Int))), (0 : Int))).1 (Int.toNat t_6) ((0 : Int), (0 : Int))).1)) to_3)))) (by kernel_rfl) ?_ ?_
    · intro b_28; have H_41 := of_t H_40 b_28
      obtain ⟨c_29, H_43⟩ := of_if H_41
      refine V_run hN hn 2 6 [1, 2, 7, 8, 16, 17, 18] [7] ⟨[(1, .c (.val (.int .i64 from_2))), (2, .c (.val (.int .i64 to_3))), (7, .c (.h 7)), (8, .c (.val (.int .i64 (IntKind.wrap .i64 (at_5 + (List.getD (Option.getD s_1 (([] : (List (Int × Int))), (0 : Int))).1 (Int.toNat t_6) ((0 : Int), (0 : Int))).1))))), (16, .c (.imm (.slice (.pair (.int .i64) (.int .i64))) (Option.getD s_1 (([] : (List (Int × Int))), (0 : Int))).1)), (17, .c (.val (.int .i64 (((List.length (Option.getD s_1 (([] : (List (Int × Int))), (0 : Int))).1) : Nat) : Int)))), (18, .c (.val (.int .i64 t_6)))], [(7, .row (.pair (.int .i64) (.int .i64)) (out_20 ++ ([((IntKind.wrap .i64 ((mn2 (IntKind.wrap .i64 (at_5 + (List.getD (Option.getD s_1 (([] : (List (Int × Int))), (0 : Int))).1 (Int.toNat t_6) ((0 : Int), (0 : Int))).1)) to_3) - (mx2 at_5 from_2))), (List.getD (Option.getD s_1 (([] : (List (Int × Int))), (0 : Int))).1 (Int.toNat t_6) ((0 : Int), (0 : Int))).2)] : List (Int × Int))))], 8⟩ [(List.length out_20 + List.length ([((IntKind.wrap .i64 ((mn2 (IntKind.wrap .i64 (at_5 + (List.getD (Option.getD s_1 (([] : (List (Int × Int))), (0 : Int))).1 (Int.toNat t_6) ((0 : Int), (0 : Int))).1)) to_3) - (mx2 at_5 from_2))), (List.getD (Option.getD s_1 (([] : (List (Int × Int))), (0 : Int))).1 (Int.toNat t_6) ((0 : Int), (0 : Int))).2)] : List (Int × Int))) * 16 ≤ 140737488355328] (by kernel_rfl) rfl rfl (ap1 c_29) ?_
      refine VL_nil (QB_end ?_)
      refine V_run hN hn 1 8 [1, 2, 7, 8, 16, 17, 18] [7] ⟨[(1, .c (.val (.int .i64 from_2))), (2, .c (.val (.int .i64 to_3))), (7, .c (.h 7)), (8, .c (.val (.int .i64 (IntKind.wrap .i64 (at_5 + (List.getD (Option.getD s_1 (([] : (List (Int × Int))), (0 : Int))).1 (Int.toNat t_6) ((0 : Int), (0 : Int))).1))))), (16, .c (.imm (.slice (.pair (.int .i64) (.int .i64))) (Option.getD s_1 (([] : (List (Int × Int))), (0 : Int))).1)), (17, .c (.val (.int .i64 (((List.length (Option.getD s_1 (([] : (List (Int × Int))), (0 : Int))).1) : Nat) : Int)))), (18, .c (.val (.int .i64 (IntKind.wrap .i64 (t_6 + (1 : Int))))))], [(7, .row (.pair (.int .i64) (.int .i64)) (out_20 ++ ([((IntKind.wrap .i64 ((mn2 (IntKind.wrap .i64 (at_5 + (List.getD (Option.getD s_1 (([] : (List (Int × Int))), (0 : Int))).1 (Int.toNat t_6) ((0 : Int), (0 : Int))).1)) to_3) - (mx2 at_5 from_2))), (List.getD (Option.getD s_1 (([] : (List (Int × Int))), (0 : Int))).1 (Int.toNat t_6) ((0 : Int), (0 : Int))).2)] : List (Int × Int))))], 8⟩ [] (by kernel_rfl) rfl rfl ap0 ?_
      refine VL_nil ?_
      exact V_roundEnd ((out_20 ++ ([((IntKind.wrap .i64 ((mn2 (IntKind.wrap .i64 (at_5 + (List.getD (Option.getD s_1 (([] : (List (Int × Int))), (0 : Int))).1 (Int.toNat t_6) ((0 : Int), (0 : Int))).1)) to_3) - (mx2 at_5 from_2))), (List.getD (Option.getD s_1 (([] : (List (Int × Int))), (0 : Int))).1 (Int.toNat t_6) ((0 : Int), (0 : Int))).2)] : List (Int × Int))), (IntKind.wrap .i64 (at_5 + (List.getD (Option.getD s_1 (([] : (List (Int × Int))), (0 : Int))).1 (Int.toNat t_6) ((0 : Int), (0 : Int))).1)), (IntKind.wrap .i64 (t_6 + (1 : Int)))) H_43 [(4, 7)] hn (by kernel_rfl) (by kernel_rfl) rfl rfl rfl
    · intro b_28; have H_42 := of_f H_40 b_28
      refine V_run hN hn 2 6 [1, 2, 7, 8, 16, 17, 18] [4] ⟨[(1, .c (.val (.int .i64 from_2))), (2, .c (.val (.int .i64 to_3))), (7, .c (.h 4)), (8, .c (.val (.int .i64 (IntKind.wrap .i64 (at_5 + (List.getD (Option.getD s_1 (([] : (List (Int × Int))), (0 : Int))).1 (Int.toNat t_6) ((0 : Int), (0 : Int))).1))))), (16, .c (.imm (.slice (.pair (.int .i64) (.int .i64))) (Option.getD s_1 (([] : (List (Int × Int))), (0 : Int))).1)), (17, .c (.val (.int .i64 (((List.length (Option.getD s_1 (([] : (List (Int × Int))), (0 : Int))).1) : Nat) : Int)))), (18, .c (.val (.int .i64 t_6)))], [(4, .row (.pair (.int .i64) (.int .i64)) out_20)], 6⟩ [] (by kernel_rfl) rfl rfl ap0 ?_
      refine VL_nil (QB_end ?_)
      refine V_run hN hn 1 6 [1, 2, 7, 8, 16, 17, 18] [4] ⟨[(1, .c (.val (.int .i64 from_2))), (2, .c (.val (.int .i64 to_3))), (7, .c (.h 4)), (8, .c (.val (.int .i64 (IntKind.wrap .i64 (at_5 + (List.getD (Option.getD s_1 (([] : (List (Int × Int))), (0 : Int))).1 (Int.toNat t_6) ((0 : Int), (0 : Int))).1))))), (16, .c (.imm (.slice (.pair (.int .i64) (.int .i64))) (Option.getD s_1 (([] : (List (Int × Int))), (0 : Int))).1)), (17, .c (.val (.int .i64 (((List.length (Option.getD s_1 (([] : (List (Int × Int))), (0 : Int))).1) : Nat) : Int)))), (18, .c (.val (.int .i64 (IntKind.wrap .i64 (t_6 + (1 : Int))))))], [(4, .row (.pair (.int .i64) (.int .i64)) out_20)], 6⟩ [] (by kernel_rfl) rfl rfl ap0 ?_
      refine VL_nil ?_
      exact V_roundEnd (out_20, (IntKind.wrap .i64 (at_5 + (List.getD (Option.getD s_1 (([] : (List (Int × Int))), (0 : Int))).1 (Int.toNat t_6) ((0 : Int), (0 : Int))).1)), (IntKind.wrap .i64 (t_6 + (1 : Int)))) H_42 [(4, 4)] hn (by kernel_rfl) (by kernel_rfl) rfl rfl rfl
  · intro b_23; have H_39 := of_f H_37 b_23
    refine VL_exit ?_
    refine QL_exit ?_
    refine QB_here ?_
    refine V_run hN hn 2 5 [6] [4] ⟨[(6, .c (.h 4))], [(4, .row (.pair (.int .i64) (.int .i64)) out_20)], 5⟩ [] (by kernel_rfl) rfl rfl ap0 ?_
    have H_44 := Option.some.inj (show some out_20 = some r from H_39); subst H_44
    refine VL_ret ?_
    exact P_to [(6, .c (.h 4))] [(4, .row (.pair (.int .i64) (.int .i64)) out_20)] [(4, 4)] hn (by kernel_rfl) (by kernel_rfl) rfl rfl rfl (QF_retS (by kernel_rfl) (by kernel_rfl) rfl)

theorem subset_Subset_With_spec (K : Nat) (s_1 : (Option ((List (Int × Int)) × Int))) (from_2 : Int) (to_3 : Int) (count_4 : Int) (r : ((Option ((List (Int × Int)) × Int)) × Int)) (H : subset_Subset_With K s_1 from_2 to_3 count_4 = some r) : Spec Try.prog 14 0 [.c (.imm (.opt (.pair (.slice (.pair (.int .i64) (.int .i64))) (.int .i64))) s_1), .c (.val (.int .i64 from_2)), .c (.val (.int .i64 to_3)), .c (.val (.int .i64 count_4))] [] (.tup [(false, [.imm (.opt (.pair (.slice (.pair (.int .i64) (.int .i64))) (.int .i64))) r.1]), (false, [.val (.int .i64 r.2)])]) [] := by
  refine Spec_mk (fn := Try.f14) (c := (Try.f14.body).get!) Try.func14 (by kernel_rfl) rfl ?_
  intro C hN hn
  replace hN : C.N = 53 := hN
  unfold subset_Subset_With at H
  refine V_run hN hn 3 0 [0, 1, 2, 3] [] ⟨[(0, .c (.imm (.opt (.pair (.slice (.pair (.int .i64) (.int .i64))) (.int .i64))) s_1)), (1, .c (.val (.int .i64 from_2))), (2, .c (.val (.int .i64 to_3))), (3, .c (.val (.int .i64 count_4)))], [], 0⟩ [] (by kernel_rfl) rfl rfl ap0 ?_
  refine VL_block ?_
  refine V_run hN hn 1 0 [0, 1, 2, 3] [] ⟨[(0, .c (.imm (.opt (.pair (.slice (.pair (.int .i64) (.int .i64))) (.int .i64))) s_1)), (1, .c (.val (.int .i64 from_2))), (2, .c (.val (.int .i64 to_3))), (3, .c (.val (.int .i64 count_4)))], [], 0⟩ [] (by kernel_rfl) rfl rfl ap0 ?_
  obtain ⟨q_35, H_36, H_37⟩ := of_bind H
  refine V_cut (Y := Bool) (R := Bool) q_35 (fun y => y) (fun y => [(0, .c (.imm (.opt (.pair (.slice (.pair (.int .i64) (.int .i64))) (.int .i64))) s_1)), (1, .c (.val (.int .i64 from_2))), (2, .c (.val (.int .i64 to_3))), (3, .c (.val (.int .i64 count_4))), (11, .c (.val (.bool y)))]) (fun y => []) ?_ ?_
  · skip
    rcases Bool.eq_false_or_eq_true ((decide (from_2 < (0 : Int)))) with b_7 | b_7
    · have H_39 := of_t H_36 b_7
      refine V_reg hN hn [] [(14, true)] calls_nil 0 [0, 1, 2, 3, 11] [] ⟨[(0, .c (.imm (.opt (.pair (.slice (.pair (.int .i64) (.int .i64))) (.int .i64))) s_1)), (1, .c (.val (.int .i64 from_2))), (2, .c (.val (.int .i64 to_3))), (3, .c (.val (.int .i64 count_4))), (11, .c (.val (.bool true)))], [], 0⟩ [(decide (from_2 < (0 : Int))) = true] (by kernel_rfl) rfl rfl (ap1 b_7) (by kernel_rfl) (by kernel_rfl) ?_
      have H_41 := Option.some.inj (show some true = some q_35 from H_39); subst H_41
      refine VL_nil ?_
      exact QP_end true rfl [] hn (by kernel_rfl) (by kernel_rfl) rfl rfl rfl
    · have H_40 := of_f H_36 b_7
      rcases Bool.eq_false_or_eq_true ((decide (from_2 > to_3))) with b_9 | b_9
      · have H_42 := of_t H_40 b_9
        refine V_reg hN hn [] [(14, false), (19, true)] calls_nil 0 [0, 1, 2, 3, 11] [] ⟨[(0, .c (.imm (.opt (.pair (.slice (.pair (.int .i64) (.int .i64))) (.int .i64))) s_1)), (1, .c (.val (.int .i64 from_2))), (2, .c (.val (.int .i64 to_3))), (3, .c (.val (.int .i64 count_4))), (11, .c (.val (.bool true)))], [], 0⟩ [(decide (from_2 < (0 : Int))) = false, (decide (from_2 > to_3)) = true] (by kernel_rfl) rfl rfl (ap2 b_7 (ap1 b_9)) (by kernel_rfl) (by kernel_rfl) ?_
        have H_44 := Option.some.inj (show some true = some q_35 from H_42); subst H_44
        refine VL_nil ?_
        exact QP_end true rfl [] hn (by kernel_rfl) (by kernel_rfl) rfl rfl rfl
      · have H_43 := of_f H_40 b_9
        obtain ⟨c_11, H_45⟩ := of_if H_43
        refine V_reg hN hn [] [(14, false), (19, false)] calls_nil 0 [0, 1, 2, 3, 11] [] ⟨[(0, .c (.imm (.opt (.pair (.slice (.pair (.int .i64) (.int .i64))) (.int .i64))) s_1)), (1, .c (.val (.int .i64 from_2))), (2, .c (.val (.int .i64 to_3))), (3, .c (.val (.int .i64 count_4))), (11, .c (.val (.bool (decide (to_3 > (Option.getD s_1 (([] : (List (Int × Int))), (0 : Int))).2)))))], [], 0⟩ [(decide (from_2 < (0 : Int))) = false, (decide (from_2 > to_3)) = false, Option.isSome s_1 = true] (by kernel_rfl) rfl rfl (ap2 b_7 (ap2 b_9 (ap1 c_11))) (by kernel_rfl) (by kernel_rfl) ?_
        have H_46 := Option.some.inj (show some (decide (to_3 > (Option.getD s_1 (([] : (List (Int × Int))), (0 : Int))).2)) = some q_35 from H_45); subst H_46
        refine VL_nil ?_
        exact QP_end (decide (to_3 > (Option.getD s_1 (([] : (List (Int × Int))), (0 : Int))).2)) rfl [] hn (by kernel_rfl) (by kernel_rfl) rfl rfl rfl
  · intro y_38 hy; subst hy
    skip
    skip
    refine VL_cond (y_38) (by kernel_rfl) ?_ ?_
    · intro b_13; have H_47 := of_t H_37 b_13
      refine V_run hN hn 2 0 [8, 9] [] ⟨[(8, .c (.val (.pointer none))), (9, .c (.val (.int .i64 (10 : Int))))], [], 0⟩ [] (by kernel_rfl) rfl rfl ap0 ?_
      have H_49 := Option.some.inj (show some ((none : (Option ((List (Int × Int)) × Int))), (10 : Int)) = some r from H_47); subst H_49
      refine VL_ret ?_
      refine QB_ret ?_
      refine P_ghost [.read 8 (.opt (.pair (.slice (.pair (.int .i64) (.int .i64))) (.int .i64)))] 0 hn [8, 9] [] ⟨[(8, .c (.imm (.opt (.pair (.slice (.pair (.int .i64) (.int .i64))) (.int .i64))) (none : (Option ((List (Int × Int)) × Int))))), (9, .c (.val (.int .i64 (10 : Int))))], [], 0⟩ (by kernel_rfl) rfl rfl ?_
      exact P_to [(8, .c (.imm (.opt (.pair (.slice (.pair (.int .i64) (.int .i64))) (.int .i64))) (none : (Option ((List (Int × Int)) × Int))))), (9, .c (.val (.int .i64 (10 : Int))))] [] [] hn (by kernel_rfl) (by kernel_rfl) rfl rfl rfl (QF_retS (by kernel_rfl) (by kernel_rfl) rfl)
    · intro b_13; have H_48 := of_f H_37 b_13
      refine V_run hN hn 1 0 [0, 1, 2, 3, 11] [] ⟨[(0, .c (.imm (.opt (.pair (.slice (.pair (.int .i64) (.int .i64))) (.int .i64))) s_1)), (1, .c (.val (.int .i64 from_2))), (2, .c (.val (.int .i64 to_3))), (3, .c (.val (.int .i64 count_4))), (11, .c (.val (.bool y_38)))], [], 0⟩ [] (by kernel_rfl) rfl rfl ap0 ?_
      obtain ⟨r_16, h_17, H_50⟩ := of_bind H_48
      refine V_reg hN hn [(1, ⟨41, 0, [.c (.val (.int .i64 count_4))], [], .c (.val (.bool r_16)), [], [], 0⟩)] [] (calls_cons (subset_isCount_spec K count_4 r_16 h_17) (by kernel_rfl) calls_nil) 0 [0, 1, 2, 3, 27] [] ⟨[(0, .c (.imm (.opt (.pair (.slice (.pair (.int .i64) (.int .i64))) (.int .i64))) s_1)), (1, .c (.val (.int .i64 from_2))), (2, .c (.val (.int .i64 to_3))), (3, .c (.val (.int .i64 count_4))), (27, .c (.val (.bool (!r_16))))], [], 0⟩ [] (by kernel_rfl) rfl rfl ap0 (by kernel_rfl) (by kernel_rfl) ?_
      refine VL_cond ((!r_16)) (by kernel_rfl) ?_ ?_
      · intro b_19; have H_51 := of_t H_50 b_19
        refine V_run hN hn 2 0 [8, 9] [] ⟨[(8, .c (.val (.pointer none))), (9, .c (.val (.int .i64 (12 : Int))))], [], 0⟩ [] (by kernel_rfl) rfl rfl ap0 ?_
        have H_53 := Option.some.inj (show some ((none : (Option ((List (Int × Int)) × Int))), (12 : Int)) = some r from H_51); subst H_53
        refine VL_ret ?_
        refine QB_ret ?_
        refine P_ghost [.read 8 (.opt (.pair (.slice (.pair (.int .i64) (.int .i64))) (.int .i64)))] 0 hn [8, 9] [] ⟨[(8, .c (.imm (.opt (.pair (.slice (.pair (.int .i64) (.int .i64))) (.int .i64))) (none : (Option ((List (Int × Int)) × Int))))), (9, .c (.val (.int .i64 (12 : Int))))], [], 0⟩ (by kernel_rfl) rfl rfl ?_
        exact P_to [(8, .c (.imm (.opt (.pair (.slice (.pair (.int .i64) (.int .i64))) (.int .i64))) (none : (Option ((List (Int × Int)) × Int))))), (9, .c (.val (.int .i64 (12 : Int))))] [] [] hn (by kernel_rfl) (by kernel_rfl) rfl rfl rfl (QF_retS (by kernel_rfl) (by kernel_rfl) rfl)
      · intro b_19; have H_52 := of_f H_50 b_19
        refine V_run hN hn 1 0 [0, 1, 2, 3, 27] [] ⟨[(0, .c (.imm (.opt (.pair (.slice (.pair (.int .i64) (.int .i64))) (.int .i64))) s_1)), (1, .c (.val (.int .i64 from_2))), (2, .c (.val (.int .i64 to_3))), (3, .c (.val (.int .i64 count_4))), (27, .c (.val (.bool (!r_16))))], [], 0⟩ [] (by kernel_rfl) rfl rfl ap0 ?_
        refine VL_nil (QB_end ?_)
        refine V_run hN hn 1 0 [0, 1, 2, 3, 27] [] ⟨[(0, .c (.imm (.opt (.pair (.slice (.pair (.int .i64) (.int .i64))) (.int .i64))) s_1)), (1, .c (.val (.int .i64 from_2))), (2, .c (.val (.int .i64 to_3))), (3, .c (.val (.int .i64 count_4))), (27, .c (.val (.bool (!r_16))))], [], 0⟩ [] (by kernel_rfl) rfl rfl ap0 ?_
        obtain ⟨r_23, h_24, H_54⟩ := of_bind H_52
        obtain ⟨c_25, H_55⟩ := of_if H_54
        refine V_reg hN hn [(2, ⟨42, 0, [.c (.imm (.opt (.pair (.slice (.pair (.int .i64) (.int .i64))) (.int .i64))) s_1), .c (.val (.int .i64 (0 : Int))), .c (.val (.int .i64 from_2))], [], .c (.h 4), [(4, .row (.pair (.int .i64) (.int .i64)) r_23)], [(4, 0)], 1⟩)] [] (calls_cons (subset_Subset_part_spec K s_1 (0 : Int) from_2 r_23 h_24) (by kernel_rfl) calls_nil) 0 [0, 2, 10] [2] ⟨[(0, .c (.imm (.opt (.pair (.slice (.pair (.int .i64) (.int .i64))) (.int .i64))) s_1)), (2, .c (.val (.int .i64 to_3))), (10, .c (.h 2))], [(2, .row (.pair (.int .i64) (.int .i64)) (r_23 ++ ([((IntKind.wrap .i64 (to_3 - from_2)), count_4)] : List (Int × Int))))], 3⟩ [(List.length r_23 + List.length ([((IntKind.wrap .i64 (to_3 - from_2)), count_4)] : List (Int × Int))) * 16 ≤ 140737488355328] (by kernel_rfl) rfl rfl (ap1 c_25) (by kernel_rfl) (by kernel_rfl) ?_
        refine V_run hN hn 1 3 [0, 2, 10] [2] ⟨[(0, .c (.imm (.opt (.pair (.slice (.pair (.int .i64) (.int .i64))) (.int .i64))) s_1)), (2, .c (.val (.int .i64 to_3))), (10, .c (.h 2))], [(2, .row (.pair (.int .i64) (.int .i64)) (r_23 ++ ([((IntKind.wrap .i64 (to_3 - from_2)), count_4)] : List (Int × Int))))], 3⟩ [] (by kernel_rfl) rfl rfl ap0 ?_
        obtain ⟨r_27, h_28, H_56⟩ := of_bind H_55
        obtain ⟨r_29, h_30, H_57⟩ := of_bind H_56
        obtain ⟨c_31, H_58⟩ := of_if H_57
        refine V_reg hN hn [(7, ⟨42, 0, [.c (.imm (.opt (.pair (.slice (.pair (.int .i64) (.int .i64))) (.int .i64))) s_1), .c (.val (.int .i64 to_3)), .c (.val (.int .i64 (Option.getD s_1 (([] : (List (Int × Int))), (0 : Int))).2))], [], .c (.h 4), [(4, .row (.pair (.int .i64) (.int .i64)) r_27)], [(4, 3)], 4⟩), (9, ⟨40, 1, [.c (.h 0)], [(0, .row (.pair (.int .i64) (.int .i64)) ((r_23 ++ ([((IntKind.wrap .i64 (to_3 - from_2)), count_4)] : List (Int × Int))) ++ r_27))], .tup [(false, [.imm (.opt (.pair (.slice (.pair (.int .i64) (.int .i64))) (.int .i64))) r_29.1]), (false, [.val (.int .i64 r_29.2)])], [(0, .row (.pair (.int .i64) (.int .i64)) ((r_23 ++ ([((IntKind.wrap .i64 (to_3 - from_2)), count_4)] : List (Int × Int))) ++ r_27))], [(0, 4)], 5⟩)] [] (calls_cons (subset_Subset_part_spec K s_1 to_3 (Option.getD s_1 (([] : (List (Int × Int))), (0 : Int))).2 r_27 h_28) (by kernel_rfl) (calls_cons (subset_Pack_r_spec K ((r_23 ++ ([((IntKind.wrap .i64 (to_3 - from_2)), count_4)] : List (Int × Int))) ++ r_27) r_29 h_30) (by kernel_rfl) calls_nil)) 3 [8, 9] [] ⟨[(8, .c (.imm (.opt (.pair (.slice (.pair (.int .i64) (.int .i64))) (.int .i64))) r_29.1)), (9, .c (.val (.int .i64 r_29.2)))], [], 5⟩ [Option.isSome s_1 = true, (List.length (r_23 ++ ([((IntKind.wrap .i64 (to_3 - from_2)), count_4)] : List (Int × Int))) + List.length r_27) * 16 ≤ 140737488355328] (by kernel_rfl) rfl rfl (ap2 c_31.1 (ap1 c_31.2)) (by kernel_rfl) (by kernel_rfl) ?_
        have H_59 := Option.some.inj (show some (r_29.1, r_29.2) = some r from H_58); subst H_59
        refine VL_ret ?_
        exact P_to [(8, .c (.imm (.opt (.pair (.slice (.pair (.int .i64) (.int .i64))) (.int .i64))) r_29.1)), (9, .c (.val (.int .i64 r_29.2)))] [] [] hn (by kernel_rfl) (by kernel_rfl) rfl rfl rfl (QF_retS (by kernel_rfl) (by kernel_rfl) rfl)

theorem subset_Subset_Len_spec (K : Nat) (s_1 : (Option ((List (Int × Int)) × Int))) (r : Int) (H : subset_Subset_Len K s_1 = some r) : Spec Try.prog 18 0 [.c (.imm (.opt (.pair (.slice (.pair (.int .i64) (.int .i64))) (.int .i64))) s_1)] [] (.c (.val (.int .i64 r))) [] := by
  refine Spec_mk (fn := Try.f18) (c := (Try.f18.body).get!) Try.func18 (by kernel_rfl) rfl ?_
  intro C hN hn
  replace hN : C.N = 7 := hN
  unfold subset_Subset_Len at H
  obtain ⟨c_2, H_4⟩ := of_if H
  refine V_run hN hn 4 0 [2] [] ⟨[(2, .c (.val (.int .i64 (Option.getD s_1 (([] : (List (Int × Int))), (0 : Int))).2)))], [], 0⟩ [Option.isSome s_1 = true] (by kernel_rfl) rfl rfl (ap1 c_2) ?_
  have H_5 := Option.some.inj (show some (Option.getD s_1 (([] : (List (Int × Int))), (0 : Int))).2 = some r from H_4); subst H_5
  refine VL_ret ?_
  exact P_to [(2, .c (.val (.int .i64 (Option.getD s_1 (([] : (List (Int × Int))), (0 : Int))).2)))] [] [] hn (by kernel_rfl) (by kernel_rfl) rfl rfl rfl (QF_retS (by kernel_rfl) (by kernel_rfl) rfl)

theorem subset_Subset_Count_spec (K : Nat) (s_1 : (Option ((List (Int × Int)) × Int))) (at_2 : Int) (r : Int) (H : subset_Subset_Count K s_1 at_2 = some r) : Spec Try.prog 20 0 [.c (.imm (.opt (.pair (.slice (.pair (.int .i64) (.int .i64))) (.int .i64))) s_1), .c (.val (.int .i64 at_2))] [] (.c (.val (.int .i64 r))) [] := by
  refine Spec_mk (fn := Try.f20) (c := (Try.f20.body).get!) Try.func20 (by kernel_rfl) rfl ?_
  intro C hN hn
  replace hN : C.N = 37 := hN
  unfold subset_Subset_Count at H
  refine V_run hN hn 4 0 [0, 1] [] ⟨[(0, .c (.imm (.opt (.pair (.slice (.pair (.int .i64) (.int .i64))) (.int .i64))) s_1)), (1, .c (.val (.int .i64 at_2)))], [], 0⟩ [] (by kernel_rfl) rfl rfl ap0 ?_
  obtain ⟨q_25, H_26, H_27⟩ := of_bind H
  refine V_cut (Y := Bool) (R := Bool) q_25 (fun y => y) (fun y => [(0, .c (.imm (.opt (.pair (.slice (.pair (.int .i64) (.int .i64))) (.int .i64))) s_1)), (1, .c (.val (.int .i64 at_2))), (16, .c (.val (.bool y)))]) (fun y => []) ?_ ?_
  · skip
    rcases Bool.eq_false_or_eq_true ((decide (at_2 < (0 : Int)))) with b_4 | b_4
    · have H_29 := of_t H_26 b_4
      refine V_reg hN hn [] [(9, true)] calls_nil 0 [0, 1, 16] [] ⟨[(0, .c (.imm (.opt (.pair (.slice (.pair (.int .i64) (.int .i64))) (.int .i64))) s_1)), (1, .c (.val (.int .i64 at_2))), (16, .c (.val (.bool true)))], [], 0⟩ [(decide (at_2 < (0 : Int))) = true] (by kernel_rfl) rfl rfl (ap1 b_4) (by kernel_rfl) (by kernel_rfl) ?_
      have H_31 := Option.some.inj (show some true = some q_25 from H_29); subst H_31
      refine VL_nil ?_
      exact QP_end true rfl [] hn (by kernel_rfl) (by kernel_rfl) rfl rfl rfl
    · have H_30 := of_f H_26 b_4
      obtain ⟨c_6, H_32⟩ := of_if H_30
      refine V_reg hN hn [] [(9, false)] calls_nil 0 [0, 1, 16] [] ⟨[(0, .c (.imm (.opt (.pair (.slice (.pair (.int .i64) (.int .i64))) (.int .i64))) s_1)), (1, .c (.val (.int .i64 at_2))), (16, .c (.val (.bool (decide (at_2 ≥ (Option.getD s_1 (([] : (List (Int × Int))), (0 : Int))).2)))))], [], 0⟩ [(decide (at_2 < (0 : Int))) = false, Option.isSome s_1 = true] (by kernel_rfl) rfl rfl (ap2 b_4 (ap1 c_6)) (by kernel_rfl) (by kernel_rfl) ?_
      have H_33 := Option.some.inj (show some (decide (at_2 ≥ (Option.getD s_1 (([] : (List (Int × Int))), (0 : Int))).2)) = some q_25 from H_32); subst H_33
      refine VL_nil ?_
      exact QP_end (decide (at_2 ≥ (Option.getD s_1 (([] : (List (Int × Int))), (0 : Int))).2)) rfl [] hn (by kernel_rfl) (by kernel_rfl) rfl rfl rfl
  · intro y_28 hy; subst hy
    skip
    skip
    refine VL_cond (y_28) (by kernel_rfl) ?_ ?_
    · intro b_8; have H_34 := of_t H_27 b_8
      refine V_run hN hn 2 0 [4] [] ⟨[(4, .c (.val (.int .i64 (0 : Int))))], [], 0⟩ [] (by kernel_rfl) rfl rfl ap0 ?_
      have H_36 := Option.some.inj (show some (0 : Int) = some r from H_34); subst H_36
      refine VL_ret ?_
      exact P_to [(4, .c (.val (.int .i64 (0 : Int))))] [] [] hn (by kernel_rfl) (by kernel_rfl) rfl rfl rfl (QF_retS (by kernel_rfl) (by kernel_rfl) rfl)
    · intro b_8; have H_35 := of_f H_27 b_8
      obtain ⟨c_10, H_37⟩ := of_if H_35
      refine V_run hN hn 4 0 [1, 20, 21, 22] [] ⟨[(1, .c (.val (.int .i64 at_2))), (20, .c (.imm (.slice (.pair (.int .i64) (.int .i64))) (Option.getD s_1 (([] : (List (Int × Int))), (0 : Int))).1)), (21, .c (.val (.int .i64 (((List.length (Option.getD s_1 (([] : (List (Int × Int))), (0 : Int))).1) : Nat) : Int)))), (22, .c (.val (.int .i64 (0 : Int))))], [], 0⟩ [Option.isSome s_1 = true] (by kernel_rfl) rfl rfl (ap1 c_10) ?_
      refine VL_block ?_
      refine V_to [(1, .c (.val (.int .i64 at_2))), (20, .c (.imm (.slice (.pair (.int .i64) (.int .i64))) (Option.getD s_1 (([] : (List (Int × Int))), (0 : Int))).1)), (21, .c (.val (.int .i64 (((List.length (Option.getD s_1 (([] : (List (Int × Int))), (0 : Int))).1) : Nat) : Int)))), (22, .c (.val (.int .i64 (0 : Int))))] [] [] hn (by kernel_rfl) (by kernel_rfl) rfl rfl rfl ?_
      refine VL_loop (X := (Int × Int)) (fun x => [(1, .c (.val (.int .i64 x.1))), (20, .c (.imm (.slice (.pair (.int .i64) (.int .i64))) (Option.getD s_1 (([] : (List (Int × Int))), (0 : Int))).1)), (21, .c (.val (.int .i64 (((List.length (Option.getD s_1 (([] : (List (Int × Int))), (0 : Int))).1) : Nat) : Int)))), (22, .c (.val (.int .i64 x.2)))]) (fun x => []) (fun k x => subset_Subset_Count.l0 K s_1 k x.1 x.2 = some r) K (at_2, (0 : Int)) H_37 (fun _ h => no_none h) ?_
      intro k_13 x_13 H_38
      obtain ⟨at_11, t_12⟩ := x_13
      have H_39 : subset_Subset_Count.l0 K s_1 (k_13 + 1) at_11 t_12 = some r := H_38
      rw [subset_Subset_Count.l0] at H_39
      refine V_run hN hn 3 0 [1, 20, 21, 22, 23] [] ⟨[(1, .c (.val (.int .i64 at_11))), (20, .c (.imm (.slice (.pair (.int .i64) (.int .i64))) (Option.getD s_1 (([] : (List (Int × Int))), (0 : Int))).1)), (21, .c (.val (.int .i64 (((List.length (Option.getD s_1 (([] : (List (Int × Int))), (0 : Int))).1) : Nat) : Int)))), (22, .c (.val (.int .i64 t_12))), (23, .c (.val (.bool (decide (t_12 < (((List.length (Option.getD s_1 (([] : (List (Int × Int))), (0 : Int))).1) : Nat) : Int))))))], [], 0⟩ [] (by kernel_rfl) rfl rfl ap0 ?_
      refine VL_cond ((decide (t_12 < (((List.length (Option.getD s_1 (([] : (List (Int × Int))), (0 : Int))).1) : Nat) : Int)))) (by kernel_rfl) ?_ ?_
      · intro b_15; have H_40 := of_t H_39 b_15
        refine V_run hN hn 2 0 [1, 20, 21, 22, 23] [] ⟨[(1, .c (.val (.int .i64 at_11))), (20, .c (.imm (.slice (.pair (.int .i64) (.int .i64))) (Option.getD s_1 (([] : (List (Int × Int))), (0 : Int))).1)), (21, .c (.val (.int .i64 (((List.length (Option.getD s_1 (([] : (List (Int × Int))), (0 : Int))).1) : Nat) : Int)))), (22, .c (.val (.int .i64 t_12))), (23, .c (.val (.bool (decide (t_12 < (((List.length (Option.getD s_1 (([] : (List (Int × Int))), (0 : Int))).1) : Nat) : Int))))))], [], 0⟩ [] (by kernel_rfl) rfl rfl ap0 ?_
        refine VL_block ?_
        obtain ⟨c_17, H_42⟩ := of_if H_40
        refine V_run hN hn 5 0 [1, 6, 20, 21, 22, 29] [0] ⟨[(1, .c (.val (.int .i64 at_11))), (6, .c (.h 0)), (20, .c (.imm (.slice (.pair (.int .i64) (.int .i64))) (Option.getD s_1 (([] : (List (Int × Int))), (0 : Int))).1)), (21, .c (.val (.int .i64 (((List.length (Option.getD s_1 (([] : (List (Int × Int))), (0 : Int))).1) : Nat) : Int)))), (22, .c (.val (.int .i64 t_12))), (29, .c (.val (.bool (decide (at_11 < (List.getD (Option.getD s_1 (([] : (List (Int × Int))), (0 : Int))).1 (Int.toNat t_12) ((0 : Int), (0 : Int))).1)))))], [(0, .box [.val (.int .i64 (List.getD (Option.getD s_1 (([] : (List (Int × Int))), (0 : Int))).1 (Int.toNat t_12) ((0 : Int), (0 : Int))).1), .val (.int .i64 (List.getD (Option.getD s_1 (([] : (List (Int × Int))), (0 : Int))).1 (Int.toNat t_12) ((0 : Int), (0 : Int))).2)])], 1⟩ [0 ≤ t_12, t_12 < (((List.length (Option.getD s_1 (([] : (List (Int × Int))), (0 : Int))).1) : Nat) : Int)] (by kernel_rfl) rfl rfl (ap2 c_17.1 (ap1 c_17.2)) ?_
        refine VL_cond ((decide (at_11 < (List.getD (Option.getD s_1 (([] : (List (Int × Int))), (0 : Int))).1 (Int.toNat t_12) ((0 : Int), (0 : Int))).1))) (by kernel_rfl) ?_ ?_
        · intro b_18; have H_43 := of_t H_42 b_18
          refine V_run hN hn 2 1 [4] [] ⟨[(4, .c (.val (.int .i64 (List.getD (Option.getD s_1 (([] : (List (Int × Int))), (0 : Int))).1 (Int.toNat t_12) ((0 : Int), (0 : Int))).2)))], [], 1⟩ [] (by kernel_rfl) rfl rfl ap0 ?_
          have H_45 := Option.some.inj (show some (List.getD (Option.getD s_1 (([] : (List (Int × Int))), (0 : Int))).1 (Int.toNat t_12) ((0 : Int), (0 : Int))).2 = some r from H_43); subst H_45
          refine VL_ret ?_
          refine QB_ret ?_
          refine QL_ret ?_
          refine QB_ret ?_
          exact P_to [(4, .c (.val (.int .i64 (List.getD (Option.getD s_1 (([] : (List (Int × Int))), (0 : Int))).1 (Int.toNat t_12) ((0 : Int), (0 : Int))).2)))] [] [] hn (by kernel_rfl) (by kernel_rfl) rfl rfl rfl (QF_retS (by kernel_rfl) (by kernel_rfl) rfl)
        · intro b_18; have H_44 := of_f H_42 b_18
          refine V_run hN hn 2 1 [1, 20, 21, 22] [] ⟨[(1, .c (.val (.int .i64 (IntKind.wrap .i64 (at_11 - (List.getD (Option.getD s_1 (([] : (List (Int × Int))), (0 : Int))).1 (Int.toNat t_12) ((0 : Int), (0 : Int))).1))))), (20, .c (.imm (.slice (.pair (.int .i64) (.int .i64))) (Option.getD s_1 (([] : (List (Int × Int))), (0 : Int))).1)), (21, .c (.val (.int .i64 (((List.length (Option.getD s_1 (([] : (List (Int × Int))), (0 : Int))).1) : Nat) : Int)))), (22, .c (.val (.int .i64 t_12)))], [], 1⟩ [] (by kernel_rfl) rfl rfl ap0 ?_
          refine VL_nil (QB_end ?_)
          refine V_run hN hn 1 1 [1, 20, 21, 22] [] ⟨[(1, .c (.val (.int .i64 (IntKind.wrap .i64 (at_11 - (List.getD (Option.getD s_1 (([] : (List (Int × Int))), (0 : Int))).1 (Int.toNat t_12) ((0 : Int), (0 : Int))).1))))), (20, .c (.imm (.slice (.pair (.int .i64) (.int .i64))) (Option.getD s_1 (([] : (List (Int × Int))), (0 : Int))).1)), (21, .c (.val (.int .i64 (((List.length (Option.getD s_1 (([] : (List (Int × Int))), (0 : Int))).1) : Nat) : Int)))), (22, .c (.val (.int .i64 (IntKind.wrap .i64 (t_12 + (1 : Int))))))], [], 1⟩ [] (by kernel_rfl) rfl rfl ap0 ?_
          refine VL_nil ?_
          exact V_roundEnd ((IntKind.wrap .i64 (at_11 - (List.getD (Option.getD s_1 (([] : (List (Int × Int))), (0 : Int))).1 (Int.toNat t_12) ((0 : Int), (0 : Int))).1)), (IntKind.wrap .i64 (t_12 + (1 : Int)))) H_44 [] hn (by kernel_rfl) (by kernel_rfl) rfl rfl rfl
      · intro b_15; have H_41 := of_f H_39 b_15
        refine VL_exit ?_
        refine QL_exit ?_
        refine QB_here ?_
        refine V_run hN hn 2 0 [4] [] ⟨[(4, .c (.val (.int .i64 (0 : Int))))], [], 0⟩ [] (by kernel_rfl) rfl rfl ap0 ?_
        have H_46 := Option.some.inj (show some (0 : Int) = some r from H_41); subst H_46
        refine VL_ret ?_
        exact P_to [(4, .c (.val (.int .i64 (0 : Int))))] [] [] hn (by kernel_rfl) (by kernel_rfl) rfl rfl rfl (QF_retS (by kernel_rfl) (by kernel_rfl) rfl)

theorem subset_Subset_Size_spec (K : Nat) (s_1 : (Option ((List (Int × Int)) × Int))) (r : Int) (H : subset_Subset_Size K s_1 = some r) : Spec Try.prog 15 0 [.c (.imm (.opt (.pair (.slice (.pair (.int .i64) (.int .i64))) (.int .i64))) s_1)] [] (.c (.val (.int .i64 r))) [] := by
  refine Spec_mk (fn := Try.f15) (c := (Try.f15.body).get!) Try.func15 (by kernel_rfl) rfl ?_
  intro C hN hn
  replace hN : C.N = 24 := hN
  unfold subset_Subset_Size at H
  obtain ⟨c_2, H_17⟩ := of_if H
  refine V_run hN hn 7 0 [3, 9, 10, 11] [] ⟨[(3, .c (.val (.int .i64 (0 : Int)))), (9, .c (.imm (.slice (.pair (.int .i64) (.int .i64))) (Option.getD s_1 (([] : (List (Int × Int))), (0 : Int))).1)), (10, .c (.val (.int .i64 (((List.length (Option.getD s_1 (([] : (List (Int × Int))), (0 : Int))).1) : Nat) : Int)))), (11, .c (.val (.int .i64 (0 : Int))))], [], 0⟩ [Option.isSome s_1 = true] (by kernel_rfl) rfl rfl (ap1 c_2) ?_
  refine VL_block ?_
  refine V_to [(3, .c (.val (.int .i64 (0 : Int)))), (9, .c (.imm (.slice (.pair (.int .i64) (.int .i64))) (Option.getD s_1 (([] : (List (Int × Int))), (0 : Int))).1)), (10, .c (.val (.int .i64 (((List.length (Option.getD s_1 (([] : (List (Int × Int))), (0 : Int))).1) : Nat) : Int)))), (11, .c (.val (.int .i64 (0 : Int))))] [] [] hn (by kernel_rfl) (by kernel_rfl) rfl rfl rfl ?_
  refine VL_loop (X := (Int × Int)) (fun x => [(3, .c (.val (.int .i64 x.1))), (9, .c (.imm (.slice (.pair (.int .i64) (.int .i64))) (Option.getD s_1 (([] : (List (Int × Int))), (0 : Int))).1)), (10, .c (.val (.int .i64 (((List.length (Option.getD s_1 (([] : (List (Int × Int))), (0 : Int))).1) : Nat) : Int)))), (11, .c (.val (.int .i64 x.2)))]) (fun x => []) (fun k x => subset_Subset_Size.l0 K s_1 k x.1 x.2 = some r) K ((0 : Int), (0 : Int)) H_17 (fun _ h => no_none h) ?_
  intro k_5 x_5 H_18
  obtain ⟨n_3, t_4⟩ := x_5
  have H_19 : subset_Subset_Size.l0 K s_1 (k_5 + 1) n_3 t_4 = some r := H_18
  rw [subset_Subset_Size.l0] at H_19
  refine V_run hN hn 3 0 [3, 9, 10, 11, 12] [] ⟨[(3, .c (.val (.int .i64 n_3))), (9, .c (.imm (.slice (.pair (.int .i64) (.int .i64))) (Option.getD s_1 (([] : (List (Int × Int))), (0 : Int))).1)), (10, .c (.val (.int .i64 (((List.length (Option.getD s_1 (([] : (List (Int × Int))), (0 : Int))).1) : Nat) : Int)))), (11, .c (.val (.int .i64 t_4))), (12, .c (.val (.bool (decide (t_4 < (((List.length (Option.getD s_1 (([] : (List (Int × Int))), (0 : Int))).1) : Nat) : Int))))))], [], 0⟩ [] (by kernel_rfl) rfl rfl ap0 ?_
  refine VL_cond ((decide (t_4 < (((List.length (Option.getD s_1 (([] : (List (Int × Int))), (0 : Int))).1) : Nat) : Int)))) (by kernel_rfl) ?_ ?_
  · intro b_7; have H_20 := of_t H_19 b_7
    refine V_run hN hn 2 0 [3, 9, 10, 11, 12] [] ⟨[(3, .c (.val (.int .i64 n_3))), (9, .c (.imm (.slice (.pair (.int .i64) (.int .i64))) (Option.getD s_1 (([] : (List (Int × Int))), (0 : Int))).1)), (10, .c (.val (.int .i64 (((List.length (Option.getD s_1 (([] : (List (Int × Int))), (0 : Int))).1) : Nat) : Int)))), (11, .c (.val (.int .i64 t_4))), (12, .c (.val (.bool (decide (t_4 < (((List.length (Option.getD s_1 (([] : (List (Int × Int))), (0 : Int))).1) : Nat) : Int))))))], [], 0⟩ [] (by kernel_rfl) rfl rfl ap0 ?_
    refine VL_block ?_
    obtain ⟨c_9, H_22⟩ := of_if H_20
    refine V_run hN hn 4 0 [3, 5, 9, 10, 11, 17] [0] ⟨[(3, .c (.val (.int .i64 n_3))), (5, .c (.h 0)), (9, .c (.imm (.slice (.pair (.int .i64) (.int .i64))) (Option.getD s_1 (([] : (List (Int × Int))), (0 : Int))).1)), (10, .c (.val (.int .i64 (((List.length (Option.getD s_1 (([] : (List (Int × Int))), (0 : Int))).1) : Nat) : Int)))), (11, .c (.val (.int .i64 t_4))), (17, .c (.val (.bool (decide ((List.getD (Option.getD s_1 (([] : (List (Int × Int))), (0 : Int))).1 (Int.toNat t_4) ((0 : Int), (0 : Int))).2 > (0 : Int))))))], [(0, .box [.val (.int .i64 (List.getD (Option.getD s_1 (([] : (List (Int × Int))), (0 : Int))).1 (Int.toNat t_4) ((0 : Int), (0 : Int))).1), .val (.int .i64 (List.getD (Option.getD s_1 (([] : (List (Int × Int))), (0 : Int))).1 (Int.toNat t_4) ((0 : Int), (0 : Int))).2)])], 1⟩ [0 ≤ t_4, t_4 < (((List.length (Option.getD s_1 (([] : (List (Int × Int))), (0 : Int))).1) : Nat) : Int)] (by kernel_rfl) rfl rfl (ap2 c_9.1 (ap1 c_9.2)) ?_
    refine VL_cond ((decide ((List.getD (Option.getD s_1 (([] : (List (Int × Int))), (0 : Int))).1 (Int.toNat t_4) ((0 : Int), (0 : Int))).2 > (0 : Int)))) (by kernel_rfl) ?_ ?_
    · intro b_10; have H_23 := of_t H_22 b_10
      refine V_run hN hn 1 1 [3, 9, 10, 11] [] ⟨[(3, .c (.val (.int .i64 (IntKind.wrap .i64 (n_3 + (List.getD (Option.getD s_1 (([] : (List (Int × Int))), (0 : Int))).1 (Int.toNat t_4) ((0 : Int), (0 : Int))).1))))), (9, .c (.imm (.slice (.pair (.int .i64) (.int .i64))) (Option.getD s_1 (([] : (List (Int × Int))), (0 : Int))).1)), (10, .c (.val (.int .i64 (((List.length (Option.getD s_1 (([] : (List (Int × Int))), (0 : Int))).1) : Nat) : Int)))), (11, .c (.val (.int .i64 t_4)))], [], 1⟩ [] (by kernel_rfl) rfl rfl ap0 ?_
      refine VL_nil (QB_end ?_)
      refine V_run hN hn 1 1 [3, 9, 10, 11] [] ⟨[(3, .c (.val (.int .i64 (IntKind.wrap .i64 (n_3 + (List.getD (Option.getD s_1 (([] : (List (Int × Int))), (0 : Int))).1 (Int.toNat t_4) ((0 : Int), (0 : Int))).1))))), (9, .c (.imm (.slice (.pair (.int .i64) (.int .i64))) (Option.getD s_1 (([] : (List (Int × Int))), (0 : Int))).1)), (10, .c (.val (.int .i64 (((List.length (Option.getD s_1 (([] : (List (Int × Int))), (0 : Int))).1) : Nat) : Int)))), (11, .c (.val (.int .i64 (IntKind.wrap .i64 (t_4 + (1 : Int))))))], [], 1⟩ [] (by kernel_rfl) rfl rfl ap0 ?_
      refine VL_nil ?_
      exact V_roundEnd ((IntKind.wrap .i64 (n_3 + (List.getD (Option.getD s_1 (([] : (List (Int × Int))), (0 : Int))).1 (Int.toNat t_4) ((0 : Int), (0 : Int))).1)), (IntKind.wrap .i64 (t_4 + (1 : Int)))) H_23 [] hn (by kernel_rfl) (by kernel_rfl) rfl rfl rfl
    · intro b_10; have H_24 := of_f H_22 b_10
      refine V_run hN hn 1 1 [3, 5, 9, 10, 11, 17] [0] ⟨[(3, .c (.val (.int .i64 n_3))), (5, .c (.h 0)), (9, .c (.imm (.slice (.pair (.int .i64) (.int .i64))) (Option.getD s_1 (([] : (List (Int × Int))), (0 : Int))).1)), (10, .c (.val (.int .i64 (((List.length (Option.getD s_1 (([] : (List (Int × Int))), (0 : Int))).1) : Nat) : Int)))), (11, .c (.val (.int .i64 t_4))), (17, .c (.val (.bool (decide ((List.getD (Option.getD s_1 (([] : (List (Int × Int))), (0 : Int))).1 (Int.toNat t_4) ((0 : Int), (0 : Int))).2 > (0 : Int))))))], [(0, .box [.val (.int .i64 (List.getD (Option.getD s_1 (([] : (List (Int × Int))), (0 : Int))).1 (Int.toNat t_4) ((0 : Int), (0 : Int))).1), .val (.int .i64 (List.getD (Option.getD s_1 (([] : (List (Int × Int))), (0 : Int))).1 (Int.toNat t_4) ((0 : Int), (0 : Int))).2)])], 1⟩ [] (by kernel_rfl) rfl rfl ap0 ?_
      refine VL_nil (QB_end ?_)
      refine V_run hN hn 1 1 [3, 9, 10, 11] [] ⟨[(3, .c (.val (.int .i64 n_3))), (9, .c (.imm (.slice (.pair (.int .i64) (.int .i64))) (Option.getD s_1 (([] : (List (Int × Int))), (0 : Int))).1)), (10, .c (.val (.int .i64 (((List.length (Option.getD s_1 (([] : (List (Int × Int))), (0 : Int))).1) : Nat) : Int)))), (11, .c (.val (.int .i64 (IntKind.wrap .i64 (t_4 + (1 : Int))))))], [], 1⟩ [] (by kernel_rfl) rfl rfl ap0 ?_
      refine VL_nil ?_
      exact V_roundEnd (n_3, (IntKind.wrap .i64 (t_4 + (1 : Int)))) H_24 [] hn (by kernel_rfl) (by kernel_rfl) rfl rfl rfl
  · intro b_7; have H_21 := of_f H_19 b_7
    refine VL_exit ?_
    refine QL_exit ?_
    refine QB_here ?_
    refine V_run hN hn 2 0 [2] [] ⟨[(2, .c (.val (.int .i64 n_3)))], [], 0⟩ [] (by kernel_rfl) rfl rfl ap0 ?_
    have H_25 := Option.some.inj (show some n_3 = some r from H_21); subst H_25
    refine VL_ret ?_
    exact P_to [(2, .c (.val (.int .i64 n_3)))] [] [] hn (by kernel_rfl) (by kernel_rfl) rfl rfl rfl (QF_retS (by kernel_rfl) (by kernel_rfl) rfl)

theorem subset_Subset_Has_spec (K : Nat) (s_1 : (Option ((List (Int × Int)) × Int))) (at_2 : Int) (r : Bool) (H : subset_Subset_Has K s_1 at_2 = some r) : Spec Try.prog 39 0 [.c (.imm (.opt (.pair (.slice (.pair (.int .i64) (.int .i64))) (.int .i64))) s_1), .c (.val (.int .i64 at_2))] [] (.c (.val (.bool r))) [] := by
  refine Spec_mk (fn := Try.f39) (c := (Try.f39.body).get!) Try.func39 (by kernel_rfl) rfl ?_
  intro C hN hn
  replace hN : C.N = 9 := hN
  unfold subset_Subset_Has at H
  refine V_run hN hn 3 0 [0, 1] [] ⟨[(0, .c (.imm (.opt (.pair (.slice (.pair (.int .i64) (.int .i64))) (.int .i64))) s_1)), (1, .c (.val (.int .i64 at_2)))], [], 0⟩ [] (by kernel_rfl) rfl rfl ap0 ?_
  obtain ⟨r_4, h_5, H_8⟩ := of_bind H
  refine V_reg hN hn [(2, ⟨20, 0, [.c (.imm (.opt (.pair (.slice (.pair (.int .i64) (.int .i64))) (.int .i64))) s_1), .c (.val (.int .i64 at_2))], [], .c (.val (.int .i64 r_4)), [], [], 0⟩)] [] (calls_cons (subset_Subset_Count_spec K s_1 at_2 r_4 h_5) (by kernel_rfl) calls_nil) 0 [4] [] ⟨[(4, .c (.val (.bool (decide (r_4 > (0 : Int))))))], [], 0⟩ [] (by kernel_rfl) rfl rfl ap0 (by kernel_rfl) (by kernel_rfl) ?_
  have H_9 := Option.some.inj (show some (decide (r_4 > (0 : Int))) = some r from H_8); subst H_9
  refine VL_ret ?_
  exact P_to [(4, .c (.val (.bool (decide (r_4 > (0 : Int))))))] [] [] hn (by kernel_rfl) (by kernel_rfl) rfl rfl rfl (QF_retS (by kernel_rfl) (by kernel_rfl) rfl)

theorem subset_New_spec (K : Nat) (n_1 : Int) (r : (Option ((List (Int × Int)) × Int))) (H : subset_New K n_1 = some r) : Spec Try.prog 13 0 [.c (.val (.int .i64 n_1))] [] (.c (.imm (.opt (.pair (.slice (.pair (.int .i64) (.int .i64))) (.int .i64))) r)) [] := by
  refine Spec_mk (fn := Try.f13) (c := (Try.f13.body).get!) Try.func13 (by kernel_rfl) rfl ?_
  intro C hN hn
  replace hN : C.N = 15 := hN
  unfold subset_New at H
  refine V_run hN hn 3 0 [0] [] ⟨[(0, .c (.val (.int .i64 n_1)))], [], 0⟩ [] (by kernel_rfl) rfl rfl ap0 ?_
  obtain ⟨r_3, h_4, H_8⟩ := of_bind H
  refine V_reg hN hn [(5, ⟨40, 1, [.c (.h 0)], [(0, .row (.pair (.int .i64) (.int .i64)) ([((mn2 (mx2 n_1 (0 : Int)) (20000 : Int)), (0 : Int))] : List (Int × Int)))], .tup [(false, [.imm (.opt (.pair (.slice (.pair (.int .i64) (.int .i64))) (.int .i64))) r_3.1]), (false, [.val (.int .i64 r_3.2)])], [(0, .row (.pair (.int .i64) (.int .i64)) ([((mn2 (mx2 n_1 (0 : Int)) (20000 : Int)), (0 : Int))] : List (Int × Int)))], [(0, 0)], 1⟩)] [] (calls_cons (subset_Pack_r_spec K ([((mn2 (mx2 n_1 (0 : Int)) (20000 : Int)), (0 : Int))] : List (Int × Int)) r_3 h_4) (by kernel_rfl) calls_nil) 0 [3] [] ⟨[(3, .c (.imm (.opt (.pair (.slice (.pair (.int .i64) (.int .i64))) (.int .i64))) r_3.1))], [], 1⟩ [] (by kernel_rfl) rfl rfl ap0 (by kernel_rfl) (by kernel_rfl) ?_
  refine V_run hN hn 2 1 [2] [] ⟨[(2, .c (.imm (.opt (.pair (.slice (.pair (.int .i64) (.int .i64))) (.int .i64))) r_3.1))], [], 1⟩ [] (by kernel_rfl) rfl rfl ap0 ?_
  have H_9 := Option.some.inj (show some r_3.1 = some r from H_8); subst H_9
  refine VL_ret ?_
  exact P_to [(2, .c (.imm (.opt (.pair (.slice (.pair (.int .i64) (.int .i64))) (.int .i64))) r_3.1))] [] [] hn (by kernel_rfl) (by kernel_rfl) rfl rfl rfl (QF_retS (by kernel_rfl) (by kernel_rfl) rfl)

theorem subset_Subset_Empty_spec (K : Nat) (s_1 : (Option ((List (Int × Int)) × Int))) (r : Bool) (H : subset_Subset_Empty K s_1 = some r) : Spec Try.prog 21 0 [.c (.imm (.opt (.pair (.slice (.pair (.int .i64) (.int .i64))) (.int .i64))) s_1)] [] (.c (.val (.bool r))) [] := by
  refine Spec_mk (fn := Try.f21) (c := (Try.f21.body).get!) Try.func21 (by kernel_rfl) rfl ?_
  intro C hN hn
  replace hN : C.N = 6 := hN
  unfold subset_Subset_Empty at H
  refine V_run hN hn 3 0 [0] [] ⟨[(0, .c (.imm (.opt (.pair (.slice (.pair (.int .i64) (.int .i64))) (.int .i64))) s_1))], [], 0⟩ [] (by kernel_rfl) rfl rfl ap0 ?_
  obtain ⟨r_3, h_4, H_7⟩ := of_bind H
  refine V_reg hN hn [(1, ⟨15, 0, [.c (.imm (.opt (.pair (.slice (.pair (.int .i64) (.int .i64))) (.int .i64))) s_1)], [], .c (.val (.int .i64 r_3)), [], [], 0⟩)] [] (calls_cons (subset_Subset_Size_spec K s_1 r_3 h_4) (by kernel_rfl) calls_nil) 0 [2] [] ⟨[(2, .c (.val (.bool (r_3 == (0 : Int)))))], [], 0⟩ [] (by kernel_rfl) rfl rfl ap0 (by kernel_rfl) (by kernel_rfl) ?_
  have H_8 := Option.some.inj (show some (r_3 == (0 : Int)) = some r from H_7); subst H_8
  refine VL_ret ?_
  exact P_to [(2, .c (.val (.bool (r_3 == (0 : Int)))))] [] [] hn (by kernel_rfl) (by kernel_rfl) rfl rfl rfl (QF_retS (by kernel_rfl) (by kernel_rfl) rfl)

theorem palinodelaw7_known_spec (K : Nat) (r : Bool) (H : palinodelaw7_known K  = some r) : Spec Try.prog 12 0 [] [] (.c (.val (.bool r))) [] := by
  refine Spec_mk (fn := Try.f12) (c := (Try.f12.body).get!) Try.func12 (by kernel_rfl) rfl ?_
  intro C hN hn
  replace hN : C.N = 93 := hN
  unfold palinodelaw7_known at H
  refine V_run hN hn 3 0 [] [] ⟨[], [], 0⟩ [] (by kernel_rfl) rfl rfl ap0 ?_
  obtain ⟨r_2, h_3, H_69⟩ := of_bind H
  refine V_reg hN hn [(3, ⟨16, 1, [.c (.h 0)], [(0, .row (.pair (.int .i64) (.int .i64)) ([((2 : Int), (0 : Int)), ((1 : Int), (3 : Int))] : List (Int × Int)))], .tup [(false, [.imm (.opt (.pair (.slice (.pair (.int .i64) (.int .i64))) (.int .i64))) r_2.1]), (false, [.val (.int .i64 r_2.2)])], [(0, .row (.pair (.int .i64) (.int .i64)) ([((2 : Int), (0 : Int)), ((1 : Int), (3 : Int))] : List (Int × Int)))], [(0, 0)], 1⟩)] [] (calls_cons (subset_Of_r_spec K ([((2 : Int), (0 : Int)), ((1 : Int), (3 : Int))] : List (Int × Int)) r_2 h_3) (by kernel_rfl) calls_nil) 0 [1, 2] [] ⟨[(1, .c (.imm (.opt (.pair (.slice (.pair (.int .i64) (.int .i64))) (.int .i64))) r_2.1)), (2, .c (.val (.int .i64 r_2.2)))], [], 1⟩ [] (by kernel_rfl) rfl rfl ap0 (by kernel_rfl) (by kernel_rfl) ?_
  refine V_run hN hn 3 1 [1, 17] [] ⟨[(1, .c (.imm (.opt (.pair (.slice (.pair (.int .i64) (.int .i64))) (.int .i64))) r_2.1)), (17, .c (.val (.bool (r_2.2 != (0 : Int)))))], [], 1⟩ [] (by kernel_rfl) rfl rfl ap0 ?_
  refine VL_cond ((r_2.2 != (0 : Int))) (by kernel_rfl) ?_ ?_
  · intro b_6; have H_70 := of_t H_69 b_6
    refine V_run hN hn 2 1 [0] [] ⟨[(0, .c (.val (.bool false)))], [], 1⟩ [] (by kernel_rfl) rfl rfl ap0 ?_
    have H_72 := Option.some.inj (show some false = some r from H_70); subst H_72
    refine VL_ret ?_
    exact P_to [(0, .c (.val (.bool false)))] [] [] hn (by kernel_rfl) (by kernel_rfl) rfl rfl rfl (QF_retS (by kernel_rfl) (by kernel_rfl) rfl)
  · intro b_6; have H_71 := of_f H_69 b_6
    refine V_run hN hn 2 1 [1, 17] [] ⟨[(1, .c (.imm (.opt (.pair (.slice (.pair (.int .i64) (.int .i64))) (.int .i64))) r_2.1)), (17, .c (.val (.bool (r_2.2 != (0 : Int)))))], [], 1⟩ [] (by kernel_rfl) rfl rfl ap0 ?_
    obtain ⟨r_9, h_10, H_73⟩ := of_bind H_71
    refine V_reg hN hn [(1, ⟨14, 0, [.c (.imm (.opt (.pair (.slice (.pair (.int .i64) (.int .i64))) (.int .i64))) r_2.1), .c (.val (.int .i64 (0 : Int))), .c (.val (.int .i64 (1 : Int))), .c (.val (.int .i64 (3 : Int)))], [], .tup [(false, [.imm (.opt (.pair (.slice (.pair (.int .i64) (.int .i64))) (.int .i64))) r_9.1]), (false, [.val (.int .i64 r_9.2)])], [], [], 1⟩)] [] (calls_cons (subset_Subset_With_spec K r_2.1 (0 : Int) (1 : Int) (3 : Int) r_9 h_10) (by kernel_rfl) calls_nil) 1 [1, 3, 4] [] ⟨[(1, .c (.imm (.opt (.pair (.slice (.pair (.int .i64) (.int .i64))) (.int .i64))) r_2.1)), (3, .c (.imm (.opt (.pair (.slice (.pair (.int .i64) (.int .i64))) (.int .i64))) r_9.1)), (4, .c (.val (.int .i64 r_9.2)))], [], 1⟩ [] (by kernel_rfl) rfl rfl ap0 (by kernel_rfl) (by kernel_rfl) ?_
    refine V_run hN hn 1 1 [1, 3, 4] [] ⟨[(1, .c (.imm (.opt (.pair (.slice (.pair (.int .i64) (.int .i64))) (.int .i64))) r_2.1)), (3, .c (.imm (.opt (.pair (.slice (.pair (.int .i64) (.int .i64))) (.int .i64))) r_9.1)), (4, .c (.val (.int .i64 r_9.2)))], [], 1⟩ [] (by kernel_rfl) rfl rfl ap0 ?_
    obtain ⟨r_13, h_14, H_74⟩ := of_bind H_73
    refine V_reg hN hn [(1, ⟨14, 0, [.c (.imm (.opt (.pair (.slice (.pair (.int .i64) (.int .i64))) (.int .i64))) r_2.1), .c (.val (.int .i64 (2 : Int))), .c (.val (.int .i64 (4 : Int))), .c (.val (.int .i64 (1 : Int)))], [], .tup [(false, [.imm (.opt (.pair (.slice (.pair (.int .i64) (.int .i64))) (.int .i64))) r_13.1]), (false, [.val (.int .i64 r_13.2)])], [], [], 1⟩)] [] (calls_cons (subset_Subset_With_spec K r_2.1 (2 : Int) (4 : Int) (1 : Int) r_13 h_14) (by kernel_rfl) calls_nil) 1 [1, 3, 4, 6] [] ⟨[(1, .c (.imm (.opt (.pair (.slice (.pair (.int .i64) (.int .i64))) (.int .i64))) r_2.1)), (3, .c (.imm (.opt (.pair (.slice (.pair (.int .i64) (.int .i64))) (.int .i64))) r_9.1)), (4, .c (.val (.int .i64 r_9.2))), (6, .c (.val (.int .i64 r_13.2)))], [], 1⟩ [] (by kernel_rfl) rfl rfl ap0 (by kernel_rfl) (by kernel_rfl) ?_
    refine V_run hN hn 1 1 [1, 3, 4, 6] [] ⟨[(1, .c (.imm (.opt (.pair (.slice (.pair (.int .i64) (.int .i64))) (.int .i64))) r_2.1)), (3, .c (.imm (.opt (.pair (.slice (.pair (.int .i64) (.int .i64))) (.int .i64))) r_9.1)), (4, .c (.val (.int .i64 r_9.2))), (6, .c (.val (.int .i64 r_13.2)))], [], 1⟩ [] (by kernel_rfl) rfl rfl ap0 ?_
    obtain ⟨r_17, h_18, H_75⟩ := of_bind H_74
    refine V_reg hN hn [(3, ⟨16, 1, [.c (.h 0)], [(0, .row (.pair (.int .i64) (.int .i64)) ([((1 : Int), (0 : Int)), ((1 : Int), (0 : Int))] : List (Int × Int)))], .tup [(false, [.imm (.opt (.pair (.slice (.pair (.int .i64) (.int .i64))) (.int .i64))) r_17.1]), (false, [.val (.int .i64 r_17.2)])], [(0, .row (.pair (.int .i64) (.int .i64)) ([((1 : Int), (0 : Int)), ((1 : Int), (0 : Int))] : List (Int × Int)))], [(0, 1)], 2⟩)] [] (calls_cons (subset_Of_r_spec K ([((1 : Int), (0 : Int)), ((1 : Int), (0 : Int))] : List (Int × Int)) r_17 h_18) (by kernel_rfl) calls_nil) 1 [1, 3, 4, 6, 8] [] ⟨[(1, .c (.imm (.opt (.pair (.slice (.pair (.int .i64) (.int .i64))) (.int .i64))) r_2.1)), (3, .c (.imm (.opt (.pair (.slice (.pair (.int .i64) (.int .i64))) (.int .i64))) r_9.1)), (4, .c (.val (.int .i64 r_9.2))), (6, .c (.val (.int .i64 r_13.2))), (8, .c (.val (.int .i64 r_17.2)))], [], 2⟩ [] (by kernel_rfl) rfl rfl ap0 (by kernel_rfl) (by kernel_rfl) ?_
    refine V_run hN hn 1 2 [1, 3, 4, 6, 8] [] ⟨[(1, .c (.imm (.opt (.pair (.slice (.pair (.int .i64) (.int .i64))) (.int .i64))) r_2.1)), (3, .c (.imm (.opt (.pair (.slice (.pair (.int .i64) (.int .i64))) (.int .i64))) r_9.1)), (4, .c (.val (.int .i64 r_9.2))), (6, .c (.val (.int .i64 r_13.2))), (8, .c (.val (.int .i64 r_17.2)))], [], 2⟩ [] (by kernel_rfl) rfl rfl ap0 ?_
    obtain ⟨r_21, h_22, H_76⟩ := of_bind H_75
    rcases Bool.eq_false_or_eq_true ((r_21 == (3 : Int))) with b_23 | b_23
    · have H_77 := of_t H_76 b_23
      obtain ⟨r_24, h_25, H_79⟩ := of_bind H_77
      rcases Bool.eq_false_or_eq_true ((r_24 == (3 : Int))) with b_26 | b_26
      · have H_80 := of_t H_79 b_26
        obtain ⟨r_27, h_28, H_82⟩ := of_bind H_80
        rcases Bool.eq_false_or_eq_true ((r_27 == (0 : Int))) with b_29 | b_29
        · have H_83 := of_t H_82 b_29
          obtain ⟨r_30, h_31, H_85⟩ := of_bind H_83
          rcases Bool.eq_false_or_eq_true ((r_30 == (1 : Int))) with b_32 | b_32
          · have H_86 := of_t H_85 b_32
            obtain ⟨r_33, h_34, H_88⟩ := of_bind H_86
            rcases Bool.eq_false_or_eq_true (r_33) with b_35 | b_35
            · have H_89 := of_t H_88 b_35
              obtain ⟨r_36, h_37, H_91⟩ := of_bind H_89
              rcases Bool.eq_false_or_eq_true ((!r_36)) with b_38 | b_38
              · have H_92 := of_t H_91 b_38
                rcases Bool.eq_false_or_eq_true ((r_9.2 == (0 : Int))) with b_39 | b_39
                · have H_94 := of_t H_92 b_39
                  obtain ⟨r_40, h_41, H_96⟩ := of_bind H_94
                  rcases Bool.eq_false_or_eq_true ((r_40 == (2 : Int))) with b_42 | b_42
                  · have H_97 := of_t H_96 b_42
                    obtain ⟨r_43, h_44, H_99⟩ := of_bind H_97
                    rcases Bool.eq_false_or_eq_true ((r_43 == (1 : Int))) with b_45 | b_45
                    · have H_100 := of_t H_99 b_45
                      rcases Bool.eq_false_or_eq_true ((r_13.2 == (10 : Int))) with b_46 | b_46
                      · have H_102 := of_t H_100 b_46
                        rcases Bool.eq_false_or_eq_true ((r_17.2 == (12 : Int))) with b_47 | b_47
                        · have H_104 := of_t H_102 b_47
                          obtain ⟨r_48, h_49, H_106⟩ := of_bind H_104
                          obtain ⟨r_50, h_51, H_107⟩ := of_bind H_106
                          rcases Bool.eq_false_or_eq_true (r_50) with b_52 | b_52
                          · have H_108 := of_t H_107 b_52
                            obtain ⟨r_53, h_54, H_110⟩ := of_bind H_108
                            refine V_reg hN hn [(1, ⟨18, 0, [.c (.imm (.opt (.pair (.slice (.pair (.int .i64) (.int .i64))) (.int .i64))) r_2.1)], [], .c (.val (.int .i64 r_21)), [], [], 2⟩), (5, ⟨20, 0, [.c (.imm (.opt (.pair (.slice (.pair (.int .i64) (.int .i64))) (.int .i64))) r_2.1), .c (.val (.int .i64 (2 : Int)))], [], .c (.val (.int .i64 r_24)), [], [], 2⟩), (10, ⟨20, 0, [.c (.imm (.opt (.pair (.slice (.pair (.int .i64) (.int .i64))) (.int .i64))) r_2.1), .c (.val (.int .i64 (9 : Int)))], [], .c (.val (.int .i64 r_27)), [], [], 2⟩), (15, ⟨15, 0, [.c (.imm (.opt (.pair (.slice (.pair (.int .i64) (.int .i64))) (.int .i64))) r_2.1)], [], .c (.val (.int .i64 r_30)), [], [], 2⟩), (20, ⟨39, 0, [.c (.imm (.opt (.pair (.slice (.pair (.int .i64) (.int .i64))) (.int .i64))) r_2.1), .c (.val (.int .i64 (2 : Int)))], [], .c (.val (.bool r_33)), [], [], 2⟩), (24, ⟨39, 0, [.c (.imm (.opt (.pair (.slice (.pair (.int .i64) (.int .i64))) (.int .i64))) r_2.1), .c (.val (.int .i64 (1 : Int)))], [], .c (.val (.bool r_36)), [], [], 2⟩), (33, ⟨15, 0, [.c (.imm (.opt (.pair (.slice (.pair (.int .i64) (.int .i64))) (.int .i64))) r_9.1)], [], .c (.val (.int .i64 r_40)), [], [], 2⟩), (38, ⟨15, 0, [.c (.imm (.opt (.pair (.slice (.pair (.int .i64) (.int .i64))) (.int .i64))) r_2.1)], [], .c (.val (.int .i64 r_43)), [], [], 2⟩), (50, ⟨13, 0, [.c (.val (.int .i64 (4 : Int)))], [], .c (.imm (.opt (.pair (.slice (.pair (.int .i64) (.int .i64))) (.int .i64))) r_48), [], [], 2⟩), (51, ⟨21, 0, [.c (.imm (.opt (.pair (.slice (.pair (.int .i64) (.int .i64))) (.int .i64))) r_48)], [], .c (.val (.bool r_50)), [], [], 2⟩), (55, ⟨21, 0, [.c (.imm (.opt (.pair (.slice (.pair (.int .i64) (.int .i64))) (.int .i64))) r_2.1)], [], .c (.val (.bool r_53)), [], [], 2⟩)] [(38, true), (43, true), (48, true), (53, true), (57, true), (62, true), (66, true), (71, true), (76, true), (80, true), (84, true), (88, true)] (calls_cons (subset_Subset_Len_spec K r_2.1 r_21 h_22) (by kernel_rfl) (calls_cons (subset_Subset_Count_spec K r_2.1 (2 : Int) r_24 h_25) (by kernel_rfl) (calls_cons (subset_Subset_Count_spec K r_2.1 (9 : Int) r_27 h_28) (by kernel_rfl) (calls_cons (subset_Subset_Size_spec K r_2.1 r_30 h_31) (by kernel_rfl) (calls_cons (subset_Subset_Has_spec K r_2.1 (2 : Int) r_33 h_34) (by kernel_rfl) (calls_cons (subset_Subset_Has_spec K r_2.1 (1 : Int) r_36 h_37) (by kernel_rfl) (calls_cons (subset_Subset_Size_spec K r_9.1 r_40 h_41) (by kernel_rfl) (calls_cons (subset_Subset_Size_spec K r_2.1 r_43 h_44) (by kernel_rfl) (calls_cons (subset_New_spec K (4 : Int) r_48 h_49) (by kernel_rfl) (calls_cons (subset_Subset_Empty_spec K r_48 r_50 h_51) (by kernel_rfl) (calls_cons (subset_Subset_Empty_spec K r_2.1 r_53 h_54) (by kernel_rfl) calls_nil))))))))))) 2 [0] [] ⟨[(0, .c (.val (.bool (!r_53))))], [], 2⟩ [(r_21 == (3 : Int)) = true, (r_24 == (3 : Int)) = true, (r_27 == (0 : Int)) = true, (r_30 == (1 : Int)) = true, r_33 = true, (!r_36) = true, (r_9.2 == (0 : Int)) = true, (r_40 == (2 : Int)) = true, (r_43 == (1 : Int)) = true, (r_13.2 == (10 : Int)) = true, (r_17.2 == (12 : Int)) = true, r_50 = true] (by kernel_rfl) rfl rfl (ap2 b_23 (ap2 b_26 (ap2 b_29 (ap2 b_32 (ap2 b_35 (ap2 b_38 (ap2 b_39 (ap2 b_42 (ap2 b_45 (ap2 b_46 (ap2 b_47 (ap1 b_52)))))))))))) (by kernel_rfl) (by kernel_rfl) ?_
                            have H_111 := Option.some.inj (show some (!r_53) = some r from H_110); subst H_111
                            refine VL_ret ?_
                            exact P_to [(0, .c (.val (.bool (!r_53))))] [] [] hn (by kernel_rfl) (by kernel_rfl) rfl rfl rfl (QF_retS (by kernel_rfl) (by kernel_rfl) rfl)
                          · have H_109 := of_f H_107 b_52
                            refine V_reg hN hn [(1, ⟨18, 0, [.c (.imm (.opt (.pair (.slice (.pair (.int .i64) (.int .i64))) (.int .i64))) r_2.1)], [], .c (.val (.int .i64 r_21)), [], [], 2⟩), (5, ⟨20, 0, [.c (.imm (.opt (.pair (.slice (.pair (.int .i64) (.int .i64))) (.int .i64))) r_2.1), .c (.val (.int .i64 (2 : Int)))], [], .c (.val (.int .i64 r_24)), [], [], 2⟩), (10, ⟨20, 0, [.c (.imm (.opt (.pair (.slice (.pair (.int .i64) (.int .i64))) (.int .i64))) r_2.1), .c (.val (.int .i64 (9 : Int)))], [], .c (.val (.int .i64 r_27)), [], [], 2⟩), (15, ⟨15, 0, [.c (.imm (.opt (.pair (.slice (.pair (.int .i64) (.int .i64))) (.int .i64))) r_2.1)], [], .c (.val (.int .i64 r_30)), [], [], 2⟩), (20, ⟨39, 0, [.c (.imm (.opt (.pair (.slice (.pair (.int .i64) (.int .i64))) (.int .i64))) r_2.1), .c (.val (.int .i64 (2 : Int)))], [], .c (.val (.bool r_33)), [], [], 2⟩), (24, ⟨39, 0, [.c (.imm (.opt (.pair (.slice (.pair (.int .i64) (.int .i64))) (.int .i64))) r_2.1), .c (.val (.int .i64 (1 : Int)))], [], .c (.val (.bool r_36)), [], [], 2⟩), (33, ⟨15, 0, [.c (.imm (.opt (.pair (.slice (.pair (.int .i64) (.int .i64))) (.int .i64))) r_9.1)], [], .c (.val (.int .i64 r_40)), [], [], 2⟩), (38, ⟨15, 0, [.c (.imm (.opt (.pair (.slice (.pair (.int .i64) (.int .i64))) (.int .i64))) r_2.1)], [], .c (.val (.int .i64 r_43)), [], [], 2⟩), (50, ⟨13, 0, [.c (.val (.int .i64 (4 : Int)))], [], .c (.imm (.opt (.pair (.slice (.pair (.int .i64) (.int .i64))) (.int .i64))) r_48), [], [], 2⟩), (51, ⟨21, 0, [.c (.imm (.opt (.pair (.slice (.pair (.int .i64) (.int .i64))) (.int .i64))) r_48)], [], .c (.val (.bool r_50)), [], [], 2⟩)] [(38, true), (43, true), (48, true), (53, true), (57, true), (62, true), (66, true), (71, true), (76, true), (80, true), (84, true), (88, false)] (calls_cons (subset_Subset_Len_spec K r_2.1 r_21 h_22) (by kernel_rfl) (calls_cons (subset_Subset_Count_spec K r_2.1 (2 : Int) r_24 h_25) (by kernel_rfl) (calls_cons (subset_Subset_Count_spec K r_2.1 (9 : Int) r_27 h_28) (by kernel_rfl) (calls_cons (subset_Subset_Size_spec K r_2.1 r_30 h_31) (by kernel_rfl) (calls_cons (subset_Subset_Has_spec K r_2.1 (2 : Int) r_33 h_34) (by kernel_rfl) (calls_cons (subset_Subset_Has_spec K r_2.1 (1 : Int) r_36 h_37) (by kernel_rfl) (calls_cons (subset_Subset_Size_spec K r_9.1 r_40 h_41) (by kernel_rfl) (calls_cons (subset_Subset_Size_spec K r_2.1 r_43 h_44) (by kernel_rfl) (calls_cons (subset_New_spec K (4 : Int) r_48 h_49) (by kernel_rfl) (calls_cons (subset_Subset_Empty_spec K r_48 r_50 h_51) (by kernel_rfl) calls_nil)))))))))) 2 [0] [] ⟨[(0, .c (.val (.bool false)))], [], 2⟩ [(r_21 == (3 : Int)) = true, (r_24 == (3 : Int)) = true, (r_27 == (0 : Int)) = true, (r_30 == (1 : Int)) = true, r_33 = true, (!r_36) = true, (r_9.2 == (0 : Int)) = true, (r_40 == (2 : Int)) = true, (r_43 == (1 : Int)) = true, (r_13.2 == (10 : Int)) = true, (r_17.2 == (12 : Int)) = true, r_50 = false] (by kernel_rfl) rfl rfl (ap2 b_23 (ap2 b_26 (ap2 b_29 (ap2 b_32 (ap2 b_35 (ap2 b_38 (ap2 b_39 (ap2 b_42 (ap2 b_45 (ap2 b_46 (ap2 b_47 (ap1 b_52)))))))))))) (by kernel_rfl) (by kernel_rfl) ?_
                            have H_112 := Option.some.inj (show some false = some r from H_109); subst H_112
                            refine VL_ret ?_
                            exact P_to [(0, .c (.val (.bool false)))] [] [] hn (by kernel_rfl) (by kernel_rfl) rfl rfl rfl (QF_retS (by kernel_rfl) (by kernel_rfl) rfl)
                        · have H_105 := of_f H_102 b_47
                          refine V_reg hN hn [(1, ⟨18, 0, [.c (.imm (.opt (.pair (.slice (.pair (.int .i64) (.int .i64))) (.int .i64))) r_2.1)], [], .c (.val (.int .i64 r_21)), [], [], 2⟩), (5, ⟨20, 0, [.c (.imm (.opt (.pair (.slice (.pair (.int .i64) (.int .i64))) (.int .i64))) r_2.1), .c (.val (.int .i64 (2 : Int)))], [], .c (.val (.int .i64 r_24)), [], [], 2⟩), (10, ⟨20, 0, [.c (.imm (.opt (.pair (.slice (.pair (.int .i64) (.int .i64))) (.int .i64))) r_2.1), .c (.val (.int .i64 (9 : Int)))], [], .c (.val (.int .i64 r_27)), [], [], 2⟩), (15, ⟨15, 0, [.c (.imm (.opt (.pair (.slice (.pair (.int .i64) (.int .i64))) (.int .i64))) r_2.1)], [], .c (.val (.int .i64 r_30)), [], [], 2⟩), (20, ⟨39, 0, [.c (.imm (.opt (.pair (.slice (.pair (.int .i64) (.int .i64))) (.int .i64))) r_2.1), .c (.val (.int .i64 (2 : Int)))], [], .c (.val (.bool r_33)), [], [], 2⟩), (24, ⟨39, 0, [.c (.imm (.opt (.pair (.slice (.pair (.int .i64) (.int .i64))) (.int .i64))) r_2.1), .c (.val (.int .i64 (1 : Int)))], [], .c (.val (.bool r_36)), [], [], 2⟩), (33, ⟨15, 0, [.c (.imm (.opt (.pair (.slice (.pair (.int .i64) (.int .i64))) (.int .i64))) r_9.1)], [], .c (.val (.int .i64 r_40)), [], [], 2⟩), (38, ⟨15, 0, [.c (.imm (.opt (.pair (.slice (.pair (.int .i64) (.int .i64))) (.int .i64))) r_2.1)], [], .c (.val (.int .i64 r_43)), [], [], 2⟩)] [(38, true), (43, true), (48, true), (53, true), (57, true), (62, true), (66, true), (71, true), (76, true), (80, true), (84, false)] (calls_cons (subset_Subset_Len_spec K r_2.1 r_21 h_22) (by kernel_rfl) (calls_cons (subset_Subset_Count_spec K r_2.1 (2 : Int) r_24 h_25) (by kernel_rfl) (calls_cons (subset_Subset_Count_spec K r_2.1 (9 : Int) r_27 h_28) (by kernel_rfl) (calls_cons (subset_Subset_Size_spec K r_2.1 r_30 h_31) (by kernel_rfl) (calls_cons (subset_Subset_Has_spec K r_2.1 (2 : Int) r_33 h_34) (by kernel_rfl) (calls_cons (subset_Subset_Has_spec K r_2.1 (1 : Int) r_36 h_37) (by kernel_rfl) (calls_cons (subset_Subset_Size_spec K r_9.1 r_40 h_41) (by kernel_rfl) (calls_cons (subset_Subset_Size_spec K r_2.1 r_43 h_44) (by kernel_rfl) calls_nil)))))))) 2 [0] [] ⟨[(0, .c (.val (.bool false)))], [], 2⟩ [(r_21 == (3 : Int)) = true, (r_24 == (3 : Int)) = true, (r_27 == (0 : Int)) = true, (r_30 == (1 : Int)) = true, r_33 = true, (!r_36) = true, (r_9.2 == (0 : Int)) = true, (r_40 == (2 : Int)) = true, (r_43 == (1 : Int)) = true, (r_13.2 == (10 : Int)) = true, (r_17.2 == (12 : Int)) = false] (by kernel_rfl) rfl rfl (ap2 b_23 (ap2 b_26 (ap2 b_29 (ap2 b_32 (ap2 b_35 (ap2 b_38 (ap2 b_39 (ap2 b_42 (ap2 b_45 (ap2 b_46 (ap1 b_47))))))))))) (by kernel_rfl) (by kernel_rfl) ?_
                          have H_113 := Option.some.inj (show some false = some r from H_105); subst H_113
                          refine VL_ret ?_
                          exact P_to [(0, .c (.val (.bool false)))] [] [] hn (by kernel_rfl) (by kernel_rfl) rfl rfl rfl (QF_retS (by kernel_rfl) (by kernel_rfl) rfl)
                      · have H_103 := of_f H_100 b_46
                        refine V_reg hN hn [(1, ⟨18, 0, [.c (.imm (.opt (.pair (.slice (.pair (.int .i64) (.int .i64))) (.int .i64))) r_2.1)], [], .c (.val (.int .i64 r_21)), [], [], 2⟩), (5, ⟨20, 0, [.c (.imm (.opt (.pair (.slice (.pair (.int .i64) (.int .i64))) (.int .i64))) r_2.1), .c (.val (.int .i64 (2 : Int)))], [], .c (.val (.int .i64 r_24)), [], [], 2⟩), (10, ⟨20, 0, [.c (.imm (.opt (.pair (.slice (.pair (.int .i64) (.int .i64))) (.int .i64))) r_2.1), .c (.val (.int .i64 (9 : Int)))], [], .c (.val (.int .i64 r_27)), [], [], 2⟩), (15, ⟨15, 0, [.c (.imm (.opt (.pair (.slice (.pair (.int .i64) (.int .i64))) (.int .i64))) r_2.1)], [], .c (.val (.int .i64 r_30)), [], [], 2⟩), (20, ⟨39, 0, [.c (.imm (.opt (.pair (.slice (.pair (.int .i64) (.int .i64))) (.int .i64))) r_2.1), .c (.val (.int .i64 (2 : Int)))], [], .c (.val (.bool r_33)), [], [], 2⟩), (24, ⟨39, 0, [.c (.imm (.opt (.pair (.slice (.pair (.int .i64) (.int .i64))) (.int .i64))) r_2.1), .c (.val (.int .i64 (1 : Int)))], [], .c (.val (.bool r_36)), [], [], 2⟩), (33, ⟨15, 0, [.c (.imm (.opt (.pair (.slice (.pair (.int .i64) (.int .i64))) (.int .i64))) r_9.1)], [], .c (.val (.int .i64 r_40)), [], [], 2⟩), (38, ⟨15, 0, [.c (.imm (.opt (.pair (.slice (.pair (.int .i64) (.int .i64))) (.int .i64))) r_2.1)], [], .c (.val (.int .i64 r_43)), [], [], 2⟩)] [(38, true), (43, true), (48, true), (53, true), (57, true), (62, true), (66, true), (71, true), (76, true), (80, false)] (calls_cons (subset_Subset_Len_spec K r_2.1 r_21 h_22) (by kernel_rfl) (calls_cons (subset_Subset_Count_spec K r_2.1 (2 : Int) r_24 h_25) (by kernel_rfl) (calls_cons (subset_Subset_Count_spec K r_2.1 (9 : Int) r_27 h_28) (by kernel_rfl) (calls_cons (subset_Subset_Size_spec K r_2.1 r_30 h_31) (by kernel_rfl) (calls_cons (subset_Subset_Has_spec K r_2.1 (2 : Int) r_33 h_34) (by kernel_rfl) (calls_cons (subset_Subset_Has_spec K r_2.1 (1 : Int) r_36 h_37) (by kernel_rfl) (calls_cons (subset_Subset_Size_spec K r_9.1 r_40 h_41) (by kernel_rfl) (calls_cons (subset_Subset_Size_spec K r_2.1 r_43 h_44) (by kernel_rfl) calls_nil)))))))) 2 [0] [] ⟨[(0, .c (.val (.bool false)))], [], 2⟩ [(r_21 == (3 : Int)) = true, (r_24 == (3 : Int)) = true, (r_27 == (0 : Int)) = true, (r_30 == (1 : Int)) = true, r_33 = true, (!r_36) = true, (r_9.2 == (0 : Int)) = true, (r_40 == (2 : Int)) = true, (r_43 == (1 : Int)) = true, (r_13.2 == (10 : Int)) = false] (by kernel_rfl) rfl rfl (ap2 b_23 (ap2 b_26 (ap2 b_29 (ap2 b_32 (ap2 b_35 (ap2 b_38 (ap2 b_39 (ap2 b_42 (ap2 b_45 (ap1 b_46)))))))))) (by kernel_rfl) (by kernel_rfl) ?_
                        have H_114 := Option.some.inj (show some false = some r from H_103); subst H_114
                        refine VL_ret ?_
                        exact P_to [(0, .c (.val (.bool false)))] [] [] hn (by kernel_rfl) (by kernel_rfl) rfl rfl rfl (QF_retS (by kernel_rfl) (by kernel_rfl) rfl)
                    · have H_101 := of_f H_99 b_45
                      refine V_reg hN hn [(1, ⟨18, 0, [.c (.imm (.opt (.pair (.slice (.pair (.int .i64) (.int .i64))) (.int .i64))) r_2.1)], [], .c (.val (.int .i64 r_21)), [], [], 2⟩), (5, ⟨20, 0, [.c (.imm (.opt (.pair (.slice (.pair (.int .i64) (.int .i64))) (.int .i64))) r_2.1), .c (.val (.int .i64 (2 : Int)))], [], .c (.val (.int .i64 r_24)), [], [], 2⟩), (10, ⟨20, 0, [.c (.imm (.opt (.pair (.slice (.pair (.int .i64) (.int .i64))) (.int .i64))) r_2.1), .c (.val (.int .i64 (9 : Int)))], [], .c (.val (.int .i64 r_27)), [], [], 2⟩), (15, ⟨15, 0, [.c (.imm (.opt (.pair (.slice (.pair (.int .i64) (.int .i64))) (.int .i64))) r_2.1)], [], .c (.val (.int .i64 r_30)), [], [], 2⟩), (20, ⟨39, 0, [.c (.imm (.opt (.pair (.slice (.pair (.int .i64) (.int .i64))) (.int .i64))) r_2.1), .c (.val (.int .i64 (2 : Int)))], [], .c (.val (.bool r_33)), [], [], 2⟩), (24, ⟨39, 0, [.c (.imm (.opt (.pair (.slice (.pair (.int .i64) (.int .i64))) (.int .i64))) r_2.1), .c (.val (.int .i64 (1 : Int)))], [], .c (.val (.bool r_36)), [], [], 2⟩), (33, ⟨15, 0, [.c (.imm (.opt (.pair (.slice (.pair (.int .i64) (.int .i64))) (.int .i64))) r_9.1)], [], .c (.val (.int .i64 r_40)), [], [], 2⟩), (38, ⟨15, 0, [.c (.imm (.opt (.pair (.slice (.pair (.int .i64) (.int .i64))) (.int .i64))) r_2.1)], [], .c (.val (.int .i64 r_43)), [], [], 2⟩)] [(38, true), (43, true), (48, true), (53, true), (57, true), (62, true), (66, true), (71, true), (76, false)] (calls_cons (subset_Subset_Len_spec K r_2.1 r_21 h_22) (by kernel_rfl) (calls_cons (subset_Subset_Count_spec K r_2.1 (2 : Int) r_24 h_25) (by kernel_rfl) (calls_cons (subset_Subset_Count_spec K r_2.1 (9 : Int) r_27 h_28) (by kernel_rfl) (calls_cons (subset_Subset_Size_spec K r_2.1 r_30 h_31) (by kernel_rfl) (calls_cons (subset_Subset_Has_spec K r_2.1 (2 : Int) r_33 h_34) (by kernel_rfl) (calls_cons (subset_Subset_Has_spec K r_2.1 (1 : Int) r_36 h_37) (by kernel_rfl) (calls_cons (subset_Subset_Size_spec K r_9.1 r_40 h_41) (by kernel_rfl) (calls_cons (subset_Subset_Size_spec K r_2.1 r_43 h_44) (by kernel_rfl) calls_nil)))))))) 2 [0] [] ⟨[(0, .c (.val (.bool false)))], [], 2⟩ [(r_21 == (3 : Int)) = true, (r_24 == (3 : Int)) = true, (r_27 == (0 : Int)) = true, (r_30 == (1 : Int)) = true, r_33 = true, (!r_36) = true, (r_9.2 == (0 : Int)) = true, (r_40 == (2 : Int)) = true, (r_43 == (1 : Int)) = false] (by kernel_rfl) rfl rfl (ap2 b_23 (ap2 b_26 (ap2 b_29 (ap2 b_32 (ap2 b_35 (ap2 b_38 (ap2 b_39 (ap2 b_42 (ap1 b_45))))))))) (by kernel_rfl) (by kernel_rfl) ?_
                      have H_115 := Option.some.inj (show some false = some r from H_101); subst H_115
                      refine VL_ret ?_
                      exact P_to [(0, .c (.val (.bool false)))] [] [] hn (by kernel_rfl) (by kernel_rfl) rfl rfl rfl (QF_retS (by kernel_rfl) (by kernel_rfl) rfl)
                  · have H_98 := of_f H_96 b_42
                    refine V_reg hN hn [(1, ⟨18, 0, [.c (.imm (.opt (.pair (.slice (.pair (.int .i64) (.int .i64))) (.int .i64))) r_2.1)], [], .c (.val (.int .i64 r_21)), [], [], 2⟩), (5, ⟨20, 0, [.c (.imm (.opt (.pair (.slice (.pair (.int .i64) (.int .i64))) (.int .i64))) r_2.1), .c (.val (.int .i64 (2 : Int)))], [], .c (.val (.int .i64 r_24)), [], [], 2⟩), (10, ⟨20, 0, [.c (.imm (.opt (.pair (.slice (.pair (.int .i64) (.int .i64))) (.int .i64))) r_2.1), .c (.val (.int .i64 (9 : Int)))], [], .c (.val (.int .i64 r_27)), [], [], 2⟩), (15, ⟨15, 0, [.c (.imm (.opt (.pair (.slice (.pair (.int .i64) (.int .i64))) (.int .i64))) r_2.1)], [], .c (.val (.int .i64 r_30)), [], [], 2⟩), (20, ⟨39, 0, [.c (.imm (.opt (.pair (.slice (.pair (.int .i64) (.int .i64))) (.int .i64))) r_2.1), .c (.val (.int .i64 (2 : Int)))], [], .c (.val (.bool r_33)), [], [], 2⟩), (24, ⟨39, 0, [.c (.imm (.opt (.pair (.slice (.pair (.int .i64) (.int .i64))) (.int .i64))) r_2.1), .c (.val (.int .i64 (1 : Int)))], [], .c (.val (.bool r_36)), [], [], 2⟩), (33, ⟨15, 0, [.c (.imm (.opt (.pair (.slice (.pair (.int .i64) (.int .i64))) (.int .i64))) r_9.1)], [], .c (.val (.int .i64 r_40)), [], [], 2⟩)] [(38, true), (43, true), (48, true), (53, true), (57, true), (62, true), (66, true), (71, false)] (calls_cons (subset_Subset_Len_spec K r_2.1 r_21 h_22) (by kernel_rfl) (calls_cons (subset_Subset_Count_spec K r_2.1 (2 : Int) r_24 h_25) (by kernel_rfl) (calls_cons (subset_Subset_Count_spec K r_2.1 (9 : Int) r_27 h_28) (by kernel_rfl) (calls_cons (subset_Subset_Size_spec K r_2.1 r_30 h_31) (by kernel_rfl) (calls_cons (subset_Subset_Has_spec K r_2.1 (2 : Int) r_33 h_34) (by kernel_rfl) (calls_cons (subset_Subset_Has_spec K r_2.1 (1 : Int) r_36 h_37) (by kernel_rfl) (calls_cons (subset_Subset_Size_spec K r_9.1 r_40 h_41) (by kernel_rfl) calls_nil))))))) 2 [0] [] ⟨[(0, .c (.val (.bool false)))], [], 2⟩ [(r_21 == (3 : Int)) = true, (r_24 == (3 : Int)) = true, (r_27 == (0 : Int)) = true, (r_30 == (1 : Int)) = true, r_33 = true, (!r_36) = true, (r_9.2 == (0 : Int)) = true, (r_40 == (2 : Int)) = false] (by kernel_rfl) rfl rfl (ap2 b_23 (ap2 b_26 (ap2 b_29 (ap2 b_32 (ap2 b_35 (ap2 b_38 (ap2 b_39 (ap1 b_42)))))))) (by kernel_rfl) (by kernel_rfl) ?_
                    have H_116 := Option.some.inj (show some false = some r from H_98); subst H_116
                    refine VL_ret ?_
                    exact P_to [(0, .c (.val (.bool false)))] [] [] hn (by kernel_rfl) (by kernel_rfl) rfl rfl rfl (QF_retS (by kernel_rfl) (by kernel_rfl) rfl)
                · have H_95 := of_f H_92 b_39
                  refine V_reg hN hn [(1, ⟨18, 0, [.c (.imm (.opt (.pair (.slice (.pair (.int .i64) (.int .i64))) (.int .i64))) r_2.1)], [], .c (.val (.int .i64 r_21)), [], [], 2⟩), (5, ⟨20, 0, [.c (.imm (.opt (.pair (.slice (.pair (.int .i64) (.int .i64))) (.int .i64))) r_2.1), .c (.val (.int .i64 (2 : Int)))], [], .c (.val (.int .i64 r_24)), [], [], 2⟩), (10, ⟨20, 0, [.c (.imm (.opt (.pair (.slice (.pair (.int .i64) (.int .i64))) (.int .i64))) r_2.1), .c (.val (.int .i64 (9 : Int)))], [], .c (.val (.int .i64 r_27)), [], [], 2⟩), (15, ⟨15, 0, [.c (.imm (.opt (.pair (.slice (.pair (.int .i64) (.int .i64))) (.int .i64))) r_2.1)], [], .c (.val (.int .i64 r_30)), [], [], 2⟩), (20, ⟨39, 0, [.c (.imm (.opt (.pair (.slice (.pair (.int .i64) (.int .i64))) (.int .i64))) r_2.1), .c (.val (.int .i64 (2 : Int)))], [], .c (.val (.bool r_33)), [], [], 2⟩), (24, ⟨39, 0, [.c (.imm (.opt (.pair (.slice (.pair (.int .i64) (.int .i64))) (.int .i64))) r_2.1), .c (.val (.int .i64 (1 : Int)))], [], .c (.val (.bool r_36)), [], [], 2⟩)] [(38, true), (43, true), (48, true), (53, true), (57, true), (62, true), (66, false)] (calls_cons (subset_Subset_Len_spec K r_2.1 r_21 h_22) (by kernel_rfl) (calls_cons (subset_Subset_Count_spec K r_2.1 (2 : Int) r_24 h_25) (by kernel_rfl) (calls_cons (subset_Subset_Count_spec K r_2.1 (9 : Int) r_27 h_28) (by kernel_rfl) (calls_cons (subset_Subset_Size_spec K r_2.1 r_30 h_31) (by kernel_rfl) (calls_cons (subset_Subset_Has_spec K r_2.1 (2 : Int) r_33 h_34) (by kernel_rfl) (calls_cons (subset_Subset_Has_spec K r_2.1 (1 : Int) r_36 h_37) (by kernel_rfl) calls_nil)))))) 2 [0] [] ⟨[(0, .c (.val (.bool false)))], [], 2⟩ [(r_21 == (3 : Int)) = true, (r_24 == (3 : Int)) = true, (r_27 == (0 : Int)) = true, (r_30 == (1 : Int)) = true, r_33 = true, (!r_36) = true, (r_9.2 == (0 : Int)) = false] (by kernel_rfl) rfl rfl (ap2 b_23 (ap2 b_26 (ap2 b_29 (ap2 b_32 (ap2 b_35 (ap2 b_38 (ap1 b_39))))))) (by kernel_rfl) (by kernel_rfl) ?_
                  have H_117 := Option.some.inj (show some false = some r from H_95); subst H_117
                  refine VL_ret ?_
                  exact P_to [(0, .c (.val (.bool false)))] [] [] hn (by kernel_rfl) (by kernel_rfl) rfl rfl rfl (QF_retS (by kernel_rfl) (by kernel_rfl) rfl)
              · have H_93 := of_f H_91 b_38
                refine V_reg hN hn [(1, ⟨18, 0, [.c (.imm (.opt (.pair (.slice (.pair (.int .i64) (.int .i64))) (.int .i64))) r_2.1)], [], .c (.val (.int .i64 r_21)), [], [], 2⟩), (5, ⟨20, 0, [.c (.imm (.opt (.pair (.slice (.pair (.int .i64) (.int .i64))) (.int .i64))) r_2.1), .c (.val (.int .i64 (2 : Int)))], [], .c (.val (.int .i64 r_24)), [], [], 2⟩), (10, ⟨20, 0, [.c (.imm (.opt (.pair (.slice (.pair (.int .i64) (.int .i64))) (.int .i64))) r_2.1), .c (.val (.int .i64 (9 : Int)))], [], .c (.val (.int .i64 r_27)), [], [], 2⟩), (15, ⟨15, 0, [.c (.imm (.opt (.pair (.slice (.pair (.int .i64) (.int .i64))) (.int .i64))) r_2.1)], [], .c (.val (.int .i64 r_30)), [], [], 2⟩), (20, ⟨39, 0, [.c (.imm (.opt (.pair (.slice (.pair (.int .i64) (.int .i64))) (.int .i64))) r_2.1), .c (.val (.int .i64 (2 : Int)))], [], .c (.val (.bool r_33)), [], [], 2⟩), (24, ⟨39, 0, [.c (.imm (.opt (.pair (.slice (.pair (.int .i64) (.int .i64))) (.int .i64))) r_2.1), .c (.val (.int .i64 (1 : Int)))], [], .c (.val (.bool r_36)), [], [], 2⟩)] [(38, true), (43, true), (48, true), (53, true), (57, true), (62, false)] (calls_cons (subset_Subset_Len_spec K r_2.1 r_21 h_22) (by kernel_rfl) (calls_cons (subset_Subset_Count_spec K r_2.1 (2 : Int) r_24 h_25) (by kernel_rfl) (calls_cons (subset_Subset_Count_spec K r_2.1 (9 : Int) r_27 h_28) (by kernel_rfl) (calls_cons (subset_Subset_Size_spec K r_2.1 r_30 h_31) (by kernel_rfl) (calls_cons (subset_Subset_Has_spec K r_2.1 (2 : Int) r_33 h_34) (by kernel_rfl) (calls_cons (subset_Subset_Has_spec K r_2.1 (1 : Int) r_36 h_37) (by kernel_rfl) calls_nil)))))) 2 [0] [] ⟨[(0, .c (.val (.bool false)))], [], 2⟩ [(r_21 == (3 : Int)) = true, (r_24 == (3 : Int)) = true, (r_27 == (0 : Int)) = true, (r_30 == (1 : Int)) = true, r_33 = true, (!r_36) = false] (by kernel_rfl) rfl rfl (ap2 b_23 (ap2 b_26 (ap2 b_29 (ap2 b_32 (ap2 b_35 (ap1 b_38)))))) (by kernel_rfl) (by kernel_rfl) ?_
                have H_118 := Option.some.inj (show some false = some r from H_93); subst H_118
                refine VL_ret ?_
                exact P_to [(0, .c (.val (.bool false)))] [] [] hn (by kernel_rfl) (by kernel_rfl) rfl rfl rfl (QF_retS (by kernel_rfl) (by kernel_rfl) rfl)
            · have H_90 := of_f H_88 b_35
              refine V_reg hN hn [(1, ⟨18, 0, [.c (.imm (.opt (.pair (.slice (.pair (.int .i64) (.int .i64))) (.int .i64))) r_2.1)], [], .c (.val (.int .i64 r_21)), [], [], 2⟩), (5, ⟨20, 0, [.c (.imm (.opt (.pair (.slice (.pair (.int .i64) (.int .i64))) (.int .i64))) r_2.1), .c (.val (.int .i64 (2 : Int)))], [], .c (.val (.int .i64 r_24)), [], [], 2⟩), (10, ⟨20, 0, [.c (.imm (.opt (.pair (.slice (.pair (.int .i64) (.int .i64))) (.int .i64))) r_2.1), .c (.val (.int .i64 (9 : Int)))], [], .c (.val (.int .i64 r_27)), [], [], 2⟩), (15, ⟨15, 0, [.c (.imm (.opt (.pair (.slice (.pair (.int .i64) (.int .i64))) (.int .i64))) r_2.1)], [], .c (.val (.int .i64 r_30)), [], [], 2⟩), (20, ⟨39, 0, [.c (.imm (.opt (.pair (.slice (.pair (.int .i64) (.int .i64))) (.int .i64))) r_2.1), .c (.val (.int .i64 (2 : Int)))], [], .c (.val (.bool r_33)), [], [], 2⟩)] [(38, true), (43, true), (48, true), (53, true), (57, false)] (calls_cons (subset_Subset_Len_spec K r_2.1 r_21 h_22) (by kernel_rfl) (calls_cons (subset_Subset_Count_spec K r_2.1 (2 : Int) r_24 h_25) (by kernel_rfl) (calls_cons (subset_Subset_Count_spec K r_2.1 (9 : Int) r_27 h_28) (by kernel_rfl) (calls_cons (subset_Subset_Size_spec K r_2.1 r_30 h_31) (by kernel_rfl) (calls_cons (subset_Subset_Has_spec K r_2.1 (2 : Int) r_33 h_34) (by kernel_rfl) calls_nil))))) 2 [0] [] ⟨[(0, .c (.val (.bool false)))], [], 2⟩ [(r_21 == (3 : Int)) = true, (r_24 == (3 : Int)) = true, (r_27 == (0 : Int)) = true, (r_30 == (1 : Int)) = true, r_33 = false] (by kernel_rfl) rfl rfl (ap2 b_23 (ap2 b_26 (ap2 b_29 (ap2 b_32 (ap1 b_35))))) (by kernel_rfl) (by kernel_rfl) ?_
              have H_119 := Option.some.inj (show some false = some r from H_90); subst H_119
              refine VL_ret ?_
              exact P_to [(0, .c (.val (.bool false)))] [] [] hn (by kernel_rfl) (by kernel_rfl) rfl rfl rfl (QF_retS (by kernel_rfl) (by kernel_rfl) rfl)
          · have H_87 := of_f H_85 b_32
            refine V_reg hN hn [(1, ⟨18, 0, [.c (.imm (.opt (.pair (.slice (.pair (.int .i64) (.int .i64))) (.int .i64))) r_2.1)], [], .c (.val (.int .i64 r_21)), [], [], 2⟩), (5, ⟨20, 0, [.c (.imm (.opt (.pair (.slice (.pair (.int .i64) (.int .i64))) (.int .i64))) r_2.1), .c (.val (.int .i64 (2 : Int)))], [], .c (.val (.int .i64 r_24)), [], [], 2⟩), (10, ⟨20, 0, [.c (.imm (.opt (.pair (.slice (.pair (.int .i64) (.int .i64))) (.int .i64))) r_2.1), .c (.val (.int .i64 (9 : Int)))], [], .c (.val (.int .i64 r_27)), [], [], 2⟩), (15, ⟨15, 0, [.c (.imm (.opt (.pair (.slice (.pair (.int .i64) (.int .i64))) (.int .i64))) r_2.1)], [], .c (.val (.int .i64 r_30)), [], [], 2⟩)] [(38, true), (43, true), (48, true), (53, false)] (calls_cons (subset_Subset_Len_spec K r_2.1 r_21 h_22) (by kernel_rfl) (calls_cons (subset_Subset_Count_spec K r_2.1 (2 : Int) r_24 h_25) (by kernel_rfl) (calls_cons (subset_Subset_Count_spec K r_2.1 (9 : Int) r_27 h_28) (by kernel_rfl) (calls_cons (subset_Subset_Size_spec K r_2.1 r_30 h_31) (by kernel_rfl) calls_nil)))) 2 [0] [] ⟨[(0, .c (.val (.bool false)))], [], 2⟩ [(r_21 == (3 : Int)) = true, (r_24 == (3 : Int)) = true, (r_27 == (0 : Int)) = true, (r_30 == (1 : Int)) = false] (by kernel_rfl) rfl rfl (ap2 b_23 (ap2 b_26 (ap2 b_29 (ap1 b_32)))) (by kernel_rfl) (by kernel_rfl) ?_
            have H_120 := Option.some.inj (show some false = some r from H_87); subst H_120
            refine VL_ret ?_
            exact P_to [(0, .c (.val (.bool false)))] [] [] hn (by kernel_rfl) (by kernel_rfl) rfl rfl rfl (QF_retS (by kernel_rfl) (by kernel_rfl) rfl)
        · have H_84 := of_f H_82 b_29
          refine V_reg hN hn [(1, ⟨18, 0, [.c (.imm (.opt (.pair (.slice (.pair (.int .i64) (.int .i64))) (.int .i64))) r_2.1)], [], .c (.val (.int .i64 r_21)), [], [], 2⟩), (5, ⟨20, 0, [.c (.imm (.opt (.pair (.slice (.pair (.int .i64) (.int .i64))) (.int .i64))) r_2.1), .c (.val (.int .i64 (2 : Int)))], [], .c (.val (.int .i64 r_24)), [], [], 2⟩), (10, ⟨20, 0, [.c (.imm (.opt (.pair (.slice (.pair (.int .i64) (.int .i64))) (.int .i64))) r_2.1), .c (.val (.int .i64 (9 : Int)))], [], .c (.val (.int .i64 r_27)), [], [], 2⟩)] [(38, true), (43, true), (48, false)] (calls_cons (subset_Subset_Len_spec K r_2.1 r_21 h_22) (by kernel_rfl) (calls_cons (subset_Subset_Count_spec K r_2.1 (2 : Int) r_24 h_25) (by kernel_rfl) (calls_cons (subset_Subset_Count_spec K r_2.1 (9 : Int) r_27 h_28) (by kernel_rfl) calls_nil))) 2 [0] [] ⟨[(0, .c (.val (.bool false)))], [], 2⟩ [(r_21 == (3 : Int)) = true, (r_24 == (3 : Int)) = true, (r_27 == (0 : Int)) = false] (by kernel_rfl) rfl rfl (ap2 b_23 (ap2 b_26 (ap1 b_29))) (by kernel_rfl) (by kernel_rfl) ?_
          have H_121 := Option.some.inj (show some false = some r from H_84); subst H_121
          refine VL_ret ?_
          exact P_to [(0, .c (.val (.bool false)))] [] [] hn (by kernel_rfl) (by kernel_rfl) rfl rfl rfl (QF_retS (by kernel_rfl) (by kernel_rfl) rfl)
      · have H_81 := of_f H_79 b_26
        refine V_reg hN hn [(1, ⟨18, 0, [.c (.imm (.opt (.pair (.slice (.pair (.int .i64) (.int .i64))) (.int .i64))) r_2.1)], [], .c (.val (.int .i64 r_21)), [], [], 2⟩), (5, ⟨20, 0, [.c (.imm (.opt (.pair (.slice (.pair (.int .i64) (.int .i64))) (.int .i64))) r_2.1), .c (.val (.int .i64 (2 : Int)))], [], .c (.val (.int .i64 r_24)), [], [], 2⟩)] [(38, true), (43, false)] (calls_cons (subset_Subset_Len_spec K r_2.1 r_21 h_22) (by kernel_rfl) (calls_cons (subset_Subset_Count_spec K r_2.1 (2 : Int) r_24 h_25) (by kernel_rfl) calls_nil)) 2 [0] [] ⟨[(0, .c (.val (.bool false)))], [], 2⟩ [(r_21 == (3 : Int)) = true, (r_24 == (3 : Int)) = false] (by kernel_rfl) rfl rfl (ap2 b_23 (ap1 b_26)) (by kernel_rfl) (by kernel_rfl) ?_
        have H_122 := Option.some.inj (show some false = some r from H_81); subst H_122
        refine VL_ret ?_
        exact P_to [(0, .c (.val (.bool false)))] [] [] hn (by kernel_rfl) (by kernel_rfl) rfl rfl rfl (QF_retS (by kernel_rfl) (by kernel_rfl) rfl)
    · have H_78 := of_f H_76 b_23
      refine V_reg hN hn [(1, ⟨18, 0, [.c (.imm (.opt (.pair (.slice (.pair (.int .i64) (.int .i64))) (.int .i64))) r_2.1)], [], .c (.val (.int .i64 r_21)), [], [], 2⟩)] [(38, false)] (calls_cons (subset_Subset_Len_spec K r_2.1 r_21 h_22) (by kernel_rfl) calls_nil) 2 [0] [] ⟨[(0, .c (.val (.bool false)))], [], 2⟩ [(r_21 == (3 : Int)) = false] (by kernel_rfl) rfl rfl (ap1 b_23) (by kernel_rfl) (by kernel_rfl) ?_
      have H_123 := Option.some.inj (show some false = some r from H_78); subst H_123
      refine VL_ret ?_
      exact P_to [(0, .c (.val (.bool false)))] [] [] hn (by kernel_rfl) (by kernel_rfl) rfl rfl rfl (QF_retS (by kernel_rfl) (by kernel_rfl) rfl)

theorem palinodelaw7_few_spec (K : Nat) (segs_1 : (List (Int × Int))) (r : Bool) (H : palinodelaw7_few K segs_1 = some r) : Spec Try.prog 34 0 [.c (.imm (.slice (.pair (.int .i64) (.int .i64))) segs_1)] [] (.c (.val (.bool r))) [] := by
  refine Spec_mk (fn := Try.f34) (c := (Try.f34.body).get!) Try.func34 (by kernel_rfl) rfl ?_
  intro C hN hn
  replace hN : C.N = 32 := hN
  unfold palinodelaw7_few at H
  refine V_run hN hn 7 0 [0, 3, 4] [] ⟨[(0, .c (.imm (.slice (.pair (.int .i64) (.int .i64))) segs_1)), (3, .c (.val (.int .i64 (0 : Int)))), (4, .c (.val (.int .i64 (0 : Int))))], [], 0⟩ [] (by kernel_rfl) rfl rfl ap0 ?_
  obtain ⟨q_22, H_23, H_24⟩ := of_bind H
  refine V_cut (Y := Int) (R := (Bool ⊕ Int)) q_22 (fun y => (Sum.inr y)) (fun y => [(0, .c (.imm (.slice (.pair (.int .i64) (.int .i64))) segs_1)), (3, .c (.val (.int .i64 y)))]) (fun y => []) ?_ ?_
  · skip
    refine VL_block ?_
    refine V_to [(0, .c (.imm (.slice (.pair (.int .i64) (.int .i64))) segs_1)), (3, .c (.val (.int .i64 (0 : Int)))), (4, .c (.val (.int .i64 (0 : Int))))] [] [] hn (by kernel_rfl) (by kernel_rfl) rfl rfl rfl ?_
    refine VL_loop (X := (Int × Int)) (fun x => [(0, .c (.imm (.slice (.pair (.int .i64) (.int .i64))) segs_1)), (3, .c (.val (.int .i64 x.1))), (4, .c (.val (.int .i64 x.2)))]) (fun x => []) (fun k x => palinodelaw7_few.l0 K segs_1 k x.1 x.2 = some q_22) K ((0 : Int), (0 : Int)) H_23 (fun _ h => no_none h) ?_
    intro k_5 x_5 H_26
    obtain ⟨n_3, i_4⟩ := x_5
    have H_27 : palinodelaw7_few.l0 K segs_1 (k_5 + 1) n_3 i_4 = some q_22 := H_26
    rw [palinodelaw7_few.l0] at H_27
    refine V_run hN hn 3 0 [0, 3, 4, 8] [] ⟨[(0, .c (.imm (.slice (.pair (.int .i64) (.int .i64))) segs_1)), (3, .c (.val (.int .i64 n_3))), (4, .c (.val (.int .i64 i_4))), (8, .c (.val (.bool (decide (i_4 < (((List.length segs_1) : Nat) : Int))))))], [], 0⟩ [] (by kernel_rfl) rfl rfl ap0 ?_
    refine VL_cond ((decide (i_4 < (((List.length segs_1) : Nat) : Int)))) (by kernel_rfl) ?_ ?_
    · intro b_7; have H_28 := of_t H_27 b_7
      refine V_run hN hn 2 0 [0, 3, 4, 8] [] ⟨[(0, .c (.imm (.slice (.pair (.int .i64) (.int .i64))) segs_1)), (3, .c (.val (.int .i64 n_3))), (4, .c (.val (.int .i64 i_4))), (8, .c (.val (.bool (decide (i_4 < (((List.length segs_1) : Nat) : Int))))))], [], 0⟩ [] (by kernel_rfl) rfl rfl ap0 ?_
      refine VL_block ?_
      obtain ⟨c_9, H_30⟩ := of_if H_28
      refine V_run hN hn 3 0 [0, 3, 4, 16] [] ⟨[(0, .c (.imm (.slice (.pair (.int .i64) (.int .i64))) segs_1)), (3, .c (.val (.int .i64 n_3))), (4, .c (.val (.int .i64 i_4))), (16, .c (.val (.bool (decide ((List.getD segs_1 (Int.toNat i_4) ((0 : Int), (0 : Int))).1 > (300 : Int))))))], [], 0⟩ [0 ≤ i_4, i_4 < (((List.length segs_1) : Nat) : Int)] (by kernel_rfl) rfl rfl (ap2 c_9.1 (ap1 c_9.2)) ?_
      refine VL_cond ((decide ((List.getD segs_1 (Int.toNat i_4) ((0 : Int), (0 : Int))).1 > (300 : Int)))) (by kernel_rfl) ?_ ?_
      · intro b_10; have H_31 := of_t H_30 b_10
        refine V_run hN hn 2 0 [2] [] ⟨[(2, .c (.val (.bool false)))], [], 0⟩ [] (by kernel_rfl) rfl rfl ap0 ?_
        have H_33 := Option.some.inj (show some (Sum.inl false) = some q_22 from H_31); subst H_33
        have H_34 := Option.some.inj (show some false = some r from H_24); subst H_34
        refine VL_ret ?_
        refine QB_ret ?_
        refine QL_ret ?_
        refine QB_ret ?_
        refine QP_ret ?_
        exact P_to [(2, .c (.val (.bool false)))] [] [] hn (by kernel_rfl) (by kernel_rfl) rfl rfl rfl (QF_retS (by kernel_rfl) (by kernel_rfl) rfl)
      · intro b_10; have H_32 := of_f H_30 b_10
        refine V_run hN hn 2 0 [0, 3, 4] [] ⟨[(0, .c (.imm (.slice (.pair (.int .i64) (.int .i64))) segs_1)), (3, .c (.val (.int .i64 (IntKind.wrap .i64 (n_3 + (mx2 (0 : Int) (List.getD segs_1 (Int.toNat i_4) ((0 : Int), (0 : Int))).1)))))), (4, .c (.val (.int .i64 i_4)))], [], 0⟩ [0 ≤ i_4, i_4 < (((List.length segs_1) : Nat) : Int)] (by kernel_rfl) rfl rfl (ap2 c_9.1 (ap1 c_9.2)) ?_
        refine VL_nil (QB_end ?_)
        refine V_run hN hn 1 0 [0, 3, 4] [] ⟨[(0, .c (.imm (.slice (.pair (.int .i64) (.int .i64))) segs_1)), (3, .c (.val (.int .i64 (IntKind.wrap .i64 (n_3 + (mx2 (0 : Int) (List.getD segs_1 (Int.toNat i_4) ((0 : Int), (0 : Int))).1)))))), (4, .c (.val (.int .i64 (IntKind.wrap .i64 (i_4 + (1 : Int))))))], [], 0⟩ [] (by kernel_rfl) rfl rfl ap0 ?_
        refine VL_nil ?_
        exact V_roundEnd ((IntKind.wrap .i64 (n_3 + (mx2 (0 : Int) (List.getD segs_1 (Int.toNat i_4) ((0 : Int), (0 : Int))).1))), (IntKind.wrap .i64 (i_4 + (1 : Int)))) H_32 [] hn (by kernel_rfl) (by kernel_rfl) rfl rfl rfl
    · intro b_7; have H_29 := of_f H_27 b_7
      refine VL_exit ?_
      refine QL_exit ?_
      refine QB_here ?_
      have H_35 := Option.some.inj (show some (Sum.inr n_3) = some q_22 from H_29); subst H_35
      refine VL_nil ?_
      exact QP_end n_3 rfl [] hn (by kernel_rfl) (by kernel_rfl) rfl rfl rfl
  · intro y_25 hy; subst hy
    skip
    skip
    refine V_run hN hn 1 0 [0, 3] [] ⟨[(0, .c (.imm (.slice (.pair (.int .i64) (.int .i64))) segs_1)), (3, .c (.val (.int .i64 y_25)))], [], 0⟩ [] (by kernel_rfl) rfl rfl ap0 ?_
    rcases Bool.eq_false_or_eq_true ((decide (y_25 ≤ (600 : Int)))) with b_16 | b_16
    · have H_36 := of_t H_24 b_16
      refine V_reg hN hn [] [(27, true)] calls_nil 0 [2] [] ⟨[(2, .c (.val (.bool (decide ((((List.length segs_1) : Nat) : Int) ≤ (250 : Int))))))], [], 0⟩ [(decide (y_25 ≤ (600 : Int))) = true] (by kernel_rfl) rfl rfl (ap1 b_16) (by kernel_rfl) (by kernel_rfl) ?_
      have H_38 := Option.some.inj (show some (decide ((((List.length segs_1) : Nat) : Int) ≤ (250 : Int))) = some r from H_36); subst H_38
      refine VL_ret ?_
      exact P_to [(2, .c (.val (.bool (decide ((((List.length segs_1) : Nat) : Int) ≤ (250 : Int))))))] [] [] hn (by kernel_rfl) (by kernel_rfl) rfl rfl rfl (QF_retS (by kernel_rfl) (by kernel_rfl) rfl)
    · have H_37 := of_f H_24 b_16
      refine V_reg hN hn [] [(27, false)] calls_nil 0 [2] [] ⟨[(2, .c (.val (.bool false)))], [], 0⟩ [(decide (y_25 ≤ (600 : Int))) = false] (by kernel_rfl) rfl rfl (ap1 b_16) (by kernel_rfl) (by kernel_rfl) ?_
      have H_39 := Option.some.inj (show some false = some r from H_37); subst H_39
      refine VL_ret ?_
      exact P_to [(2, .c (.val (.bool false)))] [] [] hn (by kernel_rfl) (by kernel_rfl) rfl rfl rfl (QF_retS (by kernel_rfl) (by kernel_rfl) rfl)

theorem subset_Pack_spec (K : Nat) (segs_1 : (List (Int × Int))) (r : ((Option ((List (Int × Int)) × Int)) × Int)) (H : subset_Pack_r K segs_1 = some r) : Spec Try.prog 40 0 [.c (.imm (.slice (.pair (.int .i64) (.int .i64))) segs_1)] [] (.tup [(false, [.imm (.opt (.pair (.slice (.pair (.int .i64) (.int .i64))) (.int .i64))) r.1]), (false, [.val (.int .i64 r.2)])]) [] := by
  refine Spec_mk (fn := Try.f40) (c := (Try.f40.body).get!) Try.func40 (by kernel_rfl) rfl ?_
  intro C hN hn
  replace hN : C.N = 88 := hN
  unfold subset_Pack_r at H
  refine V_run hN hn 7 0 [4, 10, 11, 12] [0] ⟨[(4, .c (.h 0)), (10, .c (.imm (.slice (.pair (.int .i64) (.int .i64))) segs_1)), (11, .c (.val (.int .i64 (((List.length segs_1) : Nat) : Int)))), (12, .c (.val (.int .i64 (0 : Int))))], [(0, .box [.val (.slice none 0 0), .val (.int .i64 (0 : Int))])], 1⟩ [] (by kernel_rfl) rfl rfl ap0 ?_
  obtain ⟨q_61, H_62, H_63⟩ := of_bind H
  refine V_cut (Y := ((List (Int × Int)) × Int)) (R := (((Option ((List (Int × Int)) × Int)) × Int) ⊕ ((List (Int × Int)) × Int))) q_61 (fun y => (Sum.inr y)) (fun y => [(4, .c (.h 0))]) (fun y => [(0, .box [.h 4, .val (.int .i64 y.2)]), (4, .row (.pair (.int .i64) (.int .i64)) y.1)]) ?_ ?_
  · skip
    refine VL_block ?_
    refine V_ghost [.nilCell 0 0 (.pair (.int .i64) (.int .i64))] 1 hn [4, 10, 11, 12] [0, 1] ⟨[(4, .c (.h 0)), (10, .c (.imm (.slice (.pair (.int .i64) (.int .i64))) segs_1)), (11, .c (.val (.int .i64 (((List.length segs_1) : Nat) : Int)))), (12, .c (.val (.int .i64 (0 : Int))))], [(0, .box [.h 1, .val (.int .i64 (0 : Int))]), (1, .row (.pair (.int .i64) (.int .i64)) ([] : List (Int × Int)))], 2⟩ (by kernel_rfl) rfl rfl ?_
    refine V_to [(4, .c (.h 0)), (10, .c (.imm (.slice (.pair (.int .i64) (.int .i64))) segs_1)), (11, .c (.val (.int .i64 (((List.length segs_1) : Nat) : Int)))), (12, .c (.val (.int .i64 (0 : Int))))] [(0, .box [.h 4, .val (.int .i64 (0 : Int))]), (4, .row (.pair (.int .i64) (.int .i64)) ([] : List (Int × Int)))] [(0, 0), (4, 1)] hn (by kernel_rfl) (by kernel_rfl) rfl rfl rfl ?_
    refine VL_loop (X := ((List (Int × Int)) × Int × Int)) (fun x => [(4, .c (.h 0)), (10, .c (.imm (.slice (.pair (.int .i64) (.int .i64))) segs_1)), (11, .c (.val (.int .i64 (((List.length segs_1) : Nat) : Int)))), (12, .c (.val (.int .i64 x.2.2)))]) (fun x => [(0, .box [.h 4, .val (.int .i64 x.2.1)]), (4, .row (.pair (.int .i64) (.int .i64)) x.1)]) (fun k x => subset_Pack_r.l0 K segs_1 k x.1 x.2.1 x.2.2 = some q_61) K (([] : List (Int × Int)), (0 : Int), (0 : Int)) H_62 (fun _ h => no_none h) ?_
    intro k_24 x_24 H_65
    obtain ⟨x_22, x_23, t_3⟩ := x_24
    have H_66 : subset_Pack_r.l0 K segs_1 (k_24 + 1) x_22 x_23 t_3 = some q_61 := H_65
    rw [subset_Pack_r.l0] at H_66
    refine V_run hN hn 3 5 [4, 10, 11, 12, 13] [0, 4] ⟨[(4, .c (.h 0)), (10, .c (.imm (.slice (.pair (.int .i64) (.int .i64))) segs_1)), (11, .c (.val (.int .i64 (((List.length segs_1) : Nat) : Int)))), (12, .c (.val (.int .i64 t_3))), (13, .c (.val (.bool (decide (t_3 < (((List.length segs_1) : Nat) : Int))))))], [(0, .box [.h 4, .val (.int .i64 x_23)]), (4, .row (.pair (.int .i64) (.int .i64)) x_22)], 5⟩ [] (by kernel_rfl) rfl rfl ap0 ?_
    refine VL_cond ((decide (t_3 < (((List.length segs_1) : Nat) : Int)))) (by kernel_rfl) ?_ ?_
    · intro b_26; have H_67 := of_t H_66 b_26
      refine V_run hN hn 2 5 [4, 10, 11, 12, 13] [0, 4] ⟨[(4, .c (.h 0)), (10, .c (.imm (.slice (.pair (.int .i64) (.int .i64))) segs_1)), (11, .c (.val (.int .i64 (((List.length segs_1) : Nat) : Int)))), (12, .c (.val (.int .i64 t_3))), (13, .c (.val (.bool (decide (t_3 < (((List.length segs_1) : Nat) : Int))))))], [(0, .box [.h 4, .val (.int .i64 x_23)]), (4, .row (.pair (.int .i64) (.int .i64)) x_22)], 5⟩ [] (by kernel_rfl) rfl rfl ap0 ?_
      refine VL_block ?_
      obtain ⟨c_28, H_69⟩ := of_if H_67
      refine V_run hN hn 5 5 [4, 6, 10, 11, 12, 18] [0, 4, 5] ⟨[(4, .c (.h 0)), (6, .c (.h 5)), (10, .c (.imm (.slice (.pair (.int .i64) (.int .i64))) segs_1)), (11, .c (.val (.int .i64 (((List.length segs_1) : Nat) : Int)))), (12, .c (.val (.int .i64 t_3))), (18, .c (.val (.bool ((List.getD segs_1 (Int.toNat t_3) ((0 : Int), (0 : Int))).1 == (0 : Int)))))], [(0, .box [.h 4, .val (.int .i64 x_23)]), (4, .row (.pair (.int .i64) (.int .i64)) x_22), (5, .box [.val (.int .i64 (List.getD segs_1 (Int.toNat t_3) ((0 : Int), (0 : Int))).1), .val (.int .i64 (List.getD segs_1 (Int.toNat t_3) ((0 : Int), (0 : Int))).2)])], 6⟩ [0 ≤ t_3, t_3 < (((List.length segs_1) : Nat) : Int)] (by kernel_rfl) rfl rfl (ap2 c_28.1 (ap1 c_28.2)) ?_
      refine VL_cond (((List.getD segs_1 (Int.toNat t_3) ((0 : Int), (0 : Int))).1 == (0 : Int))) (by kernel_rfl) ?_ ?_
      · intro b_29; have H_70 := of_t H_69 b_29
        refine VL_exit ?_
        refine QB_here ?_
        refine V_run hN hn 1 6 [4, 10, 11, 12] [0, 4] ⟨[(4, .c (.h 0)), (10, .c (.imm (.slice (.pair (.int .i64) (.int .i64))) segs_1)), (11, .c (.val (.int .i64 (((List.length segs_1) : Nat) : Int)))), (12, .c (.val (.int .i64 (IntKind.wrap .i64 (t_3 + (1 : Int))))))], [(0, .box [.h 4, .val (.int .i64 x_23)]), (4, .row (.pair (.int .i64) (.int .i64)) x_22)], 6⟩ [] (by kernel_rfl) rfl rfl ap0 ?_
        refine VL_nil ?_
        exact V_roundEnd (x_22, x_23, (IntKind.wrap .i64 (t_3 + (1 : Int)))) H_70 [(0, 0), (4, 4)] hn (by kernel_rfl) (by kernel_rfl) rfl rfl rfl
      · intro b_29; have H_71 := of_f H_69 b_29
        refine V_run hN hn 3 6 [4, 6, 10, 11, 12, 18] [0, 4, 5] ⟨[(4, .c (.h 0)), (6, .c (.h 5)), (10, .c (.imm (.slice (.pair (.int .i64) (.int .i64))) segs_1)), (11, .c (.val (.int .i64 (((List.length segs_1) : Nat) : Int)))), (12, .c (.val (.int .i64 t_3))), (18, .c (.val (.bool ((List.getD segs_1 (Int.toNat t_3) ((0 : Int), (0 : Int))).1 == (0 : Int)))))], [(0, .box [.h 4, .val (.int .i64 x_23)]), (4, .row (.pair (.int .i64) (.int .i64)) x_22), (5, .box [.val (.int .i64 (List.getD segs_1 (Int.toNat t_3) ((0 : Int), (0 : Int))).1), .val (.int .i64 (List.getD segs_1 (Int.toNat t_3) ((0 : Int), (0 : Int))).2)])], 6⟩ [] (by kernel_rfl) rfl rfl ap0 ?_
        refine V_draw hN hn (by kernel_rfl) [] [] calls_nil 6 [4, 6, 10, 11, 12, 26] [0, 4, 5] ⟨[(4, .c (.h 0)), (6, .c (.h 5)), (10, .c (.imm (.slice (.pair (.int .i64) (.int .i64))) segs_1)), (11, .c (.val (.int .i64 (((List.length segs_1) : Nat) : Int)))), (12, .c (.val (.int .i64 t_3))), (26, .c (.val (.bool (decide ((List.getD segs_1 (Int.toNat t_3) ((0 : Int), (0 : Int))).1 > (IntKind.wrap .i64 ((20000 : Int) - x_23)))))))], [(0, .box [.h 4, .val (.int .i64 x_23)]), (4, .row (.pair (.int .i64) (.int .i64)) x_22), (5, .box [.val (.int .i64 (List.getD segs_1 (Int.toNat t_3) ((0 : Int), (0 : Int))).1), .val (.int .i64 (List.getD segs_1 (Int.toNat t_3) ((0 : Int), (0 : Int))).2)])], 6⟩ [] (by kernel_rfl) rfl rfl ap0 (by kernel_rfl) (by kernel_rfl) ?_
        refine VL_cond ((decide ((List.getD segs_1 (Int.toNat t_3) ((0 : Int), (0 : Int))).1 > (IntKind.wrap .i64 ((20000 : Int) - x_23))))) (by kernel_rfl) ?_ ?_
        · intro b_33; have H_72 := of_t H_71 b_33
          refine V_run hN hn 2 6 [2, 3] [] ⟨[(2, .c (.val (.pointer none))), (3, .c (.val (.int .i64 (70 : Int))))], [], 6⟩ [] (by kernel_rfl) rfl rfl ap0 ?_
          have H_74 := Option.some.inj (show some (Sum.inl ((none : (Option ((List (Int × Int)) × Int))), (70 : Int))) = some q_61 from H_72); subst H_74
          have H_75 := Option.some.inj (show some ((none : (Option ((List (Int × Int)) × Int))), (70 : Int)) = some r from H_63); subst H_75
          refine VL_ret ?_
          refine QB_ret ?_
          refine QL_ret ?_
          refine QB_ret ?_
          refine QP_ret ?_
          refine P_ghost [.read 2 (.opt (.pair (.slice (.pair (.int .i64) (.int .i64))) (.int .i64)))] 6 hn [2, 3] [] ⟨[(2, .c (.imm (.opt (.pair (.slice (.pair (.int .i64) (.int .i64))) (.int .i64))) (none : (Option ((List (Int × Int)) × Int))))), (3, .c (.val (.int .i64 (70 : Int))))], [], 6⟩ (by kernel_rfl) rfl rfl ?_
          exact P_to [(2, .c (.imm (.opt (.pair (.slice (.pair (.int .i64) (.int .i64))) (.int .i64))) (none : (Option ((List (Int × Int)) × Int))))), (3, .c (.val (.int .i64 (70 : Int))))] [] [] hn (by kernel_rfl) (by kernel_rfl) rfl rfl rfl (QF_retS (by kernel_rfl) (by kernel_rfl) rfl)
        · intro b_33; have H_73 := of_f H_71 b_33
          refine V_run hN hn 2 6 [4, 6, 10, 11, 12, 26] [0, 4, 5] ⟨[(4, .c (.h 0)), (6, .c (.h 5)), (10, .c (.imm (.slice (.pair (.int .i64) (.int .i64))) segs_1)), (11, .c (.val (.int .i64 (((List.length segs_1) : Nat) : Int)))), (12, .c (.val (.int .i64 t_3))), (26, .c (.val (.bool (decide ((List.getD segs_1 (Int.toNat t_3) ((0 : Int), (0 : Int))).1 > (IntKind.wrap .i64 ((20000 : Int) - x_23)))))))], [(0, .box [.h 4, .val (.int .i64 x_23)]), (4, .row (.pair (.int .i64) (.int .i64)) x_22), (5, .box [.val (.int .i64 (List.getD segs_1 (Int.toNat t_3) ((0 : Int), (0 : Int))).1), .val (.int .i64 (List.getD segs_1 (Int.toNat t_3) ((0 : Int), (0 : Int))).2)])], 6⟩ [] (by kernel_rfl) rfl rfl ap0 ?_
          refine V_draw hN hn (by kernel_rfl) [] [] calls_nil 6 [4, 6, 10, 11, 12] [0, 4, 5] ⟨[(4, .c (.h 0)), (6, .c (.h 5)), (10, .c (.imm (.slice (.pair (.int .i64) (.int .i64))) segs_1)), (11, .c (.val (.int .i64 (((List.length segs_1) : Nat) : Int)))), (12, .c (.val (.int .i64 t_3)))], [(0, .box [.h 4, .val (.int .i64 (IntKind.wrap .i64 (x_23 + (List.getD segs_1 (Int.toNat t_3) ((0 : Int), (0 : Int))).1)))]), (4, .row (.pair (.int .i64) (.int .i64)) x_22), (5, .box [.val (.int .i64 (List.getD segs_1 (Int.toNat t_3) ((0 : Int), (0 : Int))).1), .val (.int .i64 (List.getD segs_1 (Int.toNat t_3) ((0 : Int), (0 : Int))).2)])], 6⟩ [] (by kernel_rfl) rfl rfl ap0 (by kernel_rfl) (by kernel_rfl) ?_
          refine V_run hN hn 4 6 [4, 6, 7, 10, 11, 12] [0, 4, 5] ⟨[(4, .c (.h 0)), (6, .c (.h 5)), (7, .c (.val (.int .i64 (IntKind.wrap .i64 ((((List.length x_22) : Nat) : Int) - (1 : Int)))))), (10, .c (.imm (.slice (.pair (.int .i64) (.int .i64))) segs_1)), (11, .c (.val (.int .i64 (((List.length segs_1) : Nat) : Int)))), (12, .c (.val (.int .i64 t_3)))], [(0, .box [.h 4, .val (.int .i64 (IntKind.wrap .i64 (x_23 + (List.getD segs_1 (Int.toNat t_3) ((0 : Int), (0 : Int))).1)))]), (4, .row (.pair (.int .i64) (.int .i64)) x_22), (5, .box [.val (.int .i64 (List.getD segs_1 (Int.toNat t_3) ((0 : Int), (0 : Int))).1), .val (.int .i64 (List.getD segs_1 (Int.toNat t_3) ((0 : Int), (0 : Int))).2)])], 6⟩ [] (by kernel_rfl) rfl rfl ap0 ?_
          obtain ⟨q_76, H_77, H_78⟩ := of_bind H_73
          refine V_cut (Y := Bool) (R := Bool) q_76 (fun y => y) (fun y => [(4, .c (.h 0)), (6, .c (.h 5)), (7, .c (.val (.int .i64 (IntKind.wrap .i64 ((((List.length x_22) : Nat) : Int) - (1 : Int)))))), (10, .c (.imm (.slice (.pair (.int .i64) (.int .i64))) segs_1)), (11, .c (.val (.int .i64 (((List.length segs_1) : Nat) : Int)))), (12, .c (.val (.int .i64 t_3))), (56, .c (.val (.bool y)))]) (fun y => [(0, .box [.h 4, .val (.int .i64 (IntKind.wrap .i64 (x_23 + (List.getD segs_1 (Int.toNat t_3) ((0 : Int), (0 : Int))).1)))]), (4, .row (.pair (.int .i64) (.int .i64)) x_22), (5, .box [.val (.int .i64 (List.getD segs_1 (Int.toNat t_3) ((0 : Int), (0 : Int))).1), .val (.int .i64 (List.getD segs_1 (Int.toNat t_3) ((0 : Int), (0 : Int))).2)])]) ?_ ?_
          · skip
            rcases Bool.eq_false_or_eq_true ((decide ((IntKind.wrap .i64 ((((List.length x_22) : Nat) : Int) - (1 : Int))) ≥ (0 : Int)))) with b_38 | b_38
            · have H_80 := of_t H_77 b_38
              obtain ⟨c_39, H_82⟩ := of_if H_80
              refine V_draw hN hn (by kernel_rfl) [] [(44, true)] calls_nil 6 [4, 6, 7, 10, 11, 12, 56] [0, 4, 5] ⟨[(4, .c (.h 0)), (6, .c (.h 5)), (7, .c (.val (.int .i64 (IntKind.wrap .i64 ((((List.length x_22) : Nat) : Int) - (1 : Int)))))), (10, .c (.imm (.slice (.pair (.int .i64) (.int .i64))) segs_1)), (11, .c (.val (.int .i64 (((List.length segs_1) : Nat) : Int)))), (12, .c (.val (.int .i64 t_3))), (56, .c (.val (.bool ((List.getD x_22 (Int.toNat (IntKind.wrap .i64 ((((List.length x_22) : Nat) : Int) - (1 : Int)))) ((0 : Int), (0 : Int))).2 == (List.getD segs_1 (Int.toNat t_3) ((0 : Int), (0 : Int))).2))))], [(0, .box [.h 4, .val (.int .i64 (IntKind.wrap .i64 (x_23 + (List.getD segs_1 (Int.toNat t_3) ((0 : Int), (0 : Int))).1)))]), (4, .row (.pair (.int .i64) (.int .i64)) x_22), (5, .box [.val (.int .i64 (List.getD segs_1 (Int.toNat t_3) ((0 : Int), (0 : Int))).1), .val (.int .i64 (List.getD segs_1 (Int.toNat t_3) ((0 : Int), (0 : Int))).2)])], 6⟩ [(decide ((IntKind.wrap .i64 ((((List.length x_22) : Nat) : Int) - (1 : Int))) ≥ (0 : Int))) = true, 0 ≤ (IntKind.wrap .i64 ((((List.length x_22) : Nat) : Int) - (1 : Int))), (IntKind.wrap .i64 ((((List.length x_22) : Nat) : Int) - (1 : Int))) < (((List.length x_22) : Nat) : Int)] (by kernel_rfl) rfl rfl (ap2 b_38 (ap2 c_39.1 (ap1 c_39.2))) (by kernel_rfl) (by kernel_rfl) ?_
              have H_83 := Option.some.inj (show some ((List.getD x_22 (Int.toNat (IntKind.wrap .i64 ((((List.length x_22) : Nat) : Int) - (1 : Int)))) ((0 : Int), (0 : Int))).2 == (List.getD segs_1 (Int.toNat t_3) ((0 : Int), (0 : Int))).2) = some q_76 from H_82); subst H_83
              refine VL_nil ?_
              exact QP_end ((List.getD x_22 (Int.toNat (IntKind.wrap .i64 ((((List.length x_22) : Nat) : Int) - (1 : Int)))) ((0 : Int), (0 : Int))).2 == (List.getD segs_1 (Int.toNat t_3) ((0 : Int), (0 : Int))).2) rfl [(0, 0), (4, 4), (5, 5)] hn (by kernel_rfl) (by kernel_rfl) rfl rfl rfl
            · have H_81 := of_f H_77 b_38
              refine V_draw hN hn (by kernel_rfl) [] [(44, false)] calls_nil 6 [4, 6, 7, 10, 11, 12, 56] [0, 4, 5] ⟨[(4, .c (.h 0)), (6, .c (.h 5)), (7, .c (.val (.int .i64 (IntKind.wrap .i64 ((((List.length x_22) : Nat) : Int) - (1 : Int)))))), (10, .c (.imm (.slice (.pair (.int .i64) (.int .i64))) segs_1)), (11, .c (.val (.int .i64 (((List.length segs_1) : Nat) : Int)))), (12, .c (.val (.int .i64 t_3))), (56, .c (.val (.bool false)))], [(0, .box [.h 4, .val (.int .i64 (IntKind.wrap .i64 (x_23 + (List.getD segs_1 (Int.toNat t_3) ((0 : Int), (0 : Int))).1)))]), (4, .row (.pair (.int .i64) (.int .i64)) x_22), (5, .box [.val (.int .i64 (List.getD segs_1 (Int.toNat t_3) ((0 : Int), (0 : Int))).1), .val (.int .i64 (List.getD segs_1 (Int.toNat t_3) ((0 : Int), (0 : Int))).2)])], 6⟩ [(decide ((IntKind.wrap .i64 ((((List.length x_22) : Nat) : Int) - (1 : Int))) ≥ (0 : Int))) = false] (by kernel_rfl) rfl rfl (ap1 b_38) (by kernel_rfl) (by kernel_rfl) ?_
              have H_84 := Option.some.inj (show some false = some q_76 from H_81); subst H_84
              refine VL_nil ?_
              exact QP_end false rfl [(0, 0), (4, 4), (5, 5)] hn (by kernel_rfl) (by kernel_rfl) rfl rfl rfl
          · intro y_79 hy; subst hy
            skip
            skip
            refine VL_cond (y_79) (by kernel_rfl) ?_ ?_
            · intro b_42; have H_85 := of_t H_78 b_42
              refine V_run hN hn 1 6 [4, 6, 7, 10, 11, 12, 56] [0, 4, 5] ⟨[(4, .c (.h 0)), (6, .c (.h 5)), (7, .c (.val (.int .i64 (IntKind.wrap .i64 ((((List.length x_22) : Nat) : Int) - (1 : Int)))))), (10, .c (.imm (.slice (.pair (.int .i64) (.int .i64))) segs_1)), (11, .c (.val (.int .i64 (((List.length segs_1) : Nat) : Int)))), (12, .c (.val (.int .i64 t_3))), (56, .c (.val (.bool y_79)))], [(0, .box [.h 4, .val (.int .i64 (IntKind.wrap .i64 (x_23 + (List.getD segs_1 (Int.toNat t_3) ((0 : Int), (0 : Int))).1)))]), (4, .row (.pair (.int .i64) (.int .i64)) x_22), (5, .box [.val (.int .i64 (List.getD segs_1 (Int.toNat t_3) ((0 : Int), (0 : Int))).1), .val (.int .i64 (List.getD segs_1 (Int.toNat t_3) ((0 : Int), (0 : Int))).2)])], 6⟩ [] (by kernel_rfl) rfl rfl ap0 ?_
              obtain ⟨c_44, H_87⟩ := of_if H_85
              refine V_draw hN hn (by kernel_rfl) [] [] calls_nil 6 [4, 10, 11, 12] [0, 4] ⟨[(4, .c (.h 0)), (10, .c (.imm (.slice (.pair (.int .i64) (.int .i64))) segs_1)), (11, .c (.val (.int .i64 (((List.length segs_1) : Nat) : Int)))), (12, .c (.val (.int .i64 t_3)))], [(0, .box [.h 4, .val (.int .i64 (IntKind.wrap .i64 (x_23 + (List.getD segs_1 (Int.toNat t_3) ((0 : Int), (0 : Int))).1)))]), (4, .row (.pair (.int .i64) (.int .i64)) (List.set x_22 (Int.toNat (IntKind.wrap .i64 ((((List.length x_22) : Nat) : Int) - (1 : Int)))) ((IntKind.wrap .i64 ((List.getD x_22 (Int.toNat (IntKind.wrap .i64 ((((List.length x_22) : Nat) : Int) - (1 : Int)))) ((0 : Int), (0 : Int))).1 + (List.getD segs_1 (Int.toNat t_3) ((0 : Int), (0 : Int))).1)), (List.getD x_22 (Int.toNat (IntKind.wrap .i64 ((((List.length x_22) : Nat) : Int) - (1 : Int)))) ((0 : Int), (0 : Int))).2)))], 6⟩ [0 ≤ (IntKind.wrap .i64 ((((List.length x_22) : Nat) : Int) - (1 : Int))), (IntKind.wrap .i64 ((((List.length x_22) : Nat) : Int) - (1 : Int))) < (((List.length x_22) : Nat) : Int), 0 ≤ (IntKind.wrap .i64 ((((List.length x_22) : Nat) : Int) - (1 : Int))), (IntKind.wrap .i64 ((((List.length x_22) : Nat) : Int) - (1 : Int))) < (((List.length x_22) : Nat) : Int)] (by kernel_rfl) rfl rfl (ap2 c_44.1 (ap2 c_44.2 (ap2 c_44.1 (ap1 c_44.2)))) (by kernel_rfl) (by kernel_rfl) ?_
              refine VL_exit ?_
              refine QB_here ?_
              refine V_run hN hn 1 6 [4, 10, 11, 12] [0, 4] ⟨[(4, .c (.h 0)), (10, .c (.imm (.slice (.pair (.int .i64) (.int .i64))) segs_1)), (11, .c (.val (.int .i64 (((List.length segs_1) : Nat) : Int)))), (12, .c (.val (.int .i64 (IntKind.wrap .i64 (t_3 + (1 : Int))))))], [(0, .box [.h 4, .val (.int .i64 (IntKind.wrap .i64 (x_23 + (List.getD segs_1 (Int.toNat t_3) ((0 : Int), (0 : Int))).1)))]), (4, .row (.pair (.int .i64) (.int .i64)) (List.set x_22 (Int.toNat (IntKind.wrap .i64 ((((List.length x_22) : Nat) : Int) - (1 : Int)))) ((IntKind.wrap .i64 ((List.getD x_22 (Int.toNat (IntKind.wrap .i64 ((((List.length x_22) : Nat) : Int) - (1 : Int)))) ((0 : Int), (0 : Int))).1 + (List.getD segs_1 (Int.toNat t_3) ((0 : Int), (0 : Int))).1)), (List.getD x_22 (Int.toNat (IntKind.wrap .i64 ((((List.length x_22) : Nat) : Int) - (1 : Int)))) ((0 : Int), (0 : Int))).2)))], 6⟩ [] (by kernel_rfl) rfl rfl ap0 ?_
              refine VL_nil ?_
              exact V_roundEnd ((List.set x_22 (Int.toNat (IntKind.wrap .i64 ((((List.length x_22) : Nat) : Int) - (1 : Int)))) ((IntKind.wrap .i64 ((List.getD x_22 (Int.toNat (IntKind.wrap .i64 ((((List.length x_22) : Nat) : Int) - (1 : Int)))) ((0 : Int), (0 : Int))).1 + (List.getD segs_1 (Int.toNat t_3) ((0 : Int), (0 : Int))).1)), (List.getD x_22 (Int.toNat (IntKind.wrap .i64 ((((List.length x_22) : Nat) : Int) - (1 : Int)))) ((0 : Int), (0 : Int))).2)), (IntKind.wrap .i64 (x_23 + (List.getD segs_1 (Int.toNat t_3) ((0 : Int), (0 : Int))).1)), (IntKind.wrap .i64 (t_3 + (1 : Int)))) H_87 [(0, 0), (4, 4)] hn (by kernel_rfl) (by kernel_rfl) rfl rfl rfl
            · intro b_42; have H_86 := of_f H_78 b_42
              refine V_run hN hn 1 6 [4, 6, 7, 10, 11, 12, 56] [0, 4, 5] ⟨[(4, .c (.h 0)), (6, .c (.h 5)), (7, .c (.val (.int .i64 (IntKind.wrap .i64 ((((List.length x_22) : Nat) : Int) - (1 : Int)))))), (10, .c (.imm (.slice (.pair (.int .i64) (.int .i64))) segs_1)), (11, .c (.val (.int .i64 (((List.length segs_1) : Nat) : Int)))), (12, .c (.val (.int .i64 t_3))), (56, .c (.val (.bool y_79)))], [(0, .box [.h 4, .val (.int .i64 (IntKind.wrap .i64 (x_23 + (List.getD segs_1 (Int.toNat t_3) ((0 : Int), (0 : Int))).1)))]), (4, .row (.pair (.int .i64) (.int .i64)) x_22), (5, .box [.val (.int .i64 (List.getD segs_1 (Int.toNat t_3) ((0 : Int), (0 : Int))).1), .val (.int .i64 (List.getD segs_1 (Int.toNat t_3) ((0 : Int), (0 : Int))).2)])], 6⟩ [] (by kernel_rfl) rfl rfl ap0 ?_
              obtain ⟨c_47, H_88⟩ := of_if H_86
              refine V_draw hN hn (by kernel_rfl) [] [] calls_nil 6 [4, 10, 11, 12] [0, 7] ⟨[(4, .c (.h 0)), (10, .c (.imm (.slice (.pair (.int .i64) (.int .i64))) segs_1)), (11, .c (.val (.int .i64 (((List.length segs_1) : Nat) : Int)))), (12, .c (.val (.int .i64 t_3)))], [(0, .box [.h 7, .val (.int .i64 (IntKind.wrap .i64 (x_23 + (List.getD segs_1 (Int.toNat t_3) ((0 : Int), (0 : Int))).1)))]), (7, .row (.pair (.int .i64) (.int .i64)) (x_22 ++ ([((List.getD segs_1 (Int.toNat t_3) ((0 : Int), (0 : Int))).1, (List.getD segs_1 (Int.toNat t_3) ((0 : Int), (0 : Int))).2)] : List (Int × Int))))], 8⟩ [(List.length x_22 + List.length ([((List.getD segs_1 (Int.toNat t_3) ((0 : Int), (0 : Int))).1, (List.getD segs_1 (Int.toNat t_3) ((0 : Int), (0 : Int))).2)] : List (Int × Int))) * 16 ≤ 140737488355328] (by kernel_rfl) rfl rfl (ap1 c_47) (by kernel_rfl) (by kernel_rfl) ?_
              refine VL_nil (QB_end ?_)
              refine V_run hN hn 1 8 [4, 10, 11, 12] [0, 7] ⟨[(4, .c (.h 0)), (10, .c (.imm (.slice (.pair (.int .i64) (.int .i64))) segs_1)), (11, .c (.val (.int .i64 (((List.length segs_1) : Nat) : Int)))), (12, .c (.val (.int .i64 (IntKind.wrap .i64 (t_3 + (1 : Int))))))], [(0, .box [.h 7, .val (.int .i64 (IntKind.wrap .i64 (x_23 + (List.getD segs_1 (Int.toNat t_3) ((0 : Int), (0 : Int))).1)))]), (7, .row (.pair (.int .i64) (.int .i64)) (x_22 ++ ([((List.getD segs_1 (Int.toNat t_3) ((0 : Int), (0 : Int))).1, (List.getD segs_1 (Int.toNat t_3) ((0 : Int), (0 : Int))).2)] : List (Int × Int))))], 8⟩ [] (by kernel_rfl) rfl rfl ap0 ?_
              refine VL_nil ?_
              exact V_roundEnd ((x_22 ++ ([((List.getD segs_1 (Int.toNat t_3) ((0 : Int), (0 : Int))).1, (List.getD segs_1 (Int.toNat t_3) ((0 : Int), (0 : Int))).2)] : List (Int × Int))), (IntKind.wrap .i64 (x_23 + (List.getD segs_1 (Int.toNat t_3) ((0 : Int), (0 : Int))).1)), (IntKind.wrap .i64 (t_3 + (1 : Int)))) H_88 [(0, 0), (4, 7)] hn (by kernel_rfl) (by kernel_rfl) rfl rfl rfl
    · intro b_26; have H_68 := of_f H_66 b_26
      refine VL_exit ?_
      refine QL_exit ?_
      refine QB_here ?_
      have H_89 := Option.some.inj (show some (Sum.inr (x_22, x_23)) = some q_61 from H_68); subst H_89
      refine VL_nil ?_
      exact QP_end (x_22, x_23) rfl [(0, 0), (4, 4)] hn (by kernel_rfl) (by kernel_rfl) rfl rfl rfl
  · intro y_64 hy; subst hy
    obtain ⟨x_49, x_50⟩ := y_64
    refine V_run hN hn 3 5 [4, 86] [0, 4] ⟨[(4, .c (.h 0)), (86, .c (.val (.bool (decide ((((List.length x_49) : Nat) : Int) > (200 : Int))))))], [(0, .box [.h 4, .val (.int .i64 x_50)]), (4, .row (.pair (.int .i64) (.int .i64)) x_49)], 5⟩ [] (by kernel_rfl) rfl rfl ap0 ?_
    refine VL_cond ((decide ((((List.length x_49) : Nat) : Int) > (200 : Int)))) (by kernel_rfl) ?_ ?_
    · intro b_52; have H_90 := of_t H_63 b_52
      refine V_run hN hn 2 5 [2, 3] [] ⟨[(2, .c (.val (.pointer none))), (3, .c (.val (.int .i64 (70 : Int))))], [], 5⟩ [] (by kernel_rfl) rfl rfl ap0 ?_
      have H_92 := Option.some.inj (show some ((none : (Option ((List (Int × Int)) × Int))), (70 : Int)) = some r from H_90); subst H_92
      refine VL_ret ?_
      refine P_ghost [.read 2 (.opt (.pair (.slice (.pair (.int .i64) (.int .i64))) (.int .i64)))] 5 hn [2, 3] [] ⟨[(2, .c (.imm (.opt (.pair (.slice (.pair (.int .i64) (.int .i64))) (.int .i64))) (none : (Option ((List (Int × Int)) × Int))))), (3, .c (.val (.int .i64 (70 : Int))))], [], 5⟩ (by kernel_rfl) rfl rfl ?_
      exact P_to [(2, .c (.imm (.opt (.pair (.slice (.pair (.int .i64) (.int .i64))) (.int .i64))) (none : (Option ((List (Int × Int)) × Int))))), (3, .c (.val (.int .i64 (70 : Int))))] [] [] hn (by kernel_rfl) (by kernel_rfl) rfl rfl rfl (QF_retS (by kernel_rfl) (by kernel_rfl) rfl)
    · intro b_52; have H_91 := of_f H_63 b_52
      refine V_run hN hn 3 5 [2, 3] [0, 4] ⟨[(2, .c (.h 0)), (3, .c (.val (.int .i64 (0 : Int))))], [(0, .box [.h 4, .val (.int .i64 x_50)]), (4, .row (.pair (.int .i64) (.int .i64)) x_49)], 5⟩ [] (by kernel_rfl) rfl rfl ap0 ?_
      have H_93 := Option.some.inj (show some ((some (x_49, x_50)), (0 : Int)) = some r from H_91); subst H_93
      refine VL_ret ?_
      refine P_ghost [.shut 4, .shutBox 0 (.pair (.slice (.pair (.int .i64) (.int .i64))) (.int .i64)), .read 2 (.opt (.pair (.slice (.pair (.int .i64) (.int .i64))) (.int .i64)))] 5 hn [2, 3] [] ⟨[(2, .c (.imm (.opt (.pair (.slice (.pair (.int .i64) (.int .i64))) (.int .i64))) (some (x_49, x_50)))), (3, .c (.val (.int .i64 (0 : Int))))], [], 5⟩ (by kernel_rfl) rfl rfl ?_
      exact P_to [(2, .c (.imm (.opt (.pair (.slice (.pair (.int .i64) (.int .i64))) (.int .i64))) (some (x_49, x_50)))), (3, .c (.val (.int .i64 (0 : Int))))] [] [] hn (by kernel_rfl) (by kernel_rfl) rfl rfl rfl (QF_retS (by kernel_rfl) (by kernel_rfl) rfl)

theorem subset_Of_spec (K : Nat) (segs_1 : (List (Int × Int))) (r : ((Option ((List (Int × Int)) × Int)) × Int)) (H : subset_Of_r K segs_1 = some r) : Spec Try.prog 16 0 [.c (.imm (.slice (.pair (.int .i64) (.int .i64))) segs_1)] [] (.tup [(false, [.imm (.opt (.pair (.slice (.pair (.int .i64) (.int .i64))) (.int .i64))) r.1]), (false, [.val (.int .i64 r.2)])]) [] := by
  refine Spec_mk (fn := Try.f16) (c := (Try.f16.body).get!) Try.func16 (by kernel_rfl) rfl ?_
  intro C hN hn
  replace hN : C.N = 42 := hN
  unfold subset_Of_r at H
  refine V_run hN hn 5 0 [0, 6, 7, 8] [] ⟨[(0, .c (.imm (.slice (.pair (.int .i64) (.int .i64))) segs_1)), (6, .c (.imm (.slice (.pair (.int .i64) (.int .i64))) segs_1)), (7, .c (.val (.int .i64 (((List.length segs_1) : Nat) : Int)))), (8, .c (.val (.int .i64 (0 : Int))))], [], 0⟩ [] (by kernel_rfl) rfl rfl ap0 ?_
  obtain ⟨q_33, H_34, H_35⟩ := of_bind H
  refine V_cut (Y := Unit) (R := (((Option ((List (Int × Int)) × Int)) × Int) ⊕ Unit)) q_33 (fun y => (Sum.inr y)) (fun y => [(0, .c (.imm (.slice (.pair (.int .i64) (.int .i64))) segs_1))]) (fun y => []) ?_ ?_
  · skip
    refine VL_block ?_
    refine V_to [(0, .c (.imm (.slice (.pair (.int .i64) (.int .i64))) segs_1)), (6, .c (.imm (.slice (.pair (.int .i64) (.int .i64))) segs_1)), (7, .c (.val (.int .i64 (((List.length segs_1) : Nat) : Int)))), (8, .c (.val (.int .i64 (0 : Int))))] [] [] hn (by kernel_rfl) (by kernel_rfl) rfl rfl rfl ?_
    refine VL_loop (X := Int) (fun x => [(0, .c (.imm (.slice (.pair (.int .i64) (.int .i64))) segs_1)), (6, .c (.imm (.slice (.pair (.int .i64) (.int .i64))) segs_1)), (7, .c (.val (.int .i64 (((List.length segs_1) : Nat) : Int)))), (8, .c (.val (.int .i64 x)))]) (fun x => []) (fun k x => subset_Of_r.l0 K segs_1 k x = some q_33) K (0 : Int) H_34 (fun _ h => no_none h) ?_
    intro k_4 t_3 H_37
    have H_38 : subset_Of_r.l0 K segs_1 (k_4 + 1) t_3 = some q_33 := H_37
    rw [subset_Of_r.l0] at H_38
    refine V_run hN hn 3 0 [0, 6, 7, 8, 9] [] ⟨[(0, .c (.imm (.slice (.pair (.int .i64) (.int .i64))) segs_1)), (6, .c (.imm (.slice (.pair (.int .i64) (.int .i64))) segs_1)), (7, .c (.val (.int .i64 (((List.length segs_1) : Nat) : Int)))), (8, .c (.val (.int .i64 t_3))), (9, .c (.val (.bool (decide (t_3 < (((List.length segs_1) : Nat) : Int))))))], [], 0⟩ [] (by kernel_rfl) rfl rfl ap0 ?_
    refine VL_cond ((decide (t_3 < (((List.length segs_1) : Nat) : Int)))) (by kernel_rfl) ?_ ?_
    · intro b_6; have H_39 := of_t H_38 b_6
      refine V_run hN hn 2 0 [0, 6, 7, 8, 9] [] ⟨[(0, .c (.imm (.slice (.pair (.int .i64) (.int .i64))) segs_1)), (6, .c (.imm (.slice (.pair (.int .i64) (.int .i64))) segs_1)), (7, .c (.val (.int .i64 (((List.length segs_1) : Nat) : Int)))), (8, .c (.val (.int .i64 t_3))), (9, .c (.val (.bool (decide (t_3 < (((List.length segs_1) : Nat) : Int))))))], [], 0⟩ [] (by kernel_rfl) rfl rfl ap0 ?_
      refine VL_block ?_
      obtain ⟨c_8, H_41⟩ := of_if H_39
      refine V_run hN hn 3 0 [0, 4, 5, 6, 7, 8] [0] ⟨[(0, .c (.imm (.slice (.pair (.int .i64) (.int .i64))) segs_1)), (4, .c (.val (.int .i64 t_3))), (5, .c (.h 0)), (6, .c (.imm (.slice (.pair (.int .i64) (.int .i64))) segs_1)), (7, .c (.val (.int .i64 (((List.length segs_1) : Nat) : Int)))), (8, .c (.val (.int .i64 t_3)))], [(0, .box [.val (.int .i64 (List.getD segs_1 (Int.toNat t_3) ((0 : Int), (0 : Int))).1), .val (.int .i64 (List.getD segs_1 (Int.toNat t_3) ((0 : Int), (0 : Int))).2)])], 1⟩ [0 ≤ t_3, t_3 < (((List.length segs_1) : Nat) : Int)] (by kernel_rfl) rfl rfl (ap2 c_8.1 (ap1 c_8.2)) ?_
      obtain ⟨q_42, H_43, H_44⟩ := of_bind H_41
      refine V_cut (Y := Bool) (R := Bool) q_42 (fun y => y) (fun y => [(0, .c (.imm (.slice (.pair (.int .i64) (.int .i64))) segs_1)), (6, .c (.imm (.slice (.pair (.int .i64) (.int .i64))) segs_1)), (7, .c (.val (.int .i64 (((List.length segs_1) : Nat) : Int)))), (8, .c (.val (.int .i64 t_3))), (36, .c (.val (.bool y)))]) (fun y => []) ?_ ?_
      · skip
        rcases Bool.eq_false_or_eq_true ((decide ((List.getD segs_1 (Int.toNat t_3) ((0 : Int), (0 : Int))).1 < (1 : Int)))) with b_9 | b_9
        · have H_46 := of_t H_43 b_9
          refine V_draw hN hn (by kernel_rfl) [] [(16, true)] calls_nil 1 [0, 6, 7, 8, 36] [] ⟨[(0, .c (.imm (.slice (.pair (.int .i64) (.int .i64))) segs_1)), (6, .c (.imm (.slice (.pair (.int .i64) (.int .i64))) segs_1)), (7, .c (.val (.int .i64 (((List.length segs_1) : Nat) : Int)))), (8, .c (.val (.int .i64 t_3))), (36, .c (.val (.bool true)))], [], 1⟩ [(decide ((List.getD segs_1 (Int.toNat t_3) ((0 : Int), (0 : Int))).1 < (1 : Int))) = true] (by kernel_rfl) rfl rfl (ap1 b_9) (by kernel_rfl) (by kernel_rfl) ?_
          have H_48 := Option.some.inj (show some true = some q_42 from H_46); subst H_48
          refine VL_nil ?_
          exact QP_end true rfl [] hn (by kernel_rfl) (by kernel_rfl) rfl rfl rfl
        · have H_47 := of_f H_43 b_9
          obtain ⟨r_11, h_12, H_49⟩ := of_bind H_47
          rcases Bool.eq_false_or_eq_true ((!r_11)) with b_13 | b_13
          · have H_50 := of_t H_49 b_13
            refine V_draw hN hn (by kernel_rfl) [(6, ⟨41, 0, [.c (.val (.int .i64 (List.getD segs_1 (Int.toNat t_3) ((0 : Int), (0 : Int))).2))], [], .c (.val (.bool r_11)), [], [], 1⟩)] [(16, false), (22, true)] (calls_cons (subset_isCount_spec K (List.getD segs_1 (Int.toNat t_3) ((0 : Int), (0 : Int))).2 r_11 h_12) (by kernel_rfl) calls_nil) 1 [0, 6, 7, 8, 36] [] ⟨[(0, .c (.imm (.slice (.pair (.int .i64) (.int .i64))) segs_1)), (6, .c (.imm (.slice (.pair (.int .i64) (.int .i64))) segs_1)), (7, .c (.val (.int .i64 (((List.length segs_1) : Nat) : Int)))), (8, .c (.val (.int .i64 t_3))), (36, .c (.val (.bool true)))], [], 1⟩ [(decide ((List.getD segs_1 (Int.toNat t_3) ((0 : Int), (0 : Int))).1 < (1 : Int))) = false, (!r_11) = true] (by kernel_rfl) rfl rfl (ap2 b_9 (ap1 b_13)) (by kernel_rfl) (by kernel_rfl) ?_
            have H_52 := Option.some.inj (show some true = some q_42 from H_50); subst H_52
            refine VL_nil ?_
            exact QP_end true rfl [] hn (by kernel_rfl) (by kernel_rfl) rfl rfl rfl
          · have H_51 := of_f H_49 b_13
            rcases Bool.eq_false_or_eq_true ((decide (t_3 > (0 : Int)))) with b_15 | b_15
            · have H_53 := of_t H_51 b_15
              obtain ⟨c_16, H_55⟩ := of_if H_53
              refine V_draw hN hn (by kernel_rfl) [(6, ⟨41, 0, [.c (.val (.int .i64 (List.getD segs_1 (Int.toNat t_3) ((0 : Int), (0 : Int))).2))], [], .c (.val (.bool r_11)), [], [], 1⟩)] [(16, false), (22, false), (25, true)] (calls_cons (subset_isCount_spec K (List.getD segs_1 (Int.toNat t_3) ((0 : Int), (0 : Int))).2 r_11 h_12) (by kernel_rfl) calls_nil) 1 [0, 6, 7, 8, 36] [] ⟨[(0, .c (.imm (.slice (.pair (.int .i64) (.int .i64))) segs_1)), (6, .c (.imm (.slice (.pair (.int .i64) (.int .i64))) segs_1)), (7, .c (.val (.int .i64 (((List.length segs_1) : Nat) : Int)))), (8, .c (.val (.int .i64 t_3))), (36, .c (.val (.bool ((List.getD segs_1 (Int.toNat t_3) ((0 : Int), (0 : Int))).2 == (List.getD segs_1 (Int.toNat (IntKind.wrap .i64 (t_3 - (1 : Int)))) ((0 : Int), (0 : Int))).2))))], [], 1⟩ [(decide ((List.getD segs_1 (Int.toNat t_3) ((0 : Int), (0 : Int))).1 < (1 : Int))) = false, (!r_11) = false, (decide (t_3 > (0 : Int))) = true, 0 ≤ (IntKind.wrap .i64 (t_3 - (1 : Int))), (IntKind.wrap .i64 (t_3 - (1 : Int))) < (((List.length segs_1) : Nat) : Int)] (by kernel_rfl) rfl rfl (ap2 b_9 (ap2 b_13 (ap2 b_15 (ap2 c_16.1 (ap1 c_16.2))))) (by kernel_rfl) (by kernel_rfl) ?_
              have H_56 := Option.some.inj (show some ((List.getD segs_1 (Int.toNat t_3) ((0 : Int), (0 : Int))).2 == (List.getD segs_1 (Int.toNat (IntKind.wrap .i64 (t_3 - (1 : Int)))) ((0 : Int), (0 : Int))).2) = some q_42 from H_55); subst H_56
              refine VL_nil ?_
              exact QP_end ((List.getD segs_1 (Int.toNat t_3) ((0 : Int), (0 : Int))).2 == (List.getD segs_1 (Int.toNat (IntKind.wrap .i64 (t_3 - (1 : Int)))) ((0 : Int), (0 : Int))).2) rfl [] hn (by kernel_rfl) (by kernel_rfl) rfl rfl rfl
            · have H_54 := of_f H_51 b_15
              refine V_draw hN hn (by kernel_rfl) [(6, ⟨41, 0, [.c (.val (.int .i64 (List.getD segs_1 (Int.toNat t_3) ((0 : Int), (0 : Int))).2))], [], .c (.val (.bool r_11)), [], [], 1⟩)] [(16, false), (22, false), (25, false)] (calls_cons (subset_isCount_spec K (List.getD segs_1 (Int.toNat t_3) ((0 : Int), (0 : Int))).2 r_11 h_12) (by kernel_rfl) calls_nil) 1 [0, 6, 7, 8, 36] [] ⟨[(0, .c (.imm (.slice (.pair (.int .i64) (.int .i64))) segs_1)), (6, .c (.imm (.slice (.pair (.int .i64) (.int .i64))) segs_1)), (7, .c (.val (.int .i64 (((List.length segs_1) : Nat) : Int)))), (8, .c (.val (.int .i64 t_3))), (36, .c (.val (.bool false)))], [], 1⟩ [(decide ((List.getD segs_1 (Int.toNat t_3) ((0 : Int), (0 : Int))).1 < (1 : Int))) = false, (!r_11) = false, (decide (t_3 > (0 : Int))) = false] (by kernel_rfl) rfl rfl (ap2 b_9 (ap2 b_13 (ap1 b_15))) (by kernel_rfl) (by kernel_rfl) ?_
              have H_57 := Option.some.inj (show some false = some q_42 from H_54); subst H_57
              refine VL_nil ?_
              exact QP_end false rfl [] hn (by kernel_rfl) (by kernel_rfl) rfl rfl rfl
      · intro y_45 hy; subst hy
        skip
        skip
        refine VL_cond (y_45) (by kernel_rfl) ?_ ?_
        · intro b_19; have H_58 := of_t H_44 b_19
          refine V_run hN hn 2 1 [2, 3] [] ⟨[(2, .c (.val (.pointer none))), (3, .c (.val (.int .i64 (12 : Int))))], [], 1⟩ [] (by kernel_rfl) rfl rfl ap0 ?_
          have H_60 := Option.some.inj (show some (Sum.inl ((none : (Option ((List (Int × Int)) × Int))), (12 : Int))) = some q_33 from H_58); subst H_60
          have H_61 := Option.some.inj (show some ((none : (Option ((List (Int × Int)) × Int))), (12 : Int)) = some r from H_35); subst H_61
          refine VL_ret ?_
          refine QB_ret ?_
          refine QL_ret ?_
          refine QB_ret ?_
          refine QP_ret ?_
          refine P_ghost [.read 2 (.opt (.pair (.slice (.pair (.int .i64) (.int .i64))) (.int .i64)))] 1 hn [2, 3] [] ⟨[(2, .c (.imm (.opt (.pair (.slice (.pair (.int .i64) (.int .i64))) (.int .i64))) (none : (Option ((List (Int × Int)) × Int))))), (3, .c (.val (.int .i64 (12 : Int))))], [], 1⟩ (by kernel_rfl) rfl rfl ?_
          exact P_to [(2, .c (.imm (.opt (.pair (.slice (.pair (.int .i64) (.int .i64))) (.int .i64))) (none : (Option ((List (Int × Int)) × Int))))), (3, .c (.val (.int .i64 (12 : Int))))] [] [] hn (by kernel_rfl) (by kernel_rfl) rfl rfl rfl (QF_retS (by kernel_rfl) (by kernel_rfl) rfl)
        · intro b_19; have H_59 := of_f H_44 b_19
          refine V_run hN hn 1 1 [0, 6, 7, 8, 36] [] ⟨[(0, .c (.imm (.slice (.pair (.int .i64) (.int .i64))) segs_1)), (6, .c (.imm (.slice (.pair (.int .i64) (.int .i64))) segs_1)), (7, .c (.val (.int .i64 (((List.length segs_1) : Nat) : Int)))), (8, .c (.val (.int .i64 t_3))), (36, .c (.val (.bool y_45)))], [], 1⟩ [] (by kernel_rfl) rfl rfl ap0 ?_
          refine VL_nil (QB_end ?_)
          refine V_run hN hn 1 1 [0, 6, 7, 8] [] ⟨[(0, .c (.imm (.slice (.pair (.int .i64) (.int .i64))) segs_1)), (6, .c (.imm (.slice (.pair (.int .i64) (.int .i64))) segs_1)), (7, .c (.val (.int .i64 (((List.length segs_1) : Nat) : Int)))), (8, .c (.val (.int .i64 (IntKind.wrap .i64 (t_3 + (1 : Int))))))], [], 1⟩ [] (by kernel_rfl) rfl rfl ap0 ?_
          refine VL_nil ?_
          exact V_roundEnd (IntKind.wrap .i64 (t_3 + (1 : Int))) H_59 [] hn (by kernel_rfl) (by kernel_rfl) rfl rfl rfl
    · intro b_6; have H_40 := of_f H_38 b_6
      refine VL_exit ?_
      refine QL_exit ?_
      refine QB_here ?_
      have H_62 := Option.some.inj (show some (Sum.inr ()) = some q_33 from H_40); subst H_62
      refine VL_nil ?_
      exact QP_end () rfl [] hn (by kernel_rfl) (by kernel_rfl) rfl rfl rfl
  · intro y_36 hy; subst hy
    skip
    refine V_run hN hn 1 0 [0] [] ⟨[(0, .c (.imm (.slice (.pair (.int .i64) (.int .i64))) segs_1))], [], 0⟩ [] (by kernel_rfl) rfl rfl ap0 ?_
    obtain ⟨r_24, h_25, H_63⟩ := of_bind H_35
    refine V_reg hN hn [(1, ⟨40, 0, [.c (.imm (.slice (.pair (.int .i64) (.int .i64))) segs_1)], [], .tup [(false, [.imm (.opt (.pair (.slice (.pair (.int .i64) (.int .i64))) (.int .i64))) r_24.1]), (false, [.val (.int .i64 r_24.2)])], [], [], 0⟩)] [] (calls_cons (subset_Pack_spec K segs_1 r_24 h_25) (by kernel_rfl) calls_nil) 0 [2, 3] [] ⟨[(2, .c (.imm (.opt (.pair (.slice (.pair (.int .i64) (.int .i64))) (.int .i64))) r_24.1)), (3, .c (.val (.int .i64 r_24.2)))], [], 0⟩ [] (by kernel_rfl) rfl rfl ap0 (by kernel_rfl) (by kernel_rfl) ?_
    have H_64 := Option.some.inj (show some (r_24.1, r_24.2) = some r from H_63); subst H_64
    refine VL_ret ?_
    exact P_to [(2, .c (.imm (.opt (.pair (.slice (.pair (.int .i64) (.int .i64))) (.int .i64))) r_24.1)), (3, .c (.val (.int .i64 r_24.2)))] [] [] hn (by kernel_rfl) (by kernel_rfl) rfl rfl rfl (QF_retS (by kernel_rfl) (by kernel_rfl) rfl)

theorem palinoderef7_Of_spec (K : Nat) (segs_1 : (List (Int × Int))) (r : ((List Int) × Int)) (H : palinoderef7_Of K segs_1 = some r) : Spec Try.prog 35 0 [.c (.imm (.slice (.pair (.int .i64) (.int .i64))) segs_1)] [] (.tup [(false, [.h 5]), (false, [.val (.int .i64 r.2)])]) [(5, .row (.int .i64) r.1)] := by
  refine Spec_mk (fn := Try.f35) (c := (Try.f35.body).get!) Try.func35 (by kernel_rfl) rfl ?_
  intro C hN hn
  replace hN : C.N = 104 := hN
  unfold palinoderef7_Of at H
  refine V_run hN hn 5 0 [0, 4] [] ⟨[(0, .c (.imm (.slice (.pair (.int .i64) (.int .i64))) segs_1)), (4, .c (.val (.int .i64 (0 : Int))))], [], 0⟩ [] (by kernel_rfl) rfl rfl ap0 ?_
  obtain ⟨q_95, H_96, H_97⟩ := of_bind H
  refine V_cut (Y := Unit) (R := (((List Int) × Int) ⊕ Unit)) q_95 (fun y => (Sum.inr y)) (fun y => [(0, .c (.imm (.slice (.pair (.int .i64) (.int .i64))) segs_1))]) (fun y => []) ?_ ?_
  · skip
    refine VL_block ?_
    refine V_to [(0, .c (.imm (.slice (.pair (.int .i64) (.int .i64))) segs_1)), (4, .c (.val (.int .i64 (0 : Int))))] [] [] hn (by kernel_rfl) (by kernel_rfl) rfl rfl rfl ?_
    refine VL_loop (X := Int) (fun x => [(0, .c (.imm (.slice (.pair (.int .i64) (.int .i64))) segs_1)), (4, .c (.val (.int .i64 x)))]) (fun x => []) (fun k x => palinoderef7_Of.l0 K segs_1 k x = some q_95) K (0 : Int) H_96 (fun _ h => no_none h) ?_
    intro k_4 i_3 H_99
    have H_100 : palinoderef7_Of.l0 K segs_1 (k_4 + 1) i_3 = some q_95 := H_99
    rw [palinoderef7_Of.l0] at H_100
    refine V_run hN hn 3 0 [0, 4, 13] [] ⟨[(0, .c (.imm (.slice (.pair (.int .i64) (.int .i64))) segs_1)), (4, .c (.val (.int .i64 i_3))), (13, .c (.val (.bool (decide (i_3 < (((List.length segs_1) : Nat) : Int))))))], [], 0⟩ [] (by kernel_rfl) rfl rfl ap0 ?_
    refine VL_cond ((decide (i_3 < (((List.length segs_1) : Nat) : Int)))) (by kernel_rfl) ?_ ?_
    · intro b_6; have H_101 := of_t H_100 b_6
      refine V_run hN hn 2 0 [0, 4, 13] [] ⟨[(0, .c (.imm (.slice (.pair (.int .i64) (.int .i64))) segs_1)), (4, .c (.val (.int .i64 i_3))), (13, .c (.val (.bool (decide (i_3 < (((List.length segs_1) : Nat) : Int))))))], [], 0⟩ [] (by kernel_rfl) rfl rfl ap0 ?_
      refine VL_block ?_
      refine V_run hN hn 1 0 [0, 4, 13] [] ⟨[(0, .c (.imm (.slice (.pair (.int .i64) (.int .i64))) segs_1)), (4, .c (.val (.int .i64 i_3))), (13, .c (.val (.bool (decide (i_3 < (((List.length segs_1) : Nat) : Int))))))], [], 0⟩ [] (by kernel_rfl) rfl rfl ap0 ?_
      obtain ⟨q_103, H_104, H_105⟩ := of_bind H_101
      refine V_cut (Y := Bool) (R := Bool) q_103 (fun y => y) (fun y => [(0, .c (.imm (.slice (.pair (.int .i64) (.int .i64))) segs_1)), (4, .c (.val (.int .i64 i_3))), (55, .c (.val (.bool y)))]) (fun y => []) ?_ ?_
      · skip
        rcases Bool.eq_false_or_eq_true ((decide ((List.getD segs_1 (Int.toNat i_3) ((0 : Int), (0 : Int))).1 < (1 : Int)))) with b_9 | b_9
        · have H_107 := of_t H_104 b_9
          obtain ⟨c_10, H_109⟩ := of_if H_107
          refine V_draw hN hn (by kernel_rfl) [] [(22, true)] calls_nil 0 [0, 4, 55] [] ⟨[(0, .c (.imm (.slice (.pair (.int .i64) (.int .i64))) segs_1)), (4, .c (.val (.int .i64 i_3))), (55, .c (.val (.bool true)))], [], 0⟩ [0 ≤ i_3, i_3 < (((List.length segs_1) : Nat) : Int), (decide ((List.getD segs_1 (Int.toNat i_3) ((0 : Int), (0 : Int))).1 < (1 : Int))) = true] (by kernel_rfl) rfl rfl (ap2 c_10.1 (ap2 c_10.2 (ap1 b_9))) (by kernel_rfl) (by kernel_rfl) ?_
          have H_110 := Option.some.inj (show some true = some q_103 from H_109); subst H_110
          refine VL_nil ?_
          exact QP_end true rfl [] hn (by kernel_rfl) (by kernel_rfl) rfl rfl rfl
        · have H_108 := of_f H_104 b_9
          rcases Bool.eq_false_or_eq_true ((decide ((List.getD segs_1 (Int.toNat i_3) ((0 : Int), (0 : Int))).2 < (0 : Int)))) with b_11 | b_11
          · have H_111 := of_t H_108 b_11
            obtain ⟨c_12, H_113⟩ := of_if H_111
            refine V_draw hN hn (by kernel_rfl) [] [(22, false), (30, true)] calls_nil 0 [0, 4, 55] [] ⟨[(0, .c (.imm (.slice (.pair (.int .i64) (.int .i64))) segs_1)), (4, .c (.val (.int .i64 i_3))), (55, .c (.val (.bool true)))], [], 0⟩ [0 ≤ i_3, i_3 < (((List.length segs_1) : Nat) : Int), (decide ((List.getD segs_1 (Int.toNat i_3) ((0 : Int), (0 : Int))).1 < (1 : Int))) = false, 0 ≤ i_3, i_3 < (((List.length segs_1) : Nat) : Int), (decide ((List.getD segs_1 (Int.toNat i_3) ((0 : Int), (0 : Int))).2 < (0 : Int))) = true] (by kernel_rfl) rfl rfl (ap2 c_12.1 (ap2 c_12.2 (ap2 b_9 (ap2 c_12.1 (ap2 c_12.2 (ap1 b_11)))))) (by kernel_rfl) (by kernel_rfl) ?_
            have H_114 := Option.some.inj (show some true = some q_103 from H_113); subst H_114
            refine VL_nil ?_
            exact QP_end true rfl [] hn (by kernel_rfl) (by kernel_rfl) rfl rfl rfl
          · have H_112 := of_f H_108 b_11
            rcases Bool.eq_false_or_eq_true ((decide ((List.getD segs_1 (Int.toNat i_3) ((0 : Int), (0 : Int))).2 > (100 : Int)))) with b_13 | b_13
            · have H_115 := of_t H_112 b_13
              obtain ⟨c_14, H_117⟩ := of_if H_115
              refine V_draw hN hn (by kernel_rfl) [] [(22, false), (30, false), (38, true)] calls_nil 0 [0, 4, 55] [] ⟨[(0, .c (.imm (.slice (.pair (.int .i64) (.int .i64))) segs_1)), (4, .c (.val (.int .i64 i_3))), (55, .c (.val (.bool true)))], [], 0⟩ [0 ≤ i_3, i_3 < (((List.length segs_1) : Nat) : Int), (decide ((List.getD segs_1 (Int.toNat i_3) ((0 : Int), (0 : Int))).1 < (1 : Int))) = false, 0 ≤ i_3, i_3 < (((List.length segs_1) : Nat) : Int), (decide ((List.getD segs_1 (Int.toNat i_3) ((0 : Int), (0 : Int))).2 < (0 : Int))) = false, 0 ≤ i_3, i_3 < (((List.length segs_1) : Nat) : Int), (decide ((List.getD segs_1 (Int.toNat i_3) ((0 : Int), (0 : Int))).2 > (100 : Int))) = true] (by kernel_rfl) rfl rfl (ap2 c_14.1 (ap2 c_14.2 (ap2 b_9 (ap2 c_14.1 (ap2 c_14.2 (ap2 b_11 (ap2 c_14.1 (ap2 c_14.2 (ap1 b_13))))))))) (by kernel_rfl) (by kernel_rfl) ?_
              have H_118 := Option.some.inj (show some true = some q_103 from H_117); subst H_118
              refine VL_nil ?_
              exact QP_end true rfl [] hn (by kernel_rfl) (by kernel_rfl) rfl rfl rfl
            · have H_116 := of_f H_112 b_13
              rcases Bool.eq_false_or_eq_true ((decide (i_3 > (0 : Int)))) with b_15 | b_15
              · have H_119 := of_t H_116 b_15
                obtain ⟨c_16, H_121⟩ := of_if H_119
                refine V_draw hN hn (by kernel_rfl) [] [(22, false), (30, false), (38, false), (41, true)] calls_nil 0 [0, 4, 55] [] ⟨[(0, .c (.imm (.slice (.pair (.int .i64) (.int .i64))) segs_1)), (4, .c (.val (.int .i64 i_3))), (55, .c (.val (.bool ((List.getD segs_1 (Int.toNat i_3) ((0 : Int), (0 : Int))).2 == (List.getD segs_1 (Int.toNat (IntKind.wrap .i64 (i_3 - (1 : Int)))) ((0 : Int), (0 : Int))).2))))], [], 0⟩ [0 ≤ i_3, i_3 < (((List.length segs_1) : Nat) : Int), (decide ((List.getD segs_1 (Int.toNat i_3) ((0 : Int), (0 : Int))).1 < (1 : Int))) = false, 0 ≤ i_3, i_3 < (((List.length segs_1) : Nat) : Int), (decide ((List.getD segs_1 (Int.toNat i_3) ((0 : Int), (0 : Int))).2 < (0 : Int))) = false, 0 ≤ i_3, i_3 < (((List.length segs_1) : Nat) : Int), (decide ((List.getD segs_1 (Int.toNat i_3) ((0 : Int), (0 : Int))).2 > (100 : Int))) = false, (decide (i_3 > (0 : Int))) = true, 0 ≤ i_3, i_3 < (((List.length segs_1) : Nat) : Int), 0 ≤ (IntKind.wrap .i64 (i_3 - (1 : Int))), (IntKind.wrap .i64 (i_3 - (1 : Int))) < (((List.length segs_1) : Nat) : Int)] (by kernel_rfl) rfl rfl (ap2 c_16.1 (ap2 c_16.2.1 (ap2 b_9 (ap2 c_16.1 (ap2 c_16.2.1 (ap2 b_11 (ap2 c_16.1 (ap2 c_16.2.1 (ap2 b_13 (ap2 b_15 (ap2 c_16.1 (ap2 c_16.2.1 (ap2 c_16.2.2.1 (ap1 c_16.2.2.2)))))))))))))) (by kernel_rfl) (by kernel_rfl) ?_
                have H_122 := Option.some.inj (show some ((List.getD segs_1 (Int.toNat i_3) ((0 : Int), (0 : Int))).2 == (List.getD segs_1 (Int.toNat (IntKind.wrap .i64 (i_3 - (1 : Int)))) ((0 : Int), (0 : Int))).2) = some q_103 from H_121); subst H_122
                refine VL_nil ?_
                exact QP_end ((List.getD segs_1 (Int.toNat i_3) ((0 : Int), (0 : Int))).2 == (List.getD segs_1 (Int.toNat (IntKind.wrap .i64 (i_3 - (1 : Int)))) ((0 : Int), (0 : Int))).2) rfl [] hn (by kernel_rfl) (by kernel_rfl) rfl rfl rfl
              · have H_120 := of_f H_116 b_15
                obtain ⟨c_17, H_123⟩ := of_if H_120
                refine V_draw hN hn (by kernel_rfl) [] [(22, false), (30, false), (38, false), (41, false)] calls_nil 0 [0, 4, 55] [] ⟨[(0, .c (.imm (.slice (.pair (.int .i64) (.int .i64))) segs_1)), (4, .c (.val (.int .i64 i_3))), (55, .c (.val (.bool false)))], [], 0⟩ [0 ≤ i_3, i_3 < (((List.length segs_1) : Nat) : Int), (decide ((List.getD segs_1 (Int.toNat i_3) ((0 : Int), (0 : Int))).1 < (1 : Int))) = false, 0 ≤ i_3, i_3 < (((List.length segs_1) : Nat) : Int), (decide ((List.getD segs_1 (Int.toNat i_3) ((0 : Int), (0 : Int))).2 < (0 : Int))) = false, 0 ≤ i_3, i_3 < (((List.length segs_1) : Nat) : Int), (decide ((List.getD segs_1 (Int.toNat i_3) ((0 : Int), (0 : Int))).2 > (100 : Int))) = false, (decide (i_3 > (0 : Int))) = false] (by kernel_rfl) rfl rfl (ap2 c_17.1 (ap2 c_17.2 (ap2 b_9 (ap2 c_17.1 (ap2 c_17.2 (ap2 b_11 (ap2 c_17.1 (ap2 c_17.2 (ap2 b_13 (ap1 b_15)))))))))) (by kernel_rfl) (by kernel_rfl) ?_
                have H_124 := Option.some.inj (show some false = some q_103 from H_123); subst H_124
                refine VL_nil ?_
                exact QP_end false rfl [] hn (by kernel_rfl) (by kernel_rfl) rfl rfl rfl
      · intro y_106 hy; subst hy
        skip
        skip
        refine VL_cond (y_106) (by kernel_rfl) ?_ ?_
        · intro b_19; have H_125 := of_t H_105 b_19
          refine V_run hN hn 2 0 [2, 3] [] ⟨[(2, .c (.val (.slice none 0 0))), (3, .c (.val (.int .i64 (12 : Int))))], [], 0⟩ [] (by kernel_rfl) rfl rfl ap0 ?_
          have H_127 := Option.some.inj (show some (Sum.inl (([] : List Int), (12 : Int))) = some q_95 from H_125); subst H_127
          have H_128 := Option.some.inj (show some (([] : List Int), (12 : Int)) = some r from H_97); subst H_128
          refine VL_ret ?_
          refine QB_ret ?_
          refine QL_ret ?_
          refine QB_ret ?_
          refine QP_ret ?_
          refine P_ghost [.nilSlot 2 (.int .i64)] 0 hn [2, 3] [0] ⟨[(2, .c (.h 0)), (3, .c (.val (.int .i64 (12 : Int))))], [(0, .row (.int .i64) ([] : List Int))], 1⟩ (by kernel_rfl) rfl rfl ?_
          exact P_to [(2, .c (.h 5)), (3, .c (.val (.int .i64 (12 : Int))))] [(5, .row (.int .i64) ([] : List Int))] [(5, 0)] hn (by kernel_rfl) (by kernel_rfl) rfl rfl rfl (QF_retS (by kernel_rfl) (by kernel_rfl) rfl)
        · intro b_19; have H_126 := of_f H_105 b_19
          refine V_run hN hn 1 0 [0, 4, 55] [] ⟨[(0, .c (.imm (.slice (.pair (.int .i64) (.int .i64))) segs_1)), (4, .c (.val (.int .i64 i_3))), (55, .c (.val (.bool y_106)))], [], 0⟩ [] (by kernel_rfl) rfl rfl ap0 ?_
          refine VL_nil (QB_end ?_)
          refine V_run hN hn 1 0 [0, 4] [] ⟨[(0, .c (.imm (.slice (.pair (.int .i64) (.int .i64))) segs_1)), (4, .c (.val (.int .i64 (IntKind.wrap .i64 (i_3 + (1 : Int))))))], [], 0⟩ [] (by kernel_rfl) rfl rfl ap0 ?_
          refine VL_nil ?_
          exact V_roundEnd (IntKind.wrap .i64 (i_3 + (1 : Int))) H_126 [] hn (by kernel_rfl) (by kernel_rfl) rfl rfl rfl
    · intro b_6; have H_102 := of_f H_100 b_6
      refine VL_exit ?_
      refine QL_exit ?_
      refine QB_here ?_
      have H_129 := Option.some.inj (show some (Sum.inr ()) = some q_95 from H_102); subst H_129
      refine VL_nil ?_
      exact QP_end () rfl [] hn (by kernel_rfl) (by kernel_rfl) rfl rfl rfl
  · intro y_98 hy; subst hy
    skip
    refine V_run hN hn 3 0 [0, 58] [] ⟨[(0, .c (.imm (.slice (.pair (.int .i64) (.int .i64))) segs_1)), (58, .c (.val (.bool (decide ((((List.length segs_1) : Nat) : Int) > (200 : Int))))))], [], 0⟩ [] (by kernel_rfl) rfl rfl ap0 ?_
    refine VL_cond ((decide ((((List.length segs_1) : Nat) : Int) > (200 : Int)))) (by kernel_rfl) ?_ ?_
    · intro b_24; have H_130 := of_t H_97 b_24
      refine V_run hN hn 2 0 [2, 3] [] ⟨[(2, .c (.val (.slice none 0 0))), (3, .c (.val (.int .i64 (70 : Int))))], [], 0⟩ [] (by kernel_rfl) rfl rfl ap0 ?_
      have H_132 := Option.some.inj (show some (([] : List Int), (70 : Int)) = some r from H_130); subst H_132
      refine VL_ret ?_
      refine P_ghost [.nilSlot 2 (.int .i64)] 0 hn [2, 3] [0] ⟨[(2, .c (.h 0)), (3, .c (.val (.int .i64 (70 : Int))))], [(0, .row (.int .i64) ([] : List Int))], 1⟩ (by kernel_rfl) rfl rfl ?_
      exact P_to [(2, .c (.h 5)), (3, .c (.val (.int .i64 (70 : Int))))] [(5, .row (.int .i64) ([] : List Int))] [(5, 0)] hn (by kernel_rfl) (by kernel_rfl) rfl rfl rfl (QF_retS (by kernel_rfl) (by kernel_rfl) rfl)
    · intro b_24; have H_131 := of_f H_97 b_24
      refine V_run hN hn 6 0 [0, 5, 6] [] ⟨[(0, .c (.imm (.slice (.pair (.int .i64) (.int .i64))) segs_1)), (5, .c (.val (.int .i64 (0 : Int)))), (6, .c (.val (.int .i64 (0 : Int))))], [], 0⟩ [] (by kernel_rfl) rfl rfl ap0 ?_
      obtain ⟨q_133, H_134, H_135⟩ := of_bind H_131
      refine V_cut (Y := Unit) (R := (((List Int) × Int) ⊕ Unit)) q_133 (fun y => (Sum.inr y)) (fun y => [(0, .c (.imm (.slice (.pair (.int .i64) (.int .i64))) segs_1))]) (fun y => []) ?_ ?_
      · skip
        refine VL_block ?_
        refine V_to [(0, .c (.imm (.slice (.pair (.int .i64) (.int .i64))) segs_1)), (5, .c (.val (.int .i64 (0 : Int)))), (6, .c (.val (.int .i64 (0 : Int))))] [] [] hn (by kernel_rfl) (by kernel_rfl) rfl rfl rfl ?_
        refine VL_loop (X := (Int × Int)) (fun x => [(0, .c (.imm (.slice (.pair (.int .i64) (.int .i64))) segs_1)), (5, .c (.val (.int .i64 x.1))), (6, .c (.val (.int .i64 x.2)))]) (fun x => []) (fun k x => palinoderef7_Of.l1 K segs_1 k x.1 x.2 = some q_133) K ((0 : Int), (0 : Int)) H_134 (fun _ h => no_none h) ?_
        intro k_29 x_29 H_137
        obtain ⟨n_27, i_28⟩ := x_29
        have H_138 : palinoderef7_Of.l1 K segs_1 (k_29 + 1) n_27 i_28 = some q_133 := H_137
        rw [palinoderef7_Of.l1] at H_138
        refine V_run hN hn 3 0 [0, 5, 6, 62] [] ⟨[(0, .c (.imm (.slice (.pair (.int .i64) (.int .i64))) segs_1)), (5, .c (.val (.int .i64 n_27))), (6, .c (.val (.int .i64 i_28))), (62, .c (.val (.bool (decide (i_28 < (((List.length segs_1) : Nat) : Int))))))], [], 0⟩ [] (by kernel_rfl) rfl rfl ap0 ?_
        refine VL_cond ((decide (i_28 < (((List.length segs_1) : Nat) : Int)))) (by kernel_rfl) ?_ ?_
        · intro b_31; have H_139 := of_t H_138 b_31
          refine V_run hN hn 2 0 [0, 5, 6, 62] [] ⟨[(0, .c (.imm (.slice (.pair (.int .i64) (.int .i64))) segs_1)), (5, .c (.val (.int .i64 n_27))), (6, .c (.val (.int .i64 i_28))), (62, .c (.val (.bool (decide (i_28 < (((List.length segs_1) : Nat) : Int))))))], [], 0⟩ [] (by kernel_rfl) rfl rfl ap0 ?_
          refine VL_block ?_
          obtain ⟨c_33, H_141⟩ := of_if H_139
          refine V_run hN hn 3 0 [0, 5, 6, 72] [] ⟨[(0, .c (.imm (.slice (.pair (.int .i64) (.int .i64))) segs_1)), (5, .c (.val (.int .i64 n_27))), (6, .c (.val (.int .i64 i_28))), (72, .c (.val (.bool (decide ((List.getD segs_1 (Int.toNat i_28) ((0 : Int), (0 : Int))).1 > (IntKind.wrap .i64 ((20000 : Int) - n_27)))))))], [], 0⟩ [0 ≤ i_28, i_28 < (((List.length segs_1) : Nat) : Int)] (by kernel_rfl) rfl rfl (ap2 c_33.1 (ap1 c_33.2)) ?_
          refine VL_cond ((decide ((List.getD segs_1 (Int.toNat i_28) ((0 : Int), (0 : Int))).1 > (IntKind.wrap .i64 ((20000 : Int) - n_27))))) (by kernel_rfl) ?_ ?_
          · intro b_34; have H_142 := of_t H_141 b_34
            refine V_run hN hn 2 0 [2, 3] [] ⟨[(2, .c (.val (.slice none 0 0))), (3, .c (.val (.int .i64 (70 : Int))))], [], 0⟩ [] (by kernel_rfl) rfl rfl ap0 ?_
            have H_144 := Option.some.inj (show some (Sum.inl (([] : List Int), (70 : Int))) = some q_133 from H_142); subst H_144
            have H_145 := Option.some.inj (show some (([] : List Int), (70 : Int)) = some r from H_135); subst H_145
            refine VL_ret ?_
            refine QB_ret ?_
            refine QL_ret ?_
            refine QB_ret ?_
            refine QP_ret ?_
            refine P_ghost [.nilSlot 2 (.int .i64)] 0 hn [2, 3] [0] ⟨[(2, .c (.h 0)), (3, .c (.val (.int .i64 (70 : Int))))], [(0, .row (.int .i64) ([] : List Int))], 1⟩ (by kernel_rfl) rfl rfl ?_
            exact P_to [(2, .c (.h 5)), (3, .c (.val (.int .i64 (70 : Int))))] [(5, .row (.int .i64) ([] : List Int))] [(5, 0)] hn (by kernel_rfl) (by kernel_rfl) rfl rfl rfl (QF_retS (by kernel_rfl) (by kernel_rfl) rfl)
          · intro b_34; have H_143 := of_f H_141 b_34
            refine V_run hN hn 2 0 [0, 5, 6] [] ⟨[(0, .c (.imm (.slice (.pair (.int .i64) (.int .i64))) segs_1)), (5, .c (.val (.int .i64 (IntKind.wrap .i64 (n_27 + (List.getD segs_1 (Int.toNat i_28) ((0 : Int), (0 : Int))).1))))), (6, .c (.val (.int .i64 i_28)))], [], 0⟩ [0 ≤ i_28, i_28 < (((List.length segs_1) : Nat) : Int)] (by kernel_rfl) rfl rfl (ap2 c_33.1 (ap1 c_33.2)) ?_
            refine VL_nil (QB_end ?_)
            refine V_run hN hn 1 0 [0, 5, 6] [] ⟨[(0, .c (.imm (.slice (.pair (.int .i64) (.int .i64))) segs_1)), (5, .c (.val (.int .i64 (IntKind.wrap .i64 (n_27 + (List.getD segs_1 (Int.toNat i_28) ((0 : Int), (0 : Int))).1))))), (6, .c (.val (.int .i64 (IntKind.wrap .i64 (i_28 + (1 : Int))))))], [], 0⟩ [] (by kernel_rfl) rfl rfl ap0 ?_
            refine VL_nil ?_
            exact V_roundEnd ((IntKind.wrap .i64 (n_27 + (List.getD segs_1 (Int.toNat i_28) ((0 : Int), (0 : Int))).1)), (IntKind.wrap .i64 (i_28 + (1 : Int)))) H_143 [] hn (by kernel_rfl) (by kernel_rfl) rfl rfl rfl
        · intro b_31; have H_140 := of_f H_138 b_31
          refine VL_exit ?_
          refine QL_exit ?_
          refine QB_here ?_
          have H_146 := Option.some.inj (show some (Sum.inr ()) = some q_133 from H_140); subst H_146
          refine VL_nil ?_
          exact QP_end () rfl [] hn (by kernel_rfl) (by kernel_rfl) rfl rfl rfl
      · intro y_136 hy; subst hy
        skip
        refine V_run hN hn 5 0 [0, 7, 8] [] ⟨[(0, .c (.imm (.slice (.pair (.int .i64) (.int .i64))) segs_1)), (7, .c (.val (.slice none 0 0))), (8, .c (.val (.int .i64 (0 : Int))))], [], 0⟩ [] (by kernel_rfl) rfl rfl ap0 ?_
        refine VL_block ?_
        refine V_ghost [.nilSlot 7 (.int .i64)] 0 hn [0, 7, 8] [0] ⟨[(0, .c (.imm (.slice (.pair (.int .i64) (.int .i64))) segs_1)), (7, .c (.h 0)), (8, .c (.val (.int .i64 (0 : Int))))], [(0, .row (.int .i64) ([] : List Int))], 1⟩ (by kernel_rfl) rfl rfl ?_
        refine V_to [(0, .c (.imm (.slice (.pair (.int .i64) (.int .i64))) segs_1)), (7, .c (.h 4)), (8, .c (.val (.int .i64 (0 : Int))))] [(4, .row (.int .i64) ([] : List Int))] [(4, 0)] hn (by kernel_rfl) (by kernel_rfl) rfl rfl rfl ?_
        refine VL_loop (X := ((List Int) × Int)) (fun x => [(0, .c (.imm (.slice (.pair (.int .i64) (.int .i64))) segs_1)), (7, .c (.h 4)), (8, .c (.val (.int .i64 x.2)))]) (fun x => [(4, .row (.int .i64) x.1)]) (fun k x => palinoderef7_Of.l2 K segs_1 k x.1 x.2 = some r) K (([] : List Int), (0 : Int)) H_135 (fun _ h => no_none h) ?_
        intro k_63 x_63 H_147
        obtain ⟨l_62, i_39⟩ := x_63
        have H_148 : palinoderef7_Of.l2 K segs_1 (k_63 + 1) l_62 i_39 = some r := H_147
        rw [palinoderef7_Of.l2] at H_148
        refine V_run hN hn 3 5 [0, 7, 8, 83] [4] ⟨[(0, .c (.imm (.slice (.pair (.int .i64) (.int .i64))) segs_1)), (7, .c (.h 4)), (8, .c (.val (.int .i64 i_39))), (83, .c (.val (.bool (decide (i_39 < (((List.length segs_1) : Nat) : Int))))))], [(4, .row (.int .i64) l_62)], 5⟩ [] (by kernel_rfl) rfl rfl ap0 ?_
        refine VL_cond ((decide (i_39 < (((List.length segs_1) : Nat) : Int)))) (by kernel_rfl) ?_ ?_
        · intro b_65; have H_149 := of_t H_148 b_65
          refine V_run hN hn 2 5 [0, 7, 8, 83] [4] ⟨[(0, .c (.imm (.slice (.pair (.int .i64) (.int .i64))) segs_1)), (7, .c (.h 4)), (8, .c (.val (.int .i64 i_39))), (83, .c (.val (.bool (decide (i_39 < (((List.length segs_1) : Nat) : Int))))))], [(4, .row (.int .i64) l_62)], 5⟩ [] (by kernel_rfl) rfl rfl ap0 ?_
          obtain ⟨q_151, H_152, H_153⟩ := of_bind H_149
          refine V_cut (Y := (List Int)) (R := (List Int)) q_151 (fun y => y) (fun y => [(0, .c (.imm (.slice (.pair (.int .i64) (.int .i64))) segs_1)), (7, .c (.h 7)), (8, .c (.val (.int .i64 i_39)))]) (fun y => [(7, .row (.int .i64) y)]) ?_ ?_
          · skip
            refine VL_block ?_
            refine V_run hN hn 2 5 [0, 7, 8, 9] [4] ⟨[(0, .c (.imm (.slice (.pair (.int .i64) (.int .i64))) segs_1)), (7, .c (.h 4)), (8, .c (.val (.int .i64 i_39))), (9, .c (.val (.int .i64 (0 : Int))))], [(4, .row (.int .i64) l_62)], 5⟩ [] (by kernel_rfl) rfl rfl ap0 ?_
            refine VL_block ?_
            refine V_to [(0, .c (.imm (.slice (.pair (.int .i64) (.int .i64))) segs_1)), (7, .c (.h 7)), (8, .c (.val (.int .i64 i_39))), (9, .c (.val (.int .i64 (0 : Int))))] [(7, .row (.int .i64) l_62)] [(7, 4)] hn (by kernel_rfl) (by kernel_rfl) rfl rfl rfl ?_
            refine VL_loop (X := ((List Int) × Int)) (fun x => [(0, .c (.imm (.slice (.pair (.int .i64) (.int .i64))) segs_1)), (7, .c (.h 7)), (8, .c (.val (.int .i64 i_39))), (9, .c (.val (.int .i64 x.2)))]) (fun x => [(7, .row (.int .i64) x.1)]) (fun k x => palinoderef7_Of.l3 K i_39 segs_1 k x.1 x.2 = some q_151) K (l_62, (0 : Int)) H_152 (fun _ h => no_none h) ?_
            intro k_76 x_76 H_155
            obtain ⟨l_75, k_68⟩ := x_76
            have H_156 : palinoderef7_Of.l3 K i_39 segs_1 (k_76 + 1) l_75 k_68 = some q_151 := H_155
            rw [palinoderef7_Of.l3] at H_156
            obtain ⟨c_77, H_157⟩ := of_if H_156
            refine V_run hN hn 3 8 [0, 7, 8, 9, 92] [7] ⟨[(0, .c (.imm (.slice (.pair (.int .i64) (.int .i64))) segs_1)), (7, .c (.h 7)), (8, .c (.val (.int .i64 i_39))), (9, .c (.val (.int .i64 k_68))), (92, .c (.val (.bool (decide (k_68 < (List.getD segs_1 (Int.toNat i_39) ((0 : Int), (0 : Int))).1)))))], [(7, .row (.int .i64) l_75)], 8⟩ [0 ≤ i_39, i_39 < (((List.length segs_1) : Nat) : Int)] (by kernel_rfl) rfl rfl (ap2 c_77.1 (ap1 c_77.2)) ?_
            refine VL_cond ((decide (k_68 < (List.getD segs_1 (Int.toNat i_39) ((0 : Int), (0 : Int))).1))) (by kernel_rfl) ?_ ?_
            · intro b_78; have H_158 := of_t H_157 b_78
              refine V_run hN hn 2 8 [0, 7, 8, 9, 92] [7] ⟨[(0, .c (.imm (.slice (.pair (.int .i64) (.int .i64))) segs_1)), (7, .c (.h 7)), (8, .c (.val (.int .i64 i_39))), (9, .c (.val (.int .i64 k_68))), (92, .c (.val (.bool (decide (k_68 < (List.getD segs_1 (Int.toNat i_39) ((0 : Int), (0 : Int))).1)))))], [(7, .row (.int .i64) l_75)], 8⟩ [] (by kernel_rfl) rfl rfl ap0 ?_
              refine VL_block ?_
              obtain ⟨c_80, H_160⟩ := of_if H_158
              refine V_run hN hn 1 8 [0, 7, 8, 9] [9] ⟨[(0, .c (.imm (.slice (.pair (.int .i64) (.int .i64))) segs_1)), (7, .c (.h 9)), (8, .c (.val (.int .i64 i_39))), (9, .c (.val (.int .i64 k_68)))], [(9, .row (.int .i64) (l_75 ++ ([(List.getD segs_1 (Int.toNat i_39) ((0 : Int), (0 : Int))).2] : List Int)))], 10⟩ [0 ≤ i_39, i_39 < (((List.length segs_1) : Nat) : Int), (List.length l_75 + List.length ([(List.getD segs_1 (Int.toNat i_39) ((0 : Int), (0 : Int))).2] : List Int)) * 8 ≤ 140737488355328] (by kernel_rfl) rfl rfl (ap2 c_77.1 (ap2 c_77.2 (ap1 c_80))) ?_
              refine VL_nil (QB_end ?_)
              refine V_run hN hn 1 10 [0, 7, 8, 9] [9] ⟨[(0, .c (.imm (.slice (.pair (.int .i64) (.int .i64))) segs_1)), (7, .c (.h 9)), (8, .c (.val (.int .i64 i_39))), (9, .c (.val (.int .i64 (IntKind.wrap .i64 (k_68 + (1 : Int))))))], [(9, .row (.int .i64) (l_75 ++ ([(List.getD segs_1 (Int.toNat i_39) ((0 : Int), (0 : Int))).2] : List Int)))], 10⟩ [] (by kernel_rfl) rfl rfl ap0 ?_
              refine VL_nil ?_
              exact V_roundEnd ((l_75 ++ ([(List.getD segs_1 (Int.toNat i_39) ((0 : Int), (0 : Int))).2] : List Int)), (IntKind.wrap .i64 (k_68 + (1 : Int)))) H_160 [(7, 9)] hn (by kernel_rfl) (by kernel_rfl) rfl rfl rfl
            · intro b_78; have H_159 := of_f H_157 b_78
              refine VL_exit ?_
              refine QL_exit ?_
              refine QB_here ?_
              refine VL_nil (QB_end ?_)
              have H_161 := Option.some.inj (show some l_75 = some q_151 from H_159); subst H_161
              refine VL_nil ?_
              exact QP_end l_75 rfl [(7, 7)] hn (by kernel_rfl) (by kernel_rfl) rfl rfl rfl
          · intro y_154 hy; subst hy
            skip
            skip
            refine V_run hN hn 1 8 [0, 7, 8] [7] ⟨[(0, .c (.imm (.slice (.pair (.int .i64) (.int .i64))) segs_1)), (7, .c (.h 7)), (8, .c (.val (.int .i64 (IntKind.wrap .i64 (i_39 + (1 : Int))))))], [(7, .row (.int .i64) y_154)], 8⟩ [] (by kernel_rfl) rfl rfl ap0 ?_
            refine VL_nil ?_
            exact V_roundEnd (y_154, (IntKind.wrap .i64 (i_39 + (1 : Int)))) H_153 [(4, 7)] hn (by kernel_rfl) (by kernel_rfl) rfl rfl rfl
        · intro b_65; have H_150 := of_f H_148 b_65
          refine VL_exit ?_
          refine QL_exit ?_
          refine QB_here ?_
          refine V_run hN hn 2 5 [2, 3] [4] ⟨[(2, .c (.h 4)), (3, .c (.val (.int .i64 (0 : Int))))], [(4, .row (.int .i64) l_62)], 5⟩ [] (by kernel_rfl) rfl rfl ap0 ?_
          have H_162 := Option.some.inj (show some (l_62, (0 : Int)) = some r from H_150); subst H_162
          refine VL_ret ?_
          exact P_to [(2, .c (.h 5)), (3, .c (.val (.int .i64 (0 : Int))))] [(5, .row (.int .i64) l_62)] [(5, 4)] hn (by kernel_rfl) (by kernel_rfl) rfl rfl rfl (QF_retS (by kernel_rfl) (by kernel_rfl) rfl)

theorem palinoderef7_Segs_r_spec (K : Nat) (l_1 : (List Int)) (r : (List (Int × Int))) (H : palinoderef7_Segs_r K l_1 = some r) : Spec Try.prog 45 1 [.c (.h 0)] [(0, .row (.int .i64) l_1)] (.c (.h 4)) [(0, .row (.int .i64) l_1), (4, .row (.pair (.int .i64) (.int .i64)) r)] := by
  refine Spec_mk (fn := Try.f45) (c := (Try.f45.body).get!) Try.func45 (by kernel_rfl) rfl ?_
  intro C hN hn
  replace hN : C.N = 47 := hN
  unfold palinoderef7_Segs_r at H
  refine V_run hN hn 7 1 [0, 3, 4] [0] ⟨[(0, .c (.h 0)), (3, .c (.val (.slice none 0 0))), (4, .c (.val (.int .i64 (0 : Int))))], [(0, .row (.int .i64) l_1)], 1⟩ [] (by kernel_rfl) rfl rfl ap0 ?_
  refine VL_block ?_
  refine V_ghost [.nilSlot 3 (.pair (.int .i64) (.int .i64))] 1 hn [0, 3, 4] [0, 1] ⟨[(0, .c (.h 0)), (3, .c (.h 1)), (4, .c (.val (.int .i64 (0 : Int))))], [(0, .row (.int .i64) l_1), (1, .row (.pair (.int .i64) (.int .i64)) ([] : List (Int × Int)))], 2⟩ (by kernel_rfl) rfl rfl ?_
  refine V_to [(0, .c (.h 0)), (3, .c (.h 4)), (4, .c (.val (.int .i64 (0 : Int))))] [(0, .row (.int .i64) l_1), (4, .row (.pair (.int .i64) (.int .i64)) ([] : List (Int × Int)))] [(4, 1)] hn (by kernel_rfl) (by kernel_rfl) rfl rfl rfl ?_
  refine VL_loop (X := ((List (Int × Int)) × Int)) (fun x => [(0, .c (.h 0)), (3, .c (.h 4)), (4, .c (.val (.int .i64 x.2)))]) (fun x => [(0, .row (.int .i64) l_1), (4, .row (.pair (.int .i64) (.int .i64)) x.1)]) (fun k x => palinoderef7_Segs_r.l0 K l_1 k x.1 x.2 = some r) K (([] : List (Int × Int)), (0 : Int)) H (fun _ h => no_none h) ?_
  intro k_20 x_20 H_38
  obtain ⟨out_19, i_3⟩ := x_20
  have H_39 : palinoderef7_Segs_r.l0 K l_1 (k_20 + 1) out_19 i_3 = some r := H_38
  rw [palinoderef7_Segs_r.l0] at H_39
  refine V_run hN hn 3 5 [0, 3, 4, 9] [0, 4] ⟨[(0, .c (.h 0)), (3, .c (.h 4)), (4, .c (.val (.int .i64 i_3))), (9, .c (.val (.bool (decide (i_3 < (((List.length l_1) : Nat) : Int))))))], [(0, .row (.int .i64) l_1), (4, .row (.pair (.int .i64) (.int .i64)) out_19)], 5⟩ [] (by kernel_rfl) rfl rfl ap0 ?_
  refine VL_cond ((decide (i_3 < (((List.length l_1) : Nat) : Int)))) (by kernel_rfl) ?_ ?_
  · intro b_22; have H_40 := of_t H_39 b_22
    refine V_run hN hn 2 5 [0, 3, 4, 9] [0, 4] ⟨[(0, .c (.h 0)), (3, .c (.h 4)), (4, .c (.val (.int .i64 i_3))), (9, .c (.val (.bool (decide (i_3 < (((List.length l_1) : Nat) : Int))))))], [(0, .row (.int .i64) l_1), (4, .row (.pair (.int .i64) (.int .i64)) out_19)], 5⟩ [] (by kernel_rfl) rfl rfl ap0 ?_
    refine VL_block ?_
    refine V_run hN hn 3 5 [0, 3, 4, 5] [0, 4] ⟨[(0, .c (.h 0)), (3, .c (.h 4)), (4, .c (.val (.int .i64 i_3))), (5, .c (.val (.int .i64 (((List.length out_19) : Nat) : Int))))], [(0, .row (.int .i64) l_1), (4, .row (.pair (.int .i64) (.int .i64)) out_19)], 5⟩ [] (by kernel_rfl) rfl rfl ap0 ?_
    obtain ⟨q_42, H_43, H_44⟩ := of_bind H_40
    refine V_cut (Y := Bool) (R := Bool) q_42 (fun y => y) (fun y => [(0, .c (.h 0)), (3, .c (.h 4)), (4, .c (.val (.int .i64 i_3))), (5, .c (.val (.int .i64 (((List.length out_19) : Nat) : Int)))), (28, .c (.val (.bool y)))]) (fun y => [(0, .row (.int .i64) l_1), (4, .row (.pair (.int .i64) (.int .i64)) out_19)]) ?_ ?_
    · skip
      rcases Bool.eq_false_or_eq_true ((decide ((((List.length out_19) : Nat) : Int) > (0 : Int)))) with b_25 | b_25
      · have H_46 := of_t H_43 b_25
        obtain ⟨c_26, H_48⟩ := of_if H_46
        refine V_draw hN hn (by kernel_rfl) [] [(16, true)] calls_nil 5 [0, 3, 4, 5, 28] [0, 4] ⟨[(0, .c (.h 0)), (3, .c (.h 4)), (4, .c (.val (.int .i64 i_3))), (5, .c (.val (.int .i64 (((List.length out_19) : Nat) : Int)))), (28, .c (.val (.bool ((List.getD out_19 (Int.toNat (IntKind.wrap .i64 ((((List.length out_19) : Nat) : Int) - (1 : Int)))) ((0 : Int), (0 : Int))).2 == (List.getD l_1 (Int.toNat i_3) (0 : Int))))))], [(0, .row (.int .i64) l_1), (4, .row (.pair (.int .i64) (.int .i64)) out_19)], 5⟩ [(decide ((((List.length out_19) : Nat) : Int) > (0 : Int))) = true, 0 ≤ (IntKind.wrap .i64 ((((List.length out_19) : Nat) : Int) - (1 : Int))), (IntKind.wrap .i64 ((((List.length out_19) : Nat) : Int) - (1 : Int))) < (((List.length out_19) : Nat) : Int), 0 ≤ i_3, i_3 < (((List.length l_1) : Nat) : Int)] (by kernel_rfl) rfl rfl (ap2 b_25 (ap2 c_26.1 (ap2 c_26.2.1 (ap2 c_26.2.2.1 (ap1 c_26.2.2.2))))) (by kernel_rfl) (by kernel_rfl) ?_
        have H_49 := Option.some.inj (show some ((List.getD out_19 (Int.toNat (IntKind.wrap .i64 ((((List.length out_19) : Nat) : Int) - (1 : Int)))) ((0 : Int), (0 : Int))).2 == (List.getD l_1 (Int.toNat i_3) (0 : Int))) = some q_42 from H_48); subst H_49
        refine VL_nil ?_
        exact QP_end ((List.getD out_19 (Int.toNat (IntKind.wrap .i64 ((((List.length out_19) : Nat) : Int) - (1 : Int)))) ((0 : Int), (0 : Int))).2 == (List.getD l_1 (Int.toNat i_3) (0 : Int))) rfl [(4, 4)] hn (by kernel_rfl) (by kernel_rfl) rfl rfl rfl
      · have H_47 := of_f H_43 b_25
        refine V_draw hN hn (by kernel_rfl) [] [(16, false)] calls_nil 5 [0, 3, 4, 5, 28] [0, 4] ⟨[(0, .c (.h 0)), (3, .c (.h 4)), (4, .c (.val (.int .i64 i_3))), (5, .c (.val (.int .i64 (((List.length out_19) : Nat) : Int)))), (28, .c (.val (.bool false)))], [(0, .row (.int .i64) l_1), (4, .row (.pair (.int .i64) (.int .i64)) out_19)], 5⟩ [(decide ((((List.length out_19) : Nat) : Int) > (0 : Int))) = false] (by kernel_rfl) rfl rfl (ap1 b_25) (by kernel_rfl) (by kernel_rfl) ?_
        have H_50 := Option.some.inj (show some false = some q_42 from H_47); subst H_50
        refine VL_nil ?_
        exact QP_end false rfl [(4, 4)] hn (by kernel_rfl) (by kernel_rfl) rfl rfl rfl
    · intro y_45 hy; subst hy
      skip
      skip
      refine VL_cond (y_45) (by kernel_rfl) ?_ ?_
      · intro b_29; have H_51 := of_t H_44 b_29
        obtain ⟨c_30, H_53⟩ := of_if H_51
        refine V_run hN hn 1 5 [0, 3, 4] [0, 4] ⟨[(0, .c (.h 0)), (3, .c (.h 4)), (4, .c (.val (.int .i64 i_3)))], [(0, .row (.int .i64) l_1), (4, .row (.pair (.int .i64) (.int .i64)) (List.set out_19 (Int.toNat (IntKind.wrap .i64 ((((List.length out_19) : Nat) : Int) - (1 : Int)))) ((IntKind.wrap .i64 ((List.getD out_19 (Int.toNat (IntKind.wrap .i64 ((((List.length out_19) : Nat) : Int) - (1 : Int)))) ((0 : Int), (0 : Int))).1 + (1 : Int))), (List.getD out_19 (Int.toNat (IntKind.wrap .i64 ((((List.length out_19) : Nat) : Int) - (1 : Int)))) ((0 : Int), (0 : Int))).2)))], 5⟩ [0 ≤ (IntKind.wrap .i64 ((((List.length out_19) : Nat) : Int) - (1 : Int))), (IntKind.wrap .i64 ((((List.length out_19) : Nat) : Int) - (1 : Int))) < (((List.length out_19) : Nat) : Int), 0 ≤ (IntKind.wrap .i64 ((((List.length out_19) : Nat) : Int) - (1 : Int))), (IntKind.wrap .i64 ((((List.length out_19) : Nat) : Int) - (1 : Int))) < (((List.length out_19) : Nat) : Int)] (by kernel_rfl) rfl rfl (ap2 c_30.1 (ap2 c_30.2 (ap2 c_30.1 (ap1 c_30.2)))) ?_
        refine VL_nil (QB_end ?_)
        refine V_run hN hn 1 5 [0, 3, 4] [0, 4] ⟨[(0, .c (.h 0)), (3, .c (.h 4)), (4, .c (.val (.int .i64 (IntKind.wrap .i64 (i_3 + (1 : Int))))))], [(0, .row (.int .i64) l_1), (4, .row (.pair (.int .i64) (.int .i64)) (List.set out_19 (Int.toNat (IntKind.wrap .i64 ((((List.length out_19) : Nat) : Int) - (1 : Int)))) ((IntKind.wrap .i64 ((List.getD out_19 (Int.toNat (IntKind.wrap .i64 ((((List.length out_19) : Nat) : Int) - (1 : Int)))) ((0 : Int), (0 : Int))).1 + (1 : Int))), (List.getD out_19 (Int.toNat (IntKind.wrap .i64 ((((List.length out_19) : Nat) : Int) - (1 : Int)))) ((0 : Int), (0 : Int))).2)))], 5⟩ [] (by kernel_rfl) rfl rfl ap0 ?_
        refine VL_nil ?_
        exact V_roundEnd ((List.set out_19 (Int.toNat (IntKind.wrap .i64 ((((List.length out_19) : Nat) : Int) - (1 : Int)))) ((IntKind.wrap .i64 ((List.getD out_19 (Int.toNat (IntKind.wrap .i64 ((((List.length out_19) : Nat) : Int) - (1 : Int)))) ((0 : Int), (0 : Int))).1 + (1 : Int))), (List.getD out_19 (Int.toNat (IntKind.wrap .i64 ((((List.length out_19) : Nat) : Int) - (1 : Int)))) ((0 : Int), (0 : Int))).2)), (IntKind.wrap .i64 (i_3 + (1 : Int)))) H_53 [(4, 4)] hn (by kernel_rfl) (by kernel_rfl) rfl rfl rfl
      · intro b_29; have H_52 := of_f H_44 b_29
        obtain ⟨c_32, H_54⟩ := of_if H_52
        refine V_run hN hn 1 5 [0, 3, 4] [0, 6] ⟨[(0, .c (.h 0)), (3, .c (.h 6)), (4, .c (.val (.int .i64 i_3)))], [(0, .row (.int .i64) l_1), (6, .row (.pair (.int .i64) (.int .i64)) (out_19 ++ ([((1 : Int), (List.getD l_1 (Int.toNat i_3) (0 : Int)))] : List (Int × Int))))], 7⟩ [0 ≤ i_3, i_3 < (((List.length l_1) : Nat) : Int), (List.length out_19 + List.length ([((1 : Int), (List.getD l_1 (Int.toNat i_3) (0 : Int)))] : List (Int × Int))) * 16 ≤ 140737488355328] (by kernel_rfl) rfl rfl (ap2 c_32.1 (ap2 c_32.2.1 (ap1 c_32.2.2))) ?_
        refine VL_nil (QB_end ?_)
        refine V_run hN hn 1 7 [0, 3, 4] [0, 6] ⟨[(0, .c (.h 0)), (3, .c (.h 6)), (4, .c (.val (.int .i64 (IntKind.wrap .i64 (i_3 + (1 : Int))))))], [(0, .row (.int .i64) l_1), (6, .row (.pair (.int .i64) (.int .i64)) (out_19 ++ ([((1 : Int), (List.getD l_1 (Int.toNat i_3) (0 : Int)))] : List (Int × Int))))], 7⟩ [] (by kernel_rfl) rfl rfl ap0 ?_
        refine VL_nil ?_
        exact V_roundEnd ((out_19 ++ ([((1 : Int), (List.getD l_1 (Int.toNat i_3) (0 : Int)))] : List (Int × Int))), (IntKind.wrap .i64 (i_3 + (1 : Int)))) H_54 [(4, 6)] hn (by kernel_rfl) (by kernel_rfl) rfl rfl rfl
  · intro b_22; have H_41 := of_f H_39 b_22
    refine VL_exit ?_
    refine QL_exit ?_
    refine QB_here ?_
    refine V_run hN hn 2 5 [2] [0, 4] ⟨[(2, .c (.h 4))], [(0, .row (.int .i64) l_1), (4, .row (.pair (.int .i64) (.int .i64)) out_19)], 5⟩ [] (by kernel_rfl) rfl rfl ap0 ?_
    have H_55 := Option.some.inj (show some out_19 = some r from H_41); subst H_55
    refine VL_ret ?_
    exact P_to [(2, .c (.h 4))] [(0, .row (.int .i64) l_1), (4, .row (.pair (.int .i64) (.int .i64)) out_19)] [(4, 4)] hn (by kernel_rfl) (by kernel_rfl) rfl rfl rfl (QF_retS (by kernel_rfl) (by kernel_rfl) rfl)

theorem palinoderef7_Told_r_spec (K : Nat) (l_1 : (List Int)) (r : ((List Int) × Int)) (H : palinoderef7_Told_r K l_1 = some r) : Spec Try.prog 36 1 [.c (.h 0)] [(0, .row (.int .i64) l_1)] (.tup [(false, [.h 3]), (false, [.val (.int .i64 r.2)])]) [(3, .row (.int .i64) r.1)] := by
  refine Spec_mk (fn := Try.f36) (c := (Try.f36.body).get!) Try.func36 (by kernel_rfl) rfl ?_
  intro C hN hn
  replace hN : C.N = 9 := hN
  unfold palinoderef7_Told_r at H
  refine V_run hN hn 4 1 [0] [0] ⟨[(0, .c (.h 0))], [(0, .row (.int .i64) l_1)], 1⟩ [] (by kernel_rfl) rfl rfl ap0 ?_
  obtain ⟨r_3, h_4, H_11⟩ := of_bind H
  refine V_reg hN hn [(1, ⟨45, 1, [.c (.h 0)], [(0, .row (.int .i64) l_1)], .c (.h 4), [(0, .row (.int .i64) l_1), (4, .row (.pair (.int .i64) (.int .i64)) r_3)], [(0, 0), (4, 1)], 2⟩)] [] (calls_cons (palinoderef7_Segs_r_spec K l_1 r_3 h_4) (by kernel_rfl) calls_nil) 1 [0, 7] [0] ⟨[(0, .c (.h 0)), (7, .c (.val (.bool (decide ((((List.length r_3) : Nat) : Int) > (200 : Int))))))], [(0, .row (.int .i64) l_1)], 2⟩ [] (by kernel_rfl) rfl rfl ap0 (by kernel_rfl) (by kernel_rfl) ?_
  refine VL_cond ((decide ((((List.length r_3) : Nat) : Int) > (200 : Int)))) (by kernel_rfl) ?_ ?_
  · intro b_6; have H_12 := of_t H_11 b_6
    refine V_run hN hn 2 2 [2, 3] [0] ⟨[(2, .c (.val (.slice none 0 0))), (3, .c (.val (.int .i64 (70 : Int))))], [(0, .row (.int .i64) l_1)], 2⟩ [] (by kernel_rfl) rfl rfl ap0 ?_
    have H_14 := Option.some.inj (show some (([] : List Int), (70 : Int)) = some r from H_12); subst H_14
    refine VL_ret ?_
    refine P_ghost [.nilSlot 2 (.int .i64)] 2 hn [2, 3] [0, 2] ⟨[(2, .c (.h 2)), (3, .c (.val (.int .i64 (70 : Int))))], [(0, .row (.int .i64) l_1), (2, .row (.int .i64) ([] : List Int))], 3⟩ (by kernel_rfl) rfl rfl ?_
    exact P_to [(2, .c (.h 3)), (3, .c (.val (.int .i64 (70 : Int))))] [(3, .row (.int .i64) ([] : List Int))] [(3, 2)] hn (by kernel_rfl) (by kernel_rfl) rfl rfl rfl (QF_retS (by kernel_rfl) (by kernel_rfl) rfl)
  · intro b_6; have H_13 := of_f H_11 b_6
    refine V_run hN hn 3 2 [2, 3] [0] ⟨[(2, .c (.h 0)), (3, .c (.val (.int .i64 (0 : Int))))], [(0, .row (.int .i64) l_1)], 2⟩ [] (by kernel_rfl) rfl rfl ap0 ?_
    have H_15 := Option.some.inj (show some (l_1, (0 : Int)) = some r from H_13); subst H_15
    refine VL_ret ?_
    exact P_to [(2, .c (.h 3)), (3, .c (.val (.int .i64 (0 : Int))))] [(3, .row (.int .i64) l_1)] [(3, 0)] hn (by kernel_rfl) (by kernel_rfl) rfl rfl rfl (QF_retS (by kernel_rfl) (by kernel_rfl) rfl)

theorem palinoderef7_Segs_spec (K : Nat) (l_1 : (List Int)) (r : (List (Int × Int))) (H : palinoderef7_Segs_r K l_1 = some r) : Spec Try.prog 45 0 [.c (.imm (.slice (.int .i64)) l_1)] [] (.c (.h 3)) [(3, .row (.pair (.int .i64) (.int .i64)) r)] := by
  refine Spec_mk (fn := Try.f45) (c := (Try.f45.body).get!) Try.func45 (by kernel_rfl) rfl ?_
  intro C hN hn
  replace hN : C.N = 47 := hN
  unfold palinoderef7_Segs_r at H
  refine V_run hN hn 7 0 [0, 3, 4] [] ⟨[(0, .c (.imm (.slice (.int .i64)) l_1)), (3, .c (.val (.slice none 0 0))), (4, .c (.val (.int .i64 (0 : Int))))], [], 0⟩ [] (by kernel_rfl) rfl rfl ap0 ?_
  refine VL_block ?_
  refine V_ghost [.nilSlot 3 (.pair (.int .i64) (.int .i64))] 0 hn [0, 3, 4] [0] ⟨[(0, .c (.imm (.slice (.int .i64)) l_1)), (3, .c (.h 0)), (4, .c (.val (.int .i64 (0 : Int))))], [(0, .row (.pair (.int .i64) (.int .i64)) ([] : List (Int × Int)))], 1⟩ (by kernel_rfl) rfl rfl ?_
  refine V_to [(0, .c (.imm (.slice (.int .i64)) l_1)), (3, .c (.h 3)), (4, .c (.val (.int .i64 (0 : Int))))] [(3, .row (.pair (.int .i64) (.int .i64)) ([] : List (Int × Int)))] [(3, 0)] hn (by kernel_rfl) (by kernel_rfl) rfl rfl rfl ?_
  refine VL_loop (X := ((List (Int × Int)) × Int)) (fun x => [(0, .c (.imm (.slice (.int .i64)) l_1)), (3, .c (.h 3)), (4, .c (.val (.int .i64 x.2)))]) (fun x => [(3, .row (.pair (.int .i64) (.int .i64)) x.1)]) (fun k x => palinoderef7_Segs_r.l0 K l_1 k x.1 x.2 = some r) K (([] : List (Int × Int)), (0 : Int)) H (fun _ h => no_none h) ?_
  intro k_20 x_20 H_38
  obtain ⟨out_19, i_3⟩ := x_20
  have H_39 : palinoderef7_Segs_r.l0 K l_1 (k_20 + 1) out_19 i_3 = some r := H_38
  rw [palinoderef7_Segs_r.l0] at H_39
  refine V_run hN hn 3 4 [0, 3, 4, 9] [3] ⟨[(0, .c (.imm (.slice (.int .i64)) l_1)), (3, .c (.h 3)), (4, .c (.val (.int .i64 i_3))), (9, .c (.val (.bool (decide (i_3 < (((List.length l_1) : Nat) : Int))))))], [(3, .row (.pair (.int .i64) (.int .i64)) out_19)], 4⟩ [] (by kernel_rfl) rfl rfl ap0 ?_
  refine VL_cond ((decide (i_3 < (((List.length l_1) : Nat) : Int)))) (by kernel_rfl) ?_ ?_
  · intro b_22; have H_40 := of_t H_39 b_22
    refine V_run hN hn 2 4 [0, 3, 4, 9] [3] ⟨[(0, .c (.imm (.slice (.int .i64)) l_1)), (3, .c (.h 3)), (4, .c (.val (.int .i64 i_3))), (9, .c (.val (.bool (decide (i_3 < (((List.length l_1) : Nat) : Int))))))], [(3, .row (.pair (.int .i64) (.int .i64)) out_19)], 4⟩ [] (by kernel_rfl) rfl rfl ap0 ?_
    refine VL_block ?_
    refine V_run hN hn 3 4 [0, 3, 4, 5] [3] ⟨[(0, .c (.imm (.slice (.int .i64)) l_1)), (3, .c (.h 3)), (4, .c (.val (.int .i64 i_3))), (5, .c (.val (.int .i64 (((List.length out_19) : Nat) : Int))))], [(3, .row (.pair (.int .i64) (.int .i64)) out_19)], 4⟩ [] (by kernel_rfl) rfl rfl ap0 ?_
    obtain ⟨q_42, H_43, H_44⟩ := of_bind H_40
    refine V_cut (Y := Bool) (R := Bool) q_42 (fun y => y) (fun y => [(0, .c (.imm (.slice (.int .i64)) l_1)), (3, .c (.h 3)), (4, .c (.val (.int .i64 i_3))), (5, .c (.val (.int .i64 (((List.length out_19) : Nat) : Int)))), (28, .c (.val (.bool y)))]) (fun y => [(3, .row (.pair (.int .i64) (.int .i64)) out_19)]) ?_ ?_
    · skip
      rcases Bool.eq_false_or_eq_true ((decide ((((List.length out_19) : Nat) : Int) > (0 : Int)))) with b_25 | b_25
      · have H_46 := of_t H_43 b_25
        obtain ⟨c_26, H_48⟩ := of_if H_46
        refine V_draw hN hn (by kernel_rfl) [] [(16, true)] calls_nil 4 [0, 3, 4, 5, 28] [3] ⟨[(0, .c (.imm (.slice (.int .i64)) l_1)), (3, .c (.h 3)), (4, .c (.val (.int .i64 i_3))), (5, .c (.val (.int .i64 (((List.length out_19) : Nat) : Int)))), (28, .c (.val (.bool ((List.getD out_19 (Int.toNat (IntKind.wrap .i64 ((((List.length out_19) : Nat) : Int) - (1 : Int)))) ((0 : Int), (0 : Int))).2 == (List.getD l_1 (Int.toNat i_3) (0 : Int))))))], [(3, .row (.pair (.int .i64) (.int .i64)) out_19)], 4⟩ [(decide ((((List.length out_19) : Nat) : Int) > (0 : Int))) = true, 0 ≤ (IntKind.wrap .i64 ((((List.length out_19) : Nat) : Int) - (1 : Int))), (IntKind.wrap .i64 ((((List.length out_19) : Nat) : Int) - (1 : Int))) < (((List.length out_19) : Nat) : Int), 0 ≤ i_3, i_3 < (((List.length l_1) : Nat) : Int)] (by kernel_rfl) rfl rfl (ap2 b_25 (ap2 c_26.1 (ap2 c_26.2.1 (ap2 c_26.2.2.1 (ap1 c_26.2.2.2))))) (by kernel_rfl) (by kernel_rfl) ?_
        have H_49 := Option.some.inj (show some ((List.getD out_19 (Int.toNat (IntKind.wrap .i64 ((((List.length out_19) : Nat) : Int) - (1 : Int)))) ((0 : Int), (0 : Int))).2 == (List.getD l_1 (Int.toNat i_3) (0 : Int))) = some q_42 from H_48); subst H_49
        refine VL_nil ?_
        exact QP_end ((List.getD out_19 (Int.toNat (IntKind.wrap .i64 ((((List.length out_19) : Nat) : Int) - (1 : Int)))) ((0 : Int), (0 : Int))).2 == (List.getD l_1 (Int.toNat i_3) (0 : Int))) rfl [(3, 3)] hn (by kernel_rfl) (by kernel_rfl) rfl rfl rfl
      · have H_47 := of_f H_43 b_25
        refine V_draw hN hn (by kernel_rfl) [] [(16, false)] calls_nil 4 [0, 3, 4, 5, 28] [3] ⟨[(0, .c (.imm (.slice (.int .i64)) l_1)), (3, .c (.h 3)), (4, .c (.val (.int .i64 i_3))), (5, .c (.val (.int .i64 (((List.length out_19) : Nat) : Int)))), (28, .c (.val (.bool false)))], [(3, .row (.pair (.int .i64) (.int .i64)) out_19)], 4⟩ [(decide ((((List.length out_19) : Nat) : Int) > (0 : Int))) = false] (by kernel_rfl) rfl rfl (ap1 b_25) (by kernel_rfl) (by kernel_rfl) ?_
        have H_50 := Option.some.inj (show some false = some q_42 from H_47); subst H_50
        refine VL_nil ?_
        exact QP_end false rfl [(3, 3)] hn (by kernel_rfl) (by kernel_rfl) rfl rfl rfl
    · intro y_45 hy; subst hy
      skip
      skip
      refine VL_cond (y_45) (by kernel_rfl) ?_ ?_
      · intro b_29; have H_51 := of_t H_44 b_29
        obtain ⟨c_30, H_53⟩ := of_if H_51
        refine V_run hN hn 1 4 [0, 3, 4] [3] ⟨[(0, .c (.imm (.slice (.int .i64)) l_1)), (3, .c (.h 3)), (4, .c (.val (.int .i64 i_3)))], [(3, .row (.pair (.int .i64) (.int .i64)) (List.set out_19 (Int.toNat (IntKind.wrap .i64 ((((List.length out_19) : Nat) : Int) - (1 : Int)))) ((IntKind.wrap .i64 ((List.getD out_19 (Int.toNat (IntKind.wrap .i64 ((((List.length out_19) : Nat) : Int) - (1 : Int)))) ((0 : Int), (0 : Int))).1 + (1 : Int))), (List.getD out_19 (Int.toNat (IntKind.wrap .i64 ((((List.length out_19) : Nat) : Int) - (1 : Int)))) ((0 : Int), (0 : Int))).2)))], 4⟩ [0 ≤ (IntKind.wrap .i64 ((((List.length out_19) : Nat) : Int) - (1 : Int))), (IntKind.wrap .i64 ((((List.length out_19) : Nat) : Int) - (1 : Int))) < (((List.length out_19) : Nat) : Int), 0 ≤ (IntKind.wrap .i64 ((((List.length out_19) : Nat) : Int) - (1 : Int))), (IntKind.wrap .i64 ((((List.length out_19) : Nat) : Int) - (1 : Int))) < (((List.length out_19) : Nat) : Int)] (by kernel_rfl) rfl rfl (ap2 c_30.1 (ap2 c_30.2 (ap2 c_30.1 (ap1 c_30.2)))) ?_
        refine VL_nil (QB_end ?_)
        refine V_run hN hn 1 4 [0, 3, 4] [3] ⟨[(0, .c (.imm (.slice (.int .i64)) l_1)), (3, .c (.h 3)), (4, .c (.val (.int .i64 (IntKind.wrap .i64 (i_3 + (1 : Int))))))], [(3, .row (.pair (.int .i64) (.int .i64)) (List.set out_19 (Int.toNat (IntKind.wrap .i64 ((((List.length out_19) : Nat) : Int) - (1 : Int)))) ((IntKind.wrap .i64 ((List.getD out_19 (Int.toNat (IntKind.wrap .i64 ((((List.length out_19) : Nat) : Int) - (1 : Int)))) ((0 : Int), (0 : Int))).1 + (1 : Int))), (List.getD out_19 (Int.toNat (IntKind.wrap .i64 ((((List.length out_19) : Nat) : Int) - (1 : Int)))) ((0 : Int), (0 : Int))).2)))], 4⟩ [] (by kernel_rfl) rfl rfl ap0 ?_
        refine VL_nil ?_
        exact V_roundEnd ((List.set out_19 (Int.toNat (IntKind.wrap .i64 ((((List.length out_19) : Nat) : Int) - (1 : Int)))) ((IntKind.wrap .i64 ((List.getD out_19 (Int.toNat (IntKind.wrap .i64 ((((List.length out_19) : Nat) : Int) - (1 : Int)))) ((0 : Int), (0 : Int))).1 + (1 : Int))), (List.getD out_19 (Int.toNat (IntKind.wrap .i64 ((((List.length out_19) : Nat) : Int) - (1 : Int)))) ((0 : Int), (0 : Int))).2)), (IntKind.wrap .i64 (i_3 + (1 : Int)))) H_53 [(3, 3)] hn (by kernel_rfl) (by kernel_rfl) rfl rfl rfl
      · intro b_29; have H_52 := of_f H_44 b_29
        obtain ⟨c_32, H_54⟩ := of_if H_52
        refine V_run hN hn 1 4 [0, 3, 4] [5] ⟨[(0, .c (.imm (.slice (.int .i64)) l_1)), (3, .c (.h 5)), (4, .c (.val (.int .i64 i_3)))], [(5, .row (.pair (.int .i64) (.int .i64)) (out_19 ++ ([((1 : Int), (List.getD l_1 (Int.toNat i_3) (0 : Int)))] : List (Int × Int))))], 6⟩ [0 ≤ i_3, i_3 < (((List.length l_1) : Nat) : Int), (List.length out_19 + List.length ([((1 : Int), (List.getD l_1 (Int.toNat i_3) (0 : Int)))] : List (Int × Int))) * 16 ≤ 140737488355328] (by kernel_rfl) rfl rfl (ap2 c_32.1 (ap2 c_32.2.1 (ap1 c_32.2.2))) ?_
        refine VL_nil (QB_end ?_)
        refine V_run hN hn 1 6 [0, 3, 4] [5] ⟨[(0, .c (.imm (.slice (.int .i64)) l_1)), (3, .c (.h 5)), (4, .c (.val (.int .i64 (IntKind.wrap .i64 (i_3 + (1 : Int))))))], [(5, .row (.pair (.int .i64) (.int .i64)) (out_19 ++ ([((1 : Int), (List.getD l_1 (Int.toNat i_3) (0 : Int)))] : List (Int × Int))))], 6⟩ [] (by kernel_rfl) rfl rfl ap0 ?_
        refine VL_nil ?_
        exact V_roundEnd ((out_19 ++ ([((1 : Int), (List.getD l_1 (Int.toNat i_3) (0 : Int)))] : List (Int × Int))), (IntKind.wrap .i64 (i_3 + (1 : Int)))) H_54 [(3, 5)] hn (by kernel_rfl) (by kernel_rfl) rfl rfl rfl
  · intro b_22; have H_41 := of_f H_39 b_22
    refine VL_exit ?_
    refine QL_exit ?_
    refine QB_here ?_
    refine V_run hN hn 2 4 [2] [3] ⟨[(2, .c (.h 3))], [(3, .row (.pair (.int .i64) (.int .i64)) out_19)], 4⟩ [] (by kernel_rfl) rfl rfl ap0 ?_
    have H_55 := Option.some.inj (show some out_19 = some r from H_41); subst H_55
    refine VL_ret ?_
    exact P_to [(2, .c (.h 3))] [(3, .row (.pair (.int .i64) (.int .i64)) out_19)] [(3, 3)] hn (by kernel_rfl) (by kernel_rfl) rfl rfl rfl (QF_retS (by kernel_rfl) (by kernel_rfl) rfl)

theorem palinoderef7_Told_spec (K : Nat) (l_1 : (List Int)) (r : ((List Int) × Int)) (H : palinoderef7_Told_r K l_1 = some r) : Spec Try.prog 36 0 [.c (.imm (.slice (.int .i64)) l_1)] [] (.tup [(false, [.imm (.slice (.int .i64)) r.1]), (false, [.val (.int .i64 r.2)])]) [] := by
  refine Spec_mk (fn := Try.f36) (c := (Try.f36.body).get!) Try.func36 (by kernel_rfl) rfl ?_
  intro C hN hn
  replace hN : C.N = 9 := hN
  unfold palinoderef7_Told_r at H
  refine V_run hN hn 4 0 [0] [] ⟨[(0, .c (.imm (.slice (.int .i64)) l_1))], [], 0⟩ [] (by kernel_rfl) rfl rfl ap0 ?_
  obtain ⟨r_3, h_4, H_11⟩ := of_bind H
  refine V_reg hN hn [(1, ⟨45, 0, [.c (.imm (.slice (.int .i64)) l_1)], [], .c (.h 3), [(3, .row (.pair (.int .i64) (.int .i64)) r_3)], [(3, 0)], 1⟩)] [] (calls_cons (palinoderef7_Segs_spec K l_1 r_3 h_4) (by kernel_rfl) calls_nil) 0 [0, 7] [] ⟨[(0, .c (.imm (.slice (.int .i64)) l_1)), (7, .c (.val (.bool (decide ((((List.length r_3) : Nat) : Int) > (200 : Int))))))], [], 1⟩ [] (by kernel_rfl) rfl rfl ap0 (by kernel_rfl) (by kernel_rfl) ?_
  refine VL_cond ((decide ((((List.length r_3) : Nat) : Int) > (200 : Int)))) (by kernel_rfl) ?_ ?_
  · intro b_6; have H_12 := of_t H_11 b_6
    refine V_run hN hn 2 1 [2, 3] [] ⟨[(2, .c (.val (.slice none 0 0))), (3, .c (.val (.int .i64 (70 : Int))))], [], 1⟩ [] (by kernel_rfl) rfl rfl ap0 ?_
    have H_14 := Option.some.inj (show some (([] : List Int), (70 : Int)) = some r from H_12); subst H_14
    refine VL_ret ?_
    refine P_ghost [.read 2 (.slice (.int .i64))] 1 hn [2, 3] [] ⟨[(2, .c (.imm (.slice (.int .i64)) ([] : List Int))), (3, .c (.val (.int .i64 (70 : Int))))], [], 1⟩ (by kernel_rfl) rfl rfl ?_
    exact P_to [(2, .c (.imm (.slice (.int .i64)) ([] : List Int))), (3, .c (.val (.int .i64 (70 : Int))))] [] [] hn (by kernel_rfl) (by kernel_rfl) rfl rfl rfl (QF_retS (by kernel_rfl) (by kernel_rfl) rfl)
  · intro b_6; have H_13 := of_f H_11 b_6
    refine V_run hN hn 3 1 [2, 3] [] ⟨[(2, .c (.imm (.slice (.int .i64)) l_1)), (3, .c (.val (.int .i64 (0 : Int))))], [], 1⟩ [] (by kernel_rfl) rfl rfl ap0 ?_
    have H_15 := Option.some.inj (show some (l_1, (0 : Int)) = some r from H_13); subst H_15
    refine VL_ret ?_
    exact P_to [(2, .c (.imm (.slice (.int .i64)) l_1)), (3, .c (.val (.int .i64 (0 : Int))))] [] [] hn (by kernel_rfl) (by kernel_rfl) rfl rfl rfl (QF_retS (by kernel_rfl) (by kernel_rfl) rfl)

theorem subset_Subset_Segs_spec (K : Nat) (s_1 : (Option ((List (Int × Int)) × Int))) (r : (List (Int × Int))) (H : subset_Subset_Segs K s_1 = some r) : Spec Try.prog 17 0 [.c (.imm (.opt (.pair (.slice (.pair (.int .i64) (.int .i64))) (.int .i64))) s_1)] [] (.c (.h 0)) [(0, .row (.pair (.int .i64) (.int .i64)) r)] := by
  refine Spec_mk (fn := Try.f17) (c := (Try.f17.body).get!) Try.func17 (by kernel_rfl) rfl ?_
  intro C hN hn
  replace hN : C.N = 17 := hN
  unfold subset_Subset_Segs at H
  obtain ⟨c_2, H_4⟩ := of_if H
  refine V_run hN hn 8 0 [2] [0] ⟨[(2, .c (.h 0))], [(0, .row (.pair (.int .i64) (.int .i64)) (putAt (List.replicate (Int.toNat (((List.length (Option.getD s_1 (([] : (List (Int × Int))), (0 : Int))).1) : Nat) : Int)) ((0 : Int), (0 : Int))) (List.take (List.length (List.replicate (Int.toNat (((List.length (Option.getD s_1 (([] : (List (Int × Int))), (0 : Int))).1) : Nat) : Int)) ((0 : Int), (0 : Int)))) (Option.getD s_1 (([] : (List (Int × Int))), (0 : Int))).1) 0))], 1⟩ [Option.isSome s_1 = true, (0 : Int) ≤ (((List.length (Option.getD s_1 (([] : (List (Int × Int))), (0 : Int))).1) : Nat) : Int), (((List.length (Option.getD s_1 (([] : (List (Int × Int))), (0 : Int))).1) : Nat) : Int) ≤ (((List.length (Option.getD s_1 (([] : (List (Int × Int))), (0 : Int))).1) : Nat) : Int), (((List.length (Option.getD s_1 (([] : (List (Int × Int))), (0 : Int))).1) : Nat) : Int) * 16 ≤ (140737488355328 : Int), (((List.length (Option.getD s_1 (([] : (List (Int × Int))), (0 : Int))).1) : Nat) : Int) ≤ (9223372036854775807 : Int), Option.isSome s_1 = true] (by kernel_rfl) rfl rfl (ap2 c_2.1 (ap2 c_2.2.1 (ap2 c_2.2.2.1 (ap2 c_2.2.2.2.1 (ap2 c_2.2.2.2.2 (ap1 c_2.1)))))) ?_
  have H_5 := Option.some.inj (show some (putAt (List.replicate (Int.toNat (((List.length (Option.getD s_1 (([] : (List (Int × Int))), (0 : Int))).1) : Nat) : Int)) ((0 : Int), (0 : Int))) (List.take (List.length (List.replicate (Int.toNat (((List.length (Option.getD s_1 (([] : (List (Int × Int))), (0 : Int))).1) : Nat) : Int)) ((0 : Int), (0 : Int)))) (Option.getD s_1 (([] : (List (Int × Int))), (0 : Int))).1) 0) = some r from H_4); subst H_5
  refine VL_ret ?_
  exact P_to [(2, .c (.h 0))] [(0, .row (.pair (.int .i64) (.int .i64)) (putAt (List.replicate (Int.toNat (((List.length (Option.getD s_1 (([] : (List (Int × Int))), (0 : Int))).1) : Nat) : Int)) ((0 : Int), (0 : Int))) (List.take (List.length (List.replicate (Int.toNat (((List.length (Option.getD s_1 (([] : (List (Int × Int))), (0 : Int))).1) : Nat) : Int)) ((0 : Int), (0 : Int)))) (Option.getD s_1 (([] : (List (Int × Int))), (0 : Int))).1) 0))] [(0, 0)] hn (by kernel_rfl) (by kernel_rfl) rfl rfl rfl (QF_retS (by kernel_rfl) (by kernel_rfl) rfl)

theorem palinodelaw7_same_gr_spec (K : Nat) (s_1 : (Option ((List (Int × Int)) × Int))) (l_2 : (List Int)) (r : Bool) (H : palinodelaw7_same_gr K s_1 l_2 = some r) : Spec Try.prog 37 1 [.c (.imm (.opt (.pair (.slice (.pair (.int .i64) (.int .i64))) (.int .i64))) s_1), .c (.h 0)] [(0, .row (.int .i64) l_2)] (.c (.val (.bool r))) [(0, .row (.int .i64) l_2)] := by
  refine Spec_mk (fn := Try.f37) (c := (Try.f37.body).get!) Try.func37 (by kernel_rfl) rfl ?_
  intro C hN hn
  replace hN : C.N = 102 := hN
  unfold palinodelaw7_same_gr at H
  refine V_run hN hn 4 1 [0, 1] [0] ⟨[(0, .c (.imm (.opt (.pair (.slice (.pair (.int .i64) (.int .i64))) (.int .i64))) s_1)), (1, .c (.h 0))], [(0, .row (.int .i64) l_2)], 1⟩ [] (by kernel_rfl) rfl rfl ap0 ?_
  obtain ⟨r_4, h_5, H_84⟩ := of_bind H
  refine V_reg hN hn [(1, ⟨18, 0, [.c (.imm (.opt (.pair (.slice (.pair (.int .i64) (.int .i64))) (.int .i64))) s_1)], [], .c (.val (.int .i64 r_4)), [], [], 1⟩)] [] (calls_cons (subset_Subset_Len_spec K s_1 r_4 h_5) (by kernel_rfl) calls_nil) 1 [0, 1, 14] [0] ⟨[(0, .c (.imm (.opt (.pair (.slice (.pair (.int .i64) (.int .i64))) (.int .i64))) s_1)), (1, .c (.h 0)), (14, .c (.val (.bool (r_4 != (((List.length l_2) : Nat) : Int)))))], [(0, .row (.int .i64) l_2)], 1⟩ [] (by kernel_rfl) rfl rfl ap0 (by kernel_rfl) (by kernel_rfl) ?_
  refine VL_cond ((r_4 != (((List.length l_2) : Nat) : Int))) (by kernel_rfl) ?_ ?_
  · intro b_7; have H_85 := of_t H_84 b_7
    refine V_run hN hn 2 1 [4] [0] ⟨[(4, .c (.val (.bool false)))], [(0, .row (.int .i64) l_2)], 1⟩ [] (by kernel_rfl) rfl rfl ap0 ?_
    have H_87 := Option.some.inj (show some false = some r from H_85); subst H_87
    refine VL_ret ?_
    exact P_to [(4, .c (.val (.bool false)))] [(0, .row (.int .i64) l_2)] [] hn (by kernel_rfl) (by kernel_rfl) rfl rfl rfl (QF_retS (by kernel_rfl) (by kernel_rfl) rfl)
  · intro b_7; have H_86 := of_f H_84 b_7
    refine V_run hN hn 6 1 [0, 1, 5, 6] [0] ⟨[(0, .c (.imm (.opt (.pair (.slice (.pair (.int .i64) (.int .i64))) (.int .i64))) s_1)), (1, .c (.h 0)), (5, .c (.val (.int .i64 (0 : Int)))), (6, .c (.val (.int .i64 (0 : Int))))], [(0, .row (.int .i64) l_2)], 1⟩ [] (by kernel_rfl) rfl rfl ap0 ?_
    obtain ⟨q_88, H_89, H_90⟩ := of_bind H_86
    refine V_cut (Y := Int) (R := (Bool ⊕ Int)) q_88 (fun y => (Sum.inr y)) (fun y => [(0, .c (.imm (.opt (.pair (.slice (.pair (.int .i64) (.int .i64))) (.int .i64))) s_1)), (1, .c (.h 0)), (5, .c (.val (.int .i64 y)))]) (fun y => [(0, .row (.int .i64) l_2)]) ?_ ?_
    · skip
      refine VL_block ?_
      refine V_to [(0, .c (.imm (.opt (.pair (.slice (.pair (.int .i64) (.int .i64))) (.int .i64))) s_1)), (1, .c (.h 0)), (5, .c (.val (.int .i64 (0 : Int)))), (6, .c (.val (.int .i64 (0 : Int))))] [(0, .row (.int .i64) l_2)] [] hn (by kernel_rfl) (by kernel_rfl) rfl rfl rfl ?_
      refine VL_loop (X := (Int × Int)) (fun x => [(0, .c (.imm (.opt (.pair (.slice (.pair (.int .i64) (.int .i64))) (.int .i64))) s_1)), (1, .c (.h 0)), (5, .c (.val (.int .i64 x.1))), (6, .c (.val (.int .i64 x.2)))]) (fun x => [(0, .row (.int .i64) l_2)]) (fun k x => palinodelaw7_same_gr.l0 K l_2 s_1 k x.1 x.2 = some q_88) K ((0 : Int), (0 : Int)) H_89 (fun _ h => no_none h) ?_
      intro k_12 x_12 H_92
      obtain ⟨n_10, i_11⟩ := x_12
      have H_93 : palinodelaw7_same_gr.l0 K l_2 s_1 (k_12 + 1) n_10 i_11 = some q_88 := H_92
      rw [palinodelaw7_same_gr.l0] at H_93
      refine V_run hN hn 3 1 [0, 1, 5, 6, 18] [0] ⟨[(0, .c (.imm (.opt (.pair (.slice (.pair (.int .i64) (.int .i64))) (.int .i64))) s_1)), (1, .c (.h 0)), (5, .c (.val (.int .i64 n_10))), (6, .c (.val (.int .i64 i_11))), (18, .c (.val (.bool (decide (i_11 < (((List.length l_2) : Nat) : Int))))))], [(0, .row (.int .i64) l_2)], 1⟩ [] (by kernel_rfl) rfl rfl ap0 ?_
      refine VL_cond ((decide (i_11 < (((List.length l_2) : Nat) : Int)))) (by kernel_rfl) ?_ ?_
      · intro b_14; have H_94 := of_t H_93 b_14
        refine V_run hN hn 2 1 [0, 1, 5, 6, 18] [0] ⟨[(0, .c (.imm (.opt (.pair (.slice (.pair (.int .i64) (.int .i64))) (.int .i64))) s_1)), (1, .c (.h 0)), (5, .c (.val (.int .i64 n_10))), (6, .c (.val (.int .i64 i_11))), (18, .c (.val (.bool (decide (i_11 < (((List.length l_2) : Nat) : Int))))))], [(0, .row (.int .i64) l_2)], 1⟩ [] (by kernel_rfl) rfl rfl ap0 ?_
        refine VL_block ?_
        refine V_run hN hn 2 1 [0, 1, 5, 6, 18] [0] ⟨[(0, .c (.imm (.opt (.pair (.slice (.pair (.int .i64) (.int .i64))) (.int .i64))) s_1)), (1, .c (.h 0)), (5, .c (.val (.int .i64 n_10))), (6, .c (.val (.int .i64 i_11))), (18, .c (.val (.bool (decide (i_11 < (((List.length l_2) : Nat) : Int))))))], [(0, .row (.int .i64) l_2)], 1⟩ [] (by kernel_rfl) rfl rfl ap0 ?_
        obtain ⟨q_96, H_97, H_98⟩ := of_bind H_94
        refine V_cut (Y := Bool) (R := Bool) q_96 (fun y => y) (fun y => [(0, .c (.imm (.opt (.pair (.slice (.pair (.int .i64) (.int .i64))) (.int .i64))) s_1)), (1, .c (.h 0)), (5, .c (.val (.int .i64 n_10))), (6, .c (.val (.int .i64 i_11))), (39, .c (.val (.bool y)))]) (fun y => [(0, .row (.int .i64) l_2)]) ?_ ?_
        · skip
          obtain ⟨r_17, h_18, H_100⟩ := of_bind H_97
          rcases Bool.eq_false_or_eq_true ((r_17 != (List.getD l_2 (Int.toNat i_11) (0 : Int)))) with b_19 | b_19
          · have H_101 := of_t H_100 b_19
            obtain ⟨c_20, H_103⟩ := of_if H_101
            refine V_draw hN hn (by kernel_rfl) [(2, ⟨20, 0, [.c (.imm (.opt (.pair (.slice (.pair (.int .i64) (.int .i64))) (.int .i64))) s_1), .c (.val (.int .i64 i_11))], [], .c (.val (.int .i64 r_17)), [], [], 1⟩)] [(29, true)] (calls_cons (subset_Subset_Count_spec K s_1 i_11 r_17 h_18) (by kernel_rfl) calls_nil) 1 [0, 1, 5, 6, 39] [0] ⟨[(0, .c (.imm (.opt (.pair (.slice (.pair (.int .i64) (.int .i64))) (.int .i64))) s_1)), (1, .c (.h 0)), (5, .c (.val (.int .i64 n_10))), (6, .c (.val (.int .i64 i_11))), (39, .c (.val (.bool true)))], [(0, .row (.int .i64) l_2)], 1⟩ [0 ≤ i_11, i_11 < (((List.length l_2) : Nat) : Int), (r_17 != (List.getD l_2 (Int.toNat i_11) (0 : Int))) = true] (by kernel_rfl) rfl rfl (ap2 c_20.1 (ap2 c_20.2 (ap1 b_19))) (by kernel_rfl) (by kernel_rfl) ?_
            have H_104 := Option.some.inj (show some true = some q_96 from H_103); subst H_104
            refine VL_nil ?_
            exact QP_end true rfl [] hn (by kernel_rfl) (by kernel_rfl) rfl rfl rfl
          · have H_102 := of_f H_100 b_19
            obtain ⟨r_21, h_22, H_105⟩ := of_bind H_102
            obtain ⟨c_23, H_106⟩ := of_if H_105
            refine V_draw hN hn (by kernel_rfl) [(2, ⟨20, 0, [.c (.imm (.opt (.pair (.slice (.pair (.int .i64) (.int .i64))) (.int .i64))) s_1), .c (.val (.int .i64 i_11))], [], .c (.val (.int .i64 r_17)), [], [], 1⟩), (11, ⟨39, 0, [.c (.imm (.opt (.pair (.slice (.pair (.int .i64) (.int .i64))) (.int .i64))) s_1), .c (.val (.int .i64 i_11))], [], .c (.val (.bool r_21)), [], [], 1⟩)] [(29, false)] (calls_cons (subset_Subset_Count_spec K s_1 i_11 r_17 h_18) (by kernel_rfl) (calls_cons (subset_Subset_Has_spec K s_1 i_11 r_21 h_22) (by kernel_rfl) calls_nil)) 1 [0, 1, 5, 6, 39] [0] ⟨[(0, .c (.imm (.opt (.pair (.slice (.pair (.int .i64) (.int .i64))) (.int .i64))) s_1)), (1, .c (.h 0)), (5, .c (.val (.int .i64 n_10))), (6, .c (.val (.int .i64 i_11))), (39, .c (.val (.bool (!(r_21 == (decide ((List.getD l_2 (Int.toNat i_11) (0 : Int)) > (0 : Int))))))))], [(0, .row (.int .i64) l_2)], 1⟩ [0 ≤ i_11, i_11 < (((List.length l_2) : Nat) : Int), (r_17 != (List.getD l_2 (Int.toNat i_11) (0 : Int))) = false, 0 ≤ i_11, i_11 < (((List.length l_2) : Nat) : Int)] (by kernel_rfl) rfl rfl (ap2 c_23.1 (ap2 c_23.2 (ap2 b_19 (ap2 c_23.1 (ap1 c_23.2))))) (by kernel_rfl) (by kernel_rfl) ?_
            have H_107 := Option.some.inj (show some (!(r_21 == (decide ((List.getD l_2 (Int.toNat i_11) (0 : Int)) > (0 : Int))))) = some q_96 from H_106); subst H_107
            refine VL_nil ?_
            exact QP_end (!(r_21 == (decide ((List.getD l_2 (Int.toNat i_11) (0 : Int)) > (0 : Int))))) rfl [] hn (by kernel_rfl) (by kernel_rfl) rfl rfl rfl
        · intro y_99 hy; subst hy
          skip
          skip
          refine VL_cond (y_99) (by kernel_rfl) ?_ ?_
          · intro b_25; have H_108 := of_t H_98 b_25
            refine V_run hN hn 2 1 [4] [0] ⟨[(4, .c (.val (.bool false)))], [(0, .row (.int .i64) l_2)], 1⟩ [] (by kernel_rfl) rfl rfl ap0 ?_
            have H_110 := Option.some.inj (show some (Sum.inl false) = some q_88 from H_108); subst H_110
            have H_111 := Option.some.inj (show some false = some r from H_90); subst H_111
            refine VL_ret ?_
            refine QB_ret ?_
            refine QL_ret ?_
            refine QB_ret ?_
            refine QP_ret ?_
            exact P_to [(4, .c (.val (.bool false)))] [(0, .row (.int .i64) l_2)] [] hn (by kernel_rfl) (by kernel_rfl) rfl rfl rfl (QF_retS (by kernel_rfl) (by kernel_rfl) rfl)
          · intro b_25; have H_109 := of_f H_98 b_25
            obtain ⟨c_27, H_112⟩ := of_if H_109
            refine V_run hN hn 3 1 [0, 1, 5, 6, 44] [0] ⟨[(0, .c (.imm (.opt (.pair (.slice (.pair (.int .i64) (.int .i64))) (.int .i64))) s_1)), (1, .c (.h 0)), (5, .c (.val (.int .i64 n_10))), (6, .c (.val (.int .i64 i_11))), (44, .c (.val (.bool (decide ((List.getD l_2 (Int.toNat i_11) (0 : Int)) > (0 : Int))))))], [(0, .row (.int .i64) l_2)], 1⟩ [0 ≤ i_11, i_11 < (((List.length l_2) : Nat) : Int)] (by kernel_rfl) rfl rfl (ap2 c_27.1 (ap1 c_27.2)) ?_
            refine VL_cond ((decide ((List.getD l_2 (Int.toNat i_11) (0 : Int)) > (0 : Int)))) (by kernel_rfl) ?_ ?_
            · intro b_28; have H_113 := of_t H_112 b_28
              refine V_run hN hn 1 1 [0, 1, 5, 6] [0] ⟨[(0, .c (.imm (.opt (.pair (.slice (.pair (.int .i64) (.int .i64))) (.int .i64))) s_1)), (1, .c (.h 0)), (5, .c (.val (.int .i64 (IntKind.wrap .i64 (n_10 + (1 : Int)))))), (6, .c (.val (.int .i64 i_11)))], [(0, .row (.int .i64) l_2)], 1⟩ [] (by kernel_rfl) rfl rfl ap0 ?_
              refine VL_nil (QB_end ?_)
              refine V_run hN hn 1 1 [0, 1, 5, 6] [0] ⟨[(0, .c (.imm (.opt (.pair (.slice (.pair (.int .i64) (.int .i64))) (.int .i64))) s_1)), (1, .c (.h 0)), (5, .c (.val (.int .i64 (IntKind.wrap .i64 (n_10 + (1 : Int)))))), (6, .c (.val (.int .i64 (IntKind.wrap .i64 (i_11 + (1 : Int))))))], [(0, .row (.int .i64) l_2)], 1⟩ [] (by kernel_rfl) rfl rfl ap0 ?_
              refine VL_nil ?_
              exact V_roundEnd ((IntKind.wrap .i64 (n_10 + (1 : Int))), (IntKind.wrap .i64 (i_11 + (1 : Int)))) H_113 [] hn (by kernel_rfl) (by kernel_rfl) rfl rfl rfl
            · intro b_28; have H_114 := of_f H_112 b_28
              refine V_run hN hn 1 1 [0, 1, 5, 6, 44] [0] ⟨[(0, .c (.imm (.opt (.pair (.slice (.pair (.int .i64) (.int .i64))) (.int .i64))) s_1)), (1, .c (.h 0)), (5, .c (.val (.int .i64 n_10))), (6, .c (.val (.int .i64 i_11))), (44, .c (.val (.bool (decide ((List.getD l_2 (Int.toNat i_11) (0 : Int)) > (0 : Int))))))], [(0, .row (.int .i64) l_2)], 1⟩ [] (by kernel_rfl) rfl rfl ap0 ?_
              refine VL_nil (QB_end ?_)
              refine V_run hN hn 1 1 [0, 1, 5, 6] [0] ⟨[(0, .c (.imm (.opt (.pair (.slice (.pair (.int .i64) (.int .i64))) (.int .i64))) s_1)), (1, .c (.h 0)), (5, .c (.val (.int .i64 n_10))), (6, .c (.val (.int .i64 (IntKind.wrap .i64 (i_11 + (1 : Int))))))], [(0, .row (.int .i64) l_2)], 1⟩ [] (by kernel_rfl) rfl rfl ap0 ?_
              refine VL_nil ?_
              exact V_roundEnd (n_10, (IntKind.wrap .i64 (i_11 + (1 : Int)))) H_114 [] hn (by kernel_rfl) (by kernel_rfl) rfl rfl rfl
      · intro b_14; have H_95 := of_f H_93 b_14
        refine VL_exit ?_
        refine QL_exit ?_
        refine QB_here ?_
        have H_115 := Option.some.inj (show some (Sum.inr n_10) = some q_88 from H_95); subst H_115
        refine VL_nil ?_
        exact QP_end n_10 rfl [] hn (by kernel_rfl) (by kernel_rfl) rfl rfl rfl
    · intro y_91 hy; subst hy
      skip
      skip
      refine V_run hN hn 1 1 [0, 1, 5] [0] ⟨[(0, .c (.imm (.opt (.pair (.slice (.pair (.int .i64) (.int .i64))) (.int .i64))) s_1)), (1, .c (.h 0)), (5, .c (.val (.int .i64 y_91)))], [(0, .row (.int .i64) l_2)], 1⟩ [] (by kernel_rfl) rfl rfl ap0 ?_
      obtain ⟨r_35, h_36, H_116⟩ := of_bind H_90
      obtain ⟨r_37, h_38, H_117⟩ := of_bind H_116
      refine V_reg hN hn [(1, ⟨17, 0, [.c (.imm (.opt (.pair (.slice (.pair (.int .i64) (.int .i64))) (.int .i64))) s_1)], [], .c (.h 0), [(0, .row (.pair (.int .i64) (.int .i64)) r_35)], [(0, 1)], 2⟩), (3, ⟨45, 1, [.c (.h 0)], [(0, .row (.int .i64) l_2)], .c (.h 4), [(0, .row (.int .i64) l_2), (4, .row (.pair (.int .i64) (.int .i64)) r_37)], [(0, 0), (4, 2)], 3⟩)] [] (calls_cons (subset_Subset_Segs_spec K s_1 r_35 h_36) (by kernel_rfl) (calls_cons (palinoderef7_Segs_r_spec K l_2 r_37 h_38) (by kernel_rfl) calls_nil)) 1 [0, 1, 5, 7, 8] [0, 1, 2] ⟨[(0, .c (.imm (.opt (.pair (.slice (.pair (.int .i64) (.int .i64))) (.int .i64))) s_1)), (1, .c (.h 0)), (5, .c (.val (.int .i64 y_91))), (7, .c (.h 1)), (8, .c (.h 2))], [(0, .row (.int .i64) l_2), (1, .row (.pair (.int .i64) (.int .i64)) r_35), (2, .row (.pair (.int .i64) (.int .i64)) r_37)], 3⟩ [] (by kernel_rfl) rfl rfl ap0 (by kernel_rfl) (by kernel_rfl) ?_
      refine V_run hN hn 2 3 [0, 1, 5, 7, 8] [0, 1, 2] ⟨[(0, .c (.imm (.opt (.pair (.slice (.pair (.int .i64) (.int .i64))) (.int .i64))) s_1)), (1, .c (.h 0)), (5, .c (.val (.int .i64 y_91))), (7, .c (.h 1)), (8, .c (.h 2))], [(0, .row (.int .i64) l_2), (1, .row (.pair (.int .i64) (.int .i64)) r_35), (2, .row (.pair (.int .i64) (.int .i64)) r_37)], 3⟩ [] (by kernel_rfl) rfl rfl ap0 ?_
      obtain ⟨q_118, H_119, H_120⟩ := of_bind H_117
      refine V_cut (Y := Bool) (R := Bool) q_118 (fun y => y) (fun y => [(7, .c (.h 1)), (8, .c (.h 2)), (86, .c (.val (.bool y)))]) (fun y => [(0, .row (.int .i64) l_2), (1, .row (.pair (.int .i64) (.int .i64)) r_35), (2, .row (.pair (.int .i64) (.int .i64)) r_37)]) ?_ ?_
      · skip
        rcases Bool.eq_false_or_eq_true (((((List.length r_35) : Nat) : Int) != (((List.length r_37) : Nat) : Int))) with b_41 | b_41
        · have H_122 := of_t H_119 b_41
          refine V_reg hN hn [] [(56, true)] calls_nil 3 [7, 8, 86] [0, 1, 2] ⟨[(7, .c (.h 1)), (8, .c (.h 2)), (86, .c (.val (.bool true)))], [(0, .row (.int .i64) l_2), (1, .row (.pair (.int .i64) (.int .i64)) r_35), (2, .row (.pair (.int .i64) (.int .i64)) r_37)], 3⟩ [((((List.length r_35) : Nat) : Int) != (((List.length r_37) : Nat) : Int)) = true] (by kernel_rfl) rfl rfl (ap1 b_41) (by kernel_rfl) (by kernel_rfl) ?_
          have H_124 := Option.some.inj (show some true = some q_118 from H_122); subst H_124
          refine VL_nil ?_
          exact QP_end true rfl [(1, 1), (2, 2)] hn (by kernel_rfl) (by kernel_rfl) rfl rfl rfl
        · have H_123 := of_f H_119 b_41
          obtain ⟨r_43, h_44, H_125⟩ := of_bind H_123
          rcases Bool.eq_false_or_eq_true ((r_43 != y_91)) with b_45 | b_45
          · have H_126 := of_t H_125 b_45
            refine V_reg hN hn [(7, ⟨15, 0, [.c (.imm (.opt (.pair (.slice (.pair (.int .i64) (.int .i64))) (.int .i64))) s_1)], [], .c (.val (.int .i64 r_43)), [], [], 3⟩)] [(56, false), (62, true)] (calls_cons (subset_Subset_Size_spec K s_1 r_43 h_44) (by kernel_rfl) calls_nil) 3 [7, 8, 86] [0, 1, 2] ⟨[(7, .c (.h 1)), (8, .c (.h 2)), (86, .c (.val (.bool true)))], [(0, .row (.int .i64) l_2), (1, .row (.pair (.int .i64) (.int .i64)) r_35), (2, .row (.pair (.int .i64) (.int .i64)) r_37)], 3⟩ [((((List.length r_35) : Nat) : Int) != (((List.length r_37) : Nat) : Int)) = false, (r_43 != y_91) = true] (by kernel_rfl) rfl rfl (ap2 b_41 (ap1 b_45)) (by kernel_rfl) (by kernel_rfl) ?_
            have H_128 := Option.some.inj (show some true = some q_118 from H_126); subst H_128
            refine VL_nil ?_
            exact QP_end true rfl [(1, 1), (2, 2)] hn (by kernel_rfl) (by kernel_rfl) rfl rfl rfl
          · have H_127 := of_f H_125 b_45
            obtain ⟨r_47, h_48, H_129⟩ := of_bind H_127
            rcases Bool.eq_false_or_eq_true ((!(r_47 == (y_91 == (0 : Int))))) with b_49 | b_49
            · have H_130 := of_t H_129 b_49
              refine V_reg hN hn [(7, ⟨15, 0, [.c (.imm (.opt (.pair (.slice (.pair (.int .i64) (.int .i64))) (.int .i64))) s_1)], [], .c (.val (.int .i64 r_43)), [], [], 3⟩), (13, ⟨21, 0, [.c (.imm (.opt (.pair (.slice (.pair (.int .i64) (.int .i64))) (.int .i64))) s_1)], [], .c (.val (.bool r_47)), [], [], 3⟩)] [(56, false), (62, false), (69, true)] (calls_cons (subset_Subset_Size_spec K s_1 r_43 h_44) (by kernel_rfl) (calls_cons (subset_Subset_Empty_spec K s_1 r_47 h_48) (by kernel_rfl) calls_nil)) 3 [7, 8, 86] [0, 1, 2] ⟨[(7, .c (.h 1)), (8, .c (.h 2)), (86, .c (.val (.bool true)))], [(0, .row (.int .i64) l_2), (1, .row (.pair (.int .i64) (.int .i64)) r_35), (2, .row (.pair (.int .i64) (.int .i64)) r_37)], 3⟩ [((((List.length r_35) : Nat) : Int) != (((List.length r_37) : Nat) : Int)) = false, (r_43 != y_91) = false, (!(r_47 == (y_91 == (0 : Int)))) = true] (by kernel_rfl) rfl rfl (ap2 b_41 (ap2 b_45 (ap1 b_49))) (by kernel_rfl) (by kernel_rfl) ?_
              have H_132 := Option.some.inj (show some true = some q_118 from H_130); subst H_132
              refine VL_nil ?_
              exact QP_end true rfl [(1, 1), (2, 2)] hn (by kernel_rfl) (by kernel_rfl) rfl rfl rfl
            · have H_131 := of_f H_129 b_49
              obtain ⟨r_51, h_52, H_133⟩ := of_bind H_131
              rcases Bool.eq_false_or_eq_true ((r_51 != (0 : Int))) with b_53 | b_53
              · have H_134 := of_t H_133 b_53
                refine V_reg hN hn [(7, ⟨15, 0, [.c (.imm (.opt (.pair (.slice (.pair (.int .i64) (.int .i64))) (.int .i64))) s_1)], [], .c (.val (.int .i64 r_43)), [], [], 3⟩), (13, ⟨21, 0, [.c (.imm (.opt (.pair (.slice (.pair (.int .i64) (.int .i64))) (.int .i64))) s_1)], [], .c (.val (.bool r_47)), [], [], 3⟩), (20, ⟨20, 0, [.c (.imm (.opt (.pair (.slice (.pair (.int .i64) (.int .i64))) (.int .i64))) s_1), .c (.val (.int .i64 (-1 : Int)))], [], .c (.val (.int .i64 r_51)), [], [], 3⟩)] [(56, false), (62, false), (69, false), (74, true)] (calls_cons (subset_Subset_Size_spec K s_1 r_43 h_44) (by kernel_rfl) (calls_cons (subset_Subset_Empty_spec K s_1 r_47 h_48) (by kernel_rfl) (calls_cons (subset_Subset_Count_spec K s_1 (-1 : Int) r_51 h_52) (by kernel_rfl) calls_nil))) 3 [7, 8, 86] [0, 1, 2] ⟨[(7, .c (.h 1)), (8, .c (.h 2)), (86, .c (.val (.bool true)))], [(0, .row (.int .i64) l_2), (1, .row (.pair (.int .i64) (.int .i64)) r_35), (2, .row (.pair (.int .i64) (.int .i64)) r_37)], 3⟩ [((((List.length r_35) : Nat) : Int) != (((List.length r_37) : Nat) : Int)) = false, (r_43 != y_91) = false, (!(r_47 == (y_91 == (0 : Int)))) = false, (r_51 != (0 : Int)) = true] (by kernel_rfl) rfl rfl (ap2 b_41 (ap2 b_45 (ap2 b_49 (ap1 b_53)))) (by kernel_rfl) (by kernel_rfl) ?_
                have H_136 := Option.some.inj (show some true = some q_118 from H_134); subst H_136
                refine VL_nil ?_
                exact QP_end true rfl [(1, 1), (2, 2)] hn (by kernel_rfl) (by kernel_rfl) rfl rfl rfl
              · have H_135 := of_f H_133 b_53
                obtain ⟨r_55, h_56, H_137⟩ := of_bind H_135
                rcases Bool.eq_false_or_eq_true ((r_55 != (0 : Int))) with b_57 | b_57
                · have H_138 := of_t H_137 b_57
                  refine V_reg hN hn [(7, ⟨15, 0, [.c (.imm (.opt (.pair (.slice (.pair (.int .i64) (.int .i64))) (.int .i64))) s_1)], [], .c (.val (.int .i64 r_43)), [], [], 3⟩), (13, ⟨21, 0, [.c (.imm (.opt (.pair (.slice (.pair (.int .i64) (.int .i64))) (.int .i64))) s_1)], [], .c (.val (.bool r_47)), [], [], 3⟩), (20, ⟨20, 0, [.c (.imm (.opt (.pair (.slice (.pair (.int .i64) (.int .i64))) (.int .i64))) s_1), .c (.val (.int .i64 (-1 : Int)))], [], .c (.val (.int .i64 r_51)), [], [], 3⟩), (27, ⟨20, 0, [.c (.imm (.opt (.pair (.slice (.pair (.int .i64) (.int .i64))) (.int .i64))) s_1), .c (.val (.int .i64 (((List.length l_2) : Nat) : Int)))], [], .c (.val (.int .i64 r_55)), [], [], 3⟩)] [(56, false), (62, false), (69, false), (74, false), (81, true)] (calls_cons (subset_Subset_Size_spec K s_1 r_43 h_44) (by kernel_rfl) (calls_cons (subset_Subset_Empty_spec K s_1 r_47 h_48) (by kernel_rfl) (calls_cons (subset_Subset_Count_spec K s_1 (-1 : Int) r_51 h_52) (by kernel_rfl) (calls_cons (subset_Subset_Count_spec K s_1 (((List.length l_2) : Nat) : Int) r_55 h_56) (by kernel_rfl) calls_nil)))) 3 [7, 8, 86] [0, 1, 2] ⟨[(7, .c (.h 1)), (8, .c (.h 2)), (86, .c (.val (.bool true)))], [(0, .row (.int .i64) l_2), (1, .row (.pair (.int .i64) (.int .i64)) r_35), (2, .row (.pair (.int .i64) (.int .i64)) r_37)], 3⟩ [((((List.length r_35) : Nat) : Int) != (((List.length r_37) : Nat) : Int)) = false, (r_43 != y_91) = false, (!(r_47 == (y_91 == (0 : Int)))) = false, (r_51 != (0 : Int)) = false, (r_55 != (0 : Int)) = true] (by kernel_rfl) rfl rfl (ap2 b_41 (ap2 b_45 (ap2 b_49 (ap2 b_53 (ap1 b_57))))) (by kernel_rfl) (by kernel_rfl) ?_
                  have H_140 := Option.some.inj (show some true = some q_118 from H_138); subst H_140
                  refine VL_nil ?_
                  exact QP_end true rfl [(1, 1), (2, 2)] hn (by kernel_rfl) (by kernel_rfl) rfl rfl rfl
                · have H_139 := of_f H_137 b_57
                  obtain ⟨r_59, h_60, H_141⟩ := of_bind H_139
                  refine V_reg hN hn [(7, ⟨15, 0, [.c (.imm (.opt (.pair (.slice (.pair (.int .i64) (.int .i64))) (.int .i64))) s_1)], [], .c (.val (.int .i64 r_43)), [], [], 3⟩), (13, ⟨21, 0, [.c (.imm (.opt (.pair (.slice (.pair (.int .i64) (.int .i64))) (.int .i64))) s_1)], [], .c (.val (.bool r_47)), [], [], 3⟩), (20, ⟨20, 0, [.c (.imm (.opt (.pair (.slice (.pair (.int .i64) (.int .i64))) (.int .i64))) s_1), .c (.val (.int .i64 (-1 : Int)))], [], .c (.val (.int .i64 r_51)), [], [], 3⟩), (27, ⟨20, 0, [.c (.imm (.opt (.pair (.slice (.pair (.int .i64) (.int .i64))) (.int .i64))) s_1), .c (.val (.int .i64 (((List.length l_2) : Nat) : Int)))], [], .c (.val (.int .i64 r_55)), [], [], 3⟩), (34, ⟨39, 0, [.c (.imm (.opt (.pair (.slice (.pair (.int .i64) (.int .i64))) (.int .i64))) s_1), .c (.val (.int .i64 (((List.length l_2) : Nat) : Int)))], [], .c (.val (.bool r_59)), [], [], 3⟩)] [(56, false), (62, false), (69, false), (74, false), (81, false)] (calls_cons (subset_Subset_Size_spec K s_1 r_43 h_44) (by kernel_rfl) (calls_cons (subset_Subset_Empty_spec K s_1 r_47 h_48) (by kernel_rfl) (calls_cons (subset_Subset_Count_spec K s_1 (-1 : Int) r_51 h_52) (by kernel_rfl) (calls_cons (subset_Subset_Count_spec K s_1 (((List.length l_2) : Nat) : Int) r_55 h_56) (by kernel_rfl) (calls_cons (subset_Subset_Has_spec K s_1 (((List.length l_2) : Nat) : Int) r_59 h_60) (by kernel_rfl) calls_nil))))) 3 [7, 8, 86] [0, 1, 2] ⟨[(7, .c (.h 1)), (8, .c (.h 2)), (86, .c (.val (.bool r_59)))], [(0, .row (.int .i64) l_2), (1, .row (.pair (.int .i64) (.int .i64)) r_35), (2, .row (.pair (.int .i64) (.int .i64)) r_37)], 3⟩ [((((List.length r_35) : Nat) : Int) != (((List.length r_37) : Nat) : Int)) = false, (r_43 != y_91) = false, (!(r_47 == (y_91 == (0 : Int)))) = false, (r_51 != (0 : Int)) = false, (r_55 != (0 : Int)) = false] (by kernel_rfl) rfl rfl (ap2 b_41 (ap2 b_45 (ap2 b_49 (ap2 b_53 (ap1 b_57))))) (by kernel_rfl) (by kernel_rfl) ?_
                  have H_142 := Option.some.inj (show some r_59 = some q_118 from H_141); subst H_142
                  refine VL_nil ?_
                  exact QP_end r_59 rfl [(1, 1), (2, 2)] hn (by kernel_rfl) (by kernel_rfl) rfl rfl rfl
      · intro y_121 hy; subst hy
        skip
        skip
        refine VL_cond (y_121) (by kernel_rfl) ?_ ?_
        · intro b_63; have H_143 := of_t H_120 b_63
          refine V_run hN hn 2 3 [4] [0] ⟨[(4, .c (.val (.bool false)))], [(0, .row (.int .i64) l_2)], 3⟩ [] (by kernel_rfl) rfl rfl ap0 ?_
          have H_145 := Option.some.inj (show some false = some r from H_143); subst H_145
          refine VL_ret ?_
          exact P_to [(4, .c (.val (.bool false)))] [(0, .row (.int .i64) l_2)] [] hn (by kernel_rfl) (by kernel_rfl) rfl rfl rfl (QF_retS (by kernel_rfl) (by kernel_rfl) rfl)
        · intro b_63; have H_144 := of_f H_120 b_63
          refine V_run hN hn 4 3 [7, 8, 9] [0, 1, 2] ⟨[(7, .c (.h 1)), (8, .c (.h 2)), (9, .c (.val (.int .i64 (0 : Int))))], [(0, .row (.int .i64) l_2), (1, .row (.pair (.int .i64) (.int .i64)) r_35), (2, .row (.pair (.int .i64) (.int .i64)) r_37)], 3⟩ [] (by kernel_rfl) rfl rfl ap0 ?_
          refine VL_block ?_
          refine V_to [(7, .c (.h 1)), (8, .c (.h 2)), (9, .c (.val (.int .i64 (0 : Int))))] [(0, .row (.int .i64) l_2), (1, .row (.pair (.int .i64) (.int .i64)) r_35), (2, .row (.pair (.int .i64) (.int .i64)) r_37)] [(1, 1), (2, 2)] hn (by kernel_rfl) (by kernel_rfl) rfl rfl rfl ?_
          refine VL_loop (X := Int) (fun x => [(7, .c (.h 1)), (8, .c (.h 2)), (9, .c (.val (.int .i64 x)))]) (fun x => [(0, .row (.int .i64) l_2), (1, .row (.pair (.int .i64) (.int .i64)) r_35), (2, .row (.pair (.int .i64) (.int .i64)) r_37)]) (fun k x => palinodelaw7_same_gr.l1 K r_35 r_37 k x = some r) K (0 : Int) H_144 (fun _ h => no_none h) ?_
          intro k_67 i_66 H_146
          have H_147 : palinodelaw7_same_gr.l1 K r_35 r_37 (k_67 + 1) i_66 = some r := H_146
          rw [palinodelaw7_same_gr.l1] at H_147
          refine V_run hN hn 3 3 [7, 8, 9, 90] [0, 1, 2] ⟨[(7, .c (.h 1)), (8, .c (.h 2)), (9, .c (.val (.int .i64 i_66))), (90, .c (.val (.bool (decide (i_66 < (((List.length r_35) : Nat) : Int))))))], [(0, .row (.int .i64) l_2), (1, .row (.pair (.int .i64) (.int .i64)) r_35), (2, .row (.pair (.int .i64) (.int .i64)) r_37)], 3⟩ [] (by kernel_rfl) rfl rfl ap0 ?_
          refine VL_cond ((decide (i_66 < (((List.length r_35) : Nat) : Int)))) (by kernel_rfl) ?_ ?_
          · intro b_69; have H_148 := of_t H_147 b_69
            refine V_run hN hn 2 3 [7, 8, 9, 90] [0, 1, 2] ⟨[(7, .c (.h 1)), (8, .c (.h 2)), (9, .c (.val (.int .i64 i_66))), (90, .c (.val (.bool (decide (i_66 < (((List.length r_35) : Nat) : Int))))))], [(0, .row (.int .i64) l_2), (1, .row (.pair (.int .i64) (.int .i64)) r_35), (2, .row (.pair (.int .i64) (.int .i64)) r_37)], 3⟩ [] (by kernel_rfl) rfl rfl ap0 ?_
            refine VL_block ?_
            refine V_run hN hn 1 3 [7, 8, 9, 90] [0, 1, 2] ⟨[(7, .c (.h 1)), (8, .c (.h 2)), (9, .c (.val (.int .i64 i_66))), (90, .c (.val (.bool (decide (i_66 < (((List.length r_35) : Nat) : Int))))))], [(0, .row (.int .i64) l_2), (1, .row (.pair (.int .i64) (.int .i64)) r_35), (2, .row (.pair (.int .i64) (.int .i64)) r_37)], 3⟩ [] (by kernel_rfl) rfl rfl ap0 ?_
            obtain ⟨c_72, H_150⟩ := of_if H_148
            refine V_draw hN hn (by kernel_rfl) [] [] calls_nil 3 [7, 8, 9, 101] [0, 1, 2] ⟨[(7, .c (.h 1)), (8, .c (.h 2)), (9, .c (.val (.int .i64 i_66))), (101, .c (.val (.bool (!(((List.getD r_35 (Int.toNat i_66) ((0 : Int), (0 : Int))).1 == (List.getD r_37 (Int.toNat i_66) ((0 : Int), (0 : Int))).1) && ((List.getD r_35 (Int.toNat i_66) ((0 : Int), (0 : Int))).2 == (List.getD r_37 (Int.toNat i_66) ((0 : Int), (0 : Int))).2))))))], [(0, .row (.int .i64) l_2), (1, .row (.pair (.int .i64) (.int .i64)) r_35), (2, .row (.pair (.int .i64) (.int .i64)) r_37)], 3⟩ [0 ≤ i_66, i_66 < (((List.length r_35) : Nat) : Int), 0 ≤ i_66, i_66 < (((List.length r_37) : Nat) : Int)] (by kernel_rfl) rfl rfl (ap2 c_72.1 (ap2 c_72.2.1 (ap2 c_72.1 (ap1 c_72.2.2)))) (by kernel_rfl) (by kernel_rfl) ?_
            refine VL_cond ((!(((List.getD r_35 (Int.toNat i_66) ((0 : Int), (0 : Int))).1 == (List.getD r_37 (Int.toNat i_66) ((0 : Int), (0 : Int))).1) && ((List.getD r_35 (Int.toNat i_66) ((0 : Int), (0 : Int))).2 == (List.getD r_37 (Int.toNat i_66) ((0 : Int), (0 : Int))).2)))) (by kernel_rfl) ?_ ?_
            · intro b_73; have H_151 := of_t H_150 b_73
              refine V_run hN hn 2 3 [4] [0] ⟨[(4, .c (.val (.bool false)))], [(0, .row (.int .i64) l_2)], 3⟩ [] (by kernel_rfl) rfl rfl ap0 ?_
              have H_153 := Option.some.inj (show some false = some r from H_151); subst H_153
              refine VL_ret ?_
              refine QB_ret ?_
              refine QL_ret ?_
              refine QB_ret ?_
              exact P_to [(4, .c (.val (.bool false)))] [(0, .row (.int .i64) l_2)] [] hn (by kernel_rfl) (by kernel_rfl) rfl rfl rfl (QF_retS (by kernel_rfl) (by kernel_rfl) rfl)
            · intro b_73; have H_152 := of_f H_150 b_73
              refine V_run hN hn 1 3 [7, 8, 9, 101] [0, 1, 2] ⟨[(7, .c (.h 1)), (8, .c (.h 2)), (9, .c (.val (.int .i64 i_66))), (101, .c (.val (.bool (!(((List.getD r_35 (Int.toNat i_66) ((0 : Int), (0 : Int))).1 == (List.getD r_37 (Int.toNat i_66) ((0 : Int), (0 : Int))).1) && ((List.getD r_35 (Int.toNat i_66) ((0 : Int), (0 : Int))).2 == (List.getD r_37 (Int.toNat i_66) ((0 : Int), (0 : Int))).2))))))], [(0, .row (.int .i64) l_2), (1, .row (.pair (.int .i64) (.int .i64)) r_35), (2, .row (.pair (.int .i64) (.int .i64)) r_37)], 3⟩ [] (by kernel_rfl) rfl rfl ap0 ?_
              refine VL_nil (QB_end ?_)
              refine V_run hN hn 1 3 [7, 8, 9] [0, 1, 2] ⟨[(7, .c (.h 1)), (8, .c (.h 2)), (9, .c (.val (.int .i64 (IntKind.wrap .i64 (i_66 + (1 : Int))))))], [(0, .row (.int .i64) l_2), (1, .row (.pair (.int .i64) (.int .i64)) r_35), (2, .row (.pair (.int .i64) (.int .i64)) r_37)], 3⟩ [] (by kernel_rfl) rfl rfl ap0 ?_
              refine VL_nil ?_
              exact V_roundEnd (IntKind.wrap .i64 (i_66 + (1 : Int))) H_152 [(1, 1), (2, 2)] hn (by kernel_rfl) (by kernel_rfl) rfl rfl rfl
          · intro b_69; have H_149 := of_f H_147 b_69
            refine VL_exit ?_
            refine QL_exit ?_
            refine QB_here ?_
            refine V_run hN hn 2 3 [4] [0] ⟨[(4, .c (.val (.bool true)))], [(0, .row (.int .i64) l_2)], 3⟩ [] (by kernel_rfl) rfl rfl ap0 ?_
            have H_154 := Option.some.inj (show some true = some r from H_149); subst H_154
            refine VL_ret ?_
            exact P_to [(4, .c (.val (.bool true)))] [(0, .row (.int .i64) l_2)] [] hn (by kernel_rfl) (by kernel_rfl) rfl rfl rfl (QF_retS (by kernel_rfl) (by kernel_rfl) rfl)

end Go.Pal
