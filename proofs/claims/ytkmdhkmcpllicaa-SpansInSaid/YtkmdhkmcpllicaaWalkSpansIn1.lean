/- The Go functions that SpansIn reaches compute what the plain functions say: part 1, printed by a program of this workplace. -/
import Derived.Test.YtkmdhkmcpllicaaChecked
import Derived.Test.YtkmdhkmcpllicaaWalkSpansIn0
namespace Go.Pal
open Go Go.Proofs
set_option maxRecDepth 100000
set_option linter.unusedVariables false

theorem spans_At_rg_spec (K : Nat) (l_1 : (List (Int × (Int × Int)))) (at_2 : Int) (r : Int) (H : spans_At_rg K l_1 at_2 = some r) : Spec Try.prog 11 1 [.c (.h 0), .c (.val (.int .i64 at_2))] [(0, .row (.pair (.int .i64) (.pair (.int .i64) (.int .i64))) l_1)] (.c (.val (.int .i64 r))) [(0, .row (.pair (.int .i64) (.pair (.int .i64) (.int .i64))) l_1)] := by
  refine Spec_mk (fn := Try.f11) (c := (Try.f11.body).get!) Try.func11 (by kernel_rfl) rfl ?_
  intro C hN hn
  replace hN : C.N = 26 := hN
  unfold spans_At_rg at H
  refine V_run hN hn 5 1 [1, 7, 8, 9] [0] ⟨[(1, .c (.val (.int .i64 at_2))), (7, .c (.h 0)), (8, .c (.val (.int .i64 (((List.length l_1) : Nat) : Int)))), (9, .c (.val (.int .i64 (0 : Int))))], [(0, .row (.pair (.int .i64) (.pair (.int .i64) (.int .i64))) l_1)], 1⟩ [] (by kernel_rfl) rfl rfl ap0 ?_
  refine VL_block ?_
  refine V_to [(1, .c (.val (.int .i64 at_2))), (7, .c (.h 0)), (8, .c (.val (.int .i64 (((List.length l_1) : Nat) : Int)))), (9, .c (.val (.int .i64 (0 : Int))))] [(0, .row (.pair (.int .i64) (.pair (.int .i64) (.int .i64))) l_1)] [] hn (by kernel_rfl) (by kernel_rfl) rfl rfl rfl ?_
  refine VL_loop (X := Int) (fun x => [(1, .c (.val (.int .i64 at_2))), (7, .c (.h 0)), (8, .c (.val (.int .i64 (((List.length l_1) : Nat) : Int)))), (9, .c (.val (.int .i64 x)))]) (fun x => [(0, .row (.pair (.int .i64) (.pair (.int .i64) (.int .i64))) l_1)]) (fun k x => spans_At_rg.l0 K l_1 at_2 k x = some r) K (0 : Int) H (fun _ h => no_none h) ?_
  intro k_5 t_4 H_22
  have H_23 : spans_At_rg.l0 K l_1 at_2 (k_5 + 1) t_4 = some r := H_22
  rw [spans_At_rg.l0] at H_23
  refine V_run hN hn 3 1 [1, 7, 8, 9, 10] [0] ⟨[(1, .c (.val (.int .i64 at_2))), (7, .c (.h 0)), (8, .c (.val (.int .i64 (((List.length l_1) : Nat) : Int)))), (9, .c (.val (.int .i64 t_4))), (10, .c (.val (.bool (decide (t_4 < (((List.length l_1) : Nat) : Int))))))], [(0, .row (.pair (.int .i64) (.pair (.int .i64) (.int .i64))) l_1)], 1⟩ [] (by kernel_rfl) rfl rfl ap0 ?_
  refine VL_cond ((decide (t_4 < (((List.length l_1) : Nat) : Int)))) (by kernel_rfl) ?_ ?_
  · intro b_7; have H_24 := of_t H_23 b_7
    refine V_run hN hn 2 1 [1, 7, 8, 9, 10] [0] ⟨[(1, .c (.val (.int .i64 at_2))), (7, .c (.h 0)), (8, .c (.val (.int .i64 (((List.length l_1) : Nat) : Int)))), (9, .c (.val (.int .i64 t_4))), (10, .c (.val (.bool (decide (t_4 < (((List.length l_1) : Nat) : Int))))))], [(0, .row (.pair (.int .i64) (.pair (.int .i64) (.int .i64))) l_1)], 1⟩ [] (by kernel_rfl) rfl rfl ap0 ?_
    refine VL_block ?_
    obtain ⟨c_9, H_26⟩ := of_if H_24
    refine V_run hN hn 3 1 [1, 6, 7, 8, 9] [0, 1] ⟨[(1, .c (.val (.int .i64 at_2))), (6, .c (.h 1)), (7, .c (.h 0)), (8, .c (.val (.int .i64 (((List.length l_1) : Nat) : Int)))), (9, .c (.val (.int .i64 t_4)))], [(0, .row (.pair (.int .i64) (.pair (.int .i64) (.int .i64))) l_1), (1, .box [.val (.int .i64 (List.getD l_1 (Int.toNat t_4) ((0 : Int), ((0 : Int), (0 : Int)))).1), .val (.int .i64 (List.getD l_1 (Int.toNat t_4) ((0 : Int), ((0 : Int), (0 : Int)))).2.1), .val (.int .i64 (List.getD l_1 (Int.toNat t_4) ((0 : Int), ((0 : Int), (0 : Int)))).2.2)])], 2⟩ [0 ≤ t_4, t_4 < (((List.length l_1) : Nat) : Int)] (by kernel_rfl) rfl rfl (ap2 c_9.1 (ap1 c_9.2)) ?_
    obtain ⟨q_27, H_28, H_29⟩ := of_bind H_26
    refine V_cut (Y := Bool) (R := Bool) q_27 (fun y => y) (fun y => [(1, .c (.val (.int .i64 at_2))), (6, .c (.h 1)), (7, .c (.h 0)), (8, .c (.val (.int .i64 (((List.length l_1) : Nat) : Int)))), (9, .c (.val (.int .i64 t_4))), (22, .c (.val (.bool y)))]) (fun y => [(0, .row (.pair (.int .i64) (.pair (.int .i64) (.int .i64))) l_1), (1, .box [.val (.int .i64 (List.getD l_1 (Int.toNat t_4) ((0 : Int), ((0 : Int), (0 : Int)))).1), .val (.int .i64 (List.getD l_1 (Int.toNat t_4) ((0 : Int), ((0 : Int), (0 : Int)))).2.1), .val (.int .i64 (List.getD l_1 (Int.toNat t_4) ((0 : Int), ((0 : Int), (0 : Int)))).2.2)])]) ?_ ?_
    · skip
      rcases Bool.eq_false_or_eq_true ((decide (at_2 ≥ (List.getD l_1 (Int.toNat t_4) ((0 : Int), ((0 : Int), (0 : Int)))).1))) with b_10 | b_10
      · have H_31 := of_t H_28 b_10
        refine V_reg hN hn [] [(17, true)] calls_nil 2 [1, 6, 7, 8, 9, 22] [0, 1] ⟨[(1, .c (.val (.int .i64 at_2))), (6, .c (.h 1)), (7, .c (.h 0)), (8, .c (.val (.int .i64 (((List.length l_1) : Nat) : Int)))), (9, .c (.val (.int .i64 t_4))), (22, .c (.val (.bool (decide (at_2 < (List.getD l_1 (Int.toNat t_4) ((0 : Int), ((0 : Int), (0 : Int)))).2.1)))))], [(0, .row (.pair (.int .i64) (.pair (.int .i64) (.int .i64))) l_1), (1, .box [.val (.int .i64 (List.getD l_1 (Int.toNat t_4) ((0 : Int), ((0 : Int), (0 : Int)))).1), .val (.int .i64 (List.getD l_1 (Int.toNat t_4) ((0 : Int), ((0 : Int), (0 : Int)))).2.1), .val (.int .i64 (List.getD l_1 (Int.toNat t_4) ((0 : Int), ((0 : Int), (0 : Int)))).2.2)])], 2⟩ [(decide (at_2 ≥ (List.getD l_1 (Int.toNat t_4) ((0 : Int), ((0 : Int), (0 : Int)))).1)) = true] (by kernel_rfl) rfl rfl (ap1 b_10) (by kernel_rfl) (by kernel_rfl) ?_
        have H_33 := Option.some.inj (show some (decide (at_2 < (List.getD l_1 (Int.toNat t_4) ((0 : Int), ((0 : Int), (0 : Int)))).2.1)) = some q_27 from H_31); subst H_33
        refine VL_nil ?_
        exact QP_end (decide (at_2 < (List.getD l_1 (Int.toNat t_4) ((0 : Int), ((0 : Int), (0 : Int)))).2.1)) rfl [(1, 1)] hn (by kernel_rfl) (by kernel_rfl) rfl rfl rfl
      · have H_32 := of_f H_28 b_10
        refine V_reg hN hn [] [(17, false)] calls_nil 2 [1, 6, 7, 8, 9, 22] [0, 1] ⟨[(1, .c (.val (.int .i64 at_2))), (6, .c (.h 1)), (7, .c (.h 0)), (8, .c (.val (.int .i64 (((List.length l_1) : Nat) : Int)))), (9, .c (.val (.int .i64 t_4))), (22, .c (.val (.bool false)))], [(0, .row (.pair (.int .i64) (.pair (.int .i64) (.int .i64))) l_1), (1, .box [.val (.int .i64 (List.getD l_1 (Int.toNat t_4) ((0 : Int), ((0 : Int), (0 : Int)))).1), .val (.int .i64 (List.getD l_1 (Int.toNat t_4) ((0 : Int), ((0 : Int), (0 : Int)))).2.1), .val (.int .i64 (List.getD l_1 (Int.toNat t_4) ((0 : Int), ((0 : Int), (0 : Int)))).2.2)])], 2⟩ [(decide (at_2 ≥ (List.getD l_1 (Int.toNat t_4) ((0 : Int), ((0 : Int), (0 : Int)))).1)) = false] (by kernel_rfl) rfl rfl (ap1 b_10) (by kernel_rfl) (by kernel_rfl) ?_
        have H_34 := Option.some.inj (show some false = some q_27 from H_32); subst H_34
        refine VL_nil ?_
        exact QP_end false rfl [(1, 1)] hn (by kernel_rfl) (by kernel_rfl) rfl rfl rfl
    · intro y_30 hy; subst hy
      skip
      skip
      refine VL_cond (y_30) (by kernel_rfl) ?_ ?_
      · intro b_14; have H_35 := of_t H_29 b_14
        refine V_run hN hn 2 2 [4] [0] ⟨[(4, .c (.val (.int .i64 (List.getD l_1 (Int.toNat t_4) ((0 : Int), ((0 : Int), (0 : Int)))).2.2)))], [(0, .row (.pair (.int .i64) (.pair (.int .i64) (.int .i64))) l_1)], 2⟩ [] (by kernel_rfl) rfl rfl ap0 ?_
        have H_37 := Option.some.inj (show some (List.getD l_1 (Int.toNat t_4) ((0 : Int), ((0 : Int), (0 : Int)))).2.2 = some r from H_35); subst H_37
        refine VL_ret ?_
        refine QB_ret ?_
        refine QL_ret ?_
        refine QB_ret ?_
        exact P_to [(4, .c (.val (.int .i64 (List.getD l_1 (Int.toNat t_4) ((0 : Int), ((0 : Int), (0 : Int)))).2.2)))] [(0, .row (.pair (.int .i64) (.pair (.int .i64) (.int .i64))) l_1)] [] hn (by kernel_rfl) (by kernel_rfl) rfl rfl rfl (QF_retS (by kernel_rfl) (by kernel_rfl) rfl)
      · intro b_14; have H_36 := of_f H_29 b_14
        refine V_run hN hn 1 2 [1, 6, 7, 8, 9, 22] [0, 1] ⟨[(1, .c (.val (.int .i64 at_2))), (6, .c (.h 1)), (7, .c (.h 0)), (8, .c (.val (.int .i64 (((List.length l_1) : Nat) : Int)))), (9, .c (.val (.int .i64 t_4))), (22, .c (.val (.bool y_30)))], [(0, .row (.pair (.int .i64) (.pair (.int .i64) (.int .i64))) l_1), (1, .box [.val (.int .i64 (List.getD l_1 (Int.toNat t_4) ((0 : Int), ((0 : Int), (0 : Int)))).1), .val (.int .i64 (List.getD l_1 (Int.toNat t_4) ((0 : Int), ((0 : Int), (0 : Int)))).2.1), .val (.int .i64 (List.getD l_1 (Int.toNat t_4) ((0 : Int), ((0 : Int), (0 : Int)))).2.2)])], 2⟩ [] (by kernel_rfl) rfl rfl ap0 ?_
        refine VL_nil (QB_end ?_)
        refine V_run hN hn 1 2 [1, 7, 8, 9] [0] ⟨[(1, .c (.val (.int .i64 at_2))), (7, .c (.h 0)), (8, .c (.val (.int .i64 (((List.length l_1) : Nat) : Int)))), (9, .c (.val (.int .i64 (IntKind.wrap .i64 (t_4 + (1 : Int))))))], [(0, .row (.pair (.int .i64) (.pair (.int .i64) (.int .i64))) l_1)], 2⟩ [] (by kernel_rfl) rfl rfl ap0 ?_
        refine VL_nil ?_
        exact V_roundEnd (IntKind.wrap .i64 (t_4 + (1 : Int))) H_36 [] hn (by kernel_rfl) (by kernel_rfl) rfl rfl rfl
  · intro b_7; have H_25 := of_f H_23 b_7
    refine VL_exit ?_
    refine QL_exit ?_
    refine QB_here ?_
    refine V_run hN hn 2 1 [4] [0] ⟨[(4, .c (.val (.int .i64 (0 : Int))))], [(0, .row (.pair (.int .i64) (.pair (.int .i64) (.int .i64))) l_1)], 1⟩ [] (by kernel_rfl) rfl rfl ap0 ?_
    have H_38 := Option.some.inj (show some (0 : Int) = some r from H_25); subst H_38
    refine VL_ret ?_
    exact P_to [(4, .c (.val (.int .i64 (0 : Int))))] [(0, .row (.pair (.int .i64) (.pair (.int .i64) (.int .i64))) l_1)] [] hn (by kernel_rfl) (by kernel_rfl) rfl rfl rfl (QF_retS (by kernel_rfl) (by kernel_rfl) rfl)

theorem palinodelaw15_known_spec (K : Nat) (r : Bool) (H : palinodelaw15_known K  = some r) : Spec Try.prog 9 0 [] [] (.c (.val (.bool r))) [] := by
  refine Spec_mk (fn := Try.f9) (c := (Try.f9.body).get!) Try.func9 (by kernel_rfl) rfl ?_
  intro C hN hn
  replace hN : C.N = 81 := hN
  unfold palinodelaw15_known at H
  refine V_run hN hn 3 0 [] [] ⟨[], [], 0⟩ [] (by kernel_rfl) rfl rfl ap0 ?_
  obtain ⟨r_2, h_3, H_48⟩ := of_bind H
  refine V_reg hN hn [(1, ⟨10, 0, [.c (.val (.slice none 0 0)), .agg [.val (.int .i64 (0 : Int)), .val (.int .i64 (9 : Int)), .val (.int .i64 (1 : Int))]], [], .tup [(false, [.h 9]), (false, [.val (.int .i64 r_2.2)])], [(9, .row (.pair (.int .i64) (.pair (.int .i64) (.int .i64))) r_2.1)], [(9, 0)], 1⟩)] [] (calls_cons (spans_Put_nsggg_spec K (0 : Int) (9 : Int) (1 : Int) r_2 h_3) (by kernel_rfl) calls_nil) 0 [1, 2] [0] ⟨[(1, .c (.h 0)), (2, .c (.val (.int .i64 r_2.2)))], [(0, .row (.pair (.int .i64) (.pair (.int .i64) (.int .i64))) r_2.1)], 1⟩ [] (by kernel_rfl) rfl rfl ap0 (by kernel_rfl) (by kernel_rfl) ?_
  refine V_run hN hn 1 1 [1, 2] [0] ⟨[(1, .c (.h 0)), (2, .c (.val (.int .i64 r_2.2)))], [(0, .row (.pair (.int .i64) (.pair (.int .i64) (.int .i64))) r_2.1)], 1⟩ [] (by kernel_rfl) rfl rfl ap0 ?_
  obtain ⟨r_6, h_7, H_49⟩ := of_bind H_48
  refine V_reg hN hn [(2, ⟨10, 1, [.c (.h 0), .agg [.val (.int .i64 (3 : Int)), .val (.int .i64 (5 : Int)), .val (.int .i64 (2 : Int))]], [(0, .row (.pair (.int .i64) (.pair (.int .i64) (.int .i64))) r_2.1)], .tup [(false, [.h 10]), (false, [.val (.int .i64 r_6.2)])], [(0, .row (.pair (.int .i64) (.pair (.int .i64) (.int .i64))) r_2.1), (10, .row (.pair (.int .i64) (.pair (.int .i64) (.int .i64))) r_6.1)], [(0, 0), (10, 1)], 2⟩)] [] (calls_cons (spans_Put_rsggg_spec K r_2.1 (3 : Int) (5 : Int) (2 : Int) r_6 h_7) (by kernel_rfl) calls_nil) 1 [2, 3, 4] [1] ⟨[(2, .c (.val (.int .i64 r_2.2))), (3, .c (.h 1)), (4, .c (.val (.int .i64 r_6.2)))], [(1, .row (.pair (.int .i64) (.pair (.int .i64) (.int .i64))) r_6.1)], 2⟩ [] (by kernel_rfl) rfl rfl ap0 (by kernel_rfl) (by kernel_rfl) ?_
  refine V_run hN hn 1 2 [2, 3, 4] [1] ⟨[(2, .c (.val (.int .i64 r_2.2))), (3, .c (.h 1)), (4, .c (.val (.int .i64 r_6.2)))], [(1, .row (.pair (.int .i64) (.pair (.int .i64) (.int .i64))) r_6.1)], 2⟩ [] (by kernel_rfl) rfl rfl ap0 ?_
  obtain ⟨r_10, h_11, H_50⟩ := of_bind H_49
  refine V_reg hN hn [(2, ⟨10, 1, [.c (.h 0), .agg [.val (.int .i64 (3 : Int)), .val (.int .i64 (5 : Int)), .val (.int .i64 (101 : Int))]], [(0, .row (.pair (.int .i64) (.pair (.int .i64) (.int .i64))) r_6.1)], .tup [(false, [.h 10]), (false, [.val (.int .i64 r_10.2)])], [(0, .row (.pair (.int .i64) (.pair (.int .i64) (.int .i64))) r_6.1), (10, .row (.pair (.int .i64) (.pair (.int .i64) (.int .i64))) r_10.1)], [(0, 1), (10, 2)], 3⟩)] [] (calls_cons (spans_Put_rsggg_spec K r_6.1 (3 : Int) (5 : Int) (101 : Int) r_10 h_11) (by kernel_rfl) calls_nil) 2 [2, 3, 4, 6] [1] ⟨[(2, .c (.val (.int .i64 r_2.2))), (3, .c (.h 1)), (4, .c (.val (.int .i64 r_6.2))), (6, .c (.val (.int .i64 r_10.2)))], [(1, .row (.pair (.int .i64) (.pair (.int .i64) (.int .i64))) r_6.1)], 3⟩ [] (by kernel_rfl) rfl rfl ap0 (by kernel_rfl) (by kernel_rfl) ?_
  refine V_run hN hn 1 3 [2, 3, 4, 6] [1] ⟨[(2, .c (.val (.int .i64 r_2.2))), (3, .c (.h 1)), (4, .c (.val (.int .i64 r_6.2))), (6, .c (.val (.int .i64 r_10.2)))], [(1, .row (.pair (.int .i64) (.pair (.int .i64) (.int .i64))) r_6.1)], 3⟩ [] (by kernel_rfl) rfl rfl ap0 ?_
  obtain ⟨r_14, h_15, H_51⟩ := of_bind H_50
  refine V_reg hN hn [(2, ⟨14, 1, [.c (.h 0), .agg [.val (.int .i64 (4 : Int)), .val (.int .i64 (6 : Int))]], [(0, .row (.pair (.int .i64) (.pair (.int .i64) (.int .i64))) r_6.1)], .c (.h 6), [(0, .row (.pair (.int .i64) (.pair (.int .i64) (.int .i64))) r_6.1), (6, .row (.pair (.int .i64) (.pair (.int .i64) (.int .i64))) r_14)], [(0, 1), (6, 3)], 4⟩)] [] (calls_cons (spans_In_rsgg_spec K r_6.1 (4 : Int) (6 : Int) r_14 h_15) (by kernel_rfl) calls_nil) 3 [2, 3, 4, 6, 7] [1, 3] ⟨[(2, .c (.val (.int .i64 r_2.2))), (3, .c (.h 1)), (4, .c (.val (.int .i64 r_6.2))), (6, .c (.val (.int .i64 r_10.2))), (7, .c (.h 3))], [(1, .row (.pair (.int .i64) (.pair (.int .i64) (.int .i64))) r_6.1), (3, .row (.pair (.int .i64) (.pair (.int .i64) (.int .i64))) r_14)], 4⟩ [] (by kernel_rfl) rfl rfl ap0 (by kernel_rfl) (by kernel_rfl) ?_
  refine V_run hN hn 1 4 [2, 3, 4, 6, 7] [1, 3] ⟨[(2, .c (.val (.int .i64 r_2.2))), (3, .c (.h 1)), (4, .c (.val (.int .i64 r_6.2))), (6, .c (.val (.int .i64 r_10.2))), (7, .c (.h 3))], [(1, .row (.pair (.int .i64) (.pair (.int .i64) (.int .i64))) r_6.1), (3, .row (.pair (.int .i64) (.pair (.int .i64) (.int .i64))) r_14)], 4⟩ [] (by kernel_rfl) rfl rfl ap0 ?_
  rcases Bool.eq_false_or_eq_true ((r_2.2 == (0 : Int))) with b_18 | b_18
  · have H_52 := of_t H_51 b_18
    rcases Bool.eq_false_or_eq_true ((r_6.2 == (0 : Int))) with b_19 | b_19
    · have H_54 := of_t H_52 b_19
      rcases Bool.eq_false_or_eq_true (((((List.length r_6.1) : Nat) : Int) == (3 : Int))) with b_20 | b_20
      · have H_56 := of_t H_54 b_20
        rcases Bool.eq_false_or_eq_true ((((List.getD r_6.1 2 ((0 : Int), ((0 : Int), (0 : Int)))).1 == (5 : Int)) && (((List.getD r_6.1 2 ((0 : Int), ((0 : Int), (0 : Int)))).2.1 == (9 : Int)) && ((List.getD r_6.1 2 ((0 : Int), ((0 : Int), (0 : Int)))).2.2 == (1 : Int))))) with b_21 | b_21
        · have H_58 := of_t H_56 b_21
          obtain ⟨r_22, h_23, H_60⟩ := of_bind H_58
          rcases Bool.eq_false_or_eq_true ((r_22 == (2 : Int))) with b_24 | b_24
          · have H_61 := of_t H_60 b_24
            obtain ⟨r_25, h_26, H_63⟩ := of_bind H_61
            rcases Bool.eq_false_or_eq_true ((r_25 == (0 : Int))) with b_27 | b_27
            · have H_64 := of_t H_63 b_27
              rcases Bool.eq_false_or_eq_true ((r_10.2 == (12 : Int))) with b_28 | b_28
              · have H_66 := of_t H_64 b_28
                obtain ⟨r_29, h_30, H_68⟩ := of_bind H_66
                rcases Bool.eq_false_or_eq_true (r_29) with b_31 | b_31
                · have H_69 := of_t H_68 b_31
                  obtain ⟨r_32, h_33, H_71⟩ := of_bind H_69
                  rcases Bool.eq_false_or_eq_true ((!r_32)) with b_34 | b_34
                  · have H_72 := of_t H_71 b_34
                    rcases Bool.eq_false_or_eq_true (((((List.length r_14) : Nat) : Int) == (2 : Int))) with b_35 | b_35
                    · have H_74 := of_t H_72 b_35
                      obtain ⟨c_36, H_76⟩ := of_if H_74
                      refine V_reg hN hn [(20, ⟨11, 1, [.c (.h 0), .c (.val (.int .i64 (3 : Int)))], [(0, .row (.pair (.int .i64) (.pair (.int .i64) (.int .i64))) r_6.1)], .c (.val (.int .i64 r_22)), [(0, .row (.pair (.int .i64) (.pair (.int .i64) (.int .i64))) r_6.1)], [(0, 1)], 4⟩), (25, ⟨11, 1, [.c (.h 0), .c (.val (.int .i64 (9 : Int)))], [(0, .row (.pair (.int .i64) (.pair (.int .i64) (.int .i64))) r_6.1)], .c (.val (.int .i64 r_25)), [(0, .row (.pair (.int .i64) (.pair (.int .i64) (.int .i64))) r_6.1)], [(0, 1)], 4⟩), (34, ⟨13, 1, [.c (.h 0), .c (.val (.int .i64 (9 : Int)))], [(0, .row (.pair (.int .i64) (.pair (.int .i64) (.int .i64))) r_6.1)], .c (.val (.bool r_29)), [(0, .row (.pair (.int .i64) (.pair (.int .i64) (.int .i64))) r_6.1)], [(0, 1)], 4⟩), (38, ⟨13, 1, [.c (.h 0), .c (.val (.int .i64 (8 : Int)))], [(0, .row (.pair (.int .i64) (.pair (.int .i64) (.int .i64))) r_6.1)], .c (.val (.bool r_32)), [(0, .row (.pair (.int .i64) (.pair (.int .i64) (.int .i64))) r_6.1)], [(0, 1)], 4⟩)] [(30, true), (34, true), (39, true), (46, true), (51, true), (56, true), (60, true), (64, true), (69, true), (74, true)] (calls_cons (spans_At_rg_spec K r_6.1 (3 : Int) r_22 h_23) (by kernel_rfl) (calls_cons (spans_At_rg_spec K r_6.1 (9 : Int) r_25 h_26) (by kernel_rfl) (calls_cons (spans_Is_rg_spec K r_6.1 (9 : Int) r_29 h_30) (by kernel_rfl) (calls_cons (spans_Is_rg_spec K r_6.1 (8 : Int) r_32 h_33) (by kernel_rfl) calls_nil)))) 4 [0] [] ⟨[(0, .c (.val (.bool (((List.getD r_14 0 ((0 : Int), ((0 : Int), (0 : Int)))).1 == (4 : Int)) && (((List.getD r_14 0 ((0 : Int), ((0 : Int), (0 : Int)))).2.1 == (5 : Int)) && ((List.getD r_14 0 ((0 : Int), ((0 : Int), (0 : Int)))).2.2 == (2 : Int)))))))], [], 4⟩ [(r_2.2 == (0 : Int)) = true, (r_6.2 == (0 : Int)) = true, ((((List.length r_6.1) : Nat) : Int) == (3 : Int)) = true, (0 : Int) ≤ (2 : Int), (2 : Int) < (((List.length r_6.1) : Nat) : Int), (((List.getD r_6.1 2 ((0 : Int), ((0 : Int), (0 : Int)))).1 == (5 : Int)) && (((List.getD r_6.1 2 ((0 : Int), ((0 : Int), (0 : Int)))).2.1 == (9 : Int)) && ((List.getD r_6.1 2 ((0 : Int), ((0 : Int), (0 : Int)))).2.2 == (1 : Int)))) = true, (r_22 == (2 : Int)) = true, (r_25 == (0 : Int)) = true, (r_10.2 == (12 : Int)) = true, r_29 = true, (!r_32) = true, ((((List.length r_14) : Nat) : Int) == (2 : Int)) = true, (0 : Int) ≤ (0 : Int), (0 : Int) < (((List.length r_14) : Nat) : Int)] (by kernel_rfl) rfl rfl (ap2 b_18 (ap2 b_19 (ap2 b_20 (ap2 (by decide) (ap2 c_36.1 (ap2 b_21 (ap2 b_24 (ap2 b_27 (ap2 b_28 (ap2 b_31 (ap2 b_34 (ap2 b_35 (ap2 (by decide) (ap1 c_36.2)))))))))))))) (by kernel_rfl) (by kernel_rfl) ?_
                      have H_77 := Option.some.inj (show some (((List.getD r_14 0 ((0 : Int), ((0 : Int), (0 : Int)))).1 == (4 : Int)) && (((List.getD r_14 0 ((0 : Int), ((0 : Int), (0 : Int)))).2.1 == (5 : Int)) && ((List.getD r_14 0 ((0 : Int), ((0 : Int), (0 : Int)))).2.2 == (2 : Int)))) = some r from H_76); subst H_77
                      refine VL_ret ?_
                      exact P_to [(0, .c (.val (.bool (((List.getD r_14 0 ((0 : Int), ((0 : Int), (0 : Int)))).1 == (4 : Int)) && (((List.getD r_14 0 ((0 : Int), ((0 : Int), (0 : Int)))).2.1 == (5 : Int)) && ((List.getD r_14 0 ((0 : Int), ((0 : Int), (0 : Int)))).2.2 == (2 : Int)))))))] [] [] hn (by kernel_rfl) (by kernel_rfl) rfl rfl rfl (QF_retS (by kernel_rfl) (by kernel_rfl) rfl)
                    · have H_75 := of_f H_72 b_35
                      obtain ⟨c_37, H_78⟩ := of_if H_75
                      refine V_reg hN hn [(20, ⟨11, 1, [.c (.h 0), .c (.val (.int .i64 (3 : Int)))], [(0, .row (.pair (.int .i64) (.pair (.int .i64) (.int .i64))) r_6.1)], .c (.val (.int .i64 r_22)), [(0, .row (.pair (.int .i64) (.pair (.int .i64) (.int .i64))) r_6.1)], [(0, 1)], 4⟩), (25, ⟨11, 1, [.c (.h 0), .c (.val (.int .i64 (9 : Int)))], [(0, .row (.pair (.int .i64) (.pair (.int .i64) (.int .i64))) r_6.1)], .c (.val (.int .i64 r_25)), [(0, .row (.pair (.int .i64) (.pair (.int .i64) (.int .i64))) r_6.1)], [(0, 1)], 4⟩), (34, ⟨13, 1, [.c (.h 0), .c (.val (.int .i64 (9 : Int)))], [(0, .row (.pair (.int .i64) (.pair (.int .i64) (.int .i64))) r_6.1)], .c (.val (.bool r_29)), [(0, .row (.pair (.int .i64) (.pair (.int .i64) (.int .i64))) r_6.1)], [(0, 1)], 4⟩), (38, ⟨13, 1, [.c (.h 0), .c (.val (.int .i64 (8 : Int)))], [(0, .row (.pair (.int .i64) (.pair (.int .i64) (.int .i64))) r_6.1)], .c (.val (.bool r_32)), [(0, .row (.pair (.int .i64) (.pair (.int .i64) (.int .i64))) r_6.1)], [(0, 1)], 4⟩)] [(30, true), (34, true), (39, true), (46, true), (51, true), (56, true), (60, true), (64, true), (69, true), (74, false)] (calls_cons (spans_At_rg_spec K r_6.1 (3 : Int) r_22 h_23) (by kernel_rfl) (calls_cons (spans_At_rg_spec K r_6.1 (9 : Int) r_25 h_26) (by kernel_rfl) (calls_cons (spans_Is_rg_spec K r_6.1 (9 : Int) r_29 h_30) (by kernel_rfl) (calls_cons (spans_Is_rg_spec K r_6.1 (8 : Int) r_32 h_33) (by kernel_rfl) calls_nil)))) 4 [0] [] ⟨[(0, .c (.val (.bool false)))], [], 4⟩ [(r_2.2 == (0 : Int)) = true, (r_6.2 == (0 : Int)) = true, ((((List.length r_6.1) : Nat) : Int) == (3 : Int)) = true, (0 : Int) ≤ (2 : Int), (2 : Int) < (((List.length r_6.1) : Nat) : Int), (((List.getD r_6.1 2 ((0 : Int), ((0 : Int), (0 : Int)))).1 == (5 : Int)) && (((List.getD r_6.1 2 ((0 : Int), ((0 : Int), (0 : Int)))).2.1 == (9 : Int)) && ((List.getD r_6.1 2 ((0 : Int), ((0 : Int), (0 : Int)))).2.2 == (1 : Int)))) = true, (r_22 == (2 : Int)) = true, (r_25 == (0 : Int)) = true, (r_10.2 == (12 : Int)) = true, r_29 = true, (!r_32) = true, ((((List.length r_14) : Nat) : Int) == (2 : Int)) = false] (by kernel_rfl) rfl rfl (ap2 b_18 (ap2 b_19 (ap2 b_20 (ap2 (by decide) (ap2 c_37 (ap2 b_21 (ap2 b_24 (ap2 b_27 (ap2 b_28 (ap2 b_31 (ap2 b_34 (ap1 b_35)))))))))))) (by kernel_rfl) (by kernel_rfl) ?_
                      have H_79 := Option.some.inj (show some false = some r from H_78); subst H_79
                      refine VL_ret ?_
                      exact P_to [(0, .c (.val (.bool false)))] [] [] hn (by kernel_rfl) (by kernel_rfl) rfl rfl rfl (QF_retS (by kernel_rfl) (by kernel_rfl) rfl)
                  · have H_73 := of_f H_71 b_34
                    obtain ⟨c_38, H_80⟩ := of_if H_73
                    refine V_reg hN hn [(20, ⟨11, 1, [.c (.h 0), .c (.val (.int .i64 (3 : Int)))], [(0, .row (.pair (.int .i64) (.pair (.int .i64) (.int .i64))) r_6.1)], .c (.val (.int .i64 r_22)), [(0, .row (.pair (.int .i64) (.pair (.int .i64) (.int .i64))) r_6.1)], [(0, 1)], 4⟩), (25, ⟨11, 1, [.c (.h 0), .c (.val (.int .i64 (9 : Int)))], [(0, .row (.pair (.int .i64) (.pair (.int .i64) (.int .i64))) r_6.1)], .c (.val (.int .i64 r_25)), [(0, .row (.pair (.int .i64) (.pair (.int .i64) (.int .i64))) r_6.1)], [(0, 1)], 4⟩), (34, ⟨13, 1, [.c (.h 0), .c (.val (.int .i64 (9 : Int)))], [(0, .row (.pair (.int .i64) (.pair (.int .i64) (.int .i64))) r_6.1)], .c (.val (.bool r_29)), [(0, .row (.pair (.int .i64) (.pair (.int .i64) (.int .i64))) r_6.1)], [(0, 1)], 4⟩), (38, ⟨13, 1, [.c (.h 0), .c (.val (.int .i64 (8 : Int)))], [(0, .row (.pair (.int .i64) (.pair (.int .i64) (.int .i64))) r_6.1)], .c (.val (.bool r_32)), [(0, .row (.pair (.int .i64) (.pair (.int .i64) (.int .i64))) r_6.1)], [(0, 1)], 4⟩)] [(30, true), (34, true), (39, true), (46, true), (51, true), (56, true), (60, true), (64, true), (69, false)] (calls_cons (spans_At_rg_spec K r_6.1 (3 : Int) r_22 h_23) (by kernel_rfl) (calls_cons (spans_At_rg_spec K r_6.1 (9 : Int) r_25 h_26) (by kernel_rfl) (calls_cons (spans_Is_rg_spec K r_6.1 (9 : Int) r_29 h_30) (by kernel_rfl) (calls_cons (spans_Is_rg_spec K r_6.1 (8 : Int) r_32 h_33) (by kernel_rfl) calls_nil)))) 4 [0] [] ⟨[(0, .c (.val (.bool false)))], [], 4⟩ [(r_2.2 == (0 : Int)) = true, (r_6.2 == (0 : Int)) = true, ((((List.length r_6.1) : Nat) : Int) == (3 : Int)) = true, (0 : Int) ≤ (2 : Int), (2 : Int) < (((List.length r_6.1) : Nat) : Int), (((List.getD r_6.1 2 ((0 : Int), ((0 : Int), (0 : Int)))).1 == (5 : Int)) && (((List.getD r_6.1 2 ((0 : Int), ((0 : Int), (0 : Int)))).2.1 == (9 : Int)) && ((List.getD r_6.1 2 ((0 : Int), ((0 : Int), (0 : Int)))).2.2 == (1 : Int)))) = true, (r_22 == (2 : Int)) = true, (r_25 == (0 : Int)) = true, (r_10.2 == (12 : Int)) = true, r_29 = true, (!r_32) = false] (by kernel_rfl) rfl rfl (ap2 b_18 (ap2 b_19 (ap2 b_20 (ap2 (by decide) (ap2 c_38 (ap2 b_21 (ap2 b_24 (ap2 b_27 (ap2 b_28 (ap2 b_31 (ap1 b_34))))))))))) (by kernel_rfl) (by kernel_rfl) ?_
                    have H_81 := Option.some.inj (show some false = some r from H_80); subst H_81
                    refine VL_ret ?_
                    exact P_to [(0, .c (.val (.bool false)))] [] [] hn (by kernel_rfl) (by kernel_rfl) rfl rfl rfl (QF_retS (by kernel_rfl) (by kernel_rfl) rfl)
                · have H_70 := of_f H_68 b_31
                  obtain ⟨c_39, H_82⟩ := of_if H_70
                  refine V_reg hN hn [(20, ⟨11, 1, [.c (.h 0), .c (.val (.int .i64 (3 : Int)))], [(0, .row (.pair (.int .i64) (.pair (.int .i64) (.int .i64))) r_6.1)], .c (.val (.int .i64 r_22)), [(0, .row (.pair (.int .i64) (.pair (.int .i64) (.int .i64))) r_6.1)], [(0, 1)], 4⟩), (25, ⟨11, 1, [.c (.h 0), .c (.val (.int .i64 (9 : Int)))], [(0, .row (.pair (.int .i64) (.pair (.int .i64) (.int .i64))) r_6.1)], .c (.val (.int .i64 r_25)), [(0, .row (.pair (.int .i64) (.pair (.int .i64) (.int .i64))) r_6.1)], [(0, 1)], 4⟩), (34, ⟨13, 1, [.c (.h 0), .c (.val (.int .i64 (9 : Int)))], [(0, .row (.pair (.int .i64) (.pair (.int .i64) (.int .i64))) r_6.1)], .c (.val (.bool r_29)), [(0, .row (.pair (.int .i64) (.pair (.int .i64) (.int .i64))) r_6.1)], [(0, 1)], 4⟩)] [(30, true), (34, true), (39, true), (46, true), (51, true), (56, true), (60, true), (64, false)] (calls_cons (spans_At_rg_spec K r_6.1 (3 : Int) r_22 h_23) (by kernel_rfl) (calls_cons (spans_At_rg_spec K r_6.1 (9 : Int) r_25 h_26) (by kernel_rfl) (calls_cons (spans_Is_rg_spec K r_6.1 (9 : Int) r_29 h_30) (by kernel_rfl) calls_nil))) 4 [0] [] ⟨[(0, .c (.val (.bool false)))], [], 4⟩ [(r_2.2 == (0 : Int)) = true, (r_6.2 == (0 : Int)) = true, ((((List.length r_6.1) : Nat) : Int) == (3 : Int)) = true, (0 : Int) ≤ (2 : Int), (2 : Int) < (((List.length r_6.1) : Nat) : Int), (((List.getD r_6.1 2 ((0 : Int), ((0 : Int), (0 : Int)))).1 == (5 : Int)) && (((List.getD r_6.1 2 ((0 : Int), ((0 : Int), (0 : Int)))).2.1 == (9 : Int)) && ((List.getD r_6.1 2 ((0 : Int), ((0 : Int), (0 : Int)))).2.2 == (1 : Int)))) = true, (r_22 == (2 : Int)) = true, (r_25 == (0 : Int)) = true, (r_10.2 == (12 : Int)) = true, r_29 = false] (by kernel_rfl) rfl rfl (ap2 b_18 (ap2 b_19 (ap2 b_20 (ap2 (by decide) (ap2 c_39 (ap2 b_21 (ap2 b_24 (ap2 b_27 (ap2 b_28 (ap1 b_31)))))))))) (by kernel_rfl) (by kernel_rfl) ?_
                  have H_83 := Option.some.inj (show some false = some r from H_82); subst H_83
                  refine VL_ret ?_
                  exact P_to [(0, .c (.val (.bool false)))] [] [] hn (by kernel_rfl) (by kernel_rfl) rfl rfl rfl (QF_retS (by kernel_rfl) (by kernel_rfl) rfl)
              · have H_67 := of_f H_64 b_28
                obtain ⟨c_40, H_84⟩ := of_if H_67
                refine V_reg hN hn [(20, ⟨11, 1, [.c (.h 0), .c (.val (.int .i64 (3 : Int)))], [(0, .row (.pair (.int .i64) (.pair (.int .i64) (.int .i64))) r_6.1)], .c (.val (.int .i64 r_22)), [(0, .row (.pair (.int .i64) (.pair (.int .i64) (.int .i64))) r_6.1)], [(0, 1)], 4⟩), (25, ⟨11, 1, [.c (.h 0), .c (.val (.int .i64 (9 : Int)))], [(0, .row (.pair (.int .i64) (.pair (.int .i64) (.int .i64))) r_6.1)], .c (.val (.int .i64 r_25)), [(0, .row (.pair (.int .i64) (.pair (.int .i64) (.int .i64))) r_6.1)], [(0, 1)], 4⟩)] [(30, true), (34, true), (39, true), (46, true), (51, true), (56, true), (60, false)] (calls_cons (spans_At_rg_spec K r_6.1 (3 : Int) r_22 h_23) (by kernel_rfl) (calls_cons (spans_At_rg_spec K r_6.1 (9 : Int) r_25 h_26) (by kernel_rfl) calls_nil)) 4 [0] [] ⟨[(0, .c (.val (.bool false)))], [], 4⟩ [(r_2.2 == (0 : Int)) = true, (r_6.2 == (0 : Int)) = true, ((((List.length r_6.1) : Nat) : Int) == (3 : Int)) = true, (0 : Int) ≤ (2 : Int), (2 : Int) < (((List.length r_6.1) : Nat) : Int), (((List.getD r_6.1 2 ((0 : Int), ((0 : Int), (0 : Int)))).1 == (5 : Int)) && (((List.getD r_6.1 2 ((0 : Int), ((0 : Int), (0 : Int)))).2.1 == (9 : Int)) && ((List.getD r_6.1 2 ((0 : Int), ((0 : Int), (0 : Int)))).2.2 == (1 : Int)))) = true, (r_22 == (2 : Int)) = true, (r_25 == (0 : Int)) = true, (r_10.2 == (12 : Int)) = false] (by kernel_rfl) rfl rfl (ap2 b_18 (ap2 b_19 (ap2 b_20 (ap2 (by decide) (ap2 c_40 (ap2 b_21 (ap2 b_24 (ap2 b_27 (ap1 b_28))))))))) (by kernel_rfl) (by kernel_rfl) ?_
                have H_85 := Option.some.inj (show some false = some r from H_84); subst H_85
                refine VL_ret ?_
                exact P_to [(0, .c (.val (.bool false)))] [] [] hn (by kernel_rfl) (by kernel_rfl) rfl rfl rfl (QF_retS (by kernel_rfl) (by kernel_rfl) rfl)
            · have H_65 := of_f H_63 b_27
              obtain ⟨c_41, H_86⟩ := of_if H_65
              refine V_reg hN hn [(20, ⟨11, 1, [.c (.h 0), .c (.val (.int .i64 (3 : Int)))], [(0, .row (.pair (.int .i64) (.pair (.int .i64) (.int .i64))) r_6.1)], .c (.val (.int .i64 r_22)), [(0, .row (.pair (.int .i64) (.pair (.int .i64) (.int .i64))) r_6.1)], [(0, 1)], 4⟩), (25, ⟨11, 1, [.c (.h 0), .c (.val (.int .i64 (9 : Int)))], [(0, .row (.pair (.int .i64) (.pair (.int .i64) (.int .i64))) r_6.1)], .c (.val (.int .i64 r_25)), [(0, .row (.pair (.int .i64) (.pair (.int .i64) (.int .i64))) r_6.1)], [(0, 1)], 4⟩)] [(30, true), (34, true), (39, true), (46, true), (51, true), (56, false)] (calls_cons (spans_At_rg_spec K r_6.1 (3 : Int) r_22 h_23) (by kernel_rfl) (calls_cons (spans_At_rg_spec K r_6.1 (9 : Int) r_25 h_26) (by kernel_rfl) calls_nil)) 4 [0] [] ⟨[(0, .c (.val (.bool false)))], [], 4⟩ [(r_2.2 == (0 : Int)) = true, (r_6.2 == (0 : Int)) = true, ((((List.length r_6.1) : Nat) : Int) == (3 : Int)) = true, (0 : Int) ≤ (2 : Int), (2 : Int) < (((List.length r_6.1) : Nat) : Int), (((List.getD r_6.1 2 ((0 : Int), ((0 : Int), (0 : Int)))).1 == (5 : Int)) && (((List.getD r_6.1 2 ((0 : Int), ((0 : Int), (0 : Int)))).2.1 == (9 : Int)) && ((List.getD r_6.1 2 ((0 : Int), ((0 : Int), (0 : Int)))).2.2 == (1 : Int)))) = true, (r_22 == (2 : Int)) = true, (r_25 == (0 : Int)) = false] (by kernel_rfl) rfl rfl (ap2 b_18 (ap2 b_19 (ap2 b_20 (ap2 (by decide) (ap2 c_41 (ap2 b_21 (ap2 b_24 (ap1 b_27)))))))) (by kernel_rfl) (by kernel_rfl) ?_
              have H_87 := Option.some.inj (show some false = some r from H_86); subst H_87
              refine VL_ret ?_
              exact P_to [(0, .c (.val (.bool false)))] [] [] hn (by kernel_rfl) (by kernel_rfl) rfl rfl rfl (QF_retS (by kernel_rfl) (by kernel_rfl) rfl)
          · have H_62 := of_f H_60 b_24
            obtain ⟨c_42, H_88⟩ := of_if H_62
            refine V_reg hN hn [(20, ⟨11, 1, [.c (.h 0), .c (.val (.int .i64 (3 : Int)))], [(0, .row (.pair (.int .i64) (.pair (.int .i64) (.int .i64))) r_6.1)], .c (.val (.int .i64 r_22)), [(0, .row (.pair (.int .i64) (.pair (.int .i64) (.int .i64))) r_6.1)], [(0, 1)], 4⟩)] [(30, true), (34, true), (39, true), (46, true), (51, false)] (calls_cons (spans_At_rg_spec K r_6.1 (3 : Int) r_22 h_23) (by kernel_rfl) calls_nil) 4 [0] [] ⟨[(0, .c (.val (.bool false)))], [], 4⟩ [(r_2.2 == (0 : Int)) = true, (r_6.2 == (0 : Int)) = true, ((((List.length r_6.1) : Nat) : Int) == (3 : Int)) = true, (0 : Int) ≤ (2 : Int), (2 : Int) < (((List.length r_6.1) : Nat) : Int), (((List.getD r_6.1 2 ((0 : Int), ((0 : Int), (0 : Int)))).1 == (5 : Int)) && (((List.getD r_6.1 2 ((0 : Int), ((0 : Int), (0 : Int)))).2.1 == (9 : Int)) && ((List.getD r_6.1 2 ((0 : Int), ((0 : Int), (0 : Int)))).2.2 == (1 : Int)))) = true, (r_22 == (2 : Int)) = false] (by kernel_rfl) rfl rfl (ap2 b_18 (ap2 b_19 (ap2 b_20 (ap2 (by decide) (ap2 c_42 (ap2 b_21 (ap1 b_24))))))) (by kernel_rfl) (by kernel_rfl) ?_
            have H_89 := Option.some.inj (show some false = some r from H_88); subst H_89
            refine VL_ret ?_
            exact P_to [(0, .c (.val (.bool false)))] [] [] hn (by kernel_rfl) (by kernel_rfl) rfl rfl rfl (QF_retS (by kernel_rfl) (by kernel_rfl) rfl)
        · have H_59 := of_f H_56 b_21
          obtain ⟨c_43, H_90⟩ := of_if H_59
          refine V_reg hN hn [] [(30, true), (34, true), (39, true), (46, false)] calls_nil 4 [0] [] ⟨[(0, .c (.val (.bool false)))], [], 4⟩ [(r_2.2 == (0 : Int)) = true, (r_6.2 == (0 : Int)) = true, ((((List.length r_6.1) : Nat) : Int) == (3 : Int)) = true, (0 : Int) ≤ (2 : Int), (2 : Int) < (((List.length r_6.1) : Nat) : Int), (((List.getD r_6.1 2 ((0 : Int), ((0 : Int), (0 : Int)))).1 == (5 : Int)) && (((List.getD r_6.1 2 ((0 : Int), ((0 : Int), (0 : Int)))).2.1 == (9 : Int)) && ((List.getD r_6.1 2 ((0 : Int), ((0 : Int), (0 : Int)))).2.2 == (1 : Int)))) = false] (by kernel_rfl) rfl rfl (ap2 b_18 (ap2 b_19 (ap2 b_20 (ap2 (by decide) (ap2 c_43 (ap1 b_21)))))) (by kernel_rfl) (by kernel_rfl) ?_
          have H_91 := Option.some.inj (show some false = some r from H_90); subst H_91
          refine VL_ret ?_
          exact P_to [(0, .c (.val (.bool false)))] [] [] hn (by kernel_rfl) (by kernel_rfl) rfl rfl rfl (QF_retS (by kernel_rfl) (by kernel_rfl) rfl)
      · have H_57 := of_f H_54 b_20
        refine V_reg hN hn [] [(30, true), (34, true), (39, false)] calls_nil 4 [0] [] ⟨[(0, .c (.val (.bool false)))], [], 4⟩ [(r_2.2 == (0 : Int)) = true, (r_6.2 == (0 : Int)) = true, ((((List.length r_6.1) : Nat) : Int) == (3 : Int)) = false] (by kernel_rfl) rfl rfl (ap2 b_18 (ap2 b_19 (ap1 b_20))) (by kernel_rfl) (by kernel_rfl) ?_
        have H_92 := Option.some.inj (show some false = some r from H_57); subst H_92
        refine VL_ret ?_
        exact P_to [(0, .c (.val (.bool false)))] [] [] hn (by kernel_rfl) (by kernel_rfl) rfl rfl rfl (QF_retS (by kernel_rfl) (by kernel_rfl) rfl)
    · have H_55 := of_f H_52 b_19
      refine V_reg hN hn [] [(30, true), (34, false)] calls_nil 4 [0] [] ⟨[(0, .c (.val (.bool false)))], [], 4⟩ [(r_2.2 == (0 : Int)) = true, (r_6.2 == (0 : Int)) = false] (by kernel_rfl) rfl rfl (ap2 b_18 (ap1 b_19)) (by kernel_rfl) (by kernel_rfl) ?_
      have H_93 := Option.some.inj (show some false = some r from H_55); subst H_93
      refine VL_ret ?_
      exact P_to [(0, .c (.val (.bool false)))] [] [] hn (by kernel_rfl) (by kernel_rfl) rfl rfl rfl (QF_retS (by kernel_rfl) (by kernel_rfl) rfl)
  · have H_53 := of_f H_51 b_18
    refine V_reg hN hn [] [(30, false)] calls_nil 4 [0] [] ⟨[(0, .c (.val (.bool false)))], [], 4⟩ [(r_2.2 == (0 : Int)) = false] (by kernel_rfl) rfl rfl (ap1 b_18) (by kernel_rfl) (by kernel_rfl) ?_
    have H_94 := Option.some.inj (show some false = some r from H_53); subst H_94
    refine VL_ret ?_
    exact P_to [(0, .c (.val (.bool false)))] [] [] hn (by kernel_rfl) (by kernel_rfl) rfl rfl rfl (QF_retS (by kernel_rfl) (by kernel_rfl) rfl)

theorem spans_Is_spec (K : Nat) (l_1 : (List (Int × (Int × Int)))) (n_2 : Int) (r : Bool) (H : spans_Is_ng K l_1 n_2 = some r) : Spec Try.prog 13 0 [.c (.imm (.slice (.pair (.int .i64) (.pair (.int .i64) (.int .i64)))) l_1), .c (.val (.int .i64 n_2))] [] (.c (.val (.bool r))) [] := by
  refine Spec_mk (fn := Try.f13) (c := (Try.f13.body).get!) Try.func13 (by kernel_rfl) rfl ?_
  intro C hN hn
  replace hN : C.N = 77 := hN
  unfold spans_Is_ng at H
  refine V_run hN hn 7 0 [0, 1, 11] [] ⟨[(0, .c (.imm (.slice (.pair (.int .i64) (.pair (.int .i64) (.int .i64)))) l_1)), (1, .c (.val (.int .i64 (mn2 n_2 (20000 : Int))))), (11, .c (.val (.bool (decide ((((List.length l_1) : Nat) : Int) > (60 : Int))))))], [], 0⟩ [] (by kernel_rfl) rfl rfl ap0 ?_
  refine VL_cond ((decide ((((List.length l_1) : Nat) : Int) > (60 : Int)))) (by kernel_rfl) ?_ ?_
  · intro b_4; have H_44 := of_t H b_4
    refine V_run hN hn 2 0 [4] [] ⟨[(4, .c (.val (.bool false)))], [], 0⟩ [] (by kernel_rfl) rfl rfl ap0 ?_
    have H_46 := Option.some.inj (show some false = some r from H_44); subst H_46
    refine VL_ret ?_
    exact P_to [(4, .c (.val (.bool false)))] [] [] hn (by kernel_rfl) (by kernel_rfl) rfl rfl rfl (QF_retS (by kernel_rfl) (by kernel_rfl) rfl)
  · intro b_4; have H_45 := of_f H b_4
    refine V_run hN hn 4 0 [0, 1, 12, 13, 14] [] ⟨[(0, .c (.imm (.slice (.pair (.int .i64) (.pair (.int .i64) (.int .i64)))) l_1)), (1, .c (.val (.int .i64 (mn2 n_2 (20000 : Int))))), (12, .c (.imm (.slice (.pair (.int .i64) (.pair (.int .i64) (.int .i64)))) l_1)), (13, .c (.val (.int .i64 (((List.length l_1) : Nat) : Int)))), (14, .c (.val (.int .i64 (0 : Int))))], [], 0⟩ [] (by kernel_rfl) rfl rfl ap0 ?_
    refine VL_block ?_
    refine V_to [(0, .c (.imm (.slice (.pair (.int .i64) (.pair (.int .i64) (.int .i64)))) l_1)), (1, .c (.val (.int .i64 (mn2 n_2 (20000 : Int))))), (12, .c (.imm (.slice (.pair (.int .i64) (.pair (.int .i64) (.int .i64)))) l_1)), (13, .c (.val (.int .i64 (((List.length l_1) : Nat) : Int)))), (14, .c (.val (.int .i64 (0 : Int))))] [] [] hn (by kernel_rfl) (by kernel_rfl) rfl rfl rfl ?_
    refine VL_loop (X := Int) (fun x => [(0, .c (.imm (.slice (.pair (.int .i64) (.pair (.int .i64) (.int .i64)))) l_1)), (1, .c (.val (.int .i64 (mn2 n_2 (20000 : Int))))), (12, .c (.imm (.slice (.pair (.int .i64) (.pair (.int .i64) (.int .i64)))) l_1)), (13, .c (.val (.int .i64 (((List.length l_1) : Nat) : Int)))), (14, .c (.val (.int .i64 x)))]) (fun x => []) (fun k x => spans_Is_ng.l0 K l_1 n_2 k x = some r) K (0 : Int) H_45 (fun _ h => no_none h) ?_
    intro k_8 t_7 H_47
    have H_48 : spans_Is_ng.l0 K l_1 n_2 (k_8 + 1) t_7 = some r := H_47
    rw [spans_Is_ng.l0] at H_48
    refine V_run hN hn 3 0 [0, 1, 12, 13, 14, 15] [] ⟨[(0, .c (.imm (.slice (.pair (.int .i64) (.pair (.int .i64) (.int .i64)))) l_1)), (1, .c (.val (.int .i64 (mn2 n_2 (20000 : Int))))), (12, .c (.imm (.slice (.pair (.int .i64) (.pair (.int .i64) (.int .i64)))) l_1)), (13, .c (.val (.int .i64 (((List.length l_1) : Nat) : Int)))), (14, .c (.val (.int .i64 t_7))), (15, .c (.val (.bool (decide (t_7 < (((List.length l_1) : Nat) : Int))))))], [], 0⟩ [] (by kernel_rfl) rfl rfl ap0 ?_
    refine VL_cond ((decide (t_7 < (((List.length l_1) : Nat) : Int)))) (by kernel_rfl) ?_ ?_
    · intro b_10; have H_49 := of_t H_48 b_10
      refine V_run hN hn 2 0 [0, 1, 12, 13, 14, 15] [] ⟨[(0, .c (.imm (.slice (.pair (.int .i64) (.pair (.int .i64) (.int .i64)))) l_1)), (1, .c (.val (.int .i64 (mn2 n_2 (20000 : Int))))), (12, .c (.imm (.slice (.pair (.int .i64) (.pair (.int .i64) (.int .i64)))) l_1)), (13, .c (.val (.int .i64 (((List.length l_1) : Nat) : Int)))), (14, .c (.val (.int .i64 t_7))), (15, .c (.val (.bool (decide (t_7 < (((List.length l_1) : Nat) : Int))))))], [], 0⟩ [] (by kernel_rfl) rfl rfl ap0 ?_
      refine VL_block ?_
      obtain ⟨c_12, H_51⟩ := of_if H_49
      refine V_run hN hn 4 0 [0, 1, 5, 6, 12, 13, 14] [0] ⟨[(0, .c (.imm (.slice (.pair (.int .i64) (.pair (.int .i64) (.int .i64)))) l_1)), (1, .c (.val (.int .i64 (mn2 n_2 (20000 : Int))))), (5, .c (.val (.int .i64 t_7))), (6, .c (.h 0)), (12, .c (.imm (.slice (.pair (.int .i64) (.pair (.int .i64) (.int .i64)))) l_1)), (13, .c (.val (.int .i64 (((List.length l_1) : Nat) : Int)))), (14, .c (.val (.int .i64 t_7)))], [(0, .box [.val (.int .i64 (List.getD l_1 (Int.toNat t_7) ((0 : Int), ((0 : Int), (0 : Int)))).1), .val (.int .i64 (List.getD l_1 (Int.toNat t_7) ((0 : Int), ((0 : Int), (0 : Int)))).2.1), .val (.int .i64 (List.getD l_1 (Int.toNat t_7) ((0 : Int), ((0 : Int), (0 : Int)))).2.2)])], 1⟩ [0 ≤ t_7, t_7 < (((List.length l_1) : Nat) : Int)] (by kernel_rfl) rfl rfl (ap2 c_12.1 (ap1 c_12.2)) ?_
      obtain ⟨q_52, H_53, H_54⟩ := of_bind H_51
      refine V_cut (Y := Bool) (R := Bool) q_52 (fun y => y) (fun y => [(0, .c (.imm (.slice (.pair (.int .i64) (.pair (.int .i64) (.int .i64)))) l_1)), (1, .c (.val (.int .i64 (mn2 n_2 (20000 : Int))))), (5, .c (.val (.int .i64 t_7))), (6, .c (.h 0)), (12, .c (.imm (.slice (.pair (.int .i64) (.pair (.int .i64) (.int .i64)))) l_1)), (13, .c (.val (.int .i64 (((List.length l_1) : Nat) : Int)))), (14, .c (.val (.int .i64 t_7))), (40, .c (.val (.bool y)))]) (fun y => [(0, .box [.val (.int .i64 (List.getD l_1 (Int.toNat t_7) ((0 : Int), ((0 : Int), (0 : Int)))).1), .val (.int .i64 (List.getD l_1 (Int.toNat t_7) ((0 : Int), ((0 : Int), (0 : Int)))).2.1), .val (.int .i64 (List.getD l_1 (Int.toNat t_7) ((0 : Int), ((0 : Int), (0 : Int)))).2.2)])]) ?_ ?_
      · skip
        obtain ⟨r_13, h_14, H_56⟩ := of_bind H_53
        rcases Bool.eq_false_or_eq_true ((!r_13)) with b_15 | b_15
        · have H_57 := of_t H_56 b_15
          refine V_reg hN hn [(2, ⟨24, 0, [.c (.val (.int .i64 (List.getD l_1 (Int.toNat t_7) ((0 : Int), ((0 : Int), (0 : Int)))).2.2)), .c (.val (.int .i64 (1 : Int))), .c (.val (.int .i64 (100 : Int)))], [], .c (.val (.bool r_13)), [], [], 1⟩)] [(23, true)] (calls_cons (spans_within_spec K (List.getD l_1 (Int.toNat t_7) ((0 : Int), ((0 : Int), (0 : Int)))).2.2 (1 : Int) (100 : Int) r_13 h_14) (by kernel_rfl) calls_nil) 1 [0, 1, 5, 6, 12, 13, 14, 40] [0] ⟨[(0, .c (.imm (.slice (.pair (.int .i64) (.pair (.int .i64) (.int .i64)))) l_1)), (1, .c (.val (.int .i64 (mn2 n_2 (20000 : Int))))), (5, .c (.val (.int .i64 t_7))), (6, .c (.h 0)), (12, .c (.imm (.slice (.pair (.int .i64) (.pair (.int .i64) (.int .i64)))) l_1)), (13, .c (.val (.int .i64 (((List.length l_1) : Nat) : Int)))), (14, .c (.val (.int .i64 t_7))), (40, .c (.val (.bool true)))], [(0, .box [.val (.int .i64 (List.getD l_1 (Int.toNat t_7) ((0 : Int), ((0 : Int), (0 : Int)))).1), .val (.int .i64 (List.getD l_1 (Int.toNat t_7) ((0 : Int), ((0 : Int), (0 : Int)))).2.1), .val (.int .i64 (List.getD l_1 (Int.toNat t_7) ((0 : Int), ((0 : Int), (0 : Int)))).2.2)])], 1⟩ [(!r_13) = true] (by kernel_rfl) rfl rfl (ap1 b_15) (by kernel_rfl) (by kernel_rfl) ?_
          have H_59 := Option.some.inj (show some true = some q_52 from H_57); subst H_59
          refine VL_nil ?_
          exact QP_end true rfl [(0, 0)] hn (by kernel_rfl) (by kernel_rfl) rfl rfl rfl
        · have H_58 := of_f H_56 b_15
          rcases Bool.eq_false_or_eq_true ((decide ((List.getD l_1 (Int.toNat t_7) ((0 : Int), ((0 : Int), (0 : Int)))).1 < (0 : Int)))) with b_17 | b_17
          · have H_60 := of_t H_58 b_17
            refine V_reg hN hn [(2, ⟨24, 0, [.c (.val (.int .i64 (List.getD l_1 (Int.toNat t_7) ((0 : Int), ((0 : Int), (0 : Int)))).2.2)), .c (.val (.int .i64 (1 : Int))), .c (.val (.int .i64 (100 : Int)))], [], .c (.val (.bool r_13)), [], [], 1⟩)] [(23, false), (28, true)] (calls_cons (spans_within_spec K (List.getD l_1 (Int.toNat t_7) ((0 : Int), ((0 : Int), (0 : Int)))).2.2 (1 : Int) (100 : Int) r_13 h_14) (by kernel_rfl) calls_nil) 1 [0, 1, 5, 6, 12, 13, 14, 40] [0] ⟨[(0, .c (.imm (.slice (.pair (.int .i64) (.pair (.int .i64) (.int .i64)))) l_1)), (1, .c (.val (.int .i64 (mn2 n_2 (20000 : Int))))), (5, .c (.val (.int .i64 t_7))), (6, .c (.h 0)), (12, .c (.imm (.slice (.pair (.int .i64) (.pair (.int .i64) (.int .i64)))) l_1)), (13, .c (.val (.int .i64 (((List.length l_1) : Nat) : Int)))), (14, .c (.val (.int .i64 t_7))), (40, .c (.val (.bool true)))], [(0, .box [.val (.int .i64 (List.getD l_1 (Int.toNat t_7) ((0 : Int), ((0 : Int), (0 : Int)))).1), .val (.int .i64 (List.getD l_1 (Int.toNat t_7) ((0 : Int), ((0 : Int), (0 : Int)))).2.1), .val (.int .i64 (List.getD l_1 (Int.toNat t_7) ((0 : Int), ((0 : Int), (0 : Int)))).2.2)])], 1⟩ [(!r_13) = false, (decide ((List.getD l_1 (Int.toNat t_7) ((0 : Int), ((0 : Int), (0 : Int)))).1 < (0 : Int))) = true] (by kernel_rfl) rfl rfl (ap2 b_15 (ap1 b_17)) (by kernel_rfl) (by kernel_rfl) ?_
            have H_62 := Option.some.inj (show some true = some q_52 from H_60); subst H_62
            refine VL_nil ?_
            exact QP_end true rfl [(0, 0)] hn (by kernel_rfl) (by kernel_rfl) rfl rfl rfl
          · have H_61 := of_f H_58 b_17
            rcases Bool.eq_false_or_eq_true ((decide ((List.getD l_1 (Int.toNat t_7) ((0 : Int), ((0 : Int), (0 : Int)))).1 ≥ (List.getD l_1 (Int.toNat t_7) ((0 : Int), ((0 : Int), (0 : Int)))).2.1))) with b_19 | b_19
            · have H_63 := of_t H_61 b_19
              refine V_reg hN hn [(2, ⟨24, 0, [.c (.val (.int .i64 (List.getD l_1 (Int.toNat t_7) ((0 : Int), ((0 : Int), (0 : Int)))).2.2)), .c (.val (.int .i64 (1 : Int))), .c (.val (.int .i64 (100 : Int)))], [], .c (.val (.bool r_13)), [], [], 1⟩)] [(23, false), (28, false), (35, true)] (calls_cons (spans_within_spec K (List.getD l_1 (Int.toNat t_7) ((0 : Int), ((0 : Int), (0 : Int)))).2.2 (1 : Int) (100 : Int) r_13 h_14) (by kernel_rfl) calls_nil) 1 [0, 1, 5, 6, 12, 13, 14, 40] [0] ⟨[(0, .c (.imm (.slice (.pair (.int .i64) (.pair (.int .i64) (.int .i64)))) l_1)), (1, .c (.val (.int .i64 (mn2 n_2 (20000 : Int))))), (5, .c (.val (.int .i64 t_7))), (6, .c (.h 0)), (12, .c (.imm (.slice (.pair (.int .i64) (.pair (.int .i64) (.int .i64)))) l_1)), (13, .c (.val (.int .i64 (((List.length l_1) : Nat) : Int)))), (14, .c (.val (.int .i64 t_7))), (40, .c (.val (.bool true)))], [(0, .box [.val (.int .i64 (List.getD l_1 (Int.toNat t_7) ((0 : Int), ((0 : Int), (0 : Int)))).1), .val (.int .i64 (List.getD l_1 (Int.toNat t_7) ((0 : Int), ((0 : Int), (0 : Int)))).2.1), .val (.int .i64 (List.getD l_1 (Int.toNat t_7) ((0 : Int), ((0 : Int), (0 : Int)))).2.2)])], 1⟩ [(!r_13) = false, (decide ((List.getD l_1 (Int.toNat t_7) ((0 : Int), ((0 : Int), (0 : Int)))).1 < (0 : Int))) = false, (decide ((List.getD l_1 (Int.toNat t_7) ((0 : Int), ((0 : Int), (0 : Int)))).1 ≥ (List.getD l_1 (Int.toNat t_7) ((0 : Int), ((0 : Int), (0 : Int)))).2.1)) = true] (by kernel_rfl) rfl rfl (ap2 b_15 (ap2 b_17 (ap1 b_19))) (by kernel_rfl) (by kernel_rfl) ?_
              have H_65 := Option.some.inj (show some true = some q_52 from H_63); subst H_65
              refine VL_nil ?_
              exact QP_end true rfl [(0, 0)] hn (by kernel_rfl) (by kernel_rfl) rfl rfl rfl
            · have H_64 := of_f H_61 b_19
              refine V_reg hN hn [(2, ⟨24, 0, [.c (.val (.int .i64 (List.getD l_1 (Int.toNat t_7) ((0 : Int), ((0 : Int), (0 : Int)))).2.2)), .c (.val (.int .i64 (1 : Int))), .c (.val (.int .i64 (100 : Int)))], [], .c (.val (.bool r_13)), [], [], 1⟩)] [(23, false), (28, false), (35, false)] (calls_cons (spans_within_spec K (List.getD l_1 (Int.toNat t_7) ((0 : Int), ((0 : Int), (0 : Int)))).2.2 (1 : Int) (100 : Int) r_13 h_14) (by kernel_rfl) calls_nil) 1 [0, 1, 5, 6, 12, 13, 14, 40] [0] ⟨[(0, .c (.imm (.slice (.pair (.int .i64) (.pair (.int .i64) (.int .i64)))) l_1)), (1, .c (.val (.int .i64 (mn2 n_2 (20000 : Int))))), (5, .c (.val (.int .i64 t_7))), (6, .c (.h 0)), (12, .c (.imm (.slice (.pair (.int .i64) (.pair (.int .i64) (.int .i64)))) l_1)), (13, .c (.val (.int .i64 (((List.length l_1) : Nat) : Int)))), (14, .c (.val (.int .i64 t_7))), (40, .c (.val (.bool (decide ((List.getD l_1 (Int.toNat t_7) ((0 : Int), ((0 : Int), (0 : Int)))).2.1 > (mn2 n_2 (20000 : Int)))))))], [(0, .box [.val (.int .i64 (List.getD l_1 (Int.toNat t_7) ((0 : Int), ((0 : Int), (0 : Int)))).1), .val (.int .i64 (List.getD l_1 (Int.toNat t_7) ((0 : Int), ((0 : Int), (0 : Int)))).2.1), .val (.int .i64 (List.getD l_1 (Int.toNat t_7) ((0 : Int), ((0 : Int), (0 : Int)))).2.2)])], 1⟩ [(!r_13) = false, (decide ((List.getD l_1 (Int.toNat t_7) ((0 : Int), ((0 : Int), (0 : Int)))).1 < (0 : Int))) = false, (decide ((List.getD l_1 (Int.toNat t_7) ((0 : Int), ((0 : Int), (0 : Int)))).1 ≥ (List.getD l_1 (Int.toNat t_7) ((0 : Int), ((0 : Int), (0 : Int)))).2.1)) = false] (by kernel_rfl) rfl rfl (ap2 b_15 (ap2 b_17 (ap1 b_19))) (by kernel_rfl) (by kernel_rfl) ?_
              have H_66 := Option.some.inj (show some (decide ((List.getD l_1 (Int.toNat t_7) ((0 : Int), ((0 : Int), (0 : Int)))).2.1 > (mn2 n_2 (20000 : Int)))) = some q_52 from H_64); subst H_66
              refine VL_nil ?_
              exact QP_end (decide ((List.getD l_1 (Int.toNat t_7) ((0 : Int), ((0 : Int), (0 : Int)))).2.1 > (mn2 n_2 (20000 : Int)))) rfl [(0, 0)] hn (by kernel_rfl) (by kernel_rfl) rfl rfl rfl
      · intro y_55 hy; subst hy
        skip
        skip
        refine VL_cond (y_55) (by kernel_rfl) ?_ ?_
        · intro b_23; have H_67 := of_t H_54 b_23
          refine V_run hN hn 2 1 [4] [] ⟨[(4, .c (.val (.bool false)))], [], 1⟩ [] (by kernel_rfl) rfl rfl ap0 ?_
          have H_69 := Option.some.inj (show some false = some r from H_67); subst H_69
          refine VL_ret ?_
          refine QB_ret ?_
          refine QL_ret ?_
          refine QB_ret ?_
          exact P_to [(4, .c (.val (.bool false)))] [] [] hn (by kernel_rfl) (by kernel_rfl) rfl rfl rfl (QF_retS (by kernel_rfl) (by kernel_rfl) rfl)
        · intro b_23; have H_68 := of_f H_54 b_23
          refine V_run hN hn 2 1 [0, 1, 5, 6, 12, 13, 14, 40] [0] ⟨[(0, .c (.imm (.slice (.pair (.int .i64) (.pair (.int .i64) (.int .i64)))) l_1)), (1, .c (.val (.int .i64 (mn2 n_2 (20000 : Int))))), (5, .c (.val (.int .i64 t_7))), (6, .c (.h 0)), (12, .c (.imm (.slice (.pair (.int .i64) (.pair (.int .i64) (.int .i64)))) l_1)), (13, .c (.val (.int .i64 (((List.length l_1) : Nat) : Int)))), (14, .c (.val (.int .i64 t_7))), (40, .c (.val (.bool y_55)))], [(0, .box [.val (.int .i64 (List.getD l_1 (Int.toNat t_7) ((0 : Int), ((0 : Int), (0 : Int)))).1), .val (.int .i64 (List.getD l_1 (Int.toNat t_7) ((0 : Int), ((0 : Int), (0 : Int)))).2.1), .val (.int .i64 (List.getD l_1 (Int.toNat t_7) ((0 : Int), ((0 : Int), (0 : Int)))).2.2)])], 1⟩ [] (by kernel_rfl) rfl rfl ap0 ?_
          obtain ⟨q_70, H_71, H_72⟩ := of_bind H_68
          refine V_cut (Y := Bool) (R := Bool) q_70 (fun y => y) (fun y => [(0, .c (.imm (.slice (.pair (.int .i64) (.pair (.int .i64) (.int .i64)))) l_1)), (1, .c (.val (.int .i64 (mn2 n_2 (20000 : Int))))), (12, .c (.imm (.slice (.pair (.int .i64) (.pair (.int .i64) (.int .i64)))) l_1)), (13, .c (.val (.int .i64 (((List.length l_1) : Nat) : Int)))), (14, .c (.val (.int .i64 t_7))), (75, .c (.val (.bool y)))]) (fun y => []) ?_ ?_
          · skip
            rcases Bool.eq_false_or_eq_true ((decide (t_7 > (0 : Int)))) with b_26 | b_26
            · have H_74 := of_t H_71 b_26
              rcases Bool.eq_false_or_eq_true ((decide ((List.getD l_1 (Int.toNat t_7) ((0 : Int), ((0 : Int), (0 : Int)))).1 < (List.getD l_1 (Int.toNat (IntKind.wrap .i64 (t_7 - (1 : Int)))) ((0 : Int), ((0 : Int), (0 : Int)))).2.1))) with b_27 | b_27
              · have H_76 := of_t H_74 b_27
                obtain ⟨c_28, H_78⟩ := of_if H_76
                refine V_draw hN hn (by kernel_rfl) [] [(43, true), (53, true)] calls_nil 1 [0, 1, 12, 13, 14, 75] [] ⟨[(0, .c (.imm (.slice (.pair (.int .i64) (.pair (.int .i64) (.int .i64)))) l_1)), (1, .c (.val (.int .i64 (mn2 n_2 (20000 : Int))))), (12, .c (.imm (.slice (.pair (.int .i64) (.pair (.int .i64) (.int .i64)))) l_1)), (13, .c (.val (.int .i64 (((List.length l_1) : Nat) : Int)))), (14, .c (.val (.int .i64 t_7))), (75, .c (.val (.bool true)))], [], 1⟩ [(decide (t_7 > (0 : Int))) = true, 0 ≤ (IntKind.wrap .i64 (t_7 - (1 : Int))), (IntKind.wrap .i64 (t_7 - (1 : Int))) < (((List.length l_1) : Nat) : Int), (decide ((List.getD l_1 (Int.toNat t_7) ((0 : Int), ((0 : Int), (0 : Int)))).1 < (List.getD l_1 (Int.toNat (IntKind.wrap .i64 (t_7 - (1 : Int)))) ((0 : Int), ((0 : Int), (0 : Int)))).2.1)) = true] (by kernel_rfl) rfl rfl (ap2 b_26 (ap2 c_28.1 (ap2 c_28.2 (ap1 b_27)))) (by kernel_rfl) (by kernel_rfl) ?_
                have H_79 := Option.some.inj (show some true = some q_70 from H_78); subst H_79
                refine VL_nil ?_
                exact QP_end true rfl [] hn (by kernel_rfl) (by kernel_rfl) rfl rfl rfl
              · have H_77 := of_f H_74 b_27
                rcases Bool.eq_false_or_eq_true (((List.getD l_1 (Int.toNat t_7) ((0 : Int), ((0 : Int), (0 : Int)))).1 == (List.getD l_1 (Int.toNat (IntKind.wrap .i64 (t_7 - (1 : Int)))) ((0 : Int), ((0 : Int), (0 : Int)))).2.1)) with b_29 | b_29
                · have H_80 := of_t H_77 b_29
                  obtain ⟨c_30, H_82⟩ := of_if H_80
                  refine V_draw hN hn (by kernel_rfl) [] [(43, true), (53, false), (63, true)] calls_nil 1 [0, 1, 12, 13, 14, 75] [] ⟨[(0, .c (.imm (.slice (.pair (.int .i64) (.pair (.int .i64) (.int .i64)))) l_1)), (1, .c (.val (.int .i64 (mn2 n_2 (20000 : Int))))), (12, .c (.imm (.slice (.pair (.int .i64) (.pair (.int .i64) (.int .i64)))) l_1)), (13, .c (.val (.int .i64 (((List.length l_1) : Nat) : Int)))), (14, .c (.val (.int .i64 t_7))), (75, .c (.val (.bool ((List.getD l_1 (Int.toNat t_7) ((0 : Int), ((0 : Int), (0 : Int)))).2.2 == (List.getD l_1 (Int.toNat (IntKind.wrap .i64 (t_7 - (1 : Int)))) ((0 : Int), ((0 : Int), (0 : Int)))).2.2))))], [], 1⟩ [(decide (t_7 > (0 : Int))) = true, 0 ≤ (IntKind.wrap .i64 (t_7 - (1 : Int))), (IntKind.wrap .i64 (t_7 - (1 : Int))) < (((List.length l_1) : Nat) : Int), (decide ((List.getD l_1 (Int.toNat t_7) ((0 : Int), ((0 : Int), (0 : Int)))).1 < (List.getD l_1 (Int.toNat (IntKind.wrap .i64 (t_7 - (1 : Int)))) ((0 : Int), ((0 : Int), (0 : Int)))).2.1)) = false, 0 ≤ (IntKind.wrap .i64 (t_7 - (1 : Int))), (IntKind.wrap .i64 (t_7 - (1 : Int))) < (((List.length l_1) : Nat) : Int), ((List.getD l_1 (Int.toNat t_7) ((0 : Int), ((0 : Int), (0 : Int)))).1 == (List.getD l_1 (Int.toNat (IntKind.wrap .i64 (t_7 - (1 : Int)))) ((0 : Int), ((0 : Int), (0 : Int)))).2.1) = true, 0 ≤ (IntKind.wrap .i64 (t_7 - (1 : Int))), (IntKind.wrap .i64 (t_7 - (1 : Int))) < (((List.length l_1) : Nat) : Int)] (by kernel_rfl) rfl rfl (ap2 b_26 (ap2 c_30.1 (ap2 c_30.2 (ap2 b_27 (ap2 c_30.1 (ap2 c_30.2 (ap2 b_29 (ap2 c_30.1 (ap1 c_30.2))))))))) (by kernel_rfl) (by kernel_rfl) ?_
                  have H_83 := Option.some.inj (show some ((List.getD l_1 (Int.toNat t_7) ((0 : Int), ((0 : Int), (0 : Int)))).2.2 == (List.getD l_1 (Int.toNat (IntKind.wrap .i64 (t_7 - (1 : Int)))) ((0 : Int), ((0 : Int), (0 : Int)))).2.2) = some q_70 from H_82); subst H_83
                  refine VL_nil ?_
                  exact QP_end ((List.getD l_1 (Int.toNat t_7) ((0 : Int), ((0 : Int), (0 : Int)))).2.2 == (List.getD l_1 (Int.toNat (IntKind.wrap .i64 (t_7 - (1 : Int)))) ((0 : Int), ((0 : Int), (0 : Int)))).2.2) rfl [] hn (by kernel_rfl) (by kernel_rfl) rfl rfl rfl
                · have H_81 := of_f H_77 b_29
                  obtain ⟨c_31, H_84⟩ := of_if H_81
                  refine V_draw hN hn (by kernel_rfl) [] [(43, true), (53, false), (63, false)] calls_nil 1 [0, 1, 12, 13, 14, 75] [] ⟨[(0, .c (.imm (.slice (.pair (.int .i64) (.pair (.int .i64) (.int .i64)))) l_1)), (1, .c (.val (.int .i64 (mn2 n_2 (20000 : Int))))), (12, .c (.imm (.slice (.pair (.int .i64) (.pair (.int .i64) (.int .i64)))) l_1)), (13, .c (.val (.int .i64 (((List.length l_1) : Nat) : Int)))), (14, .c (.val (.int .i64 t_7))), (75, .c (.val (.bool false)))], [], 1⟩ [(decide (t_7 > (0 : Int))) = true, 0 ≤ (IntKind.wrap .i64 (t_7 - (1 : Int))), (IntKind.wrap .i64 (t_7 - (1 : Int))) < (((List.length l_1) : Nat) : Int), (decide ((List.getD l_1 (Int.toNat t_7) ((0 : Int), ((0 : Int), (0 : Int)))).1 < (List.getD l_1 (Int.toNat (IntKind.wrap .i64 (t_7 - (1 : Int)))) ((0 : Int), ((0 : Int), (0 : Int)))).2.1)) = false, 0 ≤ (IntKind.wrap .i64 (t_7 - (1 : Int))), (IntKind.wrap .i64 (t_7 - (1 : Int))) < (((List.length l_1) : Nat) : Int), ((List.getD l_1 (Int.toNat t_7) ((0 : Int), ((0 : Int), (0 : Int)))).1 == (List.getD l_1 (Int.toNat (IntKind.wrap .i64 (t_7 - (1 : Int)))) ((0 : Int), ((0 : Int), (0 : Int)))).2.1) = false] (by kernel_rfl) rfl rfl (ap2 b_26 (ap2 c_31.1 (ap2 c_31.2 (ap2 b_27 (ap2 c_31.1 (ap2 c_31.2 (ap1 b_29))))))) (by kernel_rfl) (by kernel_rfl) ?_
                  have H_85 := Option.some.inj (show some false = some q_70 from H_84); subst H_85
                  refine VL_nil ?_
                  exact QP_end false rfl [] hn (by kernel_rfl) (by kernel_rfl) rfl rfl rfl
            · have H_75 := of_f H_71 b_26
              refine V_draw hN hn (by kernel_rfl) [] [(43, false)] calls_nil 1 [0, 1, 12, 13, 14, 75] [] ⟨[(0, .c (.imm (.slice (.pair (.int .i64) (.pair (.int .i64) (.int .i64)))) l_1)), (1, .c (.val (.int .i64 (mn2 n_2 (20000 : Int))))), (12, .c (.imm (.slice (.pair (.int .i64) (.pair (.int .i64) (.int .i64)))) l_1)), (13, .c (.val (.int .i64 (((List.length l_1) : Nat) : Int)))), (14, .c (.val (.int .i64 t_7))), (75, .c (.val (.bool false)))], [], 1⟩ [(decide (t_7 > (0 : Int))) = false] (by kernel_rfl) rfl rfl (ap1 b_26) (by kernel_rfl) (by kernel_rfl) ?_
              have H_86 := Option.some.inj (show some false = some q_70 from H_75); subst H_86
              refine VL_nil ?_
              exact QP_end false rfl [] hn (by kernel_rfl) (by kernel_rfl) rfl rfl rfl
          · intro y_73 hy; subst hy
            skip
            skip
            refine VL_cond (y_73) (by kernel_rfl) ?_ ?_
            · intro b_34; have H_87 := of_t H_72 b_34
              refine V_run hN hn 2 1 [4] [] ⟨[(4, .c (.val (.bool false)))], [], 1⟩ [] (by kernel_rfl) rfl rfl ap0 ?_
              have H_89 := Option.some.inj (show some false = some r from H_87); subst H_89
              refine VL_ret ?_
              refine QB_ret ?_
              refine QL_ret ?_
              refine QB_ret ?_
              exact P_to [(4, .c (.val (.bool false)))] [] [] hn (by kernel_rfl) (by kernel_rfl) rfl rfl rfl (QF_retS (by kernel_rfl) (by kernel_rfl) rfl)
            · intro b_34; have H_88 := of_f H_72 b_34
              refine V_run hN hn 1 1 [0, 1, 12, 13, 14, 75] [] ⟨[(0, .c (.imm (.slice (.pair (.int .i64) (.pair (.int .i64) (.int .i64)))) l_1)), (1, .c (.val (.int .i64 (mn2 n_2 (20000 : Int))))), (12, .c (.imm (.slice (.pair (.int .i64) (.pair (.int .i64) (.int .i64)))) l_1)), (13, .c (.val (.int .i64 (((List.length l_1) : Nat) : Int)))), (14, .c (.val (.int .i64 t_7))), (75, .c (.val (.bool y_73)))], [], 1⟩ [] (by kernel_rfl) rfl rfl ap0 ?_
              refine VL_nil (QB_end ?_)
              refine V_run hN hn 1 1 [0, 1, 12, 13, 14] [] ⟨[(0, .c (.imm (.slice (.pair (.int .i64) (.pair (.int .i64) (.int .i64)))) l_1)), (1, .c (.val (.int .i64 (mn2 n_2 (20000 : Int))))), (12, .c (.imm (.slice (.pair (.int .i64) (.pair (.int .i64) (.int .i64)))) l_1)), (13, .c (.val (.int .i64 (((List.length l_1) : Nat) : Int)))), (14, .c (.val (.int .i64 (IntKind.wrap .i64 (t_7 + (1 : Int))))))], [], 1⟩ [] (by kernel_rfl) rfl rfl ap0 ?_
              refine VL_nil ?_
              exact V_roundEnd (IntKind.wrap .i64 (t_7 + (1 : Int))) H_88 [] hn (by kernel_rfl) (by kernel_rfl) rfl rfl rfl
    · intro b_10; have H_50 := of_f H_48 b_10
      refine VL_exit ?_
      refine QL_exit ?_
      refine QB_here ?_
      refine V_run hN hn 2 0 [4] [] ⟨[(4, .c (.val (.bool true)))], [], 0⟩ [] (by kernel_rfl) rfl rfl ap0 ?_
      have H_90 := Option.some.inj (show some true = some r from H_50); subst H_90
      refine VL_ret ?_
      exact P_to [(4, .c (.val (.bool true)))] [] [] hn (by kernel_rfl) (by kernel_rfl) rfl rfl rfl (QF_retS (by kernel_rfl) (by kernel_rfl) rfl)

theorem spans_In_spec (K : Nat) (l_1 : (List (Int × (Int × Int)))) (i_2 : Int) (i_3 : Int) (r : (List (Int × (Int × Int)))) (H : spans_In_rsgg K l_1 i_2 i_3 = some r) : Spec Try.prog 14 0 [.c (.imm (.slice (.pair (.int .i64) (.pair (.int .i64) (.int .i64)))) l_1), .agg [.val (.int .i64 i_2), .val (.int .i64 i_3)]] [] (.c (.h 5)) [(5, .row (.pair (.int .i64) (.pair (.int .i64) (.int .i64))) r)] := by
  refine Spec_mk (fn := Try.f14) (c := (Try.f14.body).get!) Try.func14 (by kernel_rfl) rfl ?_
  intro C hN hn
  replace hN : C.N = 39 := hN
  unfold spans_In_rsgg at H
  refine V_run hN hn 7 0 [3, 5, 10, 11, 12] [0] ⟨[(3, .c (.h 0)), (5, .c (.val (.slice none 0 0))), (10, .c (.imm (.slice (.pair (.int .i64) (.pair (.int .i64) (.int .i64)))) l_1)), (11, .c (.val (.int .i64 (((List.length l_1) : Nat) : Int)))), (12, .c (.val (.int .i64 (0 : Int))))], [(0, .box [.val (.int .i64 i_2), .val (.int .i64 i_3)])], 1⟩ [] (by kernel_rfl) rfl rfl ap0 ?_
  refine VL_block ?_
  refine V_ghost [.nilSlot 5 (.pair (.int .i64) (.pair (.int .i64) (.int .i64)))] 1 hn [3, 5, 10, 11, 12] [0, 1] ⟨[(3, .c (.h 0)), (5, .c (.h 1)), (10, .c (.imm (.slice (.pair (.int .i64) (.pair (.int .i64) (.int .i64)))) l_1)), (11, .c (.val (.int .i64 (((List.length l_1) : Nat) : Int)))), (12, .c (.val (.int .i64 (0 : Int))))], [(0, .box [.val (.int .i64 i_2), .val (.int .i64 i_3)]), (1, .row (.pair (.int .i64) (.pair (.int .i64) (.int .i64))) ([] : List (Int × (Int × Int))))], 2⟩ (by kernel_rfl) rfl rfl ?_
  refine V_to [(3, .c (.h 0)), (5, .c (.h 5)), (10, .c (.imm (.slice (.pair (.int .i64) (.pair (.int .i64) (.int .i64)))) l_1)), (11, .c (.val (.int .i64 (((List.length l_1) : Nat) : Int)))), (12, .c (.val (.int .i64 (0 : Int))))] [(0, .box [.val (.int .i64 i_2), .val (.int .i64 i_3)]), (5, .row (.pair (.int .i64) (.pair (.int .i64) (.int .i64))) ([] : List (Int × (Int × Int))))] [(0, 0), (5, 1)] hn (by kernel_rfl) (by kernel_rfl) rfl rfl rfl ?_
  refine VL_loop (X := ((List (Int × (Int × Int))) × Int)) (fun x => [(3, .c (.h 0)), (5, .c (.h 5)), (10, .c (.imm (.slice (.pair (.int .i64) (.pair (.int .i64) (.int .i64)))) l_1)), (11, .c (.val (.int .i64 (((List.length l_1) : Nat) : Int)))), (12, .c (.val (.int .i64 x.2)))]) (fun x => [(0, .box [.val (.int .i64 i_2), .val (.int .i64 i_3)]), (5, .row (.pair (.int .i64) (.pair (.int .i64) (.int .i64))) x.1)]) (fun k x => spans_In_rsgg.l0 K l_1 i_2 i_3 k x.1 x.2 = some r) K (([] : List (Int × (Int × Int))), (0 : Int)) H (fun _ h => no_none h) ?_
  intro k_20 x_20 H_34
  obtain ⟨out_19, t_5⟩ := x_20
  have H_35 : spans_In_rsgg.l0 K l_1 i_2 i_3 (k_20 + 1) out_19 t_5 = some r := H_34
  rw [spans_In_rsgg.l0] at H_35
  refine V_run hN hn 3 6 [3, 5, 10, 11, 12, 13] [0, 5] ⟨[(3, .c (.h 0)), (5, .c (.h 5)), (10, .c (.imm (.slice (.pair (.int .i64) (.pair (.int .i64) (.int .i64)))) l_1)), (11, .c (.val (.int .i64 (((List.length l_1) : Nat) : Int)))), (12, .c (.val (.int .i64 t_5))), (13, .c (.val (.bool (decide (t_5 < (((List.length l_1) : Nat) : Int))))))], [(0, .box [.val (.int .i64 i_2), .val (.int .i64 i_3)]), (5, .row (.pair (.int .i64) (.pair (.int .i64) (.int .i64))) out_19)], 6⟩ [] (by kernel_rfl) rfl rfl ap0 ?_
  refine VL_cond ((decide (t_5 < (((List.length l_1) : Nat) : Int)))) (by kernel_rfl) ?_ ?_
  · intro b_22; have H_36 := of_t H_35 b_22
    refine V_run hN hn 2 6 [3, 5, 10, 11, 12, 13] [0, 5] ⟨[(3, .c (.h 0)), (5, .c (.h 5)), (10, .c (.imm (.slice (.pair (.int .i64) (.pair (.int .i64) (.int .i64)))) l_1)), (11, .c (.val (.int .i64 (((List.length l_1) : Nat) : Int)))), (12, .c (.val (.int .i64 t_5))), (13, .c (.val (.bool (decide (t_5 < (((List.length l_1) : Nat) : Int))))))], [(0, .box [.val (.int .i64 i_2), .val (.int .i64 i_3)]), (5, .row (.pair (.int .i64) (.pair (.int .i64) (.int .i64))) out_19)], 6⟩ [] (by kernel_rfl) rfl rfl ap0 ?_
    refine VL_block ?_
    obtain ⟨c_24, H_38⟩ := of_if H_36
    refine V_run hN hn 3 6 [3, 5, 7, 10, 11, 12] [0, 5, 6] ⟨[(3, .c (.h 0)), (5, .c (.h 5)), (7, .c (.h 6)), (10, .c (.imm (.slice (.pair (.int .i64) (.pair (.int .i64) (.int .i64)))) l_1)), (11, .c (.val (.int .i64 (((List.length l_1) : Nat) : Int)))), (12, .c (.val (.int .i64 t_5)))], [(0, .box [.val (.int .i64 i_2), .val (.int .i64 i_3)]), (5, .row (.pair (.int .i64) (.pair (.int .i64) (.int .i64))) out_19), (6, .box [.val (.int .i64 (List.getD l_1 (Int.toNat t_5) ((0 : Int), ((0 : Int), (0 : Int)))).1), .val (.int .i64 (List.getD l_1 (Int.toNat t_5) ((0 : Int), ((0 : Int), (0 : Int)))).2.1), .val (.int .i64 (List.getD l_1 (Int.toNat t_5) ((0 : Int), ((0 : Int), (0 : Int)))).2.2)])], 7⟩ [0 ≤ t_5, t_5 < (((List.length l_1) : Nat) : Int)] (by kernel_rfl) rfl rfl (ap2 c_24.1 (ap1 c_24.2)) ?_
    refine V_draw hN hn (by kernel_rfl) [] [] calls_nil 7 [3, 5, 7, 8, 9, 10, 11, 12] [0, 5, 6] ⟨[(3, .c (.h 0)), (5, .c (.h 5)), (7, .c (.h 6)), (8, .c (.val (.int .i64 (mx2 (List.getD l_1 (Int.toNat t_5) ((0 : Int), ((0 : Int), (0 : Int)))).1 i_2)))), (9, .c (.val (.int .i64 (mn2 (List.getD l_1 (Int.toNat t_5) ((0 : Int), ((0 : Int), (0 : Int)))).2.1 i_3)))), (10, .c (.imm (.slice (.pair (.int .i64) (.pair (.int .i64) (.int .i64)))) l_1)), (11, .c (.val (.int .i64 (((List.length l_1) : Nat) : Int)))), (12, .c (.val (.int .i64 t_5)))], [(0, .box [.val (.int .i64 i_2), .val (.int .i64 i_3)]), (5, .row (.pair (.int .i64) (.pair (.int .i64) (.int .i64))) out_19), (6, .box [.val (.int .i64 (List.getD l_1 (Int.toNat t_5) ((0 : Int), ((0 : Int), (0 : Int)))).1), .val (.int .i64 (List.getD l_1 (Int.toNat t_5) ((0 : Int), ((0 : Int), (0 : Int)))).2.1), .val (.int .i64 (List.getD l_1 (Int.toNat t_5) ((0 : Int), ((0 : Int), (0 : Int)))).2.2)])], 7⟩ [] (by kernel_rfl) rfl rfl ap0 (by kernel_rfl) (by kernel_rfl) ?_
    refine V_run hN hn 2 7 [3, 5, 7, 8, 9, 10, 11, 12, 28] [0, 5, 6] ⟨[(3, .c (.h 0)), (5, .c (.h 5)), (7, .c (.h 6)), (8, .c (.val (.int .i64 (mx2 (List.getD l_1 (Int.toNat t_5) ((0 : Int), ((0 : Int), (0 : Int)))).1 i_2)))), (9, .c (.val (.int .i64 (mn2 (List.getD l_1 (Int.toNat t_5) ((0 : Int), ((0 : Int), (0 : Int)))).2.1 i_3)))), (10, .c (.imm (.slice (.pair (.int .i64) (.pair (.int .i64) (.int .i64)))) l_1)), (11, .c (.val (.int .i64 (((List.length l_1) : Nat) : Int)))), (12, .c (.val (.int .i64 t_5))), (28, .c (.val (.bool (decide ((mx2 (List.getD l_1 (Int.toNat t_5) ((0 : Int), ((0 : Int), (0 : Int)))).1 i_2) < (mn2 (List.getD l_1 (Int.toNat t_5) ((0 : Int), ((0 : Int), (0 : Int)))).2.1 i_3))))))], [(0, .box [.val (.int .i64 i_2), .val (.int .i64 i_3)]), (5, .row (.pair (.int .i64) (.pair (.int .i64) (.int .i64))) out_19), (6, .box [.val (.int .i64 (List.getD l_1 (Int.toNat t_5) ((0 : Int), ((0 : Int), (0 : Int)))).1), .val (.int .i64 (List.getD l_1 (Int.toNat t_5) ((0 : Int), ((0 : Int), (0 : Int)))).2.1), .val (.int .i64 (List.getD l_1 (Int.toNat t_5) ((0 : Int), ((0 : Int), (0 : Int)))).2.2)])], 7⟩ [] (by kernel_rfl) rfl rfl ap0 ?_
    refine VL_cond ((decide ((mx2 (List.getD l_1 (Int.toNat t_5) ((0 : Int), ((0 : Int), (0 : Int)))).1 i_2) < (mn2 (List.getD l_1 (Int.toNat t_5) ((0 : Int), ((0 : Int), (0 : Int)))).2.1 i_3)))) (by kernel_rfl) ?_ ?_
    · intro b_27; have H_39 := of_t H_38 b_27
      obtain ⟨c_28, H_41⟩ := of_if H_39
      refine V_run hN hn 1 7 [3, 5, 10, 11, 12] [0, 8] ⟨[(3, .c (.h 0)), (5, .c (.h 8)), (10, .c (.imm (.slice (.pair (.int .i64) (.pair (.int .i64) (.int .i64)))) l_1)), (11, .c (.val (.int .i64 (((List.length l_1) : Nat) : Int)))), (12, .c (.val (.int .i64 t_5)))], [(0, .box [.val (.int .i64 i_2), .val (.int .i64 i_3)]), (8, .row (.pair (.int .i64) (.pair (.int .i64) (.int .i64))) (out_19 ++ ([((mx2 (List.getD l_1 (Int.toNat t_5) ((0 : Int), ((0 : Int), (0 : Int)))).1 i_2), ((mn2 (List.getD l_1 (Int.toNat t_5) ((0 : Int), ((0 : Int), (0 : Int)))).2.1 i_3), (List.getD l_1 (Int.toNat t_5) ((0 : Int), ((0 : Int), (0 : Int)))).2.2))] : List (Int × (Int × Int)))))], 9⟩ [(List.length out_19 + List.length ([((mx2 (List.getD l_1 (Int.toNat t_5) ((0 : Int), ((0 : Int), (0 : Int)))).1 i_2), ((mn2 (List.getD l_1 (Int.toNat t_5) ((0 : Int), ((0 : Int), (0 : Int)))).2.1 i_3), (List.getD l_1 (Int.toNat t_5) ((0 : Int), ((0 : Int), (0 : Int)))).2.2))] : List (Int × (Int × Int)))) * 24 ≤ 140737488355328] (by kernel_rfl) rfl rfl (ap1 c_28) ?_
      refine VL_nil (QB_end ?_)
      refine V_run hN hn 1 9 [3, 5, 10, 11, 12] [0, 8] ⟨[(3, .c (.h 0)), (5, .c (.h 8)), (10, .c (.imm (.slice (.pair (.int .i64) (.pair (.int .i64) (.int .i64)))) l_1)), (11, .c (.val (.int .i64 (((List.length l_1) : Nat) : Int)))), (12, .c (.val (.int .i64 (IntKind.wrap .i64 (t_5 + (1 : Int))))))], [(0, .box [.val (.int .i64 i_2), .val (.int .i64 i_3)]), (8, .row (.pair (.int .i64) (.pair (.int .i64) (.int .i64))) (out_19 ++ ([((mx2 (List.getD l_1 (Int.toNat t_5) ((0 : Int), ((0 : Int), (0 : Int)))).1 i_2), ((mn2 (List.getD l_1 (Int.toNat t_5) ((0 : Int), ((0 : Int), (0 : Int)))).2.1 i_3), (List.getD l_1 (Int.toNat t_5) ((0 : Int), ((0 : Int), (0 : Int)))).2.2))] : List (Int × (Int × Int)))))], 9⟩ [] (by kernel_rfl) rfl rfl ap0 ?_
      refine VL_nil ?_
      exact V_roundEnd ((out_19 ++ ([((mx2 (List.getD l_1 (Int.toNat t_5) ((0 : Int), ((0 : Int), (0 : Int)))).1 i_2), ((mn2 (List.getD l_1 (Int.toNat t_5) ((0 : Int), ((0 : Int), (0 : Int)))).2.1 i_3), (List.getD l_1 (Int.toNat t_5) ((0 : Int), ((0 : Int), (0 : Int)))).2.2))] : List (Int × (Int × Int)))), (IntKind.wrap .i64 (t_5 + (1 : Int)))) H_41 [(0, 0), (5, 8)] hn (by kernel_rfl) (by kernel_rfl) rfl rfl rfl
    · intro b_27; have H_40 := of_f H_38 b_27
      refine V_run hN hn 1 7 [3, 5, 7, 8, 9, 10, 11, 12, 28] [0, 5, 6] ⟨[(3, .c (.h 0)), (5, .c (.h 5)), (7, .c (.h 6)), (8, .c (.val (.int .i64 (mx2 (List.getD l_1 (Int.toNat t_5) ((0 : Int), ((0 : Int), (0 : Int)))).1 i_2)))), (9, .c (.val (.int .i64 (mn2 (List.getD l_1 (Int.toNat t_5) ((0 : Int), ((0 : Int), (0 : Int)))).2.1 i_3)))), (10, .c (.imm (.slice (.pair (.int .i64) (.pair (.int .i64) (.int .i64)))) l_1)), (11, .c (.val (.int .i64 (((List.length l_1) : Nat) : Int)))), (12, .c (.val (.int .i64 t_5))), (28, .c (.val (.bool (decide ((mx2 (List.getD l_1 (Int.toNat t_5) ((0 : Int), ((0 : Int), (0 : Int)))).1 i_2) < (mn2 (List.getD l_1 (Int.toNat t_5) ((0 : Int), ((0 : Int), (0 : Int)))).2.1 i_3))))))], [(0, .box [.val (.int .i64 i_2), .val (.int .i64 i_3)]), (5, .row (.pair (.int .i64) (.pair (.int .i64) (.int .i64))) out_19), (6, .box [.val (.int .i64 (List.getD l_1 (Int.toNat t_5) ((0 : Int), ((0 : Int), (0 : Int)))).1), .val (.int .i64 (List.getD l_1 (Int.toNat t_5) ((0 : Int), ((0 : Int), (0 : Int)))).2.1), .val (.int .i64 (List.getD l_1 (Int.toNat t_5) ((0 : Int), ((0 : Int), (0 : Int)))).2.2)])], 7⟩ [] (by kernel_rfl) rfl rfl ap0 ?_
      refine VL_nil (QB_end ?_)
      refine V_run hN hn 1 7 [3, 5, 10, 11, 12] [0, 5] ⟨[(3, .c (.h 0)), (5, .c (.h 5)), (10, .c (.imm (.slice (.pair (.int .i64) (.pair (.int .i64) (.int .i64)))) l_1)), (11, .c (.val (.int .i64 (((List.length l_1) : Nat) : Int)))), (12, .c (.val (.int .i64 (IntKind.wrap .i64 (t_5 + (1 : Int))))))], [(0, .box [.val (.int .i64 i_2), .val (.int .i64 i_3)]), (5, .row (.pair (.int .i64) (.pair (.int .i64) (.int .i64))) out_19)], 7⟩ [] (by kernel_rfl) rfl rfl ap0 ?_
      refine VL_nil ?_
      exact V_roundEnd (out_19, (IntKind.wrap .i64 (t_5 + (1 : Int)))) H_40 [(0, 0), (5, 5)] hn (by kernel_rfl) (by kernel_rfl) rfl rfl rfl
  · intro b_22; have H_37 := of_f H_35 b_22
    refine VL_exit ?_
    refine QL_exit ?_
    refine QB_here ?_
    refine V_run hN hn 2 6 [4] [5] ⟨[(4, .c (.h 5))], [(5, .row (.pair (.int .i64) (.pair (.int .i64) (.int .i64))) out_19)], 6⟩ [] (by kernel_rfl) rfl rfl ap0 ?_
    have H_42 := Option.some.inj (show some out_19 = some r from H_37); subst H_42
    refine VL_ret ?_
    exact P_to [(4, .c (.h 5))] [(5, .row (.pair (.int .i64) (.pair (.int .i64) (.int .i64))) out_19)] [(5, 5)] hn (by kernel_rfl) (by kernel_rfl) rfl rfl rfl (QF_retS (by kernel_rfl) (by kernel_rfl) rfl)

theorem spans_At_spec (K : Nat) (l_1 : (List (Int × (Int × Int)))) (at_2 : Int) (r : Int) (H : spans_At_rg K l_1 at_2 = some r) : Spec Try.prog 11 0 [.c (.imm (.slice (.pair (.int .i64) (.pair (.int .i64) (.int .i64)))) l_1), .c (.val (.int .i64 at_2))] [] (.c (.val (.int .i64 r))) [] := by
  refine Spec_mk (fn := Try.f11) (c := (Try.f11.body).get!) Try.func11 (by kernel_rfl) rfl ?_
  intro C hN hn
  replace hN : C.N = 26 := hN
  unfold spans_At_rg at H
  refine V_run hN hn 5 0 [1, 7, 8, 9] [] ⟨[(1, .c (.val (.int .i64 at_2))), (7, .c (.imm (.slice (.pair (.int .i64) (.pair (.int .i64) (.int .i64)))) l_1)), (8, .c (.val (.int .i64 (((List.length l_1) : Nat) : Int)))), (9, .c (.val (.int .i64 (0 : Int))))], [], 0⟩ [] (by kernel_rfl) rfl rfl ap0 ?_
  refine VL_block ?_
  refine V_to [(1, .c (.val (.int .i64 at_2))), (7, .c (.imm (.slice (.pair (.int .i64) (.pair (.int .i64) (.int .i64)))) l_1)), (8, .c (.val (.int .i64 (((List.length l_1) : Nat) : Int)))), (9, .c (.val (.int .i64 (0 : Int))))] [] [] hn (by kernel_rfl) (by kernel_rfl) rfl rfl rfl ?_
  refine VL_loop (X := Int) (fun x => [(1, .c (.val (.int .i64 at_2))), (7, .c (.imm (.slice (.pair (.int .i64) (.pair (.int .i64) (.int .i64)))) l_1)), (8, .c (.val (.int .i64 (((List.length l_1) : Nat) : Int)))), (9, .c (.val (.int .i64 x)))]) (fun x => []) (fun k x => spans_At_rg.l0 K l_1 at_2 k x = some r) K (0 : Int) H (fun _ h => no_none h) ?_
  intro k_5 t_4 H_22
  have H_23 : spans_At_rg.l0 K l_1 at_2 (k_5 + 1) t_4 = some r := H_22
  rw [spans_At_rg.l0] at H_23
  refine V_run hN hn 3 0 [1, 7, 8, 9, 10] [] ⟨[(1, .c (.val (.int .i64 at_2))), (7, .c (.imm (.slice (.pair (.int .i64) (.pair (.int .i64) (.int .i64)))) l_1)), (8, .c (.val (.int .i64 (((List.length l_1) : Nat) : Int)))), (9, .c (.val (.int .i64 t_4))), (10, .c (.val (.bool (decide (t_4 < (((List.length l_1) : Nat) : Int))))))], [], 0⟩ [] (by kernel_rfl) rfl rfl ap0 ?_
  refine VL_cond ((decide (t_4 < (((List.length l_1) : Nat) : Int)))) (by kernel_rfl) ?_ ?_
  · intro b_7; have H_24 := of_t H_23 b_7
    refine V_run hN hn 2 0 [1, 7, 8, 9, 10] [] ⟨[(1, .c (.val (.int .i64 at_2))), (7, .c (.imm (.slice (.pair (.int .i64) (.pair (.int .i64) (.int .i64)))) l_1)), (8, .c (.val (.int .i64 (((List.length l_1) : Nat) : Int)))), (9, .c (.val (.int .i64 t_4))), (10, .c (.val (.bool (decide (t_4 < (((List.length l_1) : Nat) : Int))))))], [], 0⟩ [] (by kernel_rfl) rfl rfl ap0 ?_
    refine VL_block ?_
    obtain ⟨c_9, H_26⟩ := of_if H_24
    refine V_run hN hn 3 0 [1, 6, 7, 8, 9] [0] ⟨[(1, .c (.val (.int .i64 at_2))), (6, .c (.h 0)), (7, .c (.imm (.slice (.pair (.int .i64) (.pair (.int .i64) (.int .i64)))) l_1)), (8, .c (.val (.int .i64 (((List.length l_1) : Nat) : Int)))), (9, .c (.val (.int .i64 t_4)))], [(0, .box [.val (.int .i64 (List.getD l_1 (Int.toNat t_4) ((0 : Int), ((0 : Int), (0 : Int)))).1), .val (.int .i64 (List.getD l_1 (Int.toNat t_4) ((0 : Int), ((0 : Int), (0 : Int)))).2.1), .val (.int .i64 (List.getD l_1 (Int.toNat t_4) ((0 : Int), ((0 : Int), (0 : Int)))).2.2)])], 1⟩ [0 ≤ t_4, t_4 < (((List.length l_1) : Nat) : Int)] (by kernel_rfl) rfl rfl (ap2 c_9.1 (ap1 c_9.2)) ?_
    obtain ⟨q_27, H_28, H_29⟩ := of_bind H_26
    refine V_cut (Y := Bool) (R := Bool) q_27 (fun y => y) (fun y => [(1, .c (.val (.int .i64 at_2))), (6, .c (.h 0)), (7, .c (.imm (.slice (.pair (.int .i64) (.pair (.int .i64) (.int .i64)))) l_1)), (8, .c (.val (.int .i64 (((List.length l_1) : Nat) : Int)))), (9, .c (.val (.int .i64 t_4))), (22, .c (.val (.bool y)))]) (fun y => [(0, .box [.val (.int .i64 (List.getD l_1 (Int.toNat t_4) ((0 : Int), ((0 : Int), (0 : Int)))).1), .val (.int .i64 (List.getD l_1 (Int.toNat t_4) ((0 : Int), ((0 : Int), (0 : Int)))).2.1), .val (.int .i64 (List.getD l_1 (Int.toNat t_4) ((0 : Int), ((0 : Int), (0 : Int)))).2.2)])]) ?_ ?_
    · skip
      rcases Bool.eq_false_or_eq_true ((decide (at_2 ≥ (List.getD l_1 (Int.toNat t_4) ((0 : Int), ((0 : Int), (0 : Int)))).1))) with b_10 | b_10
      · have H_31 := of_t H_28 b_10
        refine V_reg hN hn [] [(17, true)] calls_nil 1 [1, 6, 7, 8, 9, 22] [0] ⟨[(1, .c (.val (.int .i64 at_2))), (6, .c (.h 0)), (7, .c (.imm (.slice (.pair (.int .i64) (.pair (.int .i64) (.int .i64)))) l_1)), (8, .c (.val (.int .i64 (((List.length l_1) : Nat) : Int)))), (9, .c (.val (.int .i64 t_4))), (22, .c (.val (.bool (decide (at_2 < (List.getD l_1 (Int.toNat t_4) ((0 : Int), ((0 : Int), (0 : Int)))).2.1)))))], [(0, .box [.val (.int .i64 (List.getD l_1 (Int.toNat t_4) ((0 : Int), ((0 : Int), (0 : Int)))).1), .val (.int .i64 (List.getD l_1 (Int.toNat t_4) ((0 : Int), ((0 : Int), (0 : Int)))).2.1), .val (.int .i64 (List.getD l_1 (Int.toNat t_4) ((0 : Int), ((0 : Int), (0 : Int)))).2.2)])], 1⟩ [(decide (at_2 ≥ (List.getD l_1 (Int.toNat t_4) ((0 : Int), ((0 : Int), (0 : Int)))).1)) = true] (by kernel_rfl) rfl rfl (ap1 b_10) (by kernel_rfl) (by kernel_rfl) ?_
        have H_33 := Option.some.inj (show some (decide (at_2 < (List.getD l_1 (Int.toNat t_4) ((0 : Int), ((0 : Int), (0 : Int)))).2.1)) = some q_27 from H_31); subst H_33
        refine VL_nil ?_
        exact QP_end (decide (at_2 < (List.getD l_1 (Int.toNat t_4) ((0 : Int), ((0 : Int), (0 : Int)))).2.1)) rfl [(0, 0)] hn (by kernel_rfl) (by kernel_rfl) rfl rfl rfl
      · have H_32 := of_f H_28 b_10
        refine V_reg hN hn [] [(17, false)] calls_nil 1 [1, 6, 7, 8, 9, 22] [0] ⟨[(1, .c (.val (.int .i64 at_2))), (6, .c (.h 0)), (7, .c (.imm (.slice (.pair (.int .i64) (.pair (.int .i64) (.int .i64)))) l_1)), (8, .c (.val (.int .i64 (((List.length l_1) : Nat) : Int)))), (9, .c (.val (.int .i64 t_4))), (22, .c (.val (.bool false)))], [(0, .box [.val (.int .i64 (List.getD l_1 (Int.toNat t_4) ((0 : Int), ((0 : Int), (0 : Int)))).1), .val (.int .i64 (List.getD l_1 (Int.toNat t_4) ((0 : Int), ((0 : Int), (0 : Int)))).2.1), .val (.int .i64 (List.getD l_1 (Int.toNat t_4) ((0 : Int), ((0 : Int), (0 : Int)))).2.2)])], 1⟩ [(decide (at_2 ≥ (List.getD l_1 (Int.toNat t_4) ((0 : Int), ((0 : Int), (0 : Int)))).1)) = false] (by kernel_rfl) rfl rfl (ap1 b_10) (by kernel_rfl) (by kernel_rfl) ?_
        have H_34 := Option.some.inj (show some false = some q_27 from H_32); subst H_34
        refine VL_nil ?_
        exact QP_end false rfl [(0, 0)] hn (by kernel_rfl) (by kernel_rfl) rfl rfl rfl
    · intro y_30 hy; subst hy
      skip
      skip
      refine VL_cond (y_30) (by kernel_rfl) ?_ ?_
      · intro b_14; have H_35 := of_t H_29 b_14
        refine V_run hN hn 2 1 [4] [] ⟨[(4, .c (.val (.int .i64 (List.getD l_1 (Int.toNat t_4) ((0 : Int), ((0 : Int), (0 : Int)))).2.2)))], [], 1⟩ [] (by kernel_rfl) rfl rfl ap0 ?_
        have H_37 := Option.some.inj (show some (List.getD l_1 (Int.toNat t_4) ((0 : Int), ((0 : Int), (0 : Int)))).2.2 = some r from H_35); subst H_37
        refine VL_ret ?_
        refine QB_ret ?_
        refine QL_ret ?_
        refine QB_ret ?_
        exact P_to [(4, .c (.val (.int .i64 (List.getD l_1 (Int.toNat t_4) ((0 : Int), ((0 : Int), (0 : Int)))).2.2)))] [] [] hn (by kernel_rfl) (by kernel_rfl) rfl rfl rfl (QF_retS (by kernel_rfl) (by kernel_rfl) rfl)
      · intro b_14; have H_36 := of_f H_29 b_14
        refine V_run hN hn 1 1 [1, 6, 7, 8, 9, 22] [0] ⟨[(1, .c (.val (.int .i64 at_2))), (6, .c (.h 0)), (7, .c (.imm (.slice (.pair (.int .i64) (.pair (.int .i64) (.int .i64)))) l_1)), (8, .c (.val (.int .i64 (((List.length l_1) : Nat) : Int)))), (9, .c (.val (.int .i64 t_4))), (22, .c (.val (.bool y_30)))], [(0, .box [.val (.int .i64 (List.getD l_1 (Int.toNat t_4) ((0 : Int), ((0 : Int), (0 : Int)))).1), .val (.int .i64 (List.getD l_1 (Int.toNat t_4) ((0 : Int), ((0 : Int), (0 : Int)))).2.1), .val (.int .i64 (List.getD l_1 (Int.toNat t_4) ((0 : Int), ((0 : Int), (0 : Int)))).2.2)])], 1⟩ [] (by kernel_rfl) rfl rfl ap0 ?_
        refine VL_nil (QB_end ?_)
        refine V_run hN hn 1 1 [1, 7, 8, 9] [] ⟨[(1, .c (.val (.int .i64 at_2))), (7, .c (.imm (.slice (.pair (.int .i64) (.pair (.int .i64) (.int .i64)))) l_1)), (8, .c (.val (.int .i64 (((List.length l_1) : Nat) : Int)))), (9, .c (.val (.int .i64 (IntKind.wrap .i64 (t_4 + (1 : Int))))))], [], 1⟩ [] (by kernel_rfl) rfl rfl ap0 ?_
        refine VL_nil ?_
        exact V_roundEnd (IntKind.wrap .i64 (t_4 + (1 : Int))) H_36 [] hn (by kernel_rfl) (by kernel_rfl) rfl rfl rfl
  · intro b_7; have H_25 := of_f H_23 b_7
    refine VL_exit ?_
    refine QL_exit ?_
    refine QB_here ?_
    refine V_run hN hn 2 0 [4] [] ⟨[(4, .c (.val (.int .i64 (0 : Int))))], [], 0⟩ [] (by kernel_rfl) rfl rfl ap0 ?_
    have H_38 := Option.some.inj (show some (0 : Int) = some r from H_25); subst H_38
    refine VL_ret ?_
    exact P_to [(4, .c (.val (.int .i64 (0 : Int))))] [] [] hn (by kernel_rfl) (by kernel_rfl) rfl rfl rfl (QF_retS (by kernel_rfl) (by kernel_rfl) rfl)

theorem palinodelaw15_same_rg_spec (K : Nat) (a_1 : (List (Int × (Int × Int)))) (b_2 : (List (Int × (Int × Int)))) (r : Bool) (H : palinodelaw15_same_rr K a_1 b_2 = some r) : Spec Try.prog 12 1 [.c (.h 0), .c (.imm (.slice (.pair (.int .i64) (.pair (.int .i64) (.int .i64)))) b_2)] [(0, .row (.pair (.int .i64) (.pair (.int .i64) (.int .i64))) a_1)] (.c (.val (.bool r))) [(0, .row (.pair (.int .i64) (.pair (.int .i64) (.int .i64))) a_1)] := by
  refine Spec_mk (fn := Try.f12) (c := (Try.f12.body).get!) Try.func12 (by kernel_rfl) rfl ?_
  intro C hN hn
  replace hN : C.N = 26 := hN
  unfold palinodelaw15_same_rr at H
  refine V_run hN hn 5 1 [0, 1, 10] [0] ⟨[(0, .c (.h 0)), (1, .c (.imm (.slice (.pair (.int .i64) (.pair (.int .i64) (.int .i64)))) b_2)), (10, .c (.val (.bool ((((List.length a_1) : Nat) : Int) != (((List.length b_2) : Nat) : Int)))))], [(0, .row (.pair (.int .i64) (.pair (.int .i64) (.int .i64))) a_1)], 1⟩ [] (by kernel_rfl) rfl rfl ap0 ?_
  refine VL_cond (((((List.length a_1) : Nat) : Int) != (((List.length b_2) : Nat) : Int))) (by kernel_rfl) ?_ ?_
  · intro b_4; have H_20 := of_t H b_4
    refine V_run hN hn 2 1 [4] [0] ⟨[(4, .c (.val (.bool false)))], [(0, .row (.pair (.int .i64) (.pair (.int .i64) (.int .i64))) a_1)], 1⟩ [] (by kernel_rfl) rfl rfl ap0 ?_
    have H_22 := Option.some.inj (show some false = some r from H_20); subst H_22
    refine VL_ret ?_
    exact P_to [(4, .c (.val (.bool false)))] [(0, .row (.pair (.int .i64) (.pair (.int .i64) (.int .i64))) a_1)] [] hn (by kernel_rfl) (by kernel_rfl) rfl rfl rfl (QF_retS (by kernel_rfl) (by kernel_rfl) rfl)
  · intro b_4; have H_21 := of_f H b_4
    refine V_run hN hn 4 1 [0, 1, 5] [0] ⟨[(0, .c (.h 0)), (1, .c (.imm (.slice (.pair (.int .i64) (.pair (.int .i64) (.int .i64)))) b_2)), (5, .c (.val (.int .i64 (0 : Int))))], [(0, .row (.pair (.int .i64) (.pair (.int .i64) (.int .i64))) a_1)], 1⟩ [] (by kernel_rfl) rfl rfl ap0 ?_
    refine VL_block ?_
    refine V_to [(0, .c (.h 0)), (1, .c (.imm (.slice (.pair (.int .i64) (.pair (.int .i64) (.int .i64)))) b_2)), (5, .c (.val (.int .i64 (0 : Int))))] [(0, .row (.pair (.int .i64) (.pair (.int .i64) (.int .i64))) a_1)] [] hn (by kernel_rfl) (by kernel_rfl) rfl rfl rfl ?_
    refine VL_loop (X := Int) (fun x => [(0, .c (.h 0)), (1, .c (.imm (.slice (.pair (.int .i64) (.pair (.int .i64) (.int .i64)))) b_2)), (5, .c (.val (.int .i64 x)))]) (fun x => [(0, .row (.pair (.int .i64) (.pair (.int .i64) (.int .i64))) a_1)]) (fun k x => palinodelaw15_same_rr.l0 K a_1 b_2 k x = some r) K (0 : Int) H_21 (fun _ h => no_none h) ?_
    intro k_8 i_7 H_23
    have H_24 : palinodelaw15_same_rr.l0 K a_1 b_2 (k_8 + 1) i_7 = some r := H_23
    rw [palinodelaw15_same_rr.l0] at H_24
    refine V_run hN hn 3 1 [0, 1, 5, 14] [0] ⟨[(0, .c (.h 0)), (1, .c (.imm (.slice (.pair (.int .i64) (.pair (.int .i64) (.int .i64)))) b_2)), (5, .c (.val (.int .i64 i_7))), (14, .c (.val (.bool (decide (i_7 < (((List.length a_1) : Nat) : Int))))))], [(0, .row (.pair (.int .i64) (.pair (.int .i64) (.int .i64))) a_1)], 1⟩ [] (by kernel_rfl) rfl rfl ap0 ?_
    refine VL_cond ((decide (i_7 < (((List.length a_1) : Nat) : Int)))) (by kernel_rfl) ?_ ?_
    · intro b_10; have H_25 := of_t H_24 b_10
      refine V_run hN hn 2 1 [0, 1, 5, 14] [0] ⟨[(0, .c (.h 0)), (1, .c (.imm (.slice (.pair (.int .i64) (.pair (.int .i64) (.int .i64)))) b_2)), (5, .c (.val (.int .i64 i_7))), (14, .c (.val (.bool (decide (i_7 < (((List.length a_1) : Nat) : Int))))))], [(0, .row (.pair (.int .i64) (.pair (.int .i64) (.int .i64))) a_1)], 1⟩ [] (by kernel_rfl) rfl rfl ap0 ?_
      refine VL_block ?_
      refine V_run hN hn 1 1 [0, 1, 5, 14] [0] ⟨[(0, .c (.h 0)), (1, .c (.imm (.slice (.pair (.int .i64) (.pair (.int .i64) (.int .i64)))) b_2)), (5, .c (.val (.int .i64 i_7))), (14, .c (.val (.bool (decide (i_7 < (((List.length a_1) : Nat) : Int))))))], [(0, .row (.pair (.int .i64) (.pair (.int .i64) (.int .i64))) a_1)], 1⟩ [] (by kernel_rfl) rfl rfl ap0 ?_
      obtain ⟨c_13, H_27⟩ := of_if H_25
      refine V_draw hN hn (by kernel_rfl) [] [] calls_nil 1 [0, 1, 5, 25] [0] ⟨[(0, .c (.h 0)), (1, .c (.imm (.slice (.pair (.int .i64) (.pair (.int .i64) (.int .i64)))) b_2)), (5, .c (.val (.int .i64 i_7))), (25, .c (.val (.bool (!(((List.getD a_1 (Int.toNat i_7) ((0 : Int), ((0 : Int), (0 : Int)))).1 == (List.getD b_2 (Int.toNat i_7) ((0 : Int), ((0 : Int), (0 : Int)))).1) && (((List.getD a_1 (Int.toNat i_7) ((0 : Int), ((0 : Int), (0 : Int)))).2.1 == (List.getD b_2 (Int.toNat i_7) ((0 : Int), ((0 : Int), (0 : Int)))).2.1) && ((List.getD a_1 (Int.toNat i_7) ((0 : Int), ((0 : Int), (0 : Int)))).2.2 == (List.getD b_2 (Int.toNat i_7) ((0 : Int), ((0 : Int), (0 : Int)))).2.2)))))))], [(0, .row (.pair (.int .i64) (.pair (.int .i64) (.int .i64))) a_1)], 1⟩ [0 ≤ i_7, i_7 < (((List.length a_1) : Nat) : Int), 0 ≤ i_7, i_7 < (((List.length b_2) : Nat) : Int)] (by kernel_rfl) rfl rfl (ap2 c_13.1 (ap2 c_13.2.1 (ap2 c_13.1 (ap1 c_13.2.2)))) (by kernel_rfl) (by kernel_rfl) ?_
      refine VL_cond ((!(((List.getD a_1 (Int.toNat i_7) ((0 : Int), ((0 : Int), (0 : Int)))).1 == (List.getD b_2 (Int.toNat i_7) ((0 : Int), ((0 : Int), (0 : Int)))).1) && (((List.getD a_1 (Int.toNat i_7) ((0 : Int), ((0 : Int), (0 : Int)))).2.1 == (List.getD b_2 (Int.toNat i_7) ((0 : Int), ((0 : Int), (0 : Int)))).2.1) && ((List.getD a_1 (Int.toNat i_7) ((0 : Int), ((0 : Int), (0 : Int)))).2.2 == (List.getD b_2 (Int.toNat i_7) ((0 : Int), ((0 : Int), (0 : Int)))).2.2))))) (by kernel_rfl) ?_ ?_
      · intro b_14; have H_28 := of_t H_27 b_14
        refine V_run hN hn 2 1 [4] [0] ⟨[(4, .c (.val (.bool false)))], [(0, .row (.pair (.int .i64) (.pair (.int .i64) (.int .i64))) a_1)], 1⟩ [] (by kernel_rfl) rfl rfl ap0 ?_
        have H_30 := Option.some.inj (show some false = some r from H_28); subst H_30
        refine VL_ret ?_
        refine QB_ret ?_
        refine QL_ret ?_
        refine QB_ret ?_
        exact P_to [(4, .c (.val (.bool false)))] [(0, .row (.pair (.int .i64) (.pair (.int .i64) (.int .i64))) a_1)] [] hn (by kernel_rfl) (by kernel_rfl) rfl rfl rfl (QF_retS (by kernel_rfl) (by kernel_rfl) rfl)
      · intro b_14; have H_29 := of_f H_27 b_14
        refine V_run hN hn 1 1 [0, 1, 5, 25] [0] ⟨[(0, .c (.h 0)), (1, .c (.imm (.slice (.pair (.int .i64) (.pair (.int .i64) (.int .i64)))) b_2)), (5, .c (.val (.int .i64 i_7))), (25, .c (.val (.bool (!(((List.getD a_1 (Int.toNat i_7) ((0 : Int), ((0 : Int), (0 : Int)))).1 == (List.getD b_2 (Int.toNat i_7) ((0 : Int), ((0 : Int), (0 : Int)))).1) && (((List.getD a_1 (Int.toNat i_7) ((0 : Int), ((0 : Int), (0 : Int)))).2.1 == (List.getD b_2 (Int.toNat i_7) ((0 : Int), ((0 : Int), (0 : Int)))).2.1) && ((List.getD a_1 (Int.toNat i_7) ((0 : Int), ((0 : Int), (0 : Int)))).2.2 == (List.getD b_2 (Int.toNat i_7) ((0 : Int), ((0 : Int), (0 : Int)))).2.2)))))))], [(0, .row (.pair (.int .i64) (.pair (.int .i64) (.int .i64))) a_1)], 1⟩ [] (by kernel_rfl) rfl rfl ap0 ?_
        refine VL_nil (QB_end ?_)
        refine V_run hN hn 1 1 [0, 1, 5] [0] ⟨[(0, .c (.h 0)), (1, .c (.imm (.slice (.pair (.int .i64) (.pair (.int .i64) (.int .i64)))) b_2)), (5, .c (.val (.int .i64 (IntKind.wrap .i64 (i_7 + (1 : Int))))))], [(0, .row (.pair (.int .i64) (.pair (.int .i64) (.int .i64))) a_1)], 1⟩ [] (by kernel_rfl) rfl rfl ap0 ?_
        refine VL_nil ?_
        exact V_roundEnd (IntKind.wrap .i64 (i_7 + (1 : Int))) H_29 [] hn (by kernel_rfl) (by kernel_rfl) rfl rfl rfl
    · intro b_10; have H_26 := of_f H_24 b_10
      refine VL_exit ?_
      refine QL_exit ?_
      refine QB_here ?_
      refine V_run hN hn 2 1 [4] [0] ⟨[(4, .c (.val (.bool true)))], [(0, .row (.pair (.int .i64) (.pair (.int .i64) (.int .i64))) a_1)], 1⟩ [] (by kernel_rfl) rfl rfl ap0 ?_
      have H_31 := Option.some.inj (show some true = some r from H_26); subst H_31
      refine VL_ret ?_
      exact P_to [(4, .c (.val (.bool true)))] [(0, .row (.pair (.int .i64) (.pair (.int .i64) (.int .i64))) a_1)] [] hn (by kernel_rfl) (by kernel_rfl) rfl rfl rfl (QF_retS (by kernel_rfl) (by kernel_rfl) rfl)

theorem palinodelaw15_SpansIn_spec (K : Nat) (l_1 : (List (Int × (Int × Int)))) (from_2 : Int) (to_3 : Int) (r : Bool) (H : palinodelaw15_SpansIn K l_1 from_2 to_3 = some r) : Spec Try.prog 4 0 [.c (.imm (.slice (.pair (.int .i64) (.pair (.int .i64) (.int .i64)))) l_1), .c (.val (.int .u8 from_2)), .c (.val (.int .u8 to_3))] [] (.c (.val (.bool r))) [] := by
  refine Spec_mk (fn := Try.f4) (c := (Try.f4.body).get!) Try.func4 (by kernel_rfl) rfl ?_
  intro C hN hn
  replace hN : C.N = 64 := hN
  unfold palinodelaw15_SpansIn at H
  refine V_run hN hn 4 0 [0, 1, 2] [] ⟨[(0, .c (.imm (.slice (.pair (.int .i64) (.pair (.int .i64) (.int .i64)))) l_1)), (1, .c (.val (.int .u8 from_2))), (2, .c (.val (.int .u8 to_3)))], [], 0⟩ [] (by kernel_rfl) rfl rfl ap0 ?_
  obtain ⟨r_5, h_6, H_66⟩ := of_bind H
  refine V_reg hN hn [(0, ⟨9, 0, [], [], .c (.val (.bool r_5)), [], [], 0⟩)] [] (calls_cons (palinodelaw15_known_spec K  r_5 h_6) (by kernel_rfl) calls_nil) 0 [0, 1, 2, 12] [] ⟨[(0, .c (.imm (.slice (.pair (.int .i64) (.pair (.int .i64) (.int .i64)))) l_1)), (1, .c (.val (.int .u8 from_2))), (2, .c (.val (.int .u8 to_3))), (12, .c (.val (.bool (!r_5))))], [], 0⟩ [] (by kernel_rfl) rfl rfl ap0 (by kernel_rfl) (by kernel_rfl) ?_
  refine VL_cond ((!r_5)) (by kernel_rfl) ?_ ?_
  · intro b_8; have H_67 := of_t H_66 b_8
    refine V_run hN hn 2 0 [6] [] ⟨[(6, .c (.val (.bool false)))], [], 0⟩ [] (by kernel_rfl) rfl rfl ap0 ?_
    have H_69 := Option.some.inj (show some false = some r from H_67); subst H_69
    refine VL_ret ?_
    exact P_to [(6, .c (.val (.bool false)))] [] [] hn (by kernel_rfl) (by kernel_rfl) rfl rfl rfl (QF_retS (by kernel_rfl) (by kernel_rfl) rfl)
  · intro b_8; have H_68 := of_f H_66 b_8
    refine V_run hN hn 3 0 [0, 1, 2, 12] [] ⟨[(0, .c (.imm (.slice (.pair (.int .i64) (.pair (.int .i64) (.int .i64)))) l_1)), (1, .c (.val (.int .u8 from_2))), (2, .c (.val (.int .u8 to_3))), (12, .c (.val (.bool (!r_5))))], [], 0⟩ [] (by kernel_rfl) rfl rfl ap0 ?_
    obtain ⟨q_70, H_71, H_72⟩ := of_bind H_68
    refine V_cut (Y := Bool) (R := Bool) q_70 (fun y => y) (fun y => [(0, .c (.imm (.slice (.pair (.int .i64) (.pair (.int .i64) (.int .i64)))) l_1)), (1, .c (.val (.int .u8 from_2))), (2, .c (.val (.int .u8 to_3))), (20, .c (.val (.bool y)))]) (fun y => []) ?_ ?_
    · skip
      rcases Bool.eq_false_or_eq_true ((decide ((((List.length l_1) : Nat) : Int) > (30 : Int)))) with b_11 | b_11
      · have H_74 := of_t H_71 b_11
        refine V_reg hN hn [] [(16, true)] calls_nil 0 [0, 1, 2, 20] [] ⟨[(0, .c (.imm (.slice (.pair (.int .i64) (.pair (.int .i64) (.int .i64)))) l_1)), (1, .c (.val (.int .u8 from_2))), (2, .c (.val (.int .u8 to_3))), (20, .c (.val (.bool true)))], [], 0⟩ [(decide ((((List.length l_1) : Nat) : Int) > (30 : Int))) = true] (by kernel_rfl) rfl rfl (ap1 b_11) (by kernel_rfl) (by kernel_rfl) ?_
        have H_76 := Option.some.inj (show some true = some q_70 from H_74); subst H_76
        refine VL_nil ?_
        exact QP_end true rfl [] hn (by kernel_rfl) (by kernel_rfl) rfl rfl rfl
      · have H_75 := of_f H_71 b_11
        obtain ⟨r_13, h_14, H_77⟩ := of_bind H_75
        refine V_reg hN hn [(5, ⟨13, 0, [.c (.imm (.slice (.pair (.int .i64) (.pair (.int .i64) (.int .i64)))) l_1), .c (.val (.int .i64 (200 : Int)))], [], .c (.val (.bool r_13)), [], [], 0⟩)] [(16, false)] (calls_cons (spans_Is_spec K l_1 (200 : Int) r_13 h_14) (by kernel_rfl) calls_nil) 0 [0, 1, 2, 20] [] ⟨[(0, .c (.imm (.slice (.pair (.int .i64) (.pair (.int .i64) (.int .i64)))) l_1)), (1, .c (.val (.int .u8 from_2))), (2, .c (.val (.int .u8 to_3))), (20, .c (.val (.bool (!r_13))))], [], 0⟩ [(decide ((((List.length l_1) : Nat) : Int) > (30 : Int))) = false] (by kernel_rfl) rfl rfl (ap1 b_11) (by kernel_rfl) (by kernel_rfl) ?_
        have H_78 := Option.some.inj (show some (!r_13) = some q_70 from H_77); subst H_78
        refine VL_nil ?_
        exact QP_end (!r_13) rfl [] hn (by kernel_rfl) (by kernel_rfl) rfl rfl rfl
    · intro y_73 hy; subst hy
      skip
      skip
      refine VL_cond (y_73) (by kernel_rfl) ?_ ?_
      · intro b_17; have H_79 := of_t H_72 b_17
        refine V_run hN hn 2 0 [6] [] ⟨[(6, .c (.val (.bool true)))], [], 0⟩ [] (by kernel_rfl) rfl rfl ap0 ?_
        have H_81 := Option.some.inj (show some true = some r from H_79); subst H_81
        refine VL_ret ?_
        exact P_to [(6, .c (.val (.bool true)))] [] [] hn (by kernel_rfl) (by kernel_rfl) rfl rfl rfl (QF_retS (by kernel_rfl) (by kernel_rfl) rfl)
      · intro b_17; have H_80 := of_f H_72 b_17
        refine V_run hN hn 4 0 [0, 7] [0] ⟨[(0, .c (.imm (.slice (.pair (.int .i64) (.pair (.int .i64) (.int .i64)))) l_1)), (7, .c (.h 0))], [(0, .box [.val (.int .i64 (IntKind.wrap .i64 (mn2 from_2 to_3))), .val (.int .i64 (IntKind.wrap .i64 (mx2 from_2 to_3)))])], 1⟩ [] (by kernel_rfl) rfl rfl ap0 ?_
        obtain ⟨r_20, h_21, H_82⟩ := of_bind H_80
        refine V_reg hN hn [(2, ⟨14, 0, [.c (.imm (.slice (.pair (.int .i64) (.pair (.int .i64) (.int .i64)))) l_1), .agg [.val (.int .i64 (IntKind.wrap .i64 (mn2 from_2 to_3))), .val (.int .i64 (IntKind.wrap .i64 (mx2 from_2 to_3)))]], [], .c (.h 5), [(5, .row (.pair (.int .i64) (.pair (.int .i64) (.int .i64))) r_20)], [(5, 1)], 2⟩)] [] (calls_cons (spans_In_spec K l_1 (IntKind.wrap .i64 (mn2 from_2 to_3)) (IntKind.wrap .i64 (mx2 from_2 to_3)) r_20 h_21) (by kernel_rfl) calls_nil) 1 [0, 7, 8] [0, 1] ⟨[(0, .c (.imm (.slice (.pair (.int .i64) (.pair (.int .i64) (.int .i64)))) l_1)), (7, .c (.h 0)), (8, .c (.h 1))], [(0, .box [.val (.int .i64 (IntKind.wrap .i64 (mn2 from_2 to_3))), .val (.int .i64 (IntKind.wrap .i64 (mx2 from_2 to_3)))]), (1, .row (.pair (.int .i64) (.pair (.int .i64) (.int .i64))) r_20)], 2⟩ [] (by kernel_rfl) rfl rfl ap0 (by kernel_rfl) (by kernel_rfl) ?_
        refine V_run hN hn 3 2 [0, 7, 8, 9] [0, 1] ⟨[(0, .c (.imm (.slice (.pair (.int .i64) (.pair (.int .i64) (.int .i64)))) l_1)), (7, .c (.h 0)), (8, .c (.h 1)), (9, .c (.val (.int .i64 (0 : Int))))], [(0, .box [.val (.int .i64 (IntKind.wrap .i64 (mn2 from_2 to_3))), .val (.int .i64 (IntKind.wrap .i64 (mx2 from_2 to_3)))]), (1, .row (.pair (.int .i64) (.pair (.int .i64) (.int .i64))) r_20)], 2⟩ [] (by kernel_rfl) rfl rfl ap0 ?_
        obtain ⟨q_83, H_84, H_85⟩ := of_bind H_82
        refine V_cut (Y := Unit) (R := (Bool ⊕ Unit)) q_83 (fun y => (Sum.inr y)) (fun y => [(0, .c (.imm (.slice (.pair (.int .i64) (.pair (.int .i64) (.int .i64)))) l_1)), (8, .c (.h 1))]) (fun y => [(1, .row (.pair (.int .i64) (.pair (.int .i64) (.int .i64))) r_20)]) ?_ ?_
        · skip
          refine VL_block ?_
          refine V_to [(0, .c (.imm (.slice (.pair (.int .i64) (.pair (.int .i64) (.int .i64)))) l_1)), (7, .c (.h 0)), (8, .c (.h 1)), (9, .c (.val (.int .i64 (0 : Int))))] [(0, .box [.val (.int .i64 (IntKind.wrap .i64 (mn2 from_2 to_3))), .val (.int .i64 (IntKind.wrap .i64 (mx2 from_2 to_3)))]), (1, .row (.pair (.int .i64) (.pair (.int .i64) (.int .i64))) r_20)] [(0, 0), (1, 1)] hn (by kernel_rfl) (by kernel_rfl) rfl rfl rfl ?_
          refine VL_loop (X := Int) (fun x => [(0, .c (.imm (.slice (.pair (.int .i64) (.pair (.int .i64) (.int .i64)))) l_1)), (7, .c (.h 0)), (8, .c (.h 1)), (9, .c (.val (.int .i64 x)))]) (fun x => [(0, .box [.val (.int .i64 (IntKind.wrap .i64 (mn2 from_2 to_3))), .val (.int .i64 (IntKind.wrap .i64 (mx2 from_2 to_3)))]), (1, .row (.pair (.int .i64) (.pair (.int .i64) (.int .i64))) r_20)]) (fun k x => palinodelaw15_SpansIn.l0 K from_2 to_3 l_1 r_20 k x = some q_83) K (0 : Int) H_84 (fun _ h => no_none h) ?_
          intro k_25 k_24 H_87
          have H_88 : palinodelaw15_SpansIn.l0 K from_2 to_3 l_1 r_20 (k_25 + 1) k_24 = some q_83 := H_87
          rw [palinodelaw15_SpansIn.l0] at H_88
          refine V_run hN hn 3 2 [0, 7, 8, 9, 34] [0, 1] ⟨[(0, .c (.imm (.slice (.pair (.int .i64) (.pair (.int .i64) (.int .i64)))) l_1)), (7, .c (.h 0)), (8, .c (.h 1)), (9, .c (.val (.int .i64 k_24))), (34, .c (.val (.bool (decide (k_24 < (200 : Int))))))], [(0, .box [.val (.int .i64 (IntKind.wrap .i64 (mn2 from_2 to_3))), .val (.int .i64 (IntKind.wrap .i64 (mx2 from_2 to_3)))]), (1, .row (.pair (.int .i64) (.pair (.int .i64) (.int .i64))) r_20)], 2⟩ [] (by kernel_rfl) rfl rfl ap0 ?_
          refine VL_cond ((decide (k_24 < (200 : Int)))) (by kernel_rfl) ?_ ?_
          · intro b_27; have H_89 := of_t H_88 b_27
            refine V_run hN hn 2 2 [0, 7, 8, 9, 34] [0, 1] ⟨[(0, .c (.imm (.slice (.pair (.int .i64) (.pair (.int .i64) (.int .i64)))) l_1)), (7, .c (.h 0)), (8, .c (.h 1)), (9, .c (.val (.int .i64 k_24))), (34, .c (.val (.bool (decide (k_24 < (200 : Int))))))], [(0, .box [.val (.int .i64 (IntKind.wrap .i64 (mn2 from_2 to_3))), .val (.int .i64 (IntKind.wrap .i64 (mx2 from_2 to_3)))]), (1, .row (.pair (.int .i64) (.pair (.int .i64) (.int .i64))) r_20)], 2⟩ [] (by kernel_rfl) rfl rfl ap0 ?_
            refine VL_block ?_
            refine V_run hN hn 4 2 [0, 7, 8, 9, 10] [0, 1] ⟨[(0, .c (.imm (.slice (.pair (.int .i64) (.pair (.int .i64) (.int .i64)))) l_1)), (7, .c (.h 0)), (8, .c (.h 1)), (9, .c (.val (.int .i64 k_24))), (10, .c (.val (.int .i64 (0 : Int))))], [(0, .box [.val (.int .i64 (IntKind.wrap .i64 (mn2 from_2 to_3))), .val (.int .i64 (IntKind.wrap .i64 (mx2 from_2 to_3)))]), (1, .row (.pair (.int .i64) (.pair (.int .i64) (.int .i64))) r_20)], 2⟩ [] (by kernel_rfl) rfl rfl ap0 ?_
            obtain ⟨q_91, H_92, H_93⟩ := of_bind H_89
            refine V_cut (Y := Bool) (R := Bool) q_91 (fun y => y) (fun y => [(0, .c (.imm (.slice (.pair (.int .i64) (.pair (.int .i64) (.int .i64)))) l_1)), (7, .c (.h 0)), (8, .c (.h 1)), (9, .c (.val (.int .i64 k_24))), (10, .c (.val (.int .i64 (0 : Int)))), (46, .c (.val (.bool y)))]) (fun y => [(0, .box [.val (.int .i64 (IntKind.wrap .i64 (mn2 from_2 to_3))), .val (.int .i64 (IntKind.wrap .i64 (mx2 from_2 to_3)))]), (1, .row (.pair (.int .i64) (.pair (.int .i64) (.int .i64))) r_20)]) ?_ ?_
            · skip
              rcases Bool.eq_false_or_eq_true ((decide (k_24 ≥ (IntKind.wrap .i64 (mn2 from_2 to_3))))) with b_30 | b_30
              · have H_95 := of_t H_92 b_30
                refine V_reg hN hn [] [(41, true)] calls_nil 2 [0, 7, 8, 9, 10, 46] [0, 1] ⟨[(0, .c (.imm (.slice (.pair (.int .i64) (.pair (.int .i64) (.int .i64)))) l_1)), (7, .c (.h 0)), (8, .c (.h 1)), (9, .c (.val (.int .i64 k_24))), (10, .c (.val (.int .i64 (0 : Int)))), (46, .c (.val (.bool (decide (k_24 < (IntKind.wrap .i64 (mx2 from_2 to_3)))))))], [(0, .box [.val (.int .i64 (IntKind.wrap .i64 (mn2 from_2 to_3))), .val (.int .i64 (IntKind.wrap .i64 (mx2 from_2 to_3)))]), (1, .row (.pair (.int .i64) (.pair (.int .i64) (.int .i64))) r_20)], 2⟩ [(decide (k_24 ≥ (IntKind.wrap .i64 (mn2 from_2 to_3)))) = true] (by kernel_rfl) rfl rfl (ap1 b_30) (by kernel_rfl) (by kernel_rfl) ?_
                have H_97 := Option.some.inj (show some (decide (k_24 < (IntKind.wrap .i64 (mx2 from_2 to_3)))) = some q_91 from H_95); subst H_97
                refine VL_nil ?_
                exact QP_end (decide (k_24 < (IntKind.wrap .i64 (mx2 from_2 to_3)))) rfl [(0, 0), (1, 1)] hn (by kernel_rfl) (by kernel_rfl) rfl rfl rfl
              · have H_96 := of_f H_92 b_30
                refine V_reg hN hn [] [(41, false)] calls_nil 2 [0, 7, 8, 9, 10, 46] [0, 1] ⟨[(0, .c (.imm (.slice (.pair (.int .i64) (.pair (.int .i64) (.int .i64)))) l_1)), (7, .c (.h 0)), (8, .c (.h 1)), (9, .c (.val (.int .i64 k_24))), (10, .c (.val (.int .i64 (0 : Int)))), (46, .c (.val (.bool false)))], [(0, .box [.val (.int .i64 (IntKind.wrap .i64 (mn2 from_2 to_3))), .val (.int .i64 (IntKind.wrap .i64 (mx2 from_2 to_3)))]), (1, .row (.pair (.int .i64) (.pair (.int .i64) (.int .i64))) r_20)], 2⟩ [(decide (k_24 ≥ (IntKind.wrap .i64 (mn2 from_2 to_3)))) = false] (by kernel_rfl) rfl rfl (ap1 b_30) (by kernel_rfl) (by kernel_rfl) ?_
                have H_98 := Option.some.inj (show some false = some q_91 from H_96); subst H_98
                refine VL_nil ?_
                exact QP_end false rfl [(0, 0), (1, 1)] hn (by kernel_rfl) (by kernel_rfl) rfl rfl rfl
            · intro y_94 hy; subst hy
              skip
              skip
              obtain ⟨q_99, H_100, H_101⟩ := of_bind H_93
              refine V_cut (Y := Int) (R := Int) q_99 (fun y => y) (fun y => [(0, .c (.imm (.slice (.pair (.int .i64) (.pair (.int .i64) (.int .i64)))) l_1)), (7, .c (.h 0)), (8, .c (.h 1)), (9, .c (.val (.int .i64 k_24))), (10, .c (.val (.int .i64 y)))]) (fun y => [(0, .box [.val (.int .i64 (IntKind.wrap .i64 (mn2 from_2 to_3))), .val (.int .i64 (IntKind.wrap .i64 (mx2 from_2 to_3)))]), (1, .row (.pair (.int .i64) (.pair (.int .i64) (.int .i64))) r_20)]) ?_ ?_
              · skip
                refine VL_cond (y_94) (by kernel_rfl) ?_ ?_
                · intro b_34; have H_103 := of_t H_100 b_34
                  obtain ⟨r_35, h_36, H_105⟩ := of_bind H_103
                  refine V_reg hN hn [(2, ⟨11, 0, [.c (.imm (.slice (.pair (.int .i64) (.pair (.int .i64) (.int .i64)))) l_1), .c (.val (.int .i64 k_24))], [], .c (.val (.int .i64 r_35)), [], [], 2⟩)] [] (calls_cons (spans_At_spec K l_1 k_24 r_35 h_36) (by kernel_rfl) calls_nil) 2 [0, 7, 8, 9, 10] [0, 1] ⟨[(0, .c (.imm (.slice (.pair (.int .i64) (.pair (.int .i64) (.int .i64)))) l_1)), (7, .c (.h 0)), (8, .c (.h 1)), (9, .c (.val (.int .i64 k_24))), (10, .c (.val (.int .i64 r_35)))], [(0, .box [.val (.int .i64 (IntKind.wrap .i64 (mn2 from_2 to_3))), .val (.int .i64 (IntKind.wrap .i64 (mx2 from_2 to_3)))]), (1, .row (.pair (.int .i64) (.pair (.int .i64) (.int .i64))) r_20)], 2⟩ [] (by kernel_rfl) rfl rfl ap0 (by kernel_rfl) (by kernel_rfl) ?_
                  have H_106 := Option.some.inj (show some r_35 = some q_99 from H_105); subst H_106
                  refine VL_nil ?_
                  exact QP_end r_35 rfl [(0, 0), (1, 1)] hn (by kernel_rfl) (by kernel_rfl) rfl rfl rfl
                · intro b_34; have H_104 := of_f H_100 b_34
                  refine V_run hN hn 1 2 [0, 7, 8, 9, 10, 46] [0, 1] ⟨[(0, .c (.imm (.slice (.pair (.int .i64) (.pair (.int .i64) (.int .i64)))) l_1)), (7, .c (.h 0)), (8, .c (.h 1)), (9, .c (.val (.int .i64 k_24))), (10, .c (.val (.int .i64 (0 : Int)))), (46, .c (.val (.bool y_94)))], [(0, .box [.val (.int .i64 (IntKind.wrap .i64 (mn2 from_2 to_3))), .val (.int .i64 (IntKind.wrap .i64 (mx2 from_2 to_3)))]), (1, .row (.pair (.int .i64) (.pair (.int .i64) (.int .i64))) r_20)], 2⟩ [] (by kernel_rfl) rfl rfl ap0 ?_
                  have H_107 := Option.some.inj (show some (0 : Int) = some q_99 from H_104); subst H_107
                  refine VL_nil ?_
                  exact QP_end (0 : Int) rfl [(0, 0), (1, 1)] hn (by kernel_rfl) (by kernel_rfl) rfl rfl rfl
              · intro y_102 hy; subst hy
                skip
                skip
                refine V_run hN hn 1 2 [0, 7, 8, 9, 10] [0, 1] ⟨[(0, .c (.imm (.slice (.pair (.int .i64) (.pair (.int .i64) (.int .i64)))) l_1)), (7, .c (.h 0)), (8, .c (.h 1)), (9, .c (.val (.int .i64 k_24))), (10, .c (.val (.int .i64 y_102)))], [(0, .box [.val (.int .i64 (IntKind.wrap .i64 (mn2 from_2 to_3))), .val (.int .i64 (IntKind.wrap .i64 (mx2 from_2 to_3)))]), (1, .row (.pair (.int .i64) (.pair (.int .i64) (.int .i64))) r_20)], 2⟩ [] (by kernel_rfl) rfl rfl ap0 ?_
                obtain ⟨r_41, h_42, H_108⟩ := of_bind H_101
                refine V_reg hN hn [(2, ⟨11, 1, [.c (.h 0), .c (.val (.int .i64 k_24))], [(0, .row (.pair (.int .i64) (.pair (.int .i64) (.int .i64))) r_20)], .c (.val (.int .i64 r_41)), [(0, .row (.pair (.int .i64) (.pair (.int .i64) (.int .i64))) r_20)], [(0, 1)], 2⟩)] [] (calls_cons (spans_At_rg_spec K r_20 k_24 r_41 h_42) (by kernel_rfl) calls_nil) 2 [0, 7, 8, 9, 54] [0, 1] ⟨[(0, .c (.imm (.slice (.pair (.int .i64) (.pair (.int .i64) (.int .i64)))) l_1)), (7, .c (.h 0)), (8, .c (.h 1)), (9, .c (.val (.int .i64 k_24))), (54, .c (.val (.bool (r_41 != y_102))))], [(0, .box [.val (.int .i64 (IntKind.wrap .i64 (mn2 from_2 to_3))), .val (.int .i64 (IntKind.wrap .i64 (mx2 from_2 to_3)))]), (1, .row (.pair (.int .i64) (.pair (.int .i64) (.int .i64))) r_20)], 2⟩ [] (by kernel_rfl) rfl rfl ap0 (by kernel_rfl) (by kernel_rfl) ?_
                refine VL_cond ((r_41 != y_102)) (by kernel_rfl) ?_ ?_
                · intro b_44; have H_109 := of_t H_108 b_44
                  refine V_run hN hn 2 2 [6] [] ⟨[(6, .c (.val (.bool false)))], [], 2⟩ [] (by kernel_rfl) rfl rfl ap0 ?_
                  have H_111 := Option.some.inj (show some (Sum.inl false) = some q_83 from H_109); subst H_111
                  have H_112 := Option.some.inj (show some false = some r from H_85); subst H_112
                  refine VL_ret ?_
                  refine QB_ret ?_
                  refine QL_ret ?_
                  refine QB_ret ?_
                  refine QP_ret ?_
                  exact P_to [(6, .c (.val (.bool false)))] [] [] hn (by kernel_rfl) (by kernel_rfl) rfl rfl rfl (QF_retS (by kernel_rfl) (by kernel_rfl) rfl)
                · intro b_44; have H_110 := of_f H_108 b_44
                  refine V_run hN hn 1 2 [0, 7, 8, 9, 54] [0, 1] ⟨[(0, .c (.imm (.slice (.pair (.int .i64) (.pair (.int .i64) (.int .i64)))) l_1)), (7, .c (.h 0)), (8, .c (.h 1)), (9, .c (.val (.int .i64 k_24))), (54, .c (.val (.bool (r_41 != y_102))))], [(0, .box [.val (.int .i64 (IntKind.wrap .i64 (mn2 from_2 to_3))), .val (.int .i64 (IntKind.wrap .i64 (mx2 from_2 to_3)))]), (1, .row (.pair (.int .i64) (.pair (.int .i64) (.int .i64))) r_20)], 2⟩ [] (by kernel_rfl) rfl rfl ap0 ?_
                  refine VL_nil (QB_end ?_)
                  refine V_run hN hn 1 2 [0, 7, 8, 9] [0, 1] ⟨[(0, .c (.imm (.slice (.pair (.int .i64) (.pair (.int .i64) (.int .i64)))) l_1)), (7, .c (.h 0)), (8, .c (.h 1)), (9, .c (.val (.int .i64 (IntKind.wrap .i64 (k_24 + (1 : Int))))))], [(0, .box [.val (.int .i64 (IntKind.wrap .i64 (mn2 from_2 to_3))), .val (.int .i64 (IntKind.wrap .i64 (mx2 from_2 to_3)))]), (1, .row (.pair (.int .i64) (.pair (.int .i64) (.int .i64))) r_20)], 2⟩ [] (by kernel_rfl) rfl rfl ap0 ?_
                  refine VL_nil ?_
                  exact V_roundEnd (IntKind.wrap .i64 (k_24 + (1 : Int))) H_110 [(0, 0), (1, 1)] hn (by kernel_rfl) (by kernel_rfl) rfl rfl rfl
          · intro b_27; have H_90 := of_f H_88 b_27
            refine VL_exit ?_
            refine QL_exit ?_
            refine QB_here ?_
            have H_113 := Option.some.inj (show some (Sum.inr ()) = some q_83 from H_90); subst H_113
            refine VL_nil ?_
            exact QP_end () rfl [(1, 1)] hn (by kernel_rfl) (by kernel_rfl) rfl rfl rfl
        · intro y_86 hy; subst hy
          skip
          refine V_run hN hn 1 2 [0, 8] [1] ⟨[(0, .c (.imm (.slice (.pair (.int .i64) (.pair (.int .i64) (.int .i64)))) l_1)), (8, .c (.h 1))], [(1, .row (.pair (.int .i64) (.pair (.int .i64) (.int .i64))) r_20)], 2⟩ [] (by kernel_rfl) rfl rfl ap0 ?_
          obtain ⟨r_49, h_50, H_114⟩ := of_bind H_85
          obtain ⟨r_51, h_52, H_115⟩ := of_bind H_114
          rcases Bool.eq_false_or_eq_true (r_51) with b_53 | b_53
          · have H_116 := of_t H_115 b_53
            obtain ⟨r_54, h_55, H_118⟩ := of_bind H_116
            refine V_reg hN hn [(2, ⟨14, 0, [.c (.imm (.slice (.pair (.int .i64) (.pair (.int .i64) (.int .i64)))) l_1), .agg [.val (.int .i64 (0 : Int)), .val (.int .i64 (200 : Int))]], [], .c (.h 5), [(5, .row (.pair (.int .i64) (.pair (.int .i64) (.int .i64))) r_49)], [(5, 2)], 3⟩), (4, ⟨12, 1, [.c (.h 0), .c (.imm (.slice (.pair (.int .i64) (.pair (.int .i64) (.int .i64)))) l_1)], [(0, .row (.pair (.int .i64) (.pair (.int .i64) (.int .i64))) r_49)], .c (.val (.bool r_51)), [(0, .row (.pair (.int .i64) (.pair (.int .i64) (.int .i64))) r_49)], [(0, 2)], 3⟩), (7, ⟨13, 1, [.c (.h 0), .c (.val (.int .i64 (200 : Int)))], [(0, .row (.pair (.int .i64) (.pair (.int .i64) (.int .i64))) r_20)], .c (.val (.bool r_54)), [(0, .row (.pair (.int .i64) (.pair (.int .i64) (.int .i64))) r_20)], [(0, 1)], 3⟩)] [(60, true)] (calls_cons (spans_In_spec K l_1 (0 : Int) (200 : Int) r_49 h_50) (by kernel_rfl) (calls_cons (palinodelaw15_same_rg_spec K r_49 l_1 r_51 h_52) (by kernel_rfl) (calls_cons (spans_Is_rg_spec K r_20 (200 : Int) r_54 h_55) (by kernel_rfl) calls_nil))) 2 [6] [] ⟨[(6, .c (.val (.bool r_54)))], [], 3⟩ [r_51 = true] (by kernel_rfl) rfl rfl (ap1 b_53) (by kernel_rfl) (by kernel_rfl) ?_
            have H_119 := Option.some.inj (show some r_54 = some r from H_118); subst H_119
            refine VL_ret ?_
            exact P_to [(6, .c (.val (.bool r_54)))] [] [] hn (by kernel_rfl) (by kernel_rfl) rfl rfl rfl (QF_retS (by kernel_rfl) (by kernel_rfl) rfl)
          · have H_117 := of_f H_115 b_53
            refine V_reg hN hn [(2, ⟨14, 0, [.c (.imm (.slice (.pair (.int .i64) (.pair (.int .i64) (.int .i64)))) l_1), .agg [.val (.int .i64 (0 : Int)), .val (.int .i64 (200 : Int))]], [], .c (.h 5), [(5, .row (.pair (.int .i64) (.pair (.int .i64) (.int .i64))) r_49)], [(5, 2)], 3⟩), (4, ⟨12, 1, [.c (.h 0), .c (.imm (.slice (.pair (.int .i64) (.pair (.int .i64) (.int .i64)))) l_1)], [(0, .row (.pair (.int .i64) (.pair (.int .i64) (.int .i64))) r_49)], .c (.val (.bool r_51)), [(0, .row (.pair (.int .i64) (.pair (.int .i64) (.int .i64))) r_49)], [(0, 2)], 3⟩)] [(60, false)] (calls_cons (spans_In_spec K l_1 (0 : Int) (200 : Int) r_49 h_50) (by kernel_rfl) (calls_cons (palinodelaw15_same_rg_spec K r_49 l_1 r_51 h_52) (by kernel_rfl) calls_nil)) 2 [6] [] ⟨[(6, .c (.val (.bool false)))], [], 3⟩ [r_51 = false] (by kernel_rfl) rfl rfl (ap1 b_53) (by kernel_rfl) (by kernel_rfl) ?_
            have H_120 := Option.some.inj (show some false = some r from H_117); subst H_120
            refine VL_ret ?_
            exact P_to [(6, .c (.val (.bool false)))] [] [] hn (by kernel_rfl) (by kernel_rfl) rfl rfl rfl (QF_retS (by kernel_rfl) (by kernel_rfl) rfl)

end Go.Pal
