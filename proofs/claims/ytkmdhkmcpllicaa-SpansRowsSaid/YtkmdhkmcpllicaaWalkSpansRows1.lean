/- The Go functions that SpansRows reaches compute what the plain functions say: part 1, printed by a program of this workplace. -/
import Derived.Test.YtkmdhkmcpllicaaChecked
import Derived.Test.YtkmdhkmcpllicaaWalkSpansRows0
namespace Go.Pal
open Go Go.Proofs
set_option maxRecDepth 100000
set_option linter.unusedVariables false

theorem spans_At_rg_spec (K : Nat) (l_1 : (List (Int × (Int × Int)))) (at_2 : Int) (r : Int) (H : spans_At_rg K l_1 at_2 = some r) : Spec Try.prog 11 1 [.c (.h 0), .c (.val (.int .i64 at_2))] [(0, .row (.pair (.int .i64) (.pair (.int .i64) (.int .i64))) l_1)] (.c (.val (.int .i64 r))) [(0, .row (.pair (.int .i64) (.pair (.int .i64) (.int .i64))) l_1)] := by
  refine Spec_mk (fn := Try.f11) (c := (Try.f11.body).get!) Try.func11 (by kernel_rfl) rfl ?_
  intro C hN hn
  replace hN : C.N = 26 := hN
  unfold spans_At_rg at H
  refine V_run hN hn 5 1 [1, 7, 8, 9] [0] ⟨[(1, .c (.val (.int .i64 at_2))), (7, .c (.h 0)), (8, .c (.val (.int .i64 (((List.length l_1) : Nat) : Int)))), (9, .c (.val (.int .i64 (0 : Int))))], [(0, .row (.pair (.int .i64) (.pair (.int .i64) (.int .i64))) l_1)], 1⟩ [] (by kernel_rfl) rfl rfl ap0 ?_
  refine VL_block ?_
  refine V_to [(1, .c (.val (.int .i64 at_2))), (7, .c (.h 0)), (8, .c (.val (.int .i64 (((List.length l_1) : Nat) : Int)))), (9, .c (.val (.int .i64 (0 : Int))))] [(0, .row (.pair (.int .i64) (.pair (.int .i64) (.int .i64))) l_1)] [] hn (by kernel_rfl) (by kernel_rfl) rfl rfl rfl ?_
  refine VL_loop (X := Int) (fun x => [(1, .c (.val (.int .i64 at_2))), (7, .c (.h 0)), (8, .c (.val (.int .i64 (((List.length l_1) : Nat) : Int)))), (9, .c (.val (.int .i64 x)))]) (fun x => [(0, .row (.pair (.int .i64) (.pair (.int .i64) (.int .i64))) l_1)]) (fun k x => spans_At_rg.l0 K l_1 at_2 k x = some r) K (0 : Int) H (fun _ h => no_none h) ?_
  intro k_5 t_4 H_22
  have H_23 : spans_At_rg.l0 K l_1 at_2 (k_5 + 1) t_4 = some r := H_22
  rw [spans_At_rg.l0] at H_23
  refine V_run hN hn 3 1 [1, 7, 8, 9, 10] [0] ⟨[(1, .c (.val (.int .i64 at_2))), (7, .c (.h 0)), (8, .c (.val (.int .i64 (((List.length l_1) : Nat) : Int)))), (9, .c (.val (.int .i64 t_4))), (10, .c (.val (.bool (decide (t_4 < (((List.length l_1) : Nat) : Int))))))], [(0, .row (.pair (.int .i64) (.pair (.int .i64) (.int .i64))) l_1)], 1⟩ [] (by kernel_rfl) rfl rfl ap0 ?_
  refine VL_cond ((decide (t_4 < (((List.length l_1) : Nat) : Int)))) (by kernel_rfl) ?_ ?_
  · intro b_7; have H_24 := of_t H_23 b_7
    refine V_run hN hn 2 1 [1, 7, 8, 9, 10] [0] ⟨[(1, .c (.val (.int .i64 at_2))), (7, .c (.h 0)), (8, .c (.val (.int .i64 (((List.length l_1) : Nat) : Int)))), (9, .c (.val (.int .i64 t_4))), (10, .c (.val (.bool (decide (t_4 < (((List.length l_1) : Nat) : Int))))))], [(0, .row (.pair (.int .i64) (.pair (.int .i64) (.int .i64))) l_1)], 1⟩ [] (by kernel_rfl) rfl rfl ap0 ?_
    refine VL_block ?_
    obtain ⟨c_9, H_26⟩ := of_if H_24
    refine V_run hN hn 3 1 [1, 6, 7, 8, 9] [0, 1] ⟨[(1, .c (.val (.int .i64 at_2))), (6, .c (.h 1)), (7, .c (.h 0)), (8, .c (.val (.int .i64 (((List.length l_1) : Nat) : Int)))), (9, .c (.val (.int .i64 t_4)))], [(0, .row (.pair (.int .i64) (.pair (.int .i64) (.int .i64))) l_1), (1, .box [.val (.int .i64 (List.getD l_1 (Int.toNat t_4) ((0 : Int), ((0 : Int), (0 : Int)))).1), .val (.int .i64 (List.getD l_1 (Int.toNat t_4) ((0 : Int), ((0 : Int), (0 : Int)))).2.1), .val (.int .i64 (List.getD l_1 (Int.toNat t_4) ((0 : Int), ((0 : Int), (0 : Int)))).2.2)])], 2⟩ [0 ≤ t_4, t_4 < (((List.length l_1) : Nat) : Int)] (by kernel_rfl) rfl rfl (ap2 c_9.1 (ap1 c_9.2)) ?_
    obtain ⟨q_27, H_28, H_29⟩ := of_bind H_26
    refine V_cut (Y := Bool) (R := Bool) q_27 (fun y => y) (fun y => [(1, .c (.val (.int .i64 at_2))), (6, .c (.h 1)), (7, .c (.h 0)), (8, .c (.val (.int .i64 (((List.length l_1) : Nat) : Int)))), (9, .c (.val (.int .i64 t_4))), (22, .c (.val (.bool y)))]) (fun y => [(0, .row (.pair (.int .i64) (.pair (.int .i64) (.int .i64))) l_1), (1, .box [.val (.int .i64 (List.getD l_1 (Int.toNat t_4) ((0 : Int), ((0 : Int), (0 : Int)))).1), .val (.int .i64 (List.getD l_1 (Int.toNat t_4) ((0 : Int), ((0 : Int), (0 : Int)))).2.1), .val (.int .i64 (List.getD l_1 (Int.toNat t_4) ((0 : Int), ((0 : Int), (0 : Int)))).2.2)])]) ?_ ?_
    · skip
      rcases Bool.eq_false_or_eq_true ((decide (at_2 ≥ (List.getD l_1 (Int.toNat t_4) ((0 : Int), ((0 : Int), (0 : Int)))).1))) with b_10 | b_10
      · have H_31 := of_t H_28 b_10
        refine V_reg hN hn [] [(17, true)] calls_nil 2 [1, 6, 7, 8, 9, 22] [0, 1] ⟨[(1, .c (.val (.int .i64 at_2))), (6, .c (.h 1)), (7, .c (.h 0)), (8, .c (.val (.int .i64 (((List.length l_1) : Nat) : Int)))), (9, .c (.val (.int .i64 t_4))), (22, .c (.val (.bool (decide (at_2 < (List.getD l_1 (Int.toNat t_4) ((0 : Int), ((0 : Int), (0 : Int)))).2.1)))))], [(0, .row (.pair (.int .i64) (.pair (.int .i64) (.int .i64))) l_1), (1, .box [.val (.int .i64 (List.getD l_1 (Int.toNat t_4) ((0 : Int), ((0 : Int), (0 : Int)))).1), .val (.int .i64 (List.getD l_1 (Int.toNat t_4) ((0 : Int), ((0 : Int), (0 : Int)))).2.1), .val (.int .i64 (List.getD l_1 (Int.toNat t_4) ((0 : Int), ((0 : Int), (0 : Int)))).2.2)])], 2⟩ [(decide (at_2 ≥ (List.getD l_1 (Int.toNat t_4) ((0 : Int), ((0 : Int), (0 : Int)))).1)) = true] (by kernel_rfl) rfl rfl (ap1 b_10) (by kernel_rfl) (by kernel_rfl) ?_
        have H_33 := Option.some.inj (show some (decide (at_2 < (List.getD l_1 (Int.toNat t_4) ((0 : Int), ((0 : Int), (0 : Int)))).2.1)) = some q_27 from H_31); subst H_33
        refine VL_nil ?_
        exact QP_end (decide (at_2 < (List.getD l_1 (Int.toNat t_4) ((0 : Int), ((0 : Int), (0 : Int)))).2.1)) rfl [(1, 1)] hn (by kernel_rfl) (by kernel_rfl) rfl rfl rfl
      · have H_32 := of_f H_28 b_10
        refine V_reg hN hn [] [(17, false)] calls_nil 2 [1, 6, 7, 8, 9, 22] [0, 1] ⟨[(1, .c (.val (.int .i64 at_2))), (6, .c (.h 1)), (7, .c (.h 0)), (8, .c (.val (.int .i64 (((List.length l_1) : Nat) : Int)))), (9, .c (.val (.int .i64 t_4))), (22, .c (.val (.bool false)))], [(0, .row (.pair (.int .i64) (.pair (.int .i64) (.int .i64))) l_1), (1, .box [.val (.int .i64 (List.getD l_1 (Int.toNat t_4) ((0 : Int), ((0 : Int), (0 : Int)))).1), .val (.int .i64 (List.getD l_1 (Int.toNat t_4) ((0 : Int), ((0 : Int), (0 : Int)))).2.1), .val (.int .i64 (List.getD l_1 (Int.toNat t_4) ((0 : Int), ((0 : Int), (0 : Int)))).2.2)])], 2⟩ [(decide (at_2 ≥ (List.getD l_1 (Int.toNat t_4) ((0 : Int), ((0 : Int), (0 : Int)))).1)) = false] (by kernel_rfl) rfl rfl (ap1 b_10) (by kernel_rfl) (by kernel_rfl) ?_
        have H_34 := Option.some.inj (show some false = some q_27 from H_32); subst H_34
        refine VL_nil ?_
        exact QP_end false rfl [(1, 1)] hn (by kernel_rfl) (by kernel_rfl) rfl rfl rfl
    · intro y_30 hy; subst hy
      skip
      skip
      refine VL_cond (y_30) (by kernel_rfl) ?_ ?_
      · intro b_14; have H_35 := of_t H_29 b_14
        refine V_run hN hn 2 2 [4] [0] ⟨[(4, .c (.val (.int .i64 (List.getD l_1 (Int.toNat t_4) ((0 : Int), ((0 : Int), (0 : Int)))).2.2)))], [(0, .row (.pair (.int .i64) (.pair (.int .i64) (.int .i64))) l_1)], 2⟩ [] (by kernel_rfl) rfl rfl ap0 ?_
        have H_37 := Option.some.inj (show some (List.getD l_1 (Int.toNat t_4) ((0 : Int), ((0 : Int), (0 : Int)))).2.2 = some r from H_35); subst H_37
        refine VL_ret ?_
        refine QB_ret ?_
        refine QL_ret ?_
        refine QB_ret ?_
        exact P_to [(4, .c (.val (.int .i64 (List.getD l_1 (Int.toNat t_4) ((0 : Int), ((0 : Int), (0 : Int)))).2.2)))] [(0, .row (.pair (.int .i64) (.pair (.int .i64) (.int .i64))) l_1)] [] hn (by kernel_rfl) (by kernel_rfl) rfl rfl rfl (QF_retS (by kernel_rfl) (by kernel_rfl) rfl)
      · intro b_14; have H_36 := of_f H_29 b_14
        refine V_run hN hn 1 2 [1, 6, 7, 8, 9, 22] [0, 1] ⟨[(1, .c (.val (.int .i64 at_2))), (6, .c (.h 1)), (7, .c (.h 0)), (8, .c (.val (.int .i64 (((List.length l_1) : Nat) : Int)))), (9, .c (.val (.int .i64 t_4))), (22, .c (.val (.bool y_30)))], [(0, .row (.pair (.int .i64) (.pair (.int .i64) (.int .i64))) l_1), (1, .box [.val (.int .i64 (List.getD l_1 (Int.toNat t_4) ((0 : Int), ((0 : Int), (0 : Int)))).1), .val (.int .i64 (List.getD l_1 (Int.toNat t_4) ((0 : Int), ((0 : Int), (0 : Int)))).2.1), .val (.int .i64 (List.getD l_1 (Int.toNat t_4) ((0 : Int), ((0 : Int), (0 : Int)))).2.2)])], 2⟩ [] (by kernel_rfl) rfl rfl ap0 ?_
        refine VL_nil (QB_end ?_)
        refine V_run hN hn 1 2 [1, 7, 8, 9] [0] ⟨[(1, .c (.val (.int .i64 at_2))), (7, .c (.h 0)), (8, .c (.val (.int .i64 (((List.length l_1) : Nat) : Int)))), (9, .c (.val (.int .i64 (IntKind.wrap .i64 (t_4 + (1 : Int))))))], [(0, .row (.pair (.int .i64) (.pair (.int .i64) (.int .i64))) l_1)], 2⟩ [] (by kernel_rfl) rfl rfl ap0 ?_
        refine VL_nil ?_
        exact V_roundEnd (IntKind.wrap .i64 (t_4 + (1 : Int))) H_36 [] hn (by kernel_rfl) (by kernel_rfl) rfl rfl rfl
  · intro b_7; have H_25 := of_f H_23 b_7
    refine VL_exit ?_
    refine QL_exit ?_
    refine QB_here ?_
    refine V_run hN hn 2 1 [4] [0] ⟨[(4, .c (.val (.int .i64 (0 : Int))))], [(0, .row (.pair (.int .i64) (.pair (.int .i64) (.int .i64))) l_1)], 1⟩ [] (by kernel_rfl) rfl rfl ap0 ?_
    have H_38 := Option.some.inj (show some (0 : Int) = some r from H_25); subst H_38
    refine VL_ret ?_
    exact P_to [(4, .c (.val (.int .i64 (0 : Int))))] [(0, .row (.pair (.int .i64) (.pair (.int .i64) (.int .i64))) l_1)] [] hn (by kernel_rfl) (by kernel_rfl) rfl rfl rfl (QF_retS (by kernel_rfl) (by kernel_rfl) rfl)

theorem palinodelaw15_known_spec (K : Nat) (r : Bool) (H : palinodelaw15_known K  = some r) : Spec Try.prog 9 0 [] [] (.c (.val (.bool r))) [] := by
  refine Spec_mk (fn := Try.f9) (c := (Try.f9.body).get!) Try.func9 (by kernel_rfl) rfl ?_
  intro C hN hn
  replace hN : C.N = 81 := hN
  unfold palinodelaw15_known at H
  refine V_run hN hn 3 0 [] [] ⟨[], [], 0⟩ [] (by kernel_rfl) rfl rfl ap0 ?_
  obtain ⟨r_2, h_3, H_48⟩ := of_bind H
  refine V_reg hN hn [(1, ⟨10, 0, [.c (.val (.slice none 0 0)), .agg [.val (.int .i64 (0 : Int)), .val (.int .i64 (9 : Int)), .val (.int .i64 (1 : Int))]], [], .tup [(false, [.h 9]), (false, [.val (.int .i64 r_2.2)])], [(9, .row (.pair (.int .i64) (.pair (.int .i64) (.int .i64))) r_2.1)], [(9, 0)], 1⟩)] [] (calls_cons (spans_Put_nsggg_spec K (0 : Int) (9 : Int) (1 : Int) r_2 h_3) (by kernel_rfl) calls_nil) 0 [1, 2] [0] ⟨[(1, .c (.h 0)), (2, .c (.val (.int .i64 r_2.2)))], [(0, .row (.pair (.int .i64) (.pair (.int .i64) (.int .i64))) r_2.1)], 1⟩ [] (by kernel_rfl) rfl rfl ap0 (by kernel_rfl) (by kernel_rfl) ?_
  refine V_run hN hn 1 1 [1, 2] [0] ⟨[(1, .c (.h 0)), (2, .c (.val (.int .i64 r_2.2)))], [(0, .row (.pair (.int .i64) (.pair (.int .i64) (.int .i64))) r_2.1)], 1⟩ [] (by kernel_rfl) rfl rfl ap0 ?_
  obtain ⟨r_6, h_7, H_49⟩ := of_bind H_48
  refine V_reg hN hn [(2, ⟨10, 1, [.c (.h 0), .agg [.val (.int .i64 (3 : Int)), .val (.int .i64 (5 : Int)), .val (.int .i64 (2 : Int))]], [(0, .row (.pair (.int .i64) (.pair (.int .i64) (.int .i64))) r_2.1)], .tup [(false, [.h 10]), (false, [.val (.int .i64 r_6.2)])], [(0, .row (.pair (.int .i64) (.pair (.int .i64) (.int .i64))) r_2.1), (10, .row (.pair (.int .i64) (.pair (.int .i64) (.int .i64))) r_6.1)], [(0, 0), (10, 1)], 2⟩)] [] (calls_cons (spans_Put_rsggg_spec K r_2.1 (3 : Int) (5 : Int) (2 : Int) r_6 h_7) (by kernel_rfl) calls_nil) 1 [2, 3, 4] [1] ⟨[(2, .c (.val (.int .i64 r_2.2))), (3, .c (.h 1)), (4, .c (.val (.int .i64 r_6.2)))], [(1, .row (.pair (.int .i64) (.pair (.int .i64) (.int .i64))) r_6.1)], 2⟩ [] (by kernel_rfl) rfl rfl ap0 (by kernel_rfl) (by kernel_rfl) ?_
  refine V_run hN hn 1 2 [2, 3, 4] [1] ⟨[(2, .c (.val (.int .i64 r_2.2))), (3, .c (.h 1)), (4, .c (.val (.int .i64 r_6.2)))], [(1, .row (.pair (.int .i64) (.pair (.int .i64) (.int .i64))) r_6.1)], 2⟩ [] (by kernel_rfl) rfl rfl ap0 ?_
  obtain ⟨r_10, h_11, H_50⟩ := of_bind H_49
  refine V_reg hN hn [(2, ⟨10, 1, [.c (.h 0), .agg [.val (.int .i64 (3 : Int)), .val (.int .i64 (5 : Int)), .val (.int .i64 (101 : Int))]], [(0, .row (.pair (.int .i64) (.pair (.int .i64) (.int .i64))) r_6.1)], .tup [(false, [.h 10]), (false, [.val (.int .i64 r_10.2)])], [(0, .row (.pair (.int .i64) (.pair (.int .i64) (.int .i64))) r_6.1), (10, .row (.pair (.int .i64) (.pair (.int .i64) (.int .i64))) r_10.1)], [(0, 1), (10, 2)], 3⟩)] [] (calls_cons (spans_Put_rsggg_spec K r_6.1 (3 : Int) (5 : Int) (101 : Int) r_10 h_11) (by kernel_rfl) calls_nil) 2 [2, 3, 4, 6] [1] ⟨[(2, .c (.val (.int .i64 r_2.2))), (3, .c (.h 1)), (4, .c (.val (.int .i64 r_6.2))), (6, .c (.val (.int .i64 r_10.2)))], [(1, .row (.pair (.int .i64) (.pair (.int .i64) (.int .i64))) r_6.1)], 3⟩ [] (by kernel_rfl) rfl rfl ap0 (by kernel_rfl) (by kernel_rfl) ?_
  refine V_run hN hn 1 3 [2, 3, 4, 6] [1] ⟨[(2, .c (.val (.int .i64 r_2.2))), (3, .c (.h 1)), (4, .c (.val (.int .i64 r_6.2))), (6, .c (.val (.int .i64 r_10.2)))], [(1, .row (.pair (.int .i64) (.pair (.int .i64) (.int .i64))) r_6.1)], 3⟩ [] (by kernel_rfl) rfl rfl ap0 ?_
  obtain ⟨r_14, h_15, H_51⟩ := of_bind H_50
  refine V_reg hN hn [(2, ⟨14, 1, [.c (.h 0), .agg [.val (.int .i64 (4 : Int)), .val (.int .i64 (6 : Int))]], [(0, .row (.pair (.int .i64) (.pair (.int .i64) (.int .i64))) r_6.1)], .c (.h 6), [(0, .row (.pair (.int .i64) (.pair (.int .i64) (.int .i64))) r_6.1), (6, .row (.pair (.int .i64) (.pair (.int .i64) (.int .i64))) r_14)], [(0, 1), (6, 3)], 4⟩)] [] (calls_cons (spans_In_rsgg_spec K r_6.1 (4 : Int) (6 : Int) r_14 h_15) (by kernel_rfl) calls_nil) 3 [2, 3, 4, 6, 7] [1, 3] ⟨[(2, .c (.val (.int .i64 r_2.2))), (3, .c (.h 1)), (4, .c (.val (.int .i64 r_6.2))), (6, .c (.val (.int .i64 r_10.2))), (7, .c (.h 3))], [(1, .row (.pair (.int .i64) (.pair (.int .i64) (.int .i64))) r_6.1), (3, .row (.pair (.int .i64) (.pair (.int .i64) (.int .i64))) r_14)], 4⟩ [] (by kernel_rfl) rfl rfl ap0 (by kernel_rfl) (by kernel_rfl) ?_
  refine V_run hN hn 1 4 [2, 3, 4, 6, 7] [1, 3] ⟨[(2, .c (.val (.int .i64 r_2.2))), (3, .c (.h 1)), (4, .c (.val (.int .i64 r_6.2))), (6, .c (.val (.int .i64 r_10.2))), (7, .c (.h 3))], [(1, .row (.pair (.int .i64) (.pair (.int .i64) (.int .i64))) r_6.1), (3, .row (.pair (.int .i64) (.pair (.int .i64) (.int .i64))) r_14)], 4⟩ [] (by kernel_rfl) rfl rfl ap0 ?_
  rcases Bool.eq_false_or_eq_true ((r_2.2 == (0 : Int))) with b_18 | b_18
  · have H_52 := of_t H_51 b_18
    rcases Bool.eq_false_or_eq_true ((r_6.2 == (0 : Int))) with b_19 | b_19
    · have H_54 := of_t H_52 b_19
      rcases Bool.eq_false_or_eq_true (((((List.length r_6.1) : Nat) : Int) == (3 : Int))) with b_20 | b_20
      · have H_56 := of_t H_54 b_20
        rcases Bool.eq_false_or_eq_true ((((List.getD r_6.1 2 ((0 : Int), ((0 : Int), (0 : Int)))).1 == (5 : Int)) && (((List.getD r_6.1 2 ((0 : Int), ((0 : Int), (0 : Int)))).2.1 == (9 : Int)) && ((List.getD r_6.1 2 ((0 : Int), ((0 : Int), (0 : Int)))).2.2 == (1 : Int))))) with b_21 | b_21
        · have H_58 := of_t H_56 b_21
          obtain ⟨r_22, h_23, H_60⟩ := of_bind H_58
          rcases Bool.eq_false_or_eq_true ((r_22 == (2 : Int))) with b_24 | b_24
          · have H_61 := of_t H_60 b_24
            obtain ⟨r_25, h_26, H_63⟩ := of_bind H_61
            rcases Bool.eq_false_or_eq_true ((r_25 == (0 : Int))) with b_27 | b_27
            · have H_64 := of_t H_63 b_27
              rcases Bool.eq_false_or_eq_true ((r_10.2 == (12 : Int))) with b_28 | b_28
              · have H_66 := of_t H_64 b_28
                obtain ⟨r_29, h_30, H_68⟩ := of_bind H_66
                rcases Bool.eq_false_or_eq_true (r_29) with b_31 | b_31
                · have H_69 := of_t H_68 b_31
                  obtain ⟨r_32, h_33, H_71⟩ := of_bind H_69
                  rcases Bool.eq_false_or_eq_true ((!r_32)) with b_34 | b_34
                  · have H_72 := of_t H_71 b_34
                    rcases Bool.eq_false_or_eq_true (((((List.length r_14) : Nat) : Int) == (2 : Int))) with b_35 | b_35
                    · have H_74 := of_t H_72 b_35
                      obtain ⟨c_36, H_76⟩ := of_if H_74
                      refine V_reg hN hn [(20, ⟨11, 1, [.c (.h 0), .c (.val (.int .i64 (3 : Int)))], [(0, .row (.pair (.int .i64) (.pair (.int .i64) (.int .i64))) r_6.1)], .c (.val (.int .i64 r_22)), [(0, .row (.pair (.int .i64) (.pair (.int .i64) (.int .i64))) r_6.1)], [(0, 1)], 4⟩), (25, ⟨11, 1, [.c (.h 0), .c (.val (.int .i64 (9 : Int)))], [(0, .row (.pair (.int .i64) (.pair (.int .i64) (.int .i64))) r_6.1)], .c (.val (.int .i64 r_25)), [(0, .row (.pair (.int .i64) (.pair (.int .i64) (.int .i64))) r_6.1)], [(0, 1)], 4⟩), (34, ⟨13, 1, [.c (.h 0), .c (.val (.int .i64 (9 : Int)))], [(0, .row (.pair (.int .i64) (.pair (.int .i64) (.int .i64))) r_6.1)], .c (.val (.bool r_29)), [(0, .row (.pair (.int .i64) (.pair (.int .i64) (.int .i64))) r_6.1)], [(0, 1)], 4⟩), (38, ⟨13, 1, [.c (.h 0), .c (.val (.int .i64 (8 : Int)))], [(0, .row (.pair (.int .i64) (.pair (.int .i64) (.int .i64))) r_6.1)], .c (.val (.bool r_32)), [(0, .row (.pair (.int .i64) (.pair (.int .i64) (.int .i64))) r_6.1)], [(0, 1)], 4⟩)] [(30, true), (34, true), (39, true), (46, true), (51, true), (56, true), (60, true), (64, true), (69, true), (74, true)] (calls_cons (spans_At_rg_spec K r_6.1 (3 : Int) r_22 h_23) (by kernel_rfl) (calls_cons (spans_At_rg_spec K r_6.1 (9 : Int) r_25 h_26) (by kernel_rfl) (calls_cons (spans_Is_rg_spec K r_6.1 (9 : Int) r_29 h_30) (by kernel_rfl) (calls_cons (spans_Is_rg_spec K r_6.1 (8 : Int) r_32 h_33) (by kernel_rfl) calls_nil)))) 4 [0] [] ⟨[(0, .c (.val (.bool (((List.getD r_14 0 ((0 : Int), ((0 : Int), (0 : Int)))).1 == (4 : Int)) && (((List.getD r_14 0 ((0 : Int), ((0 : Int), (0 : Int)))).2.1 == (5 : Int)) && ((List.getD r_14 0 ((0 : Int), ((0 : Int), (0 : Int)))).2.2 == (2 : Int)))))))], [], 4⟩ [(r_2.2 == (0 : Int)) = true, (r_6.2 == (0 : Int)) = true, ((((List.length r_6.1) : Nat) : Int) == (3 : Int)) = true, (0 : Int) ≤ (2 : Int), (2 : Int) < (((List.length r_6.1) : Nat) : Int), (((List.getD r_6.1 2 ((0 : Int), ((0 : Int), (0 : Int)))).1 == (5 : Int)) && (((List.getD r_6.1 2 ((0 : Int), ((0 : Int), (0 : Int)))).2.1 == (9 : Int)) && ((List.getD r_6.1 2 ((0 : Int), ((0 : Int), (0 : Int)))).2.2 == (1 : Int)))) = true, (r_22 == (2 : Int)) = true, (r_25 == (0 : Int)) = true, (r_10.2 == (12 : Int)) = true, r_29 = true, (!r_32) = true, ((((List.length r_14) : Nat) : Int) == (2 : Int)) = true, (0 : Int) ≤ (0 : Int), (0 : Int) < (((List.length r_14) : Nat) : Int)] (by kernel_rfl) rfl rfl (ap2 b_18 (ap2 b_19 (ap2 b_20 (ap2 (by decide) (ap2 c_36.1 (ap2 b_21 (ap2 b_24 (ap2 b_27 (ap2 b_28 (ap2 b_31 (ap2 b_34 (ap2 b_35 (ap2 (by decide) (ap1 c_36.2)))))))))))))) (by kernel_rfl) (by kernel_rfl) ?_
                      have H_77 := Option.some.inj (show some (((List.getD r_14 0 ((0 : Int), ((0 : Int), (0 : Int)))).1 == (4 : Int)) && (((List.getD r_14 0 ((0 : Int), ((0 : Int), (0 : Int)))).2.1 == (5 : Int)) && ((List.getD r_14 0 ((0 : Int), ((0 : Int), (0 : Int)))).2.2 == (2 : Int)))) = some r from H_76); subst H_77
                      refine VL_ret ?_
                      exact P_to [(0, .c (.val (.bool (((List.getD r_14 0 ((0 : Int), ((0 : Int), (0 : Int)))).1 == (4 : Int)) && (((List.getD r_14 0 ((0 : Int), ((0 : Int), (0 : Int)))).2.1 == (5 : Int)) && ((List.getD r_14 0 ((0 : Int), ((0 : Int), (0 : Int)))).2.2 == (2 : Int)))))))] [] [] hn (by kernel_rfl) (by kernel_rfl) rfl rfl rfl (QF_retS (by kernel_rfl) (by kernel_rfl) rfl)
                    · have H_75 := of_f H_72 b_35
                      obtain ⟨c_37, H_78⟩ := of_if H_75
                      refine V_reg hN hn [(20, ⟨11, 1, [.c (.h 0), .c (.val (.int .i64 (3 : Int)))], [(0, .row (.pair (.int .i64) (.pair (.int .i64) (.int .i64))) r_6.1)], .c (.val (.int .i64 r_22)), [(0, .row (.pair (.int .i64) (.pair (.int .i64) (.int .i64))) r_6.1)], [(0, 1)], 4⟩), (25, ⟨11, 1, [.c (.h 0), .c (.val (.int .i64 (9 : Int)))], [(0, .row (.pair (.int .i64) (.pair (.int .i64) (.int .i64))) r_6.1)], .c (.val (.int .i64 r_25)), [(0, .row (.pair (.int .i64) (.pair (.int .i64) (.int .i64))) r_6.1)], [(0, 1)], 4⟩), (34, ⟨13, 1, [.c (.h 0), .c (.val (.int .i64 (9 : Int)))], [(0, .row (.pair (.int .i64) (.pair (.int .i64) (.int .i64))) r_6.1)], .c (.val (.bool r_29)), [(0, .row (.pair (.int .i64) (.pair (.int .i64) (.int .i64))) r_6.1)], [(0, 1)], 4⟩), (38, ⟨13, 1, [.c (.h 0), .c (.val (.int .i64 (8 : Int)))], [(0, .row (.pair (.int .i64) (.pair (.int .i64) (.int .i64))) r_6.1)], .c (.val (.bool r_32)), [(0, .row (.pair (.int .i64) (.pair (.int .i64) (.int .i64))) r_6.1)], [(0, 1)], 4⟩)] [(30, true), (34, true), (39, true), (46, true), (51, true), (56, true), (60, true), (64, true), (69, true), (74, false)] (calls_cons (spans_At_rg_spec K r_6.1 (3 : Int) r_22 h_23) (by kernel_rfl) (calls_cons (spans_At_rg_spec K r_6.1 (9 : Int) r_25 h_26) (by kernel_rfl) (calls_cons (spans_Is_rg_spec K r_6.1 (9 : Int) r_29 h_30) (by kernel_rfl) (calls_cons (spans_Is_rg_spec K r_6.1 (8 : Int) r_32 h_33) (by kernel_rfl) calls_nil)))) 4 [0] [] ⟨[(0, .c (.val (.bool false)))], [], 4⟩ [(r_2.2 == (0 : Int)) = true, (r_6.2 == (0 : Int)) = true, ((((List.length r_6.1) : Nat) : Int) == (3 : Int)) = true, (0 : Int) ≤ (2 : Int), (2 : Int) < (((List.length r_6.1) : Nat) : Int), (((List.getD r_6.1 2 ((0 : Int), ((0 : Int), (0 : Int)))).1 == (5 : Int)) && (((List.getD r_6.1 2 ((0 : Int), ((0 : Int), (0 : Int)))).2.1 == (9 : Int)) && ((List.getD r_6.1 2 ((0 : Int), ((0 : Int), (0 : Int)))).2.2 == (1 : Int)))) = true, (r_22 == (2 : Int)) = true, (r_25 == (0 : Int)) = true, (r_10.2 == (12 : Int)) = true, r_29 = true, (!r_32) = true, ((((List.length r_14) : Nat) : Int) == (2 : Int)) = false] (by kernel_rfl) rfl rfl (ap2 b_18 (ap2 b_19 (ap2 b_20 (ap2 (by decide) (ap2 c_37 (ap2 b_21 (ap2 b_24 (ap2 b_27 (ap2 b_28 (ap2 b_31 (ap2 b_34 (ap1 b_35)))))))))))) (by kernel_rfl) (by kernel_rfl) ?_
                      have H_79 := Option.some.inj (show some false = some r from H_78); subst H_79
                      refine VL_ret ?_
                      exact P_to [(0, .c (.val (.bool false)))] [] [] hn (by kernel_rfl) (by kernel_rfl) rfl rfl rfl (QF_retS (by kernel_rfl) (by kernel_rfl) rfl)
                  · have H_73 := of_f H_71 b_34
                    obtain ⟨c_38, H_80⟩ := of_if H_73
                    refine V_reg hN hn [(20, ⟨11, 1, [.c (.h 0), .c (.val (.int .i64 (3 : Int)))], [(0, .row (.pair (.int .i64) (.pair (.int .i64) (.int .i64))) r_6.1)], .c (.val (.int .i64 r_22)), [(0, .row (.pair (.int .i64) (.pair (.int .i64) (.int .i64))) r_6.1)], [(0, 1)], 4⟩), (25, ⟨11, 1, [.c (.h 0), .c (.val (.int .i64 (9 : Int)))], [(0, .row (.pair (.int .i64) (.pair (.int .i64) (.int .i64))) r_6.1)], .c (.val (.int .i64 r_25)), [(0, .row (.pair (.int .i64) (.pair (.int .i64) (.int .i64))) r_6.1)], [(0, 1)], 4⟩), (34, ⟨13, 1, [.c (.h 0), .c (.val (.int .i64 (9 : Int)))], [(0, .row (.pair (.int .i64) (.pair (.int .i64) (.int .i64))) r_6.1)], .c (.val (.bool r_29)), [(0, .row (.pair (.int .i64) (.pair (.int .i64) (.int .i64))) r_6.1)], [(0, 1)], 4⟩), (38, ⟨13, 1, [.c (.h 0), .c (.val (.int .i64 (8 : Int)))], [(0, .row (.pair (.int .i64) (.pair (.int .i64) (.int .i64))) r_6.1)], .c (.val (.bool r_32)), [(0, .row (.pair (.int .i64) (.pair (.int .i64) (.int .i64))) r_6.1)], [(0, 1)], 4⟩)] [(30, true), (34, true), (39, true), (46, true), (51, true), (56, true), (60, true), (64, true), (69, false)] (calls_cons (spans_At_rg_spec K r_6.1 (3 : Int) r_22 h_23) (by kernel_rfl) (calls_cons (spans_At_rg_spec K r_6.1 (9 : Int) r_25 h_26) (by kernel_rfl) (calls_cons (spans_Is_rg_spec K r_6.1 (9 : Int) r_29 h_30) (by kernel_rfl) (calls_cons (spans_Is_rg_spec K r_6.1 (8 : Int) r_32 h_33) (by kernel_rfl) calls_nil)))) 4 [0] [] ⟨[(0, .c (.val (.bool false)))], [], 4⟩ [(r_2.2 == (0 : Int)) = true, (r_6.2 == (0 : Int)) = true, ((((List.length r_6.1) : Nat) : Int) == (3 : Int)) = true, (0 : Int) ≤ (2 : Int), (2 : Int) < (((List.length r_6.1) : Nat) : Int), (((List.getD r_6.1 2 ((0 : Int), ((0 : Int), (0 : Int)))).1 == (5 : Int)) && (((List.getD r_6.1 2 ((0 : Int), ((0 : Int), (0 : Int)))).2.1 == (9 : Int)) && ((List.getD r_6.1 2 ((0 : Int), ((0 : Int), (0 : Int)))).2.2 == (1 : Int)))) = true, (r_22 == (2 : Int)) = true, (r_25 == (0 : Int)) = true, (r_10.2 == (12 : Int)) = true, r_29 = true, (!r_32) = false] (by kernel_rfl) rfl rfl (ap2 b_18 (ap2 b_19 (ap2 b_20 (ap2 (by decide) (ap2 c_38 (ap2 b_21 (ap2 b_24 (ap2 b_27 (ap2 b_28 (ap2 b_31 (ap1 b_34))))))))))) (by kernel_rfl) (by kernel_rfl) ?_
                    have H_81 := Option.some.inj (show some false = some r from H_80); subst H_81
                    refine VL_ret ?_
                    exact P_to [(0, .c (.val (.bool false)))] [] [] hn (by kernel_rfl) (by kernel_rfl) rfl rfl rfl (QF_retS (by kernel_rfl) (by kernel_rfl) rfl)
                · have H_70 := of_f H_68 b_31
                  obtain ⟨c_39, H_82⟩ := of_if H_70
                  refine V_reg hN hn [(20, ⟨11, 1, [.c (.h 0), .c (.val (.int .i64 (3 : Int)))], [(0, .row (.pair (.int .i64) (.pair (.int .i64) (.int .i64))) r_6.1)], .c (.val (.int .i64 r_22)), [(0, .row (.pair (.int .i64) (.pair (.int .i64) (.int .i64))) r_6.1)], [(0, 1)], 4⟩), (25, ⟨11, 1, [.c (.h 0), .c (.val (.int .i64 (9 : Int)))], [(0, .row (.pair (.int .i64) (.pair (.int .i64) (.int .i64))) r_6.1)], .c (.val (.int .i64 r_25)), [(0, .row (.pair (.int .i64) (.pair (.int .i64) (.int .i64))) r_6.1)], [(0, 1)], 4⟩), (34, ⟨13, 1, [.c (.h 0), .c (.val (.int .i64 (9 : Int)))], [(0, .row (.pair (.int .i64) (.pair (.int .i64) (.int .i64))) r_6.1)], .c (.val (.bool r_29)), [(0, .row (.pair (.int .i64) (.pair (.int .i64) (.int .i64))) r_6.1)], [(0, 1)], 4⟩)] [(30, true), (34, true), (39, true), (46, true), (51, true), (56, true), (60, true), (64, false)] (calls_cons (spans_At_rg_spec K r_6.1 (3 : Int) r_22 h_23) (by kernel_rfl) (calls_cons (spans_At_rg_spec K r_6.1 (9 : Int) r_25 h_26) (by kernel_rfl) (calls_cons (spans_Is_rg_spec K r_6.1 (9 : Int) r_29 h_30) (by kernel_rfl) calls_nil))) 4 [0] [] ⟨[(0, .c (.val (.bool false)))], [], 4⟩ [(r_2.2 == (0 : Int)) = true, (r_6.2 == (0 : Int)) = true, ((((List.length r_6.1) : Nat) : Int) == (3 : Int)) = true, (0 : Int) ≤ (2 : Int), (2 : Int) < (((List.length r_6.1) : Nat) : Int), (((List.getD r_6.1 2 ((0 : Int), ((0 : Int), (0 : Int)))).1 == (5 : Int)) && (((List.getD r_6.1 2 ((0 : Int), ((0 : Int), (0 : Int)))).2.1 == (9 : Int)) && ((List.getD r_6.1 2 ((0 : Int), ((0 : Int), (0 : Int)))).2.2 == (1 : Int)))) = true, (r_22 == (2 : Int)) = true, (r_25 == (0 : Int)) = true, (r_10.2 == (12 : Int)) = true, r_29 = false] (by kernel_rfl) rfl rfl (ap2 b_18 (ap2 b_19 (ap2 b_20 (ap2 (by decide) (ap2 c_39 (ap2 b_21 (ap2 b_24 (ap2 b_27 (ap2 b_28 (ap1 b_31)))))))))) (by kernel_rfl) (by kernel_rfl) ?_
                  have H_83 := Option.some.inj (show some false = some r from H_82); subst H_83
                  refine VL_ret ?_
                  exact P_to [(0, .c (.val (.bool false)))] [] [] hn (by kernel_rfl) (by kernel_rfl) rfl rfl rfl (QF_retS (by kernel_rfl) (by kernel_rfl) rfl)
              · have H_67 := of_f H_64 b_28
                obtain ⟨c_40, H_84⟩ := of_if H_67
                refine V_reg hN hn [(20, ⟨11, 1, [.c (.h 0), .c (.val (.int .i64 (3 : Int)))], [(0, .row (.pair (.int .i64) (.pair (.int .i64) (.int .i64))) r_6.1)], .c (.val (.int .i64 r_22)), [(0, .row (.pair (.int .i64) (.pair (.int .i64) (.int .i64))) r_6.1)], [(0, 1)], 4⟩), (25, ⟨11, 1, [.c (.h 0), .c (.val (.int .i64 (9 : Int)))], [(0, .row (.pair (.int .i64) (.pair (.int .i64) (.int .i64))) r_6.1)], .c (.val (.int .i64 r_25)), [(0, .row (.pair (.int .i64) (.pair (.int .i64) (.int .i64))) r_6.1)], [(0, 1)], 4⟩)] [(30, true), (34, true), (39, true), (46, true), (51, true), (56, true), (60, false)] (calls_cons (spans_At_rg_spec K r_6.1 (3 : Int) r_22 h_23) (by kernel_rfl) (calls_cons (spans_At_rg_spec K r_6.1 (9 : Int) r_25 h_26) (by kernel_rfl) calls_nil)) 4 [0] [] ⟨[(0, .c (.val (.bool false)))], [], 4⟩ [(r_2.2 == (0 : Int)) = true, (r_6.2 == (0 : Int)) = true, ((((List.length r_6.1) : Nat) : Int) == (3 : Int)) = true, (0 : Int) ≤ (2 : Int), (2 : Int) < (((List.length r_6.1) : Nat) : Int), (((List.getD r_6.1 2 ((0 : Int), ((0 : Int), (0 : Int)))).1 == (5 : Int)) && (((List.getD r_6.1 2 ((0 : Int), ((0 : Int), (0 : Int)))).2.1 == (9 : Int)) && ((List.getD r_6.1 2 ((0 : Int), ((0 : Int), (0 : Int)))).2.2 == (1 : Int)))) = true, (r_22 == (2 : Int)) = true, (r_25 == (0 : Int)) = true, (r_10.2 == (12 : Int)) = false] (by kernel_rfl) rfl rfl (ap2 b_18 (ap2 b_19 (ap2 b_20 (ap2 (by decide) (ap2 c_40 (ap2 b_21 (ap2 b_24 (ap2 b_27 (ap1 b_28))))))))) (by kernel_rfl) (by kernel_rfl) ?_
                have H_85 := Option.some.inj (show some false = some r from H_84); subst H_85
                refine VL_ret ?_
                exact P_to [(0, .c (.val (.bool false)))] [] [] hn (by kernel_rfl) (by kernel_rfl) rfl rfl rfl (QF_retS (by kernel_rfl) (by kernel_rfl) rfl)
            · have H_65 := of_f H_63 b_27
              obtain ⟨c_41, H_86⟩ := of_if H_65
              refine V_reg hN hn [(20, ⟨11, 1, [.c (.h 0), .c (.val (.int .i64 (3 : Int)))], [(0, .row (.pair (.int .i64) (.pair (.int .i64) (.int .i64))) r_6.1)], .c (.val (.int .i64 r_22)), [(0, .row (.pair (.int .i64) (.pair (.int .i64) (.int .i64))) r_6.1)], [(0, 1)], 4⟩), (25, ⟨11, 1, [.c (.h 0), .c (.val (.int .i64 (9 : Int)))], [(0, .row (.pair (.int .i64) (.pair (.int .i64) (.int .i64))) r_6.1)], .c (.val (.int .i64 r_25)), [(0, .row (.pair (.int .i64) (.pair (.int .i64) (.int .i64))) r_6.1)], [(0, 1)], 4⟩)] [(30, true), (34, true), (39, true), (46, true), (51, true), (56, false)] (calls_cons (spans_At_rg_spec K r_6.1 (3 : Int) r_22 h_23) (by kernel_rfl) (calls_cons (spans_At_rg_spec K r_6.1 (9 : Int) r_25 h_26) (by kernel_rfl) calls_nil)) 4 [0] [] ⟨[(0, .c (.val (.bool false)))], [], 4⟩ [(r_2.2 == (0 : Int)) = true, (r_6.2 == (0 : Int)) = true, ((((List.length r_6.1) : Nat) : Int) == (3 : Int)) = true, (0 : Int) ≤ (2 : Int), (2 : Int) < (((List.length r_6.1) : Nat) : Int), (((List.getD r_6.1 2 ((0 : Int), ((0 : Int), (0 : Int)))).1 == (5 : Int)) && (((List.getD r_6.1 2 ((0 : Int), ((0 : Int), (0 : Int)))).2.1 == (9 : Int)) && ((List.getD r_6.1 2 ((0 : Int), ((0 : Int), (0 : Int)))).2.2 == (1 : Int)))) = true, (r_22 == (2 : Int)) = true, (r_25 == (0 : Int)) = false] (by kernel_rfl) rfl rfl (ap2 b_18 (ap2 b_19 (ap2 b_20 (ap2 (by decide) (ap2 c_41 (ap2 b_21 (ap2 b_24 (ap1 b_27)))))))) (by kernel_rfl) (by kernel_rfl) ?_
              have H_87 := Option.some.inj (show some false = some r from H_86); subst H_87
              refine VL_ret ?_
              exact P_to [(0, .c (.val (.bool false)))] [] [] hn (by kernel_rfl) (by kernel_rfl) rfl rfl rfl (QF_retS (by kernel_rfl) (by kernel_rfl) rfl)
          · have H_62 := of_f H_60 b_24
            obtain ⟨c_42, H_88⟩ := of_if H_62
            refine V_reg hN hn [(20, ⟨11, 1, [.c (.h 0), .c (.val (.int .i64 (3 : Int)))], [(0, .row (.pair (.int .i64) (.pair (.int .i64) (.int .i64))) r_6.1)], .c (.val (.int .i64 r_22)), [(0, .row (.pair (.int .i64) (.pair (.int .i64) (.int .i64))) r_6.1)], [(0, 1)], 4⟩)] [(30, true), (34, true), (39, true), (46, true), (51, false)] (calls_cons (spans_At_rg_spec K r_6.1 (3 : Int) r_22 h_23) (by kernel_rfl) calls_nil) 4 [0] [] ⟨[(0, .c (.val (.bool false)))], [], 4⟩ [(r_2.2 == (0 : Int)) = true, (r_6.2 == (0 : Int)) = true, ((((List.length r_6.1) : Nat) : Int) == (3 : Int)) = true, (0 : Int) ≤ (2 : Int), (2 : Int) < (((List.length r_6.1) : Nat) : Int), (((List.getD r_6.1 2 ((0 : Int), ((0 : Int), (0 : Int)))).1 == (5 : Int)) && (((List.getD r_6.1 2 ((0 : Int), ((0 : Int), (0 : Int)))).2.1 == (9 : Int)) && ((List.getD r_6.1 2 ((0 : Int), ((0 : Int), (0 : Int)))).2.2 == (1 : Int)))) = true, (r_22 == (2 : Int)) = false] (by kernel_rfl) rfl rfl (ap2 b_18 (ap2 b_19 (ap2 b_20 (ap2 (by decide) (ap2 c_42 (ap2 b_21 (ap1 b_24))))))) (by kernel_rfl) (by kernel_rfl) ?_
            have H_89 := Option.some.inj (show some false = some r from H_88); subst H_89
            refine VL_ret ?_
            exact P_to [(0, .c (.val (.bool false)))] [] [] hn (by kernel_rfl) (by kernel_rfl) rfl rfl rfl (QF_retS (by kernel_rfl) (by kernel_rfl) rfl)
        · have H_59 := of_f H_56 b_21
          obtain ⟨c_43, H_90⟩ := of_if H_59
          refine V_reg hN hn [] [(30, true), (34, true), (39, true), (46, false)] calls_nil 4 [0] [] ⟨[(0, .c (.val (.bool false)))], [], 4⟩ [(r_2.2 == (0 : Int)) = true, (r_6.2 == (0 : Int)) = true, ((((List.length r_6.1) : Nat) : Int) == (3 : Int)) = true, (0 : Int) ≤ (2 : Int), (2 : Int) < (((List.length r_6.1) : Nat) : Int), (((List.getD r_6.1 2 ((0 : Int), ((0 : Int), (0 : Int)))).1 == (5 : Int)) && (((List.getD r_6.1 2 ((0 : Int), ((0 : Int), (0 : Int)))).2.1 == (9 : Int)) && ((List.getD r_6.1 2 ((0 : Int), ((0 : Int), (0 : Int)))).2.2 == (1 : Int)))) = false] (by kernel_rfl) rfl rfl (ap2 b_18 (ap2 b_19 (ap2 b_20 (ap2 (by decide) (ap2 c_43 (ap1 b_21)))))) (by kernel_rfl) (by kernel_rfl) ?_
          have H_91 := Option.some.inj (show some false = some r from H_90); subst H_91
          refine VL_ret ?_
          exact P_to [(0, .c (.val (.bool false)))] [] [] hn (by kernel_rfl) (by kernel_rfl) rfl rfl rfl (QF_retS (by kernel_rfl) (by kernel_rfl) rfl)
      · have H_57 := of_f H_54 b_20
        refine V_reg hN hn [] [(30, true), (34, true), (39, false)] calls_nil 4 [0] [] ⟨[(0, .c (.val (.bool false)))], [], 4⟩ [(r_2.2 == (0 : Int)) = true, (r_6.2 == (0 : Int)) = true, ((((List.length r_6.1) : Nat) : Int) == (3 : Int)) = false] (by kernel_rfl) rfl rfl (ap2 b_18 (ap2 b_19 (ap1 b_20))) (by kernel_rfl) (by kernel_rfl) ?_
        have H_92 := Option.some.inj (show some false = some r from H_57); subst H_92
        refine VL_ret ?_
        exact P_to [(0, .c (.val (.bool false)))] [] [] hn (by kernel_rfl) (by kernel_rfl) rfl rfl rfl (QF_retS (by kernel_rfl) (by kernel_rfl) rfl)
    · have H_55 := of_f H_52 b_19
      refine V_reg hN hn [] [(30, true), (34, false)] calls_nil 4 [0] [] ⟨[(0, .c (.val (.bool false)))], [], 4⟩ [(r_2.2 == (0 : Int)) = true, (r_6.2 == (0 : Int)) = false] (by kernel_rfl) rfl rfl (ap2 b_18 (ap1 b_19)) (by kernel_rfl) (by kernel_rfl) ?_
      have H_93 := Option.some.inj (show some false = some r from H_55); subst H_93
      refine VL_ret ?_
      exact P_to [(0, .c (.val (.bool false)))] [] [] hn (by kernel_rfl) (by kernel_rfl) rfl rfl rfl (QF_retS (by kernel_rfl) (by kernel_rfl) rfl)
  · have H_53 := of_f H_51 b_18
    refine V_reg hN hn [] [(30, false)] calls_nil 4 [0] [] ⟨[(0, .c (.val (.bool false)))], [], 4⟩ [(r_2.2 == (0 : Int)) = false] (by kernel_rfl) rfl rfl (ap1 b_18) (by kernel_rfl) (by kernel_rfl) ?_
    have H_94 := Option.some.inj (show some false = some r from H_53); subst H_94
    refine VL_ret ?_
    exact P_to [(0, .c (.val (.bool false)))] [] [] hn (by kernel_rfl) (by kernel_rfl) rfl rfl rfl (QF_retS (by kernel_rfl) (by kernel_rfl) rfl)

theorem palinodelaw15_same_rr_spec (K : Nat) (a_1 : (List (Int × (Int × Int)))) (b_2 : (List (Int × (Int × Int)))) (r : Bool) (H : palinodelaw15_same_rr K a_1 b_2 = some r) : Spec Try.prog 12 2 [.c (.h 0), .c (.h 1)] [(0, .row (.pair (.int .i64) (.pair (.int .i64) (.int .i64))) a_1), (1, .row (.pair (.int .i64) (.pair (.int .i64) (.int .i64))) b_2)] (.c (.val (.bool r))) [(0, .row (.pair (.int .i64) (.pair (.int .i64) (.int .i64))) a_1), (1, .row (.pair (.int .i64) (.pair (.int .i64) (.int .i64))) b_2)] := by
  refine Spec_mk (fn := Try.f12) (c := (Try.f12.body).get!) Try.func12 (by kernel_rfl) rfl ?_
  intro C hN hn
  replace hN : C.N = 26 := hN
  unfold palinodelaw15_same_rr at H
  refine V_run hN hn 5 2 [0, 1, 10] [0, 1] ⟨[(0, .c (.h 0)), (1, .c (.h 1)), (10, .c (.val (.bool ((((List.length a_1) : Nat) : Int) != (((List.length b_2) : Nat) : Int)))))], [(0, .row (.pair (.int .i64) (.pair (.int .i64) (.int .i64))) a_1), (1, .row (.pair (.int .i64) (.pair (.int .i64) (.int .i64))) b_2)], 2⟩ [] (by kernel_rfl) rfl rfl ap0 ?_
  refine VL_cond (((((List.length a_1) : Nat) : Int) != (((List.length b_2) : Nat) : Int))) (by kernel_rfl) ?_ ?_
  · intro b_4; have H_20 := of_t H b_4
    refine V_run hN hn 2 2 [4] [0, 1] ⟨[(4, .c (.val (.bool false)))], [(0, .row (.pair (.int .i64) (.pair (.int .i64) (.int .i64))) a_1), (1, .row (.pair (.int .i64) (.pair (.int .i64) (.int .i64))) b_2)], 2⟩ [] (by kernel_rfl) rfl rfl ap0 ?_
    have H_22 := Option.some.inj (show some false = some r from H_20); subst H_22
    refine VL_ret ?_
    exact P_to [(4, .c (.val (.bool false)))] [(0, .row (.pair (.int .i64) (.pair (.int .i64) (.int .i64))) a_1), (1, .row (.pair (.int .i64) (.pair (.int .i64) (.int .i64))) b_2)] [] hn (by kernel_rfl) (by kernel_rfl) rfl rfl rfl (QF_retS (by kernel_rfl) (by kernel_rfl) rfl)
  · intro b_4; have H_21 := of_f H b_4
    refine V_run hN hn 4 2 [0, 1, 5] [0, 1] ⟨[(0, .c (.h 0)), (1, .c (.h 1)), (5, .c (.val (.int .i64 (0 : Int))))], [(0, .row (.pair (.int .i64) (.pair (.int .i64) (.int .i64))) a_1), (1, .row (.pair (.int .i64) (.pair (.int .i64) (.int .i64))) b_2)], 2⟩ [] (by kernel_rfl) rfl rfl ap0 ?_
    refine VL_block ?_
    refine V_to [(0, .c (.h 0)), (1, .c (.h 1)), (5, .c (.val (.int .i64 (0 : Int))))] [(0, .row (.pair (.int .i64) (.pair (.int .i64) (.int .i64))) a_1), (1, .row (.pair (.int .i64) (.pair (.int .i64) (.int .i64))) b_2)] [] hn (by kernel_rfl) (by kernel_rfl) rfl rfl rfl ?_
    refine VL_loop (X := Int) (fun x => [(0, .c (.h 0)), (1, .c (.h 1)), (5, .c (.val (.int .i64 x)))]) (fun x => [(0, .row (.pair (.int .i64) (.pair (.int .i64) (.int .i64))) a_1), (1, .row (.pair (.int .i64) (.pair (.int .i64) (.int .i64))) b_2)]) (fun k x => palinodelaw15_same_rr.l0 K a_1 b_2 k x = some r) K (0 : Int) H_21 (fun _ h => no_none h) ?_
    intro k_8 i_7 H_23
    have H_24 : palinodelaw15_same_rr.l0 K a_1 b_2 (k_8 + 1) i_7 = some r := H_23
    rw [palinodelaw15_same_rr.l0] at H_24
    refine V_run hN hn 3 2 [0, 1, 5, 14] [0, 1] ⟨[(0, .c (.h 0)), (1, .c (.h 1)), (5, .c (.val (.int .i64 i_7))), (14, .c (.val (.bool (decide (i_7 < (((List.length a_1) : Nat) : Int))))))], [(0, .row (.pair (.int .i64) (.pair (.int .i64) (.int .i64))) a_1), (1, .row (.pair (.int .i64) (.pair (.int .i64) (.int .i64))) b_2)], 2⟩ [] (by kernel_rfl) rfl rfl ap0 ?_
    refine VL_cond ((decide (i_7 < (((List.length a_1) : Nat) : Int)))) (by kernel_rfl) ?_ ?_
    · intro b_10; have H_25 := of_t H_24 b_10
      refine V_run hN hn 2 2 [0, 1, 5, 14] [0, 1] ⟨[(0, .c (.h 0)), (1, .c (.h 1)), (5, .c (.val (.int .i64 i_7))), (14, .c (.val (.bool (decide (i_7 < (((List.length a_1) : Nat) : Int))))))], [(0, .row (.pair (.int .i64) (.pair (.int .i64) (.int .i64))) a_1), (1, .row (.pair (.int .i64) (.pair (.int .i64) (.int .i64))) b_2)], 2⟩ [] (by kernel_rfl) rfl rfl ap0 ?_
      refine VL_block ?_
      refine V_run hN hn 1 2 [0, 1, 5, 14] [0, 1] ⟨[(0, .c (.h 0)), (1, .c (.h 1)), (5, .c (.val (.int .i64 i_7))), (14, .c (.val (.bool (decide (i_7 < (((List.length a_1) : Nat) : Int))))))], [(0, .row (.pair (.int .i64) (.pair (.int .i64) (.int .i64))) a_1), (1, .row (.pair (.int .i64) (.pair (.int .i64) (.int .i64))) b_2)], 2⟩ [] (by kernel_rfl) rfl rfl ap0 ?_
      obtain ⟨c_13, H_27⟩ := of_if H_25
      refine V_draw hN hn (by kernel_rfl) [] [] calls_nil 2 [0, 1, 5, 25] [0, 1] ⟨[(0, .c (.h 0)), (1, .c (.h 1)), (5, .c (.val (.int .i64 i_7))), (25, .c (.val (.bool (!(((List.getD a_1 (Int.toNat i_7) ((0 : Int), ((0 : Int), (0 : Int)))).1 == (List.getD b_2 (Int.toNat i_7) ((0 : Int), ((0 : Int), (0 : Int)))).1) && (((List.getD a_1 (Int.toNat i_7) ((0 : Int), ((0 : Int), (0 : Int)))).2.1 == (List.getD b_2 (Int.toNat i_7) ((0 : Int), ((0 : Int), (0 : Int)))).2.1) && ((List.getD a_1 (Int.toNat i_7) ((0 : Int), ((0 : Int), (0 : Int)))).2.2 == (List.getD b_2 (Int.toNat i_7) ((0 : Int), ((0 : Int), (0 : Int)))).2.2)))))))], [(0, .row (.pair (.int .i64) (.pair (.int .i64) (.int .i64))) a_1), (1, .row (.pair (.int .i64) (.pair (.int .i64) (.int .i64))) b_2)], 2⟩ [0 ≤ i_7, i_7 < (((List.length a_1) : Nat) : Int), 0 ≤ i_7, i_7 < (((List.length b_2) : Nat) : Int)] (by kernel_rfl) rfl rfl (ap2 c_13.1 (ap2 c_13.2.1 (ap2 c_13.1 (ap1 c_13.2.2)))) (by kernel_rfl) (by kernel_rfl) ?_
      refine VL_cond ((!(((List.getD a_1 (Int.toNat i_7) ((0 : Int), ((0 : Int), (0 : Int)))).1 == (List.getD b_2 (Int.toNat i_7) ((0 : Int), ((0 : Int), (0 : Int)))).1) && (((List.getD a_1 (Int.toNat i_7) ((0 : Int), ((0 : Int), (0 : Int)))).2.1 == (List.getD b_2 (Int.toNat i_7) ((0 : Int), ((0 : Int), (0 : Int)))).2.1) && ((List.getD a_1 (Int.toNat i_7) ((0 : Int), ((0 : Int), (0 : Int)))).2.2 == (List.getD b_2 (Int.toNat i_7) ((0 : Int), ((0 : Int), (0 : Int)))).2.2))))) (by kernel_rfl) ?_ ?_
      · intro b_14; have H_28 := of_t H_27 b_14
        refine V_run hN hn 2 2 [4] [0, 1] ⟨[(4, .c (.val (.bool false)))], [(0, .row (.pair (.int .i64) (.pair (.int .i64) (.int .i64))) a_1), (1, .row (.pair (.int .i64) (.pair (.int .i64) (.int .i64))) b_2)], 2⟩ [] (by kernel_rfl) rfl rfl ap0 ?_
        have H_30 := Option.some.inj (show some false = some r from H_28); subst H_30
        refine VL_ret ?_
        refine QB_ret ?_
        refine QL_ret ?_
        refine QB_ret ?_
        exact P_to [(4, .c (.val (.bool false)))] [(0, .row (.pair (.int .i64) (.pair (.int .i64) (.int .i64))) a_1), (1, .row (.pair (.int .i64) (.pair (.int .i64) (.int .i64))) b_2)] [] hn (by kernel_rfl) (by kernel_rfl) rfl rfl rfl (QF_retS (by kernel_rfl) (by kernel_rfl) rfl)
      · intro b_14; have H_29 := of_f H_27 b_14
        refine V_run hN hn 1 2 [0, 1, 5, 25] [0, 1] ⟨[(0, .c (.h 0)), (1, .c (.h 1)), (5, .c (.val (.int .i64 i_7))), (25, .c (.val (.bool (!(((List.getD a_1 (Int.toNat i_7) ((0 : Int), ((0 : Int), (0 : Int)))).1 == (List.getD b_2 (Int.toNat i_7) ((0 : Int), ((0 : Int), (0 : Int)))).1) && (((List.getD a_1 (Int.toNat i_7) ((0 : Int), ((0 : Int), (0 : Int)))).2.1 == (List.getD b_2 (Int.toNat i_7) ((0 : Int), ((0 : Int), (0 : Int)))).2.1) && ((List.getD a_1 (Int.toNat i_7) ((0 : Int), ((0 : Int), (0 : Int)))).2.2 == (List.getD b_2 (Int.toNat i_7) ((0 : Int), ((0 : Int), (0 : Int)))).2.2)))))))], [(0, .row (.pair (.int .i64) (.pair (.int .i64) (.int .i64))) a_1), (1, .row (.pair (.int .i64) (.pair (.int .i64) (.int .i64))) b_2)], 2⟩ [] (by kernel_rfl) rfl rfl ap0 ?_
        refine VL_nil (QB_end ?_)
        refine V_run hN hn 1 2 [0, 1, 5] [0, 1] ⟨[(0, .c (.h 0)), (1, .c (.h 1)), (5, .c (.val (.int .i64 (IntKind.wrap .i64 (i_7 + (1 : Int))))))], [(0, .row (.pair (.int .i64) (.pair (.int .i64) (.int .i64))) a_1), (1, .row (.pair (.int .i64) (.pair (.int .i64) (.int .i64))) b_2)], 2⟩ [] (by kernel_rfl) rfl rfl ap0 ?_
        refine VL_nil ?_
        exact V_roundEnd (IntKind.wrap .i64 (i_7 + (1 : Int))) H_29 [] hn (by kernel_rfl) (by kernel_rfl) rfl rfl rfl
    · intro b_10; have H_26 := of_f H_24 b_10
      refine VL_exit ?_
      refine QL_exit ?_
      refine QB_here ?_
      refine V_run hN hn 2 2 [4] [0, 1] ⟨[(4, .c (.val (.bool true)))], [(0, .row (.pair (.int .i64) (.pair (.int .i64) (.int .i64))) a_1), (1, .row (.pair (.int .i64) (.pair (.int .i64) (.int .i64))) b_2)], 2⟩ [] (by kernel_rfl) rfl rfl ap0 ?_
      have H_31 := Option.some.inj (show some true = some r from H_26); subst H_31
      refine VL_ret ?_
      exact P_to [(4, .c (.val (.bool true)))] [(0, .row (.pair (.int .i64) (.pair (.int .i64) (.int .i64))) a_1), (1, .row (.pair (.int .i64) (.pair (.int .i64) (.int .i64))) b_2)] [] hn (by kernel_rfl) (by kernel_rfl) rfl rfl rfl (QF_retS (by kernel_rfl) (by kernel_rfl) rfl)

theorem spans_Merge_nr_spec (K : Nat) (b_2 : (List (Int × (Int × Int)))) (r : ((List (Int × (Int × Int))) × Int)) (H : spans_Merge_nr K ([] : (List (Int × (Int × Int)))) b_2 = some r) : Spec Try.prog 15 1 [.c (.val (.slice none 0 0)), .c (.h 0)] [(0, .row (.pair (.int .i64) (.pair (.int .i64) (.int .i64))) b_2)] (.tup [(false, [.h 8]), (false, [.val (.int .i64 r.2)])]) [(0, .row (.pair (.int .i64) (.pair (.int .i64) (.int .i64))) b_2), (8, .row (.pair (.int .i64) (.pair (.int .i64) (.int .i64))) r.1)] := by
  refine Spec_mk (fn := Try.f15) (c := (Try.f15.body).get!) Try.func15 (by kernel_rfl) rfl ?_
  intro C hN hn
  replace hN : C.N = 39 := hN
  unfold spans_Merge_nr at H
  refine V_run hN hn 4 1 [0, 1] [0] ⟨[(0, .c (.val (.slice none 0 0))), (1, .c (.h 0))], [(0, .row (.pair (.int .i64) (.pair (.int .i64) (.int .i64))) b_2)], 1⟩ [] (by kernel_rfl) rfl rfl ap0 ?_
  obtain ⟨q_48, H_49, H_50⟩ := of_bind H
  refine V_cut (Y := Bool) (R := Bool) q_48 (fun y => y) (fun y => [(0, .c (.val (.slice none 0 0))), (1, .c (.h 0)), (18, .c (.val (.bool y)))]) (fun y => [(0, .row (.pair (.int .i64) (.pair (.int .i64) (.int .i64))) b_2)]) ?_ ?_
  · skip
    obtain ⟨r_4, h_5, H_52⟩ := of_bind H_49
    rcases Bool.eq_false_or_eq_true ((!r_4)) with b_6 | b_6
    · have H_53 := of_t H_52 b_6
      refine V_reg hN hn [(1, ⟨13, 0, [.c (.val (.slice none 0 0)), .c (.val (.int .i64 (20000 : Int)))], [], .c (.val (.bool r_4)), [], [], 1⟩)] [(14, true)] (calls_cons (spans_Is_ng_spec K (20000 : Int) r_4 h_5) (by kernel_rfl) calls_nil) 1 [0, 1, 18] [0] ⟨[(0, .c (.val (.slice none 0 0))), (1, .c (.h 0)), (18, .c (.val (.bool true)))], [(0, .row (.pair (.int .i64) (.pair (.int .i64) (.int .i64))) b_2)], 1⟩ [(!r_4) = true] (by kernel_rfl) rfl rfl (ap1 b_6) (by kernel_rfl) (by kernel_rfl) ?_
      have H_55 := Option.some.inj (show some true = some q_48 from H_53); subst H_55
      refine VL_nil ?_
      exact QP_end true rfl [] hn (by kernel_rfl) (by kernel_rfl) rfl rfl rfl
    · have H_54 := of_f H_52 b_6
      obtain ⟨r_8, h_9, H_56⟩ := of_bind H_54
      refine V_reg hN hn [(1, ⟨13, 0, [.c (.val (.slice none 0 0)), .c (.val (.int .i64 (20000 : Int)))], [], .c (.val (.bool r_4)), [], [], 1⟩), (5, ⟨13, 1, [.c (.h 0), .c (.val (.int .i64 (20000 : Int)))], [(0, .row (.pair (.int .i64) (.pair (.int .i64) (.int .i64))) b_2)], .c (.val (.bool r_8)), [(0, .row (.pair (.int .i64) (.pair (.int .i64) (.int .i64))) b_2)], [(0, 0)], 1⟩)] [(14, false)] (calls_cons (spans_Is_ng_spec K (20000 : Int) r_4 h_5) (by kernel_rfl) (calls_cons (spans_Is_rg_spec K b_2 (20000 : Int) r_8 h_9) (by kernel_rfl) calls_nil)) 1 [0, 1, 18] [0] ⟨[(0, .c (.val (.slice none 0 0))), (1, .c (.h 0)), (18, .c (.val (.bool (!r_8))))], [(0, .row (.pair (.int .i64) (.pair (.int .i64) (.int .i64))) b_2)], 1⟩ [(!r_4) = false] (by kernel_rfl) rfl rfl (ap1 b_6) (by kernel_rfl) (by kernel_rfl) ?_
      have H_57 := Option.some.inj (show some (!r_8) = some q_48 from H_56); subst H_57
      refine VL_nil ?_
      exact QP_end (!r_8) rfl [] hn (by kernel_rfl) (by kernel_rfl) rfl rfl rfl
  · intro y_51 hy; subst hy
    skip
    skip
    refine VL_cond (y_51) (by kernel_rfl) ?_ ?_
    · intro b_12; have H_58 := of_t H_50 b_12
      refine V_run hN hn 2 1 [4, 5] [0] ⟨[(4, .c (.val (.slice none 0 0))), (5, .c (.val (.int .i64 (12 : Int))))], [(0, .row (.pair (.int .i64) (.pair (.int .i64) (.int .i64))) b_2)], 1⟩ [] (by kernel_rfl) rfl rfl ap0 ?_
      have H_60 := Option.some.inj (show some (([] : List (Int × (Int × Int))), (12 : Int)) = some r from H_58); subst H_60
      refine VL_ret ?_
      refine P_ghost [.nilSlot 4 (.pair (.int .i64) (.pair (.int .i64) (.int .i64)))] 1 hn [4, 5] [0, 1] ⟨[(4, .c (.h 1)), (5, .c (.val (.int .i64 (12 : Int))))], [(0, .row (.pair (.int .i64) (.pair (.int .i64) (.int .i64))) b_2), (1, .row (.pair (.int .i64) (.pair (.int .i64) (.int .i64))) ([] : List (Int × (Int × Int))))], 2⟩ (by kernel_rfl) rfl rfl ?_
      exact P_to [(4, .c (.h 8)), (5, .c (.val (.int .i64 (12 : Int))))] [(0, .row (.pair (.int .i64) (.pair (.int .i64) (.int .i64))) b_2), (8, .row (.pair (.int .i64) (.pair (.int .i64) (.int .i64))) ([] : List (Int × (Int × Int))))] [(8, 1)] hn (by kernel_rfl) (by kernel_rfl) rfl rfl rfl (QF_retS (by kernel_rfl) (by kernel_rfl) rfl)
    · intro b_12; have H_59 := of_f H_50 b_12
      obtain ⟨c_14, H_61⟩ := of_if H_59
      refine V_run hN hn 6 1 [6, 21, 22, 23] [0, 1] ⟨[(6, .c (.h 1)), (21, .c (.h 0)), (22, .c (.val (.int .i64 (((List.length b_2) : Nat) : Int)))), (23, .c (.val (.int .i64 (0 : Int))))], [(0, .row (.pair (.int .i64) (.pair (.int .i64) (.int .i64))) b_2), (1, .row (.pair (.int .i64) (.pair (.int .i64) (.int .i64))) ([] : (List (Int × (Int × Int)))))], 2⟩ [List.length ([] : (List (Int × (Int × Int)))) * 24 ≤ 140737488355328] (by kernel_rfl) rfl rfl (ap1 c_14) ?_
      refine VL_block ?_
      refine V_to [(6, .c (.h 4)), (21, .c (.h 0)), (22, .c (.val (.int .i64 (((List.length b_2) : Nat) : Int)))), (23, .c (.val (.int .i64 (0 : Int))))] [(0, .row (.pair (.int .i64) (.pair (.int .i64) (.int .i64))) b_2), (4, .row (.pair (.int .i64) (.pair (.int .i64) (.int .i64))) ([] : (List (Int × (Int × Int)))))] [(4, 1)] hn (by kernel_rfl) (by kernel_rfl) rfl rfl rfl ?_
      refine VL_loop (X := ((List (Int × (Int × Int))) × Int)) (fun x => [(6, .c (.h 4)), (21, .c (.h 0)), (22, .c (.val (.int .i64 (((List.length b_2) : Nat) : Int)))), (23, .c (.val (.int .i64 x.2)))]) (fun x => [(0, .row (.pair (.int .i64) (.pair (.int .i64) (.int .i64))) b_2), (4, .row (.pair (.int .i64) (.pair (.int .i64) (.int .i64))) x.1)]) (fun k x => spans_Merge_nr.l0 K b_2 k x.1 x.2 = some r) K (([] : (List (Int × (Int × Int)))), (0 : Int)) H_61 (fun _ h => no_none h) ?_
      intro k_31 x_31 H_62
      obtain ⟨out_30, t_15⟩ := x_31
      have H_63 : spans_Merge_nr.l0 K b_2 (k_31 + 1) out_30 t_15 = some r := H_62
      rw [spans_Merge_nr.l0] at H_63
      refine V_run hN hn 3 5 [6, 21, 22, 23, 24] [0, 4] ⟨[(6, .c (.h 4)), (21, .c (.h 0)), (22, .c (.val (.int .i64 (((List.length b_2) : Nat) : Int)))), (23, .c (.val (.int .i64 t_15))), (24, .c (.val (.bool (decide (t_15 < (((List.length b_2) : Nat) : Int))))))], [(0, .row (.pair (.int .i64) (.pair (.int .i64) (.int .i64))) b_2), (4, .row (.pair (.int .i64) (.pair (.int .i64) (.int .i64))) out_30)], 5⟩ [] (by kernel_rfl) rfl rfl ap0 ?_
      refine VL_cond ((decide (t_15 < (((List.length b_2) : Nat) : Int)))) (by kernel_rfl) ?_ ?_
      · intro b_33; have H_64 := of_t H_63 b_33
        refine V_run hN hn 2 5 [6, 21, 22, 23, 24] [0, 4] ⟨[(6, .c (.h 4)), (21, .c (.h 0)), (22, .c (.val (.int .i64 (((List.length b_2) : Nat) : Int)))), (23, .c (.val (.int .i64 t_15))), (24, .c (.val (.bool (decide (t_15 < (((List.length b_2) : Nat) : Int))))))], [(0, .row (.pair (.int .i64) (.pair (.int .i64) (.int .i64))) b_2), (4, .row (.pair (.int .i64) (.pair (.int .i64) (.int .i64))) out_30)], 5⟩ [] (by kernel_rfl) rfl rfl ap0 ?_
        refine VL_block ?_
        obtain ⟨c_35, H_66⟩ := of_if H_64
        refine V_run hN hn 3 5 [6, 8, 21, 22, 23] [0, 4, 5] ⟨[(6, .c (.h 4)), (8, .c (.h 5)), (21, .c (.h 0)), (22, .c (.val (.int .i64 (((List.length b_2) : Nat) : Int)))), (23, .c (.val (.int .i64 t_15)))], [(0, .row (.pair (.int .i64) (.pair (.int .i64) (.int .i64))) b_2), (4, .row (.pair (.int .i64) (.pair (.int .i64) (.int .i64))) out_30), (5, .box [.val (.int .i64 (List.getD b_2 (Int.toNat t_15) ((0 : Int), ((0 : Int), (0 : Int)))).1), .val (.int .i64 (List.getD b_2 (Int.toNat t_15) ((0 : Int), ((0 : Int), (0 : Int)))).2.1), .val (.int .i64 (List.getD b_2 (Int.toNat t_15) ((0 : Int), ((0 : Int), (0 : Int)))).2.2)])], 6⟩ [0 ≤ t_15, t_15 < (((List.length b_2) : Nat) : Int)] (by kernel_rfl) rfl rfl (ap2 c_35.1 (ap1 c_35.2)) ?_
        obtain ⟨r_36, h_37, H_67⟩ := of_bind H_66
        refine V_reg hN hn [(2, ⟨10, 1, [.c (.h 0), .agg [.val (.int .i64 (List.getD b_2 (Int.toNat t_15) ((0 : Int), ((0 : Int), (0 : Int)))).1), .val (.int .i64 (List.getD b_2 (Int.toNat t_15) ((0 : Int), ((0 : Int), (0 : Int)))).2.1), .val (.int .i64 (List.getD b_2 (Int.toNat t_15) ((0 : Int), ((0 : Int), (0 : Int)))).2.2)]], [(0, .row (.pair (.int .i64) (.pair (.int .i64) (.int .i64))) out_30)], .tup [(false, [.h 10]), (false, [.val (.int .i64 r_36.2)])], [(0, .row (.pair (.int .i64) (.pair (.int .i64) (.int .i64))) out_30), (10, .row (.pair (.int .i64) (.pair (.int .i64) (.int .i64))) r_36.1)], [(0, 4), (10, 6)], 7⟩)] [] (calls_cons (spans_Put_rsggg_spec K out_30 (List.getD b_2 (Int.toNat t_15) ((0 : Int), ((0 : Int), (0 : Int)))).1 (List.getD b_2 (Int.toNat t_15) ((0 : Int), ((0 : Int), (0 : Int)))).2.1 (List.getD b_2 (Int.toNat t_15) ((0 : Int), ((0 : Int), (0 : Int)))).2.2 r_36 h_37) (by kernel_rfl) calls_nil) 6 [9, 10, 21, 22, 23] [0, 6] ⟨[(9, .c (.h 6)), (10, .c (.val (.int .i64 r_36.2))), (21, .c (.h 0)), (22, .c (.val (.int .i64 (((List.length b_2) : Nat) : Int)))), (23, .c (.val (.int .i64 t_15)))], [(0, .row (.pair (.int .i64) (.pair (.int .i64) (.int .i64))) b_2), (6, .row (.pair (.int .i64) (.pair (.int .i64) (.int .i64))) r_36.1)], 7⟩ [] (by kernel_rfl) rfl rfl ap0 (by kernel_rfl) (by kernel_rfl) ?_
        refine V_run hN hn 3 7 [9, 10, 21, 22, 23, 34] [0, 6] ⟨[(9, .c (.h 6)), (10, .c (.val (.int .i64 r_36.2))), (21, .c (.h 0)), (22, .c (.val (.int .i64 (((List.length b_2) : Nat) : Int)))), (23, .c (.val (.int .i64 t_15))), (34, .c (.val (.bool (r_36.2 != (0 : Int)))))], [(0, .row (.pair (.int .i64) (.pair (.int .i64) (.int .i64))) b_2), (6, .row (.pair (.int .i64) (.pair (.int .i64) (.int .i64))) r_36.1)], 7⟩ [] (by kernel_rfl) rfl rfl ap0 ?_
        refine VL_cond ((r_36.2 != (0 : Int))) (by kernel_rfl) ?_ ?_
        · intro b_40; have H_68 := of_t H_67 b_40
          refine V_run hN hn 2 7 [4, 5] [0] ⟨[(4, .c (.val (.slice none 0 0))), (5, .c (.val (.int .i64 r_36.2)))], [(0, .row (.pair (.int .i64) (.pair (.int .i64) (.int .i64))) b_2)], 7⟩ [] (by kernel_rfl) rfl rfl ap0 ?_
          have H_70 := Option.some.inj (show some (([] : List (Int × (Int × Int))), r_36.2) = some r from H_68); subst H_70
          refine VL_ret ?_
          refine QB_ret ?_
          refine QL_ret ?_
          refine QB_ret ?_
          refine P_ghost [.nilSlot 4 (.pair (.int .i64) (.pair (.int .i64) (.int .i64)))] 7 hn [4, 5] [0, 7] ⟨[(4, .c (.h 7)), (5, .c (.val (.int .i64 r_36.2)))], [(0, .row (.pair (.int .i64) (.pair (.int .i64) (.int .i64))) b_2), (7, .row (.pair (.int .i64) (.pair (.int .i64) (.int .i64))) ([] : List (Int × (Int × Int))))], 8⟩ (by kernel_rfl) rfl rfl ?_
          exact P_to [(4, .c (.h 8)), (5, .c (.val (.int .i64 r_36.2)))] [(0, .row (.pair (.int .i64) (.pair (.int .i64) (.int .i64))) b_2), (8, .row (.pair (.int .i64) (.pair (.int .i64) (.int .i64))) ([] : List (Int × (Int × Int))))] [(8, 7)] hn (by kernel_rfl) (by kernel_rfl) rfl rfl rfl (QF_retS (by kernel_rfl) (by kernel_rfl) rfl)
        · intro b_40; have H_69 := of_f H_67 b_40
          refine V_run hN hn 2 7 [6, 21, 22, 23] [0, 6] ⟨[(6, .c (.h 6)), (21, .c (.h 0)), (22, .c (.val (.int .i64 (((List.length b_2) : Nat) : Int)))), (23, .c (.val (.int .i64 t_15)))], [(0, .row (.pair (.int .i64) (.pair (.int .i64) (.int .i64))) b_2), (6, .row (.pair (.int .i64) (.pair (.int .i64) (.int .i64))) r_36.1)], 7⟩ [] (by kernel_rfl) rfl rfl ap0 ?_
          refine VL_nil (QB_end ?_)
          refine V_run hN hn 1 7 [6, 21, 22, 23] [0, 6] ⟨[(6, .c (.h 6)), (21, .c (.h 0)), (22, .c (.val (.int .i64 (((List.length b_2) : Nat) : Int)))), (23, .c (.val (.int .i64 (IntKind.wrap .i64 (t_15 + (1 : Int))))))], [(0, .row (.pair (.int .i64) (.pair (.int .i64) (.int .i64))) b_2), (6, .row (.pair (.int .i64) (.pair (.int .i64) (.int .i64))) r_36.1)], 7⟩ [] (by kernel_rfl) rfl rfl ap0 ?_
          refine VL_nil ?_
          exact V_roundEnd (r_36.1, (IntKind.wrap .i64 (t_15 + (1 : Int)))) H_69 [(4, 6)] hn (by kernel_rfl) (by kernel_rfl) rfl rfl rfl
      · intro b_33; have H_65 := of_f H_63 b_33
        refine VL_exit ?_
        refine QL_exit ?_
        refine QB_here ?_
        refine V_run hN hn 2 5 [4, 5] [0, 4] ⟨[(4, .c (.h 4)), (5, .c (.val (.int .i64 (0 : Int))))], [(0, .row (.pair (.int .i64) (.pair (.int .i64) (.int .i64))) b_2), (4, .row (.pair (.int .i64) (.pair (.int .i64) (.int .i64))) out_30)], 5⟩ [] (by kernel_rfl) rfl rfl ap0 ?_
        have H_71 := Option.some.inj (show some (out_30, (0 : Int)) = some r from H_65); subst H_71
        refine VL_ret ?_
        exact P_to [(4, .c (.h 8)), (5, .c (.val (.int .i64 (0 : Int))))] [(0, .row (.pair (.int .i64) (.pair (.int .i64) (.int .i64))) b_2), (8, .row (.pair (.int .i64) (.pair (.int .i64) (.int .i64))) out_30)] [(8, 4)] hn (by kernel_rfl) (by kernel_rfl) rfl rfl rfl (QF_retS (by kernel_rfl) (by kernel_rfl) rfl)

theorem spans_Merge_rr_spec (K : Nat) (a_1 : (List (Int × (Int × Int)))) (r : ((List (Int × (Int × Int))) × Int)) (H : spans_Merge_rr K a_1 = some r) : Spec Try.prog 15 1 [.c (.h 0), .c (.h 0)] [(0, .row (.pair (.int .i64) (.pair (.int .i64) (.int .i64))) a_1)] (.tup [(false, [.h 8]), (false, [.val (.int .i64 r.2)])]) [(0, .row (.pair (.int .i64) (.pair (.int .i64) (.int .i64))) a_1), (8, .row (.pair (.int .i64) (.pair (.int .i64) (.int .i64))) r.1)] := by
  refine Spec_mk (fn := Try.f15) (c := (Try.f15.body).get!) Try.func15 (by kernel_rfl) rfl ?_
  intro C hN hn
  replace hN : C.N = 39 := hN
  unfold spans_Merge_rr at H
  refine V_run hN hn 4 1 [0, 1] [0] ⟨[(0, .c (.h 0)), (1, .c (.h 0))], [(0, .row (.pair (.int .i64) (.pair (.int .i64) (.int .i64))) a_1)], 1⟩ [] (by kernel_rfl) rfl rfl ap0 ?_
  obtain ⟨q_47, H_48, H_49⟩ := of_bind H
  refine V_cut (Y := Bool) (R := Bool) q_47 (fun y => y) (fun y => [(0, .c (.h 0)), (1, .c (.h 0)), (18, .c (.val (.bool y)))]) (fun y => [(0, .row (.pair (.int .i64) (.pair (.int .i64) (.int .i64))) a_1)]) ?_ ?_
  · skip
    obtain ⟨r_3, h_4, H_51⟩ := of_bind H_48
    rcases Bool.eq_false_or_eq_true ((!r_3)) with b_5 | b_5
    · have H_52 := of_t H_51 b_5
      refine V_reg hN hn [(1, ⟨13, 1, [.c (.h 0), .c (.val (.int .i64 (20000 : Int)))], [(0, .row (.pair (.int .i64) (.pair (.int .i64) (.int .i64))) a_1)], .c (.val (.bool r_3)), [(0, .row (.pair (.int .i64) (.pair (.int .i64) (.int .i64))) a_1)], [(0, 0)], 1⟩)] [(14, true)] (calls_cons (spans_Is_rg_spec K a_1 (20000 : Int) r_3 h_4) (by kernel_rfl) calls_nil) 1 [0, 1, 18] [0] ⟨[(0, .c (.h 0)), (1, .c (.h 0)), (18, .c (.val (.bool true)))], [(0, .row (.pair (.int .i64) (.pair (.int .i64) (.int .i64))) a_1)], 1⟩ [(!r_3) = true] (by kernel_rfl) rfl rfl (ap1 b_5) (by kernel_rfl) (by kernel_rfl) ?_
      have H_54 := Option.some.inj (show some true = some q_47 from H_52); subst H_54
      refine VL_nil ?_
      exact QP_end true rfl [] hn (by kernel_rfl) (by kernel_rfl) rfl rfl rfl
    · have H_53 := of_f H_51 b_5
      obtain ⟨r_7, h_8, H_55⟩ := of_bind H_53
      refine V_reg hN hn [(1, ⟨13, 1, [.c (.h 0), .c (.val (.int .i64 (20000 : Int)))], [(0, .row (.pair (.int .i64) (.pair (.int .i64) (.int .i64))) a_1)], .c (.val (.bool r_3)), [(0, .row (.pair (.int .i64) (.pair (.int .i64) (.int .i64))) a_1)], [(0, 0)], 1⟩), (5, ⟨13, 1, [.c (.h 0), .c (.val (.int .i64 (20000 : Int)))], [(0, .row (.pair (.int .i64) (.pair (.int .i64) (.int .i64))) a_1)], .c (.val (.bool r_7)), [(0, .row (.pair (.int .i64) (.pair (.int .i64) (.int .i64))) a_1)], [(0, 0)], 1⟩)] [(14, false)] (calls_cons (spans_Is_rg_spec K a_1 (20000 : Int) r_3 h_4) (by kernel_rfl) (calls_cons (spans_Is_rg_spec K a_1 (20000 : Int) r_7 h_8) (by kernel_rfl) calls_nil)) 1 [0, 1, 18] [0] ⟨[(0, .c (.h 0)), (1, .c (.h 0)), (18, .c (.val (.bool (!r_7))))], [(0, .row (.pair (.int .i64) (.pair (.int .i64) (.int .i64))) a_1)], 1⟩ [(!r_3) = false] (by kernel_rfl) rfl rfl (ap1 b_5) (by kernel_rfl) (by kernel_rfl) ?_
      have H_56 := Option.some.inj (show some (!r_7) = some q_47 from H_55); subst H_56
      refine VL_nil ?_
      exact QP_end (!r_7) rfl [] hn (by kernel_rfl) (by kernel_rfl) rfl rfl rfl
  · intro y_50 hy; subst hy
    skip
    skip
    refine VL_cond (y_50) (by kernel_rfl) ?_ ?_
    · intro b_11; have H_57 := of_t H_49 b_11
      refine V_run hN hn 2 1 [4, 5] [0] ⟨[(4, .c (.val (.slice none 0 0))), (5, .c (.val (.int .i64 (12 : Int))))], [(0, .row (.pair (.int .i64) (.pair (.int .i64) (.int .i64))) a_1)], 1⟩ [] (by kernel_rfl) rfl rfl ap0 ?_
      have H_59 := Option.some.inj (show some (([] : List (Int × (Int × Int))), (12 : Int)) = some r from H_57); subst H_59
      refine VL_ret ?_
      refine P_ghost [.nilSlot 4 (.pair (.int .i64) (.pair (.int .i64) (.int .i64)))] 1 hn [4, 5] [0, 1] ⟨[(4, .c (.h 1)), (5, .c (.val (.int .i64 (12 : Int))))], [(0, .row (.pair (.int .i64) (.pair (.int .i64) (.int .i64))) a_1), (1, .row (.pair (.int .i64) (.pair (.int .i64) (.int .i64))) ([] : List (Int × (Int × Int))))], 2⟩ (by kernel_rfl) rfl rfl ?_
      exact P_to [(4, .c (.h 8)), (5, .c (.val (.int .i64 (12 : Int))))] [(0, .row (.pair (.int .i64) (.pair (.int .i64) (.int .i64))) a_1), (8, .row (.pair (.int .i64) (.pair (.int .i64) (.int .i64))) ([] : List (Int × (Int × Int))))] [(8, 1)] hn (by kernel_rfl) (by kernel_rfl) rfl rfl rfl (QF_retS (by kernel_rfl) (by kernel_rfl) rfl)
    · intro b_11; have H_58 := of_f H_49 b_11
      obtain ⟨c_13, H_60⟩ := of_if H_58
      refine V_run hN hn 6 1 [6, 21, 22, 23] [0, 1] ⟨[(6, .c (.h 1)), (21, .c (.h 0)), (22, .c (.val (.int .i64 (((List.length a_1) : Nat) : Int)))), (23, .c (.val (.int .i64 (0 : Int))))], [(0, .row (.pair (.int .i64) (.pair (.int .i64) (.int .i64))) a_1), (1, .row (.pair (.int .i64) (.pair (.int .i64) (.int .i64))) a_1)], 2⟩ [List.length a_1 * 24 ≤ 140737488355328] (by kernel_rfl) rfl rfl (ap1 c_13) ?_
      refine VL_block ?_
      refine V_to [(6, .c (.h 4)), (21, .c (.h 0)), (22, .c (.val (.int .i64 (((List.length a_1) : Nat) : Int)))), (23, .c (.val (.int .i64 (0 : Int))))] [(0, .row (.pair (.int .i64) (.pair (.int .i64) (.int .i64))) a_1), (4, .row (.pair (.int .i64) (.pair (.int .i64) (.int .i64))) a_1)] [(4, 1)] hn (by kernel_rfl) (by kernel_rfl) rfl rfl rfl ?_
      refine VL_loop (X := ((List (Int × (Int × Int))) × Int)) (fun x => [(6, .c (.h 4)), (21, .c (.h 0)), (22, .c (.val (.int .i64 (((List.length a_1) : Nat) : Int)))), (23, .c (.val (.int .i64 x.2)))]) (fun x => [(0, .row (.pair (.int .i64) (.pair (.int .i64) (.int .i64))) a_1), (4, .row (.pair (.int .i64) (.pair (.int .i64) (.int .i64))) x.1)]) (fun k x => spans_Merge_rr.l0 K a_1 k x.1 x.2 = some r) K (a_1, (0 : Int)) H_60 (fun _ h => no_none h) ?_
      intro k_30 x_30 H_61
      obtain ⟨out_29, t_14⟩ := x_30
      have H_62 : spans_Merge_rr.l0 K a_1 (k_30 + 1) out_29 t_14 = some r := H_61
      rw [spans_Merge_rr.l0] at H_62
      refine V_run hN hn 3 5 [6, 21, 22, 23, 24] [0, 4] ⟨[(6, .c (.h 4)), (21, .c (.h 0)), (22, .c (.val (.int .i64 (((List.length a_1) : Nat) : Int)))), (23, .c (.val (.int .i64 t_14))), (24, .c (.val (.bool (decide (t_14 < (((List.length a_1) : Nat) : Int))))))], [(0, .row (.pair (.int .i64) (.pair (.int .i64) (.int .i64))) a_1), (4, .row (.pair (.int .i64) (.pair (.int .i64) (.int .i64))) out_29)], 5⟩ [] (by kernel_rfl) rfl rfl ap0 ?_
      refine VL_cond ((decide (t_14 < (((List.length a_1) : Nat) : Int)))) (by kernel_rfl) ?_ ?_
      · intro b_32; have H_63 := of_t H_62 b_32
        refine V_run hN hn 2 5 [6, 21, 22, 23, 24] [0, 4] ⟨[(6, .c (.h 4)), (21, .c (.h 0)), (22, .c (.val (.int .i64 (((List.length a_1) : Nat) : Int)))), (23, .c (.val (.int .i64 t_14))), (24, .c (.val (.bool (decide (t_14 < (((List.length a_1) : Nat) : Int))))))], [(0, .row (.pair (.int .i64) (.pair (.int .i64) (.int .i64))) a_1), (4, .row (.pair (.int .i64) (.pair (.int .i64) (.int .i64))) out_29)], 5⟩ [] (by kernel_rfl) rfl rfl ap0 ?_
        refine VL_block ?_
        obtain ⟨c_34, H_65⟩ := of_if H_63
        refine V_run hN hn 3 5 [6, 8, 21, 22, 23] [0, 4, 5] ⟨[(6, .c (.h 4)), (8, .c (.h 5)), (21, .c (.h 0)), (22, .c (.val (.int .i64 (((List.length a_1) : Nat) : Int)))), (23, .c (.val (.int .i64 t_14)))], [(0, .row (.pair (.int .i64) (.pair (.int .i64) (.int .i64))) a_1), (4, .row (.pair (.int .i64) (.pair (.int .i64) (.int .i64))) out_29), (5, .box [.val (.int .i64 (List.getD a_1 (Int.toNat t_14) ((0 : Int), ((0 : Int), (0 : Int)))).1), .val (.int .i64 (List.getD a_1 (Int.toNat t_14) ((0 : Int), ((0 : Int), (0 : Int)))).2.1), .val (.int .i64 (List.getD a_1 (Int.toNat t_14) ((0 : Int), ((0 : Int), (0 : Int)))).2.2)])], 6⟩ [0 ≤ t_14, t_14 < (((List.length a_1) : Nat) : Int)] (by kernel_rfl) rfl rfl (ap2 c_34.1 (ap1 c_34.2)) ?_
        obtain ⟨r_35, h_36, H_66⟩ := of_bind H_65
        refine V_reg hN hn [(2, ⟨10, 1, [.c (.h 0), .agg [.val (.int .i64 (List.getD a_1 (Int.toNat t_14) ((0 : Int), ((0 : Int), (0 : Int)))).1), .val (.int .i64 (List.getD a_1 (Int.toNat t_14) ((0 : Int), ((0 : Int), (0 : Int)))).2.1), .val (.int .i64 (List.getD a_1 (Int.toNat t_14) ((0 : Int), ((0 : Int), (0 : Int)))).2.2)]], [(0, .row (.pair (.int .i64) (.pair (.int .i64) (.int .i64))) out_29)], .tup [(false, [.h 10]), (false, [.val (.int .i64 r_35.2)])], [(0, .row (.pair (.int .i64) (.pair (.int .i64) (.int .i64))) out_29), (10, .row (.pair (.int .i64) (.pair (.int .i64) (.int .i64))) r_35.1)], [(0, 4), (10, 6)], 7⟩)] [] (calls_cons (spans_Put_rsggg_spec K out_29 (List.getD a_1 (Int.toNat t_14) ((0 : Int), ((0 : Int), (0 : Int)))).1 (List.getD a_1 (Int.toNat t_14) ((0 : Int), ((0 : Int), (0 : Int)))).2.1 (List.getD a_1 (Int.toNat t_14) ((0 : Int), ((0 : Int), (0 : Int)))).2.2 r_35 h_36) (by kernel_rfl) calls_nil) 6 [9, 10, 21, 22, 23] [0, 6] ⟨[(9, .c (.h 6)), (10, .c (.val (.int .i64 r_35.2))), (21, .c (.h 0)), (22, .c (.val (.int .i64 (((List.length a_1) : Nat) : Int)))), (23, .c (.val (.int .i64 t_14)))], [(0, .row (.pair (.int .i64) (.pair (.int .i64) (.int .i64))) a_1), (6, .row (.pair (.int .i64) (.pair (.int .i64) (.int .i64))) r_35.1)], 7⟩ [] (by kernel_rfl) rfl rfl ap0 (by kernel_rfl) (by kernel_rfl) ?_
        refine V_run hN hn 3 7 [9, 10, 21, 22, 23, 34] [0, 6] ⟨[(9, .c (.h 6)), (10, .c (.val (.int .i64 r_35.2))), (21, .c (.h 0)), (22, .c (.val (.int .i64 (((List.length a_1) : Nat) : Int)))), (23, .c (.val (.int .i64 t_14))), (34, .c (.val (.bool (r_35.2 != (0 : Int)))))], [(0, .row (.pair (.int .i64) (.pair (.int .i64) (.int .i64))) a_1), (6, .row (.pair (.int .i64) (.pair (.int .i64) (.int .i64))) r_35.1)], 7⟩ [] (by kernel_rfl) rfl rfl ap0 ?_
        refine VL_cond ((r_35.2 != (0 : Int))) (by kernel_rfl) ?_ ?_
        · intro b_39; have H_67 := of_t H_66 b_39
          refine V_run hN hn 2 7 [4, 5] [0] ⟨[(4, .c (.val (.slice none 0 0))), (5, .c (.val (.int .i64 r_35.2)))], [(0, .row (.pair (.int .i64) (.pair (.int .i64) (.int .i64))) a_1)], 7⟩ [] (by kernel_rfl) rfl rfl ap0 ?_
          have H_69 := Option.some.inj (show some (([] : List (Int × (Int × Int))), r_35.2) = some r from H_67); subst H_69
          refine VL_ret ?_
          refine QB_ret ?_
          refine QL_ret ?_
          refine QB_ret ?_
          refine P_ghost [.nilSlot 4 (.pair (.int .i64) (.pair (.int .i64) (.int .i64)))] 7 hn [4, 5] [0, 7] ⟨[(4, .c (.h 7)), (5, .c (.val (.int .i64 r_35.2)))], [(0, .row (.pair (.int .i64) (.pair (.int .i64) (.int .i64))) a_1), (7, .row (.pair (.int .i64) (.pair (.int .i64) (.int .i64))) ([] : List (Int × (Int × Int))))], 8⟩ (by kernel_rfl) rfl rfl ?_
          exact P_to [(4, .c (.h 8)), (5, .c (.val (.int .i64 r_35.2)))] [(0, .row (.pair (.int .i64) (.pair (.int .i64) (.int .i64))) a_1), (8, .row (.pair (.int .i64) (.pair (.int .i64) (.int .i64))) ([] : List (Int × (Int × Int))))] [(8, 7)] hn (by kernel_rfl) (by kernel_rfl) rfl rfl rfl (QF_retS (by kernel_rfl) (by kernel_rfl) rfl)
        · intro b_39; have H_68 := of_f H_66 b_39
          refine V_run hN hn 2 7 [6, 21, 22, 23] [0, 6] ⟨[(6, .c (.h 6)), (21, .c (.h 0)), (22, .c (.val (.int .i64 (((List.length a_1) : Nat) : Int)))), (23, .c (.val (.int .i64 t_14)))], [(0, .row (.pair (.int .i64) (.pair (.int .i64) (.int .i64))) a_1), (6, .row (.pair (.int .i64) (.pair (.int .i64) (.int .i64))) r_35.1)], 7⟩ [] (by kernel_rfl) rfl rfl ap0 ?_
          refine VL_nil (QB_end ?_)
          refine V_run hN hn 1 7 [6, 21, 22, 23] [0, 6] ⟨[(6, .c (.h 6)), (21, .c (.h 0)), (22, .c (.val (.int .i64 (((List.length a_1) : Nat) : Int)))), (23, .c (.val (.int .i64 (IntKind.wrap .i64 (t_14 + (1 : Int))))))], [(0, .row (.pair (.int .i64) (.pair (.int .i64) (.int .i64))) a_1), (6, .row (.pair (.int .i64) (.pair (.int .i64) (.int .i64))) r_35.1)], 7⟩ [] (by kernel_rfl) rfl rfl ap0 ?_
          refine VL_nil ?_
          exact V_roundEnd (r_35.1, (IntKind.wrap .i64 (t_14 + (1 : Int)))) H_68 [(4, 6)] hn (by kernel_rfl) (by kernel_rfl) rfl rfl rfl
      · intro b_32; have H_64 := of_f H_62 b_32
        refine VL_exit ?_
        refine QL_exit ?_
        refine QB_here ?_
        refine V_run hN hn 2 5 [4, 5] [0, 4] ⟨[(4, .c (.h 4)), (5, .c (.val (.int .i64 (0 : Int))))], [(0, .row (.pair (.int .i64) (.pair (.int .i64) (.int .i64))) a_1), (4, .row (.pair (.int .i64) (.pair (.int .i64) (.int .i64))) out_29)], 5⟩ [] (by kernel_rfl) rfl rfl ap0 ?_
        have H_70 := Option.some.inj (show some (out_29, (0 : Int)) = some r from H_64); subst H_70
        refine VL_ret ?_
        exact P_to [(4, .c (.h 8)), (5, .c (.val (.int .i64 (0 : Int))))] [(0, .row (.pair (.int .i64) (.pair (.int .i64) (.int .i64))) a_1), (8, .row (.pair (.int .i64) (.pair (.int .i64) (.int .i64))) out_29)] [(8, 4)] hn (by kernel_rfl) (by kernel_rfl) rfl rfl rfl (QF_retS (by kernel_rfl) (by kernel_rfl) rfl)

theorem palinodelaw15_SpansRows_spec (K : Nat) (l_1 : (List (Int × (Int × Int)))) (r : Bool) (H : palinodelaw15_SpansRows K l_1 = some r) : Spec Try.prog 6 0 [.c (.imm (.slice (.pair (.int .i64) (.pair (.int .i64) (.int .i64)))) l_1)] [] (.c (.val (.bool r))) [] := by
  refine Spec_mk (fn := Try.f6) (c := (Try.f6.body).get!) Try.func6 (by kernel_rfl) rfl ?_
  intro C hN hn
  replace hN : C.N = 154 := hN
  unfold palinodelaw15_SpansRows at H
  refine V_run hN hn 4 0 [0] [] ⟨[(0, .c (.imm (.slice (.pair (.int .i64) (.pair (.int .i64) (.int .i64)))) l_1))], [], 0⟩ [] (by kernel_rfl) rfl rfl ap0 ?_
  obtain ⟨r_3, h_4, H_204⟩ := of_bind H
  refine V_reg hN hn [(0, ⟨9, 0, [], [], .c (.val (.bool r_3)), [], [], 0⟩)] [] (calls_cons (palinodelaw15_known_spec K  r_3 h_4) (by kernel_rfl) calls_nil) 0 [0, 18] [] ⟨[(0, .c (.imm (.slice (.pair (.int .i64) (.pair (.int .i64) (.int .i64)))) l_1)), (18, .c (.val (.bool (!r_3))))], [], 0⟩ [] (by kernel_rfl) rfl rfl ap0 (by kernel_rfl) (by kernel_rfl) ?_
  refine VL_cond ((!r_3)) (by kernel_rfl) ?_ ?_
  · intro b_6; have H_205 := of_t H_204 b_6
    refine V_run hN hn 2 0 [2] [] ⟨[(2, .c (.val (.bool false)))], [], 0⟩ [] (by kernel_rfl) rfl rfl ap0 ?_
    have H_207 := Option.some.inj (show some false = some r from H_205); subst H_207
    refine VL_ret ?_
    exact P_to [(2, .c (.val (.bool false)))] [] [] hn (by kernel_rfl) (by kernel_rfl) rfl rfl rfl (QF_retS (by kernel_rfl) (by kernel_rfl) rfl)
  · intro b_6; have H_206 := of_f H_204 b_6
    refine V_run hN hn 4 0 [0, 21] [] ⟨[(0, .c (.imm (.slice (.pair (.int .i64) (.pair (.int .i64) (.int .i64)))) l_1)), (21, .c (.val (.bool (decide ((((List.length l_1) : Nat) : Int) > (25 : Int))))))], [], 0⟩ [] (by kernel_rfl) rfl rfl ap0 ?_
    refine VL_cond ((decide ((((List.length l_1) : Nat) : Int) > (25 : Int)))) (by kernel_rfl) ?_ ?_
    · intro b_9; have H_208 := of_t H_206 b_9
      refine V_run hN hn 2 0 [2] [] ⟨[(2, .c (.val (.bool true)))], [], 0⟩ [] (by kernel_rfl) rfl rfl ap0 ?_
      have H_210 := Option.some.inj (show some true = some r from H_208); subst H_210
      refine VL_ret ?_
      exact P_to [(2, .c (.val (.bool true)))] [] [] hn (by kernel_rfl) (by kernel_rfl) rfl rfl rfl (QF_retS (by kernel_rfl) (by kernel_rfl) rfl)
    · intro b_9; have H_209 := of_f H_206 b_9
      refine V_run hN hn 8 0 [0, 3, 4, 5] [0] ⟨[(0, .c (.imm (.slice (.pair (.int .i64) (.pair (.int .i64) (.int .i64)))) l_1)), (3, .c (.h 0)), (4, .c (.val (.slice none 0 0))), (5, .c (.val (.int .i64 (0 : Int))))], [(0, .box [.val (.int .i64 (0 : Int)), .val (.int .i64 (0 : Int)), .val (.int .i64 (0 : Int)), .val (.int .i64 (0 : Int)), .val (.int .i64 (0 : Int)), .val (.int .i64 (0 : Int)), .val (.int .i64 (0 : Int)), .val (.int .i64 (0 : Int)), .val (.int .i64 (0 : Int)), .val (.int .i64 (0 : Int)), .val (.int .i64 (0 : Int)), .val (.int .i64 (0 : Int)), .val (.int .i64 (0 : Int)), .val (.int .i64 (0 : Int)), .val (.int .i64 (0 : Int)), .val (.int .i64 (0 : Int)), .val (.int .i64 (0 : Int)), .val (.int .i64 (0 : Int)), .val (.int .i64 (0 : Int)), .val (.int .i64 (0 : Int)), .val (.int .i64 (0 : Int)), .val (.int .i64 (0 : Int)), .val (.int .i64 (0 : Int)), .val (.int .i64 (0 : Int)), .val (.int .i64 (0 : Int)), .val (.int .i64 (0 : Int)), .val (.int .i64 (0 : Int)), .val (.int .i64 (0 : Int)), .val (.int .i64 (0 : Int)), .val (.int .i64 (0 : Int)), .val (.int .i64 (0 : Int)), .val (.int .i64 (0 : Int)), .val (.int .i64 (0 : Int)), .val (.int .i64 (0 : Int)), .val (.int .i64 (0 : Int)), .val (.int .i64 (0 : Int)), .val (.int .i64 (0 : Int)), .val (.int .i64 (0 : Int)), .val (.int .i64 (0 : Int)), .val (.int .i64 (0 : Int)), .val (.int .i64 (0 : Int)), .val (.int .i64 (0 : Int)), .val (.int .i64 (0 : Int)), .val (.int .i64 (0 : Int)), .val (.int .i64 (0 : Int)), .val (.int .i64 (0 : Int)), .val (.int .i64 (0 : Int)), .val (.int .i64 (0 : Int)), .val (.int .i64 (0 : Int)), .val (.int .i64 (0 : Int)), .val (.int .i64 (0 : Int)), .val (.int .i64 (0 : Int)), .val (.int .i64 (0 : Int)), .val (.int .i64 (0 : Int)), .val (.int .i64 (0 : Int)), .val (.int .i64 (0 : Int)), .val (.int .i64 (0 : Int)), .val (.int .i64 (0 : Int)), .val (.int .i64 (0 : Int)), .val (.int .i64 (0 : Int)), .val (.int .i64 (0 : Int)), .val (.int .i64 (0 : Int)), .val (.int .i64 (0 : Int)), .val (.int .i64 (0 : Int)), .val (.int .i64 (0 : Int)), .val (.int .i64 (0 : Int)), .val (.int .i64 (0 : Int)), .val (.int .i64 (0 : Int)), .val (.int .i64 (0 : Int)), .val (.int .i64 (0 : Int)), .val (.int .i64 (0 : Int)), .val (.int .i64 (0 : Int)), .val (.int .i64 (0 : Int)), .val (.int .i64 (0 : Int)), .val (.int .i64 (0 : Int)), .val (.int .i64 (0 : Int)), .val (.int .i64 (0 : Int)), .val (.int .i64 (0 : Int)), .val (.int .i64 (0 : Int)), .val (.int .i64 (0 : Int)), .val (.int .i64 (0 : Int)), .val (.int .i64 (0 : Int)), .val (.int .i64 (0 : Int)), .val (.int .i64 (0 : Int)), .val (.int .i64 (0 : Int)), .val (.int .i64 (0 : Int)), .val (.int .i64 (0 : Int)), .val (.int .i64 (0 : Int)), .val (.int .i64 (0 : Int)), .val (.int .i64 (0 : Int)), .val (.int .i64 (0 : Int)), .val (.int .i64 (0 : Int)), .val (.int .i64 (0 : Int)), .val (.int .i64 (0 : Int)), .val (.int .i64 (0 : Int)), .val (.int .i64 (0 : Int)), .val (.int .i64 (0 : Int)), .val (.int .i64 (0 : Int)), .val (.int .i64 (0 : Int)), .val (.int .i64 (0 : Int)), .val (.int .i64 (0 : Int)), .val (.int .i64 (0 : Int)), .val (.int .i64 (0 : Int)), .val (.int .i64 (0 : Int)), .val (.int .i64 (0 : Int)), .val (.int .i64 (0 : Int)), .val (.int .i64 (0 : Int)), .val (.int .i64 (0 : Int)), .val (.int .i64 (0 : Int)), .val (.int .i64 (0 : Int)), .val (.int .i64 (0 : Int)), .val (.int .i64 (0 : Int)), .val (.int .i64 (0 : Int)), .val (.int .i64 (0 : Int)), .val (.int .i64 (0 : Int)), .val (.int .i64 (0 : Int)), .val (.int .i64 (0 : Int)), .val (.int .i64 (0 : Int)), .val (.int .i64 (0 : Int)), .val (.int .i64 (0 : Int)), .val (.int .i64 (0 : Int)), .val (.int .i64 (0 : Int)), .val (.int .i64 (0 : Int)), .val (.int .i64 (0 : Int)), .val (.int .i64 (0 : Int)), .val (.int .i64 (0 : Int)), .val (.int .i64 (0 : Int)), .val (.int .i64 (0 : Int)), .val (.int .i64 (0 : Int)), .val (.int .i64 (0 : Int)), .val (.int .i64 (0 : Int)), .val (.int .i64 (0 : Int)), .val (.int .i64 (0 : Int)), .val (.int .i64 (0 : Int)), .val (.int .i64 (0 : Int)), .val (.int .i64 (0 : Int)), .val (.int .i64 (0 : Int)), .val (.int .i64 (0 : Int)), .val (.int .i64 (0 : Int)), .val (.int .i64 (0 : Int)), .val (.int .i64 (0 : Int)), .val (.int .i64 (0 : Int)), .val (.int .i64 (0 : Int)), .val (.int .i64 (0 : Int)), .val (.int .i64 (0 : Int)), .val (.int .i64 (0 : Int)), .val (.int .i64 (0 : Int)), .val (.int .i64 (0 : Int)), .val (.int .i64 (0 : Int)), .val (.int .i64 (0 : Int)), .val (.int .i64 (0 : Int)), .val (.int .i64 (0 : Int)), .val (.int .i64 (0 : Int)), .val (.int .i64 (0 : Int)), .val (.int .i64 (0 : Int)), .val (.int .i64 (0 : Int)), .val (.int .i64 (0 : Int)), .val (.int .i64 (0 : Int)), .val (.int .i64 (0 : Int)), .val (.int .i64 (0 : Int)), .val (.int .i64 (0 : Int)), .val (.int .i64 (0 : Int)), .val (.int .i64 (0 : Int)), .val (.int .i64 (0 : Int)), .val (.int .i64 (0 : Int)), .val (.int .i64 (0 : Int)), .val (.int .i64 (0 : Int)), .val (.int .i64 (0 : Int)), .val (.int .i64 (0 : Int)), .val (.int .i64 (0 : Int)), .val (.int .i64 (0 : Int)), .val (.int .i64 (0 : Int)), .val (.int .i64 (0 : Int)), .val (.int .i64 (0 : Int)), .val (.int .i64 (0 : Int)), .val (.int .i64 (0 : Int)), .val (.int .i64 (0 : Int)), .val (.int .i64 (0 : Int)), .val (.int .i64 (0 : Int)), .val (.int .i64 (0 : Int)), .val (.int .i64 (0 : Int)), .val (.int .i64 (0 : Int)), .val (.int .i64 (0 : Int)), .val (.int .i64 (0 : Int)), .val (.int .i64 (0 : Int)), .val (.int .i64 (0 : Int)), .val (.int .i64 (0 : Int)), .val (.int .i64 (0 : Int)), .val (.int .i64 (0 : Int)), .val (.int .i64 (0 : Int)), .val (.int .i64 (0 : Int)), .val (.int .i64 (0 : Int)), .val (.int .i64 (0 : Int)), .val (.int .i64 (0 : Int)), .val (.int .i64 (0 : Int)), .val (.int .i64 (0 : Int)), .val (.int .i64 (0 : Int)), .val (.int .i64 (0 : Int)), .val (.int .i64 (0 : Int)), .val (.int .i64 (0 : Int))])], 1⟩ [] (by kernel_rfl) rfl rfl ap0 ?_
      obtain ⟨q_211, H_212, H_213⟩ := of_bind H_209
      refine V_cut (Y := ((List Int) × (List (Int × (Int × Int))))) (R := (Bool ⊕ ((List Int) × (List (Int × (Int × Int)))))) q_211 (fun y => (Sum.inr y)) (fun y => [(3, .c (.elt 6 1 0 0)), (4, .c (.h 7))]) (fun y => [(6, .row (.int .i64) y.1), (7, .row (.pair (.int .i64) (.pair (.int .i64) (.int .i64))) y.2)]) ?_ ?_
      · skip
        refine VL_block ?_
        refine V_ghost [.arr 0 (.int .i64) 200, .nilSlot 4 (.pair (.int .i64) (.pair (.int .i64) (.int .i64)))] 1 hn [0, 3, 4, 5] [1, 2] ⟨[(0, .c (.imm (.slice (.pair (.int .i64) (.pair (.int .i64) (.int .i64)))) l_1)), (3, .c (.elt 1 1 0 0)), (4, .c (.h 2)), (5, .c (.val (.int .i64 (0 : Int))))], [(1, .row (.int .i64) (List.replicate 200 (0 : Int))), (2, .row (.pair (.int .i64) (.pair (.int .i64) (.int .i64))) ([] : List (Int × (Int × Int))))], 3⟩ (by kernel_rfl) rfl rfl ?_
        refine V_to [(0, .c (.imm (.slice (.pair (.int .i64) (.pair (.int .i64) (.int .i64)))) l_1)), (3, .c (.elt 6 1 0 0)), (4, .c (.h 7)), (5, .c (.val (.int .i64 (0 : Int))))] [(6, .row (.int .i64) (List.replicate 200 (0 : Int))), (7, .row (.pair (.int .i64) (.pair (.int .i64) (.int .i64))) ([] : List (Int × (Int × Int))))] [(6, 1), (7, 2)] hn (by kernel_rfl) (by kernel_rfl) rfl rfl rfl ?_
        refine VL_loop (X := ((List Int) × (List (Int × (Int × Int))) × Int)) (fun x => [(0, .c (.imm (.slice (.pair (.int .i64) (.pair (.int .i64) (.int .i64)))) l_1)), (3, .c (.elt 6 1 0 0)), (4, .c (.h 7)), (5, .c (.val (.int .i64 x.2.2)))]) (fun x => [(6, .row (.int .i64) x.1), (7, .row (.pair (.int .i64) (.pair (.int .i64) (.int .i64))) x.2.1)]) (fun k x => palinodelaw15_SpansRows.l0 K l_1 k x.1 x.2.1 x.2.2 = some q_211) K ((List.replicate 200 (0 : Int)), ([] : List (Int × (Int × Int))), (0 : Int)) H_212 (fun _ h => no_none h) ?_
        intro k_84 x_84 H_215
        obtain ⟨have_82, m_83, i_12⟩ := x_84
        have H_216 : palinodelaw15_SpansRows.l0 K l_1 (k_84 + 1) have_82 m_83 i_12 = some q_211 := H_215
        rw [palinodelaw15_SpansRows.l0] at H_216
        refine V_run hN hn 3 8 [0, 3, 4, 5, 25] [6, 7] ⟨[(0, .c (.imm (.slice (.pair (.int .i64) (.pair (.int .i64) (.int .i64)))) l_1)), (3, .c (.elt 6 1 0 0)), (4, .c (.h 7)), (5, .c (.val (.int .i64 i_12))), (25, .c (.val (.bool (decide (i_12 < (((List.length l_1) : Nat) : Int))))))], [(6, .row (.int .i64) have_82), (7, .row (.pair (.int .i64) (.pair (.int .i64) (.int .i64))) m_83)], 8⟩ [] (by kernel_rfl) rfl rfl ap0 ?_
        refine VL_cond ((decide (i_12 < (((List.length l_1) : Nat) : Int)))) (by kernel_rfl) ?_ ?_
        · intro b_86; have H_217 := of_t H_216 b_86
          refine V_run hN hn 2 8 [0, 3, 4, 5, 25] [6, 7] ⟨[(0, .c (.imm (.slice (.pair (.int .i64) (.pair (.int .i64) (.int .i64)))) l_1)), (3, .c (.elt 6 1 0 0)), (4, .c (.h 7)), (5, .c (.val (.int .i64 i_12))), (25, .c (.val (.bool (decide (i_12 < (((List.length l_1) : Nat) : Int))))))], [(6, .row (.int .i64) have_82), (7, .row (.pair (.int .i64) (.pair (.int .i64) (.int .i64))) m_83)], 8⟩ [] (by kernel_rfl) rfl rfl ap0 ?_
          obtain ⟨q_219, H_220, H_221⟩ := of_bind H_217
          refine V_cut (Y := ((List Int) × (List (Int × (Int × Int))))) (R := (Bool ⊕ ((List Int) × (List (Int × (Int × Int)))))) q_219 (fun y => (Sum.inr y)) (fun y => [(0, .c (.imm (.slice (.pair (.int .i64) (.pair (.int .i64) (.int .i64)))) l_1)), (3, .c (.elt 6 1 0 0)), (4, .c (.h 10)), (5, .c (.val (.int .i64 i_12)))]) (fun y => [(6, .row (.int .i64) y.1), (10, .row (.pair (.int .i64) (.pair (.int .i64) (.int .i64))) y.2)]) ?_ ?_
          · skip
            refine VL_block ?_
            obtain ⟨c_88, H_223⟩ := of_if H_220
            refine V_run hN hn 4 8 [0, 3, 4, 5, 6] [6, 7, 8] ⟨[(0, .c (.imm (.slice (.pair (.int .i64) (.pair (.int .i64) (.int .i64)))) l_1)), (3, .c (.elt 6 1 0 0)), (4, .c (.h 7)), (5, .c (.val (.int .i64 i_12))), (6, .c (.h 8))], [(6, .row (.int .i64) have_82), (7, .row (.pair (.int .i64) (.pair (.int .i64) (.int .i64))) m_83), (8, .box [.val (.int .i64 (List.getD l_1 (Int.toNat i_12) ((0 : Int), ((0 : Int), (0 : Int)))).1), .val (.int .i64 (List.getD l_1 (Int.toNat i_12) ((0 : Int), ((0 : Int), (0 : Int)))).2.1), .val (.int .i64 (List.getD l_1 (Int.toNat i_12) ((0 : Int), ((0 : Int), (0 : Int)))).2.2)])], 9⟩ [0 ≤ i_12, i_12 < (((List.length l_1) : Nat) : Int)] (by kernel_rfl) rfl rfl (ap2 c_88.1 (ap1 c_88.2)) ?_
            obtain ⟨q_224, H_225, H_226⟩ := of_bind H_223
            refine V_cut (Y := Bool) (R := Bool) q_224 (fun y => y) (fun y => [(0, .c (.imm (.slice (.pair (.int .i64) (.pair (.int .i64) (.int .i64)))) l_1)), (3, .c (.elt 6 1 0 0)), (4, .c (.h 7)), (5, .c (.val (.int .i64 i_12))), (6, .c (.h 8)), (56, .c (.val (.bool y)))]) (fun y => [(6, .row (.int .i64) have_82), (7, .row (.pair (.int .i64) (.pair (.int .i64) (.int .i64))) m_83), (8, .box [.val (.int .i64 (List.getD l_1 (Int.toNat i_12) ((0 : Int), ((0 : Int), (0 : Int)))).1), .val (.int .i64 (List.getD l_1 (Int.toNat i_12) ((0 : Int), ((0 : Int), (0 : Int)))).2.1), .val (.int .i64 (List.getD l_1 (Int.toNat i_12) ((0 : Int), ((0 : Int), (0 : Int)))).2.2)])]) ?_ ?_
            · skip
              rcases Bool.eq_false_or_eq_true ((decide ((List.getD l_1 (Int.toNat i_12) ((0 : Int), ((0 : Int), (0 : Int)))).1 < (0 : Int)))) with b_89 | b_89
              · have H_228 := of_t H_225 b_89
                refine V_reg hN hn [] [(35, true)] calls_nil 9 [0, 3, 4, 5, 6, 56] [6, 7, 8] ⟨[(0, .c (.imm (.slice (.pair (.int .i64) (.pair (.int .i64) (.int .i64)))) l_1)), (3, .c (.elt 6 1 0 0)), (4, .c (.h 7)), (5, .c (.val (.int .i64 i_12))), (6, .c (.h 8)), (56, .c (.val (.bool true)))], [(6, .row (.int .i64) have_82), (7, .row (.pair (.int .i64) (.pair (.int .i64) (.int .i64))) m_83), (8, .box [.val (.int .i64 (List.getD l_1 (Int.toNat i_12) ((0 : Int), ((0 : Int), (0 : Int)))).1), .val (.int .i64 (List.getD l_1 (Int.toNat i_12) ((0 : Int), ((0 : Int), (0 : Int)))).2.1), .val (.int .i64 (List.getD l_1 (Int.toNat i_12) ((0 : Int), ((0 : Int), (0 : Int)))).2.2)])], 9⟩ [(decide ((List.getD l_1 (Int.toNat i_12) ((0 : Int), ((0 : Int), (0 : Int)))).1 < (0 : Int))) = true] (by kernel_rfl) rfl rfl (ap1 b_89) (by kernel_rfl) (by kernel_rfl) ?_
                have H_230 := Option.some.inj (show some true = some q_224 from H_228); subst H_230
                refine VL_nil ?_
                exact QP_end true rfl [(6, 6), (7, 7), (8, 8)] hn (by kernel_rfl) (by kernel_rfl) rfl rfl rfl
              · have H_229 := of_f H_225 b_89
                rcases Bool.eq_false_or_eq_true ((decide ((List.getD l_1 (Int.toNat i_12) ((0 : Int), ((0 : Int), (0 : Int)))).2.1 < (List.getD l_1 (Int.toNat i_12) ((0 : Int), ((0 : Int), (0 : Int)))).1))) with b_91 | b_91
                · have H_231 := of_t H_229 b_91
                  refine V_reg hN hn [] [(35, false), (42, true)] calls_nil 9 [0, 3, 4, 5, 6, 56] [6, 7, 8] ⟨[(0, .c (.imm (.slice (.pair (.int .i64) (.pair (.int .i64) (.int .i64)))) l_1)), (3, .c (.elt 6 1 0 0)), (4, .c (.h 7)), (5, .c (.val (.int .i64 i_12))), (6, .c (.h 8)), (56, .c (.val (.bool true)))], [(6, .row (.int .i64) have_82), (7, .row (.pair (.int .i64) (.pair (.int .i64) (.int .i64))) m_83), (8, .box [.val (.int .i64 (List.getD l_1 (Int.toNat i_12) ((0 : Int), ((0 : Int), (0 : Int)))).1), .val (.int .i64 (List.getD l_1 (Int.toNat i_12) ((0 : Int), ((0 : Int), (0 : Int)))).2.1), .val (.int .i64 (List.getD l_1 (Int.toNat i_12) ((0 : Int), ((0 : Int), (0 : Int)))).2.2)])], 9⟩ [(decide ((List.getD l_1 (Int.toNat i_12) ((0 : Int), ((0 : Int), (0 : Int)))).1 < (0 : Int))) = false, (decide ((List.getD l_1 (Int.toNat i_12) ((0 : Int), ((0 : Int), (0 : Int)))).2.1 < (List.getD l_1 (Int.toNat i_12) ((0 : Int), ((0 : Int), (0 : Int)))).1)) = true] (by kernel_rfl) rfl rfl (ap2 b_89 (ap1 b_91)) (by kernel_rfl) (by kernel_rfl) ?_
                  have H_233 := Option.some.inj (show some true = some q_224 from H_231); subst H_233
                  refine VL_nil ?_
                  exact QP_end true rfl [(6, 6), (7, 7), (8, 8)] hn (by kernel_rfl) (by kernel_rfl) rfl rfl rfl
                · have H_232 := of_f H_229 b_91
                  rcases Bool.eq_false_or_eq_true ((decide ((List.getD l_1 (Int.toNat i_12) ((0 : Int), ((0 : Int), (0 : Int)))).2.1 > (200 : Int)))) with b_93 | b_93
                  · have H_234 := of_t H_232 b_93
                    refine V_reg hN hn [] [(35, false), (42, false), (47, true)] calls_nil 9 [0, 3, 4, 5, 6, 56] [6, 7, 8] ⟨[(0, .c (.imm (.slice (.pair (.int .i64) (.pair (.int .i64) (.int .i64)))) l_1)), (3, .c (.elt 6 1 0 0)), (4, .c (.h 7)), (5, .c (.val (.int .i64 i_12))), (6, .c (.h 8)), (56, .c (.val (.bool true)))], [(6, .row (.int .i64) have_82), (7, .row (.pair (.int .i64) (.pair (.int .i64) (.int .i64))) m_83), (8, .box [.val (.int .i64 (List.getD l_1 (Int.toNat i_12) ((0 : Int), ((0 : Int), (0 : Int)))).1), .val (.int .i64 (List.getD l_1 (Int.toNat i_12) ((0 : Int), ((0 : Int), (0 : Int)))).2.1), .val (.int .i64 (List.getD l_1 (Int.toNat i_12) ((0 : Int), ((0 : Int), (0 : Int)))).2.2)])], 9⟩ [(decide ((List.getD l_1 (Int.toNat i_12) ((0 : Int), ((0 : Int), (0 : Int)))).1 < (0 : Int))) = false, (decide ((List.getD l_1 (Int.toNat i_12) ((0 : Int), ((0 : Int), (0 : Int)))).2.1 < (List.getD l_1 (Int.toNat i_12) ((0 : Int), ((0 : Int), (0 : Int)))).1)) = false, (decide ((List.getD l_1 (Int.toNat i_12) ((0 : Int), ((0 : Int), (0 : Int)))).2.1 > (200 : Int))) = true] (by kernel_rfl) rfl rfl (ap2 b_89 (ap2 b_91 (ap1 b_93))) (by kernel_rfl) (by kernel_rfl) ?_
                    have H_236 := Option.some.inj (show some true = some q_224 from H_234); subst H_236
                    refine VL_nil ?_
                    exact QP_end true rfl [(6, 6), (7, 7), (8, 8)] hn (by kernel_rfl) (by kernel_rfl) rfl rfl rfl
                  · have H_235 := of_f H_232 b_93
                    rcases Bool.eq_false_or_eq_true ((decide ((List.getD l_1 (Int.toNat i_12) ((0 : Int), ((0 : Int), (0 : Int)))).2.2 < (0 : Int)))) with b_95 | b_95
                    · have H_237 := of_t H_235 b_95
                      refine V_reg hN hn [] [(35, false), (42, false), (47, false), (52, true)] calls_nil 9 [0, 3, 4, 5, 6, 56] [6, 7, 8] ⟨[(0, .c (.imm (.slice (.pair (.int .i64) (.pair (.int .i64) (.int .i64)))) l_1)), (3, .c (.elt 6 1 0 0)), (4, .c (.h 7)), (5, .c (.val (.int .i64 i_12))), (6, .c (.h 8)), (56, .c (.val (.bool true)))], [(6, .row (.int .i64) have_82), (7, .row (.pair (.int .i64) (.pair (.int .i64) (.int .i64))) m_83), (8, .box [.val (.int .i64 (List.getD l_1 (Int.toNat i_12) ((0 : Int), ((0 : Int), (0 : Int)))).1), .val (.int .i64 (List.getD l_1 (Int.toNat i_12) ((0 : Int), ((0 : Int), (0 : Int)))).2.1), .val (.int .i64 (List.getD l_1 (Int.toNat i_12) ((0 : Int), ((0 : Int), (0 : Int)))).2.2)])], 9⟩ [(decide ((List.getD l_1 (Int.toNat i_12) ((0 : Int), ((0 : Int), (0 : Int)))).1 < (0 : Int))) = false, (decide ((List.getD l_1 (Int.toNat i_12) ((0 : Int), ((0 : Int), (0 : Int)))).2.1 < (List.getD l_1 (Int.toNat i_12) ((0 : Int), ((0 : Int), (0 : Int)))).1)) = false, (decide ((List.getD l_1 (Int.toNat i_12) ((0 : Int), ((0 : Int), (0 : Int)))).2.1 > (200 : Int))) = false, (decide ((List.getD l_1 (Int.toNat i_12) ((0 : Int), ((0 : Int), (0 : Int)))).2.2 < (0 : Int))) = true] (by kernel_rfl) rfl rfl (ap2 b_89 (ap2 b_91 (ap2 b_93 (ap1 b_95)))) (by kernel_rfl) (by kernel_rfl) ?_
                      have H_239 := Option.some.inj (show some true = some q_224 from H_237); subst H_239
                      refine VL_nil ?_
                      exact QP_end true rfl [(6, 6), (7, 7), (8, 8)] hn (by kernel_rfl) (by kernel_rfl) rfl rfl rfl
                    · have H_238 := of_f H_235 b_95
                      refine V_reg hN hn [] [(35, false), (42, false), (47, false), (52, false)] calls_nil 9 [0, 3, 4, 5, 6, 56] [6, 7, 8] ⟨[(0, .c (.imm (.slice (.pair (.int .i64) (.pair (.int .i64) (.int .i64)))) l_1)), (3, .c (.elt 6 1 0 0)), (4, .c (.h 7)), (5, .c (.val (.int .i64 i_12))), (6, .c (.h 8)), (56, .c (.val (.bool (decide ((List.getD l_1 (Int.toNat i_12) ((0 : Int), ((0 : Int), (0 : Int)))).2.2 > (100 : Int))))))], [(6, .row (.int .i64) have_82), (7, .row (.pair (.int .i64) (.pair (.int .i64) (.int .i64))) m_83), (8, .box [.val (.int .i64 (List.getD l_1 (Int.toNat i_12) ((0 : Int), ((0 : Int), (0 : Int)))).1), .val (.int .i64 (List.getD l_1 (Int.toNat i_12) ((0 : Int), ((0 : Int), (0 : Int)))).2.1), .val (.int .i64 (List.getD l_1 (Int.toNat i_12) ((0 : Int), ((0 : Int), (0 : Int)))).2.2)])], 9⟩ [(decide ((List.getD l_1 (Int.toNat i_12) ((0 : Int), ((0 : Int), (0 : Int)))).1 < (0 : Int))) = false, (decide ((List.getD l_1 (Int.toNat i_12) ((0 : Int), ((0 : Int), (0 : Int)))).2.1 < (List.getD l_1 (Int.toNat i_12) ((0 : Int), ((0 : Int), (0 : Int)))).1)) = false, (decide ((List.getD l_1 (Int.toNat i_12) ((0 : Int), ((0 : Int), (0 : Int)))).2.1 > (200 : Int))) = false, (decide ((List.getD l_1 (Int.toNat i_12) ((0 : Int), ((0 : Int), (0 : Int)))).2.2 < (0 : Int))) = false] (by kernel_rfl) rfl rfl (ap2 b_89 (ap2 b_91 (ap2 b_93 (ap1 b_95)))) (by kernel_rfl) (by kernel_rfl) ?_
                      have H_240 := Option.some.inj (show some (decide ((List.getD l_1 (Int.toNat i_12) ((0 : Int), ((0 : Int), (0 : Int)))).2.2 > (100 : Int))) = some q_224 from H_238); subst H_240
                      refine VL_nil ?_
                      exact QP_end (decide ((List.getD l_1 (Int.toNat i_12) ((0 : Int), ((0 : Int), (0 : Int)))).2.2 > (100 : Int))) rfl [(6, 6), (7, 7), (8, 8)] hn (by kernel_rfl) (by kernel_rfl) rfl rfl rfl
            · intro y_227 hy; subst hy
              skip
              skip
              refine VL_cond (y_227) (by kernel_rfl) ?_ ?_
              · intro b_99; have H_241 := of_t H_226 b_99
                refine V_run hN hn 1 9 [0, 3, 4, 5, 6, 56] [6, 7, 8] ⟨[(0, .c (.imm (.slice (.pair (.int .i64) (.pair (.int .i64) (.int .i64)))) l_1)), (3, .c (.elt 6 1 0 0)), (4, .c (.h 7)), (5, .c (.val (.int .i64 i_12))), (6, .c (.h 8)), (56, .c (.val (.bool y_227)))], [(6, .row (.int .i64) have_82), (7, .row (.pair (.int .i64) (.pair (.int .i64) (.int .i64))) m_83), (8, .box [.val (.int .i64 (List.getD l_1 (Int.toNat i_12) ((0 : Int), ((0 : Int), (0 : Int)))).1), .val (.int .i64 (List.getD l_1 (Int.toNat i_12) ((0 : Int), ((0 : Int), (0 : Int)))).2.1), .val (.int .i64 (List.getD l_1 (Int.toNat i_12) ((0 : Int), ((0 : Int), (0 : Int)))).2.2)])], 9⟩ [] (by kernel_rfl) rfl rfl ap0 ?_
                obtain ⟨r_101, h_102, H_243⟩ := of_bind H_241
                refine V_reg hN hn [(2, ⟨10, 1, [.c (.h 0), .agg [.val (.int .i64 (List.getD l_1 (Int.toNat i_12) ((0 : Int), ((0 : Int), (0 : Int)))).1), .val (.int .i64 (List.getD l_1 (Int.toNat i_12) ((0 : Int), ((0 : Int), (0 : Int)))).2.1), .val (.int .i64 (List.getD l_1 (Int.toNat i_12) ((0 : Int), ((0 : Int), (0 : Int)))).2.2)]], [(0, .row (.pair (.int .i64) (.pair (.int .i64) (.int .i64))) m_83)], .tup [(false, [.h 10]), (false, [.val (.int .i64 r_101.2)])], [(0, .row (.pair (.int .i64) (.pair (.int .i64) (.int .i64))) m_83), (10, .row (.pair (.int .i64) (.pair (.int .i64) (.int .i64))) r_101.1)], [(0, 7), (10, 9)], 10⟩)] [] (calls_cons (spans_Put_rsggg_spec K m_83 (List.getD l_1 (Int.toNat i_12) ((0 : Int), ((0 : Int), (0 : Int)))).1 (List.getD l_1 (Int.toNat i_12) ((0 : Int), ((0 : Int), (0 : Int)))).2.1 (List.getD l_1 (Int.toNat i_12) ((0 : Int), ((0 : Int), (0 : Int)))).2.2 r_101 h_102) (by kernel_rfl) calls_nil) 9 [0, 3, 4, 5, 6, 8] [6, 7, 8] ⟨[(0, .c (.imm (.slice (.pair (.int .i64) (.pair (.int .i64) (.int .i64)))) l_1)), (3, .c (.elt 6 1 0 0)), (4, .c (.h 7)), (5, .c (.val (.int .i64 i_12))), (6, .c (.h 8)), (8, .c (.val (.int .i64 r_101.2)))], [(6, .row (.int .i64) have_82), (7, .row (.pair (.int .i64) (.pair (.int .i64) (.int .i64))) m_83), (8, .box [.val (.int .i64 (List.getD l_1 (Int.toNat i_12) ((0 : Int), ((0 : Int), (0 : Int)))).1), .val (.int .i64 (List.getD l_1 (Int.toNat i_12) ((0 : Int), ((0 : Int), (0 : Int)))).2.1), .val (.int .i64 (List.getD l_1 (Int.toNat i_12) ((0 : Int), ((0 : Int), (0 : Int)))).2.2)])], 10⟩ [] (by kernel_rfl) rfl rfl ap0 (by kernel_rfl) (by kernel_rfl) ?_
                refine V_run hN hn 2 10 [0, 3, 4, 5, 6, 8] [6, 7, 8] ⟨[(0, .c (.imm (.slice (.pair (.int .i64) (.pair (.int .i64) (.int .i64)))) l_1)), (3, .c (.elt 6 1 0 0)), (4, .c (.h 7)), (5, .c (.val (.int .i64 i_12))), (6, .c (.h 8)), (8, .c (.val (.int .i64 r_101.2)))], [(6, .row (.int .i64) have_82), (7, .row (.pair (.int .i64) (.pair (.int .i64) (.int .i64))) m_83), (8, .box [.val (.int .i64 (List.getD l_1 (Int.toNat i_12) ((0 : Int), ((0 : Int), (0 : Int)))).1), .val (.int .i64 (List.getD l_1 (Int.toNat i_12) ((0 : Int), ((0 : Int), (0 : Int)))).2.1), .val (.int .i64 (List.getD l_1 (Int.toNat i_12) ((0 : Int), ((0 : Int), (0 : Int)))).2.2)])], 10⟩ [] (by kernel_rfl) rfl rfl ap0 ?_
                obtain ⟨q_244, H_245, H_246⟩ := of_bind H_243
                refine V_cut (Y := Bool) (R := Bool) q_244 (fun y => y) (fun y => [(0, .c (.imm (.slice (.pair (.int .i64) (.pair (.int .i64) (.int .i64)))) l_1)), (3, .c (.elt 6 1 0 0)), (4, .c (.h 7)), (5, .c (.val (.int .i64 i_12))), (91, .c (.val (.bool y)))]) (fun y => [(6, .row (.int .i64) have_82), (7, .row (.pair (.int .i64) (.pair (.int .i64) (.int .i64))) m_83)]) ?_ ?_
                · skip
                  rcases Bool.eq_false_or_eq_true ((r_101.2 == (0 : Int))) with b_105 | b_105
                  · have H_248 := of_t H_245 b_105
                    rcases Bool.eq_false_or_eq_true ((decide ((List.getD l_1 (Int.toNat i_12) ((0 : Int), ((0 : Int), (0 : Int)))).2.1 > (20000 : Int)))) with b_106 | b_106
                    · have H_250 := of_t H_248 b_106
                      refine V_reg hN hn [] [(65, true), (69, true)] calls_nil 10 [0, 3, 4, 5, 91] [6, 7] ⟨[(0, .c (.imm (.slice (.pair (.int .i64) (.pair (.int .i64) (.int .i64)))) l_1)), (3, .c (.elt 6 1 0 0)), (4, .c (.h 7)), (5, .c (.val (.int .i64 i_12))), (91, .c (.val (.bool true)))], [(6, .row (.int .i64) have_82), (7, .row (.pair (.int .i64) (.pair (.int .i64) (.int .i64))) m_83)], 10⟩ [(r_101.2 == (0 : Int)) = true, (decide ((List.getD l_1 (Int.toNat i_12) ((0 : Int), ((0 : Int), (0 : Int)))).2.1 > (20000 : Int))) = true] (by kernel_rfl) rfl rfl (ap2 b_105 (ap1 b_106)) (by kernel_rfl) (by kernel_rfl) ?_
                      have H_252 := Option.some.inj (show some true = some q_244 from H_250); subst H_252
                      refine VL_nil ?_
                      exact QP_end true rfl [(6, 6), (7, 7)] hn (by kernel_rfl) (by kernel_rfl) rfl rfl rfl
                    · have H_251 := of_f H_248 b_106
                      rcases Bool.eq_false_or_eq_true ((decide ((List.getD l_1 (Int.toNat i_12) ((0 : Int), ((0 : Int), (0 : Int)))).1 < (0 : Int)))) with b_108 | b_108
                      · have H_253 := of_t H_251 b_108
                        refine V_reg hN hn [] [(65, true), (69, false), (74, true)] calls_nil 10 [0, 3, 4, 5, 91] [6, 7] ⟨[(0, .c (.imm (.slice (.pair (.int .i64) (.pair (.int .i64) (.int .i64)))) l_1)), (3, .c (.elt 6 1 0 0)), (4, .c (.h 7)), (5, .c (.val (.int .i64 i_12))), (91, .c (.val (.bool true)))], [(6, .row (.int .i64) have_82), (7, .row (.pair (.int .i64) (.pair (.int .i64) (.int .i64))) m_83)], 10⟩ [(r_101.2 == (0 : Int)) = true, (decide ((List.getD l_1 (Int.toNat i_12) ((0 : Int), ((0 : Int), (0 : Int)))).2.1 > (20000 : Int))) = false, (decide ((List.getD l_1 (Int.toNat i_12) ((0 : Int), ((0 : Int), (0 : Int)))).1 < (0 : Int))) = true] (by kernel_rfl) rfl rfl (ap2 b_105 (ap2 b_106 (ap1 b_108))) (by kernel_rfl) (by kernel_rfl) ?_
                        have H_255 := Option.some.inj (show some true = some q_244 from H_253); subst H_255
                        refine VL_nil ?_
                        exact QP_end true rfl [(6, 6), (7, 7)] hn (by kernel_rfl) (by kernel_rfl) rfl rfl rfl
                      · have H_254 := of_f H_251 b_108
                        rcases Bool.eq_false_or_eq_true ((decide ((List.getD l_1 (Int.toNat i_12) ((0 : Int), ((0 : Int), (0 : Int)))).2.1 < (List.getD l_1 (Int.toNat i_12) ((0 : Int), ((0 : Int), (0 : Int)))).1))) with b_110 | b_110
                        · have H_256 := of_t H_254 b_110
                          refine V_reg hN hn [] [(65, true), (69, false), (74, false), (81, true)] calls_nil 10 [0, 3, 4, 5, 91] [6, 7] ⟨[(0, .c (.imm (.slice (.pair (.int .i64) (.pair (.int .i64) (.int .i64)))) l_1)), (3, .c (.elt 6 1 0 0)), (4, .c (.h 7)), (5, .c (.val (.int .i64 i_12))), (91, .c (.val (.bool true)))], [(6, .row (.int .i64) have_82), (7, .row (.pair (.int .i64) (.pair (.int .i64) (.int .i64))) m_83)], 10⟩ [(r_101.2 == (0 : Int)) = true, (decide ((List.getD l_1 (Int.toNat i_12) ((0 : Int), ((0 : Int), (0 : Int)))).2.1 > (20000 : Int))) = false, (decide ((List.getD l_1 (Int.toNat i_12) ((0 : Int), ((0 : Int), (0 : Int)))).1 < (0 : Int))) = false, (decide ((List.getD l_1 (Int.toNat i_12) ((0 : Int), ((0 : Int), (0 : Int)))).2.1 < (List.getD l_1 (Int.toNat i_12) ((0 : Int), ((0 : Int), (0 : Int)))).1)) = true] (by kernel_rfl) rfl rfl (ap2 b_105 (ap2 b_106 (ap2 b_108 (ap1 b_110)))) (by kernel_rfl) (by kernel_rfl) ?_
                          have H_258 := Option.some.inj (show some true = some q_244 from H_256); subst H_258
                          refine VL_nil ?_
                          exact QP_end true rfl [(6, 6), (7, 7)] hn (by kernel_rfl) (by kernel_rfl) rfl rfl rfl
                        · have H_257 := of_f H_254 b_110
                          rcases Bool.eq_false_or_eq_true ((decide ((List.getD l_1 (Int.toNat i_12) ((0 : Int), ((0 : Int), (0 : Int)))).2.2 < (0 : Int)))) with b_112 | b_112
                          · have H_259 := of_t H_257 b_112
                            refine V_reg hN hn [] [(65, true), (69, false), (74, false), (81, false), (86, true)] calls_nil 10 [0, 3, 4, 5, 91] [6, 7] ⟨[(0, .c (.imm (.slice (.pair (.int .i64) (.pair (.int .i64) (.int .i64)))) l_1)), (3, .c (.elt 6 1 0 0)), (4, .c (.h 7)), (5, .c (.val (.int .i64 i_12))), (91, .c (.val (.bool true)))], [(6, .row (.int .i64) have_82), (7, .row (.pair (.int .i64) (.pair (.int .i64) (.int .i64))) m_83)], 10⟩ [(r_101.2 == (0 : Int)) = true, (decide ((List.getD l_1 (Int.toNat i_12) ((0 : Int), ((0 : Int), (0 : Int)))).2.1 > (20000 : Int))) = false, (decide ((List.getD l_1 (Int.toNat i_12) ((0 : Int), ((0 : Int), (0 : Int)))).1 < (0 : Int))) = false, (decide ((List.getD l_1 (Int.toNat i_12) ((0 : Int), ((0 : Int), (0 : Int)))).2.1 < (List.getD l_1 (Int.toNat i_12) ((0 : Int), ((0 : Int), (0 : Int)))).1)) = false, (decide ((List.getD l_1 (Int.toNat i_12) ((0 : Int), ((0 : Int), (0 : Int)))).2.2 < (0 : Int))) = true] (by kernel_rfl) rfl rfl (ap2 b_105 (ap2 b_106 (ap2 b_108 (ap2 b_110 (ap1 b_112))))) (by kernel_rfl) (by kernel_rfl) ?_
                            have H_261 := Option.some.inj (show some true = some q_244 from H_259); subst H_261
                            refine VL_nil ?_
                            exact QP_end true rfl [(6, 6), (7, 7)] hn (by kernel_rfl) (by kernel_rfl) rfl rfl rfl
                          · have H_260 := of_f H_257 b_112
                            refine V_reg hN hn [] [(65, true), (69, false), (74, false), (81, false), (86, false)] calls_nil 10 [0, 3, 4, 5, 91] [6, 7] ⟨[(0, .c (.imm (.slice (.pair (.int .i64) (.pair (.int .i64) (.int .i64)))) l_1)), (3, .c (.elt 6 1 0 0)), (4, .c (.h 7)), (5, .c (.val (.int .i64 i_12))), (91, .c (.val (.bool (decide ((List.getD l_1 (Int.toNat i_12) ((0 : Int), ((0 : Int), (0 : Int)))).2.2 > (100 : Int))))))], [(6, .row (.int .i64) have_82), (7, .row (.pair (.int .i64) (.pair (.int .i64) (.int .i64))) m_83)], 10⟩ [(r_101.2 == (0 : Int)) = true, (decide ((List.getD l_1 (Int.toNat i_12) ((0 : Int), ((0 : Int), (0 : Int)))).2.1 > (20000 : Int))) = false, (decide ((List.getD l_1 (Int.toNat i_12) ((0 : Int), ((0 : Int), (0 : Int)))).1 < (0 : Int))) = false, (decide ((List.getD l_1 (Int.toNat i_12) ((0 : Int), ((0 : Int), (0 : Int)))).2.1 < (List.getD l_1 (Int.toNat i_12) ((0 : Int), ((0 : Int), (0 : Int)))).1)) = false, (decide ((List.getD l_1 (Int.toNat i_12) ((0 : Int), ((0 : Int), (0 : Int)))).2.2 < (0 : Int))) = false] (by kernel_rfl) rfl rfl (ap2 b_105 (ap2 b_106 (ap2 b_108 (ap2 b_110 (ap1 b_112))))) (by kernel_rfl) (by kernel_rfl) ?_
                            have H_262 := Option.some.inj (show some (decide ((List.getD l_1 (Int.toNat i_12) ((0 : Int), ((0 : Int), (0 : Int)))).2.2 > (100 : Int))) = some q_244 from H_260); subst H_262
                            refine VL_nil ?_
                            exact QP_end (decide ((List.getD l_1 (Int.toNat i_12) ((0 : Int), ((0 : Int), (0 : Int)))).2.2 > (100 : Int))) rfl [(6, 6), (7, 7)] hn (by kernel_rfl) (by kernel_rfl) rfl rfl rfl
                  · have H_249 := of_f H_245 b_105
                    refine V_reg hN hn [] [(65, false)] calls_nil 10 [0, 3, 4, 5, 91] [6, 7] ⟨[(0, .c (.imm (.slice (.pair (.int .i64) (.pair (.int .i64) (.int .i64)))) l_1)), (3, .c (.elt 6 1 0 0)), (4, .c (.h 7)), (5, .c (.val (.int .i64 i_12))), (91, .c (.val (.bool false)))], [(6, .row (.int .i64) have_82), (7, .row (.pair (.int .i64) (.pair (.int .i64) (.int .i64))) m_83)], 10⟩ [(r_101.2 == (0 : Int)) = false] (by kernel_rfl) rfl rfl (ap1 b_105) (by kernel_rfl) (by kernel_rfl) ?_
                    have H_263 := Option.some.inj (show some false = some q_244 from H_249); subst H_263
                    refine VL_nil ?_
                    exact QP_end false rfl [(6, 6), (7, 7)] hn (by kernel_rfl) (by kernel_rfl) rfl rfl rfl
                · intro y_247 hy; subst hy
                  skip
                  skip
                  refine VL_cond (y_247) (by kernel_rfl) ?_ ?_
                  · intro b_117; have H_264 := of_t H_246 b_117
                    refine V_run hN hn 2 10 [2] [] ⟨[(2, .c (.val (.bool false)))], [], 10⟩ [] (by kernel_rfl) rfl rfl ap0 ?_
                    have H_266 := Option.some.inj (show some (Sum.inl false) = some q_219 from H_264); subst H_266
                    have H_267 := Option.some.inj (show some (Sum.inl false) = some q_211 from H_221); subst H_267
                    have H_268 := Option.some.inj (show some false = some r from H_213); subst H_268
                    refine VL_ret ?_
                    refine QB_ret ?_
                    refine QP_ret ?_
                    refine QL_ret ?_
                    refine QB_ret ?_
                    refine QP_ret ?_
                    exact P_to [(2, .c (.val (.bool false)))] [] [] hn (by kernel_rfl) (by kernel_rfl) rfl rfl rfl (QF_retS (by kernel_rfl) (by kernel_rfl) rfl)
                  · intro b_117; have H_265 := of_f H_246 b_117
                    refine V_run hN hn 1 10 [0, 3, 4, 5, 91] [6, 7] ⟨[(0, .c (.imm (.slice (.pair (.int .i64) (.pair (.int .i64) (.int .i64)))) l_1)), (3, .c (.elt 6 1 0 0)), (4, .c (.h 7)), (5, .c (.val (.int .i64 i_12))), (91, .c (.val (.bool y_247)))], [(6, .row (.int .i64) have_82), (7, .row (.pair (.int .i64) (.pair (.int .i64) (.int .i64))) m_83)], 10⟩ [] (by kernel_rfl) rfl rfl ap0 ?_
                    refine VL_exit ?_
                    refine QB_here ?_
                    have H_269 := Option.some.inj (show some (Sum.inr (have_82, m_83)) = some q_219 from H_265); subst H_269
                    refine VL_nil ?_
                    exact QP_end (have_82, m_83) rfl [(6, 6), (10, 7)] hn (by kernel_rfl) (by kernel_rfl) rfl rfl rfl
              · intro b_99; have H_242 := of_f H_226 b_99
                refine V_run hN hn 2 9 [0, 3, 4, 5, 6, 56] [6, 7, 8] ⟨[(0, .c (.imm (.slice (.pair (.int .i64) (.pair (.int .i64) (.int .i64)))) l_1)), (3, .c (.elt 6 1 0 0)), (4, .c (.h 7)), (5, .c (.val (.int .i64 i_12))), (6, .c (.h 8)), (56, .c (.val (.bool y_227)))], [(6, .row (.int .i64) have_82), (7, .row (.pair (.int .i64) (.pair (.int .i64) (.int .i64))) m_83), (8, .box [.val (.int .i64 (List.getD l_1 (Int.toNat i_12) ((0 : Int), ((0 : Int), (0 : Int)))).1), .val (.int .i64 (List.getD l_1 (Int.toNat i_12) ((0 : Int), ((0 : Int), (0 : Int)))).2.1), .val (.int .i64 (List.getD l_1 (Int.toNat i_12) ((0 : Int), ((0 : Int), (0 : Int)))).2.2)])], 9⟩ [] (by kernel_rfl) rfl rfl ap0 ?_
                obtain ⟨r_121, h_122, H_270⟩ := of_bind H_242
                refine V_reg hN hn [(2, ⟨10, 1, [.c (.h 0), .agg [.val (.int .i64 (List.getD l_1 (Int.toNat i_12) ((0 : Int), ((0 : Int), (0 : Int)))).1), .val (.int .i64 (List.getD l_1 (Int.toNat i_12) ((0 : Int), ((0 : Int), (0 : Int)))).2.1), .val (.int .i64 (List.getD l_1 (Int.toNat i_12) ((0 : Int), ((0 : Int), (0 : Int)))).2.2)]], [(0, .row (.pair (.int .i64) (.pair (.int .i64) (.int .i64))) m_83)], .tup [(false, [.h 10]), (false, [.val (.int .i64 r_121.2)])], [(0, .row (.pair (.int .i64) (.pair (.int .i64) (.int .i64))) m_83), (10, .row (.pair (.int .i64) (.pair (.int .i64) (.int .i64))) r_121.1)], [(0, 7), (10, 9)], 10⟩)] [] (calls_cons (spans_Put_rsggg_spec K m_83 (List.getD l_1 (Int.toNat i_12) ((0 : Int), ((0 : Int), (0 : Int)))).1 (List.getD l_1 (Int.toNat i_12) ((0 : Int), ((0 : Int), (0 : Int)))).2.1 (List.getD l_1 (Int.toNat i_12) ((0 : Int), ((0 : Int), (0 : Int)))).2.2 r_121 h_122) (by kernel_rfl) calls_nil) 9 [0, 3, 5, 6, 9, 10] [6, 8, 9] ⟨[(0, .c (.imm (.slice (.pair (.int .i64) (.pair (.int .i64) (.int .i64)))) l_1)), (3, .c (.elt 6 1 0 0)), (5, .c (.val (.int .i64 i_12))), (6, .c (.h 8)), (9, .c (.h 9)), (10, .c (.val (.int .i64 r_121.2)))], [(6, .row (.int .i64) have_82), (8, .box [.val (.int .i64 (List.getD l_1 (Int.toNat i_12) ((0 : Int), ((0 : Int), (0 : Int)))).1), .val (.int .i64 (List.getD l_1 (Int.toNat i_12) ((0 : Int), ((0 : Int), (0 : Int)))).2.1), .val (.int .i64 (List.getD l_1 (Int.toNat i_12) ((0 : Int), ((0 : Int), (0 : Int)))).2.2)]), (9, .row (.pair (.int .i64) (.pair (.int .i64) (.int .i64))) r_121.1)], 10⟩ [] (by kernel_rfl) rfl rfl ap0 (by kernel_rfl) (by kernel_rfl) ?_
                refine V_run hN hn 3 10 [0, 3, 5, 6, 9, 99] [6, 8, 9] ⟨[(0, .c (.imm (.slice (.pair (.int .i64) (.pair (.int .i64) (.int .i64)))) l_1)), (3, .c (.elt 6 1 0 0)), (5, .c (.val (.int .i64 i_12))), (6, .c (.h 8)), (9, .c (.h 9)), (99, .c (.val (.bool (r_121.2 != (0 : Int)))))], [(6, .row (.int .i64) have_82), (8, .box [.val (.int .i64 (List.getD l_1 (Int.toNat i_12) ((0 : Int), ((0 : Int), (0 : Int)))).1), .val (.int .i64 (List.getD l_1 (Int.toNat i_12) ((0 : Int), ((0 : Int), (0 : Int)))).2.1), .val (.int .i64 (List.getD l_1 (Int.toNat i_12) ((0 : Int), ((0 : Int), (0 : Int)))).2.2)]), (9, .row (.pair (.int .i64) (.pair (.int .i64) (.int .i64))) r_121.1)], 10⟩ [] (by kernel_rfl) rfl rfl ap0 ?_
                refine VL_cond ((r_121.2 != (0 : Int))) (by kernel_rfl) ?_ ?_
                · intro b_125; have H_271 := of_t H_270 b_125
                  refine V_run hN hn 2 10 [2] [] ⟨[(2, .c (.val (.bool false)))], [], 10⟩ [] (by kernel_rfl) rfl rfl ap0 ?_
                  have H_273 := Option.some.inj (show some (Sum.inl false) = some q_219 from H_271); subst H_273
                  have H_274 := Option.some.inj (show some (Sum.inl false) = some q_211 from H_221); subst H_274
                  have H_275 := Option.some.inj (show some false = some r from H_213); subst H_275
                  refine VL_ret ?_
                  refine QB_ret ?_
                  refine QP_ret ?_
                  refine QL_ret ?_
                  refine QB_ret ?_
                  refine QP_ret ?_
                  exact P_to [(2, .c (.val (.bool false)))] [] [] hn (by kernel_rfl) (by kernel_rfl) rfl rfl rfl (QF_retS (by kernel_rfl) (by kernel_rfl) rfl)
                · intro b_125; have H_272 := of_f H_270 b_125
                  refine V_run hN hn 6 10 [0, 3, 4, 5, 6, 11] [6, 8, 9] ⟨[(0, .c (.imm (.slice (.pair (.int .i64) (.pair (.int .i64) (.int .i64)))) l_1)), (3, .c (.elt 6 1 0 0)), (4, .c (.h 9)), (5, .c (.val (.int .i64 i_12))), (6, .c (.h 8)), (11, .c (.val (.int .i64 (List.getD l_1 (Int.toNat i_12) ((0 : Int), ((0 : Int), (0 : Int)))).1)))], [(6, .row (.int .i64) have_82), (8, .box [.val (.int .i64 (List.getD l_1 (Int.toNat i_12) ((0 : Int), ((0 : Int), (0 : Int)))).1), .val (.int .i64 (List.getD l_1 (Int.toNat i_12) ((0 : Int), ((0 : Int), (0 : Int)))).2.1), .val (.int .i64 (List.getD l_1 (Int.toNat i_12) ((0 : Int), ((0 : Int), (0 : Int)))).2.2)]), (9, .row (.pair (.int .i64) (.pair (.int .i64) (.int .i64))) r_121.1)], 10⟩ [] (by kernel_rfl) rfl rfl ap0 ?_
                  obtain ⟨q_276, H_277, H_278⟩ := of_bind H_272
                  refine V_cut (Y := (List Int)) (R := (List Int)) q_276 (fun y => y) (fun y => [(0, .c (.imm (.slice (.pair (.int .i64) (.pair (.int .i64) (.int .i64)))) l_1)), (3, .c (.elt 6 1 0 0)), (4, .c (.h 9)), (5, .c (.val (.int .i64 i_12)))]) (fun y => [(6, .row (.int .i64) y), (9, .row (.pair (.int .i64) (.pair (.int .i64) (.int .i64))) r_121.1)]) ?_ ?_
                  · skip
                    refine VL_block ?_
                    refine V_to [(0, .c (.imm (.slice (.pair (.int .i64) (.pair (.int .i64) (.int .i64)))) l_1)), (3, .c (.elt 6 1 0 0)), (4, .c (.h 9)), (5, .c (.val (.int .i64 i_12))), (6, .c (.h 8)), (11, .c (.val (.int .i64 (List.getD l_1 (Int.toNat i_12) ((0 : Int), ((0 : Int), (0 : Int)))).1)))] [(6, .row (.int .i64) have_82), (8, .box [.val (.int .i64 (List.getD l_1 (Int.toNat i_12) ((0 : Int), ((0 : Int), (0 : Int)))).1), .val (.int .i64 (List.getD l_1 (Int.toNat i_12) ((0 : Int), ((0 : Int), (0 : Int)))).2.1), .val (.int .i64 (List.getD l_1 (Int.toNat i_12) ((0 : Int), ((0 : Int), (0 : Int)))).2.2)]), (9, .row (.pair (.int .i64) (.pair (.int .i64) (.int .i64))) r_121.1)] [(6, 6), (8, 8), (9, 9)] hn (by kernel_rfl) (by kernel_rfl) rfl rfl rfl ?_
                    refine VL_loop (X := ((List Int) × Int)) (fun x => [(0, .c (.imm (.slice (.pair (.int .i64) (.pair (.int .i64) (.int .i64)))) l_1)), (3, .c (.elt 6 1 0 0)), (4, .c (.h 9)), (5, .c (.val (.int .i64 i_12))), (6, .c (.h 8)), (11, .c (.val (.int .i64 x.2)))]) (fun x => [(6, .row (.int .i64) x.1), (8, .box [.val (.int .i64 (List.getD l_1 (Int.toNat i_12) ((0 : Int), ((0 : Int), (0 : Int)))).1), .val (.int .i64 (List.getD l_1 (Int.toNat i_12) ((0 : Int), ((0 : Int), (0 : Int)))).2.1), .val (.int .i64 (List.getD l_1 (Int.toNat i_12) ((0 : Int), ((0 : Int), (0 : Int)))).2.2)]), (9, .row (.pair (.int .i64) (.pair (.int .i64) (.int .i64))) r_121.1)]) (fun k x => palinodelaw15_SpansRows.l1 K l_1 i_12 k x.1 x.2 = some q_276) K (have_82, (List.getD l_1 (Int.toNat i_12) ((0 : Int), ((0 : Int), (0 : Int)))).1) H_277 (fun _ h => no_none h) ?_
                    intro k_136 x_136 H_280
                    obtain ⟨have_135, k_128⟩ := x_136
                    have H_281 : palinodelaw15_SpansRows.l1 K l_1 i_12 (k_136 + 1) have_135 k_128 = some q_276 := H_280
                    rw [palinodelaw15_SpansRows.l1] at H_281
                    refine V_run hN hn 3 10 [0, 3, 4, 5, 6, 11, 106] [6, 8, 9] ⟨[(0, .c (.imm (.slice (.pair (.int .i64) (.pair (.int .i64) (.int .i64)))) l_1)), (3, .c (.elt 6 1 0 0)), (4, .c (.h 9)), (5, .c (.val (.int .i64 i_12))), (6, .c (.h 8)), (11, .c (.val (.int .i64 k_128))), (106, .c (.val (.bool (decide (k_128 < (List.getD l_1 (Int.toNat i_12) ((0 : Int), ((0 : Int), (0 : Int)))).2.1)))))], [(6, .row (.int .i64) have_135), (8, .box [.val (.int .i64 (List.getD l_1 (Int.toNat i_12) ((0 : Int), ((0 : Int), (0 : Int)))).1), .val (.int .i64 (List.getD l_1 (Int.toNat i_12) ((0 : Int), ((0 : Int), (0 : Int)))).2.1), .val (.int .i64 (List.getD l_1 (Int.toNat i_12) ((0 : Int), ((0 : Int), (0 : Int)))).2.2)]), (9, .row (.pair (.int .i64) (.pair (.int .i64) (.int .i64))) r_121.1)], 10⟩ [] (by kernel_rfl) rfl rfl ap0 ?_
                    refine VL_cond ((decide (k_128 < (List.getD l_1 (Int.toNat i_12) ((0 : Int), ((0 : Int), (0 : Int)))).2.1))) (by kernel_rfl) ?_ ?_
                    · intro b_138; have H_282 := of_t H_281 b_138
                      refine V_run hN hn 2 10 [0, 3, 4, 5, 6, 11, 106] [6, 8, 9] ⟨[(0, .c (.imm (.slice (.pair (.int .i64) (.pair (.int .i64) (.int .i64)))) l_1)), (3, .c (.elt 6 1 0 0)), (4, .c (.h 9)), (5, .c (.val (.int .i64 i_12))), (6, .c (.h 8)), (11, .c (.val (.int .i64 k_128))), (106, .c (.val (.bool (decide (k_128 < (List.getD l_1 (Int.toNat i_12) ((0 : Int), ((0 : Int), (0 : Int)))).2.1)))))], [(6, .row (.int .i64) have_135), (8, .box [.val (.int .i64 (List.getD l_1 (Int.toNat i_12) ((0 : Int), ((0 : Int), (0 : Int)))).1), .val (.int .i64 (List.getD l_1 (Int.toNat i_12) ((0 : Int), ((0 : Int), (0 : Int)))).2.1), .val (.int .i64 (List.getD l_1 (Int.toNat i_12) ((0 : Int), ((0 : Int), (0 : Int)))).2.2)]), (9, .row (.pair (.int .i64) (.pair (.int .i64) (.int .i64))) r_121.1)], 10⟩ [] (by kernel_rfl) rfl rfl ap0 ?_
                      refine VL_block ?_
                      obtain ⟨c_140, H_284⟩ := of_if H_282
                      refine V_run hN hn 1 10 [0, 3, 4, 5, 6, 11] [6, 8, 9] ⟨[(0, .c (.imm (.slice (.pair (.int .i64) (.pair (.int .i64) (.int .i64)))) l_1)), (3, .c (.elt 6 1 0 0)), (4, .c (.h 9)), (5, .c (.val (.int .i64 i_12))), (6, .c (.h 8)), (11, .c (.val (.int .i64 k_128)))], [(6, .row (.int .i64) (List.set have_135 (Int.toNat k_128) (List.getD l_1 (Int.toNat i_12) ((0 : Int), ((0 : Int), (0 : Int)))).2.2)), (8, .box [.val (.int .i64 (List.getD l_1 (Int.toNat i_12) ((0 : Int), ((0 : Int), (0 : Int)))).1), .val (.int .i64 (List.getD l_1 (Int.toNat i_12) ((0 : Int), ((0 : Int), (0 : Int)))).2.1), .val (.int .i64 (List.getD l_1 (Int.toNat i_12) ((0 : Int), ((0 : Int), (0 : Int)))).2.2)]), (9, .row (.pair (.int .i64) (.pair (.int .i64) (.int .i64))) r_121.1)], 10⟩ [0 ≤ k_128, k_128 < ((200 : Nat) : Int), k_128 < (((List.length have_135) : Nat) : Int)] (by kernel_rfl) rfl rfl (ap2 c_140.1 (ap2 c_140.2.1 (ap1 c_140.2.2))) ?_
                      refine VL_nil (QB_end ?_)
                      refine V_run hN hn 1 10 [0, 3, 4, 5, 6, 11] [6, 8, 9] ⟨[(0, .c (.imm (.slice (.pair (.int .i64) (.pair (.int .i64) (.int .i64)))) l_1)), (3, .c (.elt 6 1 0 0)), (4, .c (.h 9)), (5, .c (.val (.int .i64 i_12))), (6, .c (.h 8)), (11, .c (.val (.int .i64 (IntKind.wrap .i64 (k_128 + (1 : Int))))))], [(6, .row (.int .i64) (List.set have_135 (Int.toNat k_128) (List.getD l_1 (Int.toNat i_12) ((0 : Int), ((0 : Int), (0 : Int)))).2.2)), (8, .box [.val (.int .i64 (List.getD l_1 (Int.toNat i_12) ((0 : Int), ((0 : Int), (0 : Int)))).1), .val (.int .i64 (List.getD l_1 (Int.toNat i_12) ((0 : Int), ((0 : Int), (0 : Int)))).2.1), .val (.int .i64 (List.getD l_1 (Int.toNat i_12) ((0 : Int), ((0 : Int), (0 : Int)))).2.2)]), (9, .row (.pair (.int .i64) (.pair (.int .i64) (.int .i64))) r_121.1)], 10⟩ [] (by kernel_rfl) rfl rfl ap0 ?_
                      refine VL_nil ?_
                      exact V_roundEnd ((List.set have_135 (Int.toNat k_128) (List.getD l_1 (Int.toNat i_12) ((0 : Int), ((0 : Int), (0 : Int)))).2.2), (IntKind.wrap .i64 (k_128 + (1 : Int)))) H_284 [(6, 6), (8, 8), (9, 9)] hn (by kernel_rfl) (by kernel_rfl) rfl rfl rfl
                    · intro b_138; have H_283 := of_f H_281 b_138
                      refine VL_exit ?_
                      refine QL_exit ?_
                      refine QB_here ?_
                      have H_285 := Option.some.inj (show some have_135 = some q_276 from H_283); subst H_285
                      refine VL_nil ?_
                      exact QP_end have_135 rfl [(6, 6), (9, 9)] hn (by kernel_rfl) (by kernel_rfl) rfl rfl rfl
                  · intro y_279 hy; subst hy
                    skip
                    skip
                    refine V_run hN hn 1 10 [0, 3, 4, 5] [6, 9] ⟨[(0, .c (.imm (.slice (.pair (.int .i64) (.pair (.int .i64) (.int .i64)))) l_1)), (3, .c (.elt 6 1 0 0)), (4, .c (.h 9)), (5, .c (.val (.int .i64 i_12)))], [(6, .row (.int .i64) y_279), (9, .row (.pair (.int .i64) (.pair (.int .i64) (.int .i64))) r_121.1)], 10⟩ [] (by kernel_rfl) rfl rfl ap0 ?_
                    obtain ⟨r_144, h_145, H_286⟩ := of_bind H_278
                    refine V_reg hN hn [(1, ⟨13, 1, [.c (.h 0), .c (.val (.int .i64 (200 : Int)))], [(0, .row (.pair (.int .i64) (.pair (.int .i64) (.int .i64))) r_121.1)], .c (.val (.bool r_144)), [(0, .row (.pair (.int .i64) (.pair (.int .i64) (.int .i64))) r_121.1)], [(0, 9)], 10⟩)] [] (calls_cons (spans_Is_rg_spec K r_121.1 (200 : Int) r_144 h_145) (by kernel_rfl) calls_nil) 10 [0, 3, 4, 5, 115] [6, 9] ⟨[(0, .c (.imm (.slice (.pair (.int .i64) (.pair (.int .i64) (.int .i64)))) l_1)), (3, .c (.elt 6 1 0 0)), (4, .c (.h 9)), (5, .c (.val (.int .i64 i_12))), (115, .c (.val (.bool (!r_144))))], [(6, .row (.int .i64) y_279), (9, .row (.pair (.int .i64) (.pair (.int .i64) (.int .i64))) r_121.1)], 10⟩ [] (by kernel_rfl) rfl rfl ap0 (by kernel_rfl) (by kernel_rfl) ?_
                    refine VL_cond ((!r_144)) (by kernel_rfl) ?_ ?_
                    · intro b_147; have H_287 := of_t H_286 b_147
                      refine V_run hN hn 2 10 [2] [] ⟨[(2, .c (.val (.bool false)))], [], 10⟩ [] (by kernel_rfl) rfl rfl ap0 ?_
                      have H_289 := Option.some.inj (show some (Sum.inl false) = some q_219 from H_287); subst H_289
                      have H_290 := Option.some.inj (show some (Sum.inl false) = some q_211 from H_221); subst H_290
                      have H_291 := Option.some.inj (show some false = some r from H_213); subst H_291
                      refine VL_ret ?_
                      refine QB_ret ?_
                      refine QP_ret ?_
                      refine QL_ret ?_
                      refine QB_ret ?_
                      refine QP_ret ?_
                      exact P_to [(2, .c (.val (.bool false)))] [] [] hn (by kernel_rfl) (by kernel_rfl) rfl rfl rfl (QF_retS (by kernel_rfl) (by kernel_rfl) rfl)
                    · intro b_147; have H_288 := of_f H_286 b_147
                      refine V_run hN hn 1 10 [0, 3, 4, 5, 115] [6, 9] ⟨[(0, .c (.imm (.slice (.pair (.int .i64) (.pair (.int .i64) (.int .i64)))) l_1)), (3, .c (.elt 6 1 0 0)), (4, .c (.h 9)), (5, .c (.val (.int .i64 i_12))), (115, .c (.val (.bool (!r_144))))], [(6, .row (.int .i64) y_279), (9, .row (.pair (.int .i64) (.pair (.int .i64) (.int .i64))) r_121.1)], 10⟩ [] (by kernel_rfl) rfl rfl ap0 ?_
                      refine VL_nil (QB_end ?_)
                      have H_292 := Option.some.inj (show some (Sum.inr (y_279, r_121.1)) = some q_219 from H_288); subst H_292
                      refine VL_nil ?_
                      exact QP_end (y_279, r_121.1) rfl [(6, 6), (10, 9)] hn (by kernel_rfl) (by kernel_rfl) rfl rfl rfl
          · intro y_222 hy; subst hy
            obtain ⟨have_150, m_151⟩ := y_222
            refine V_run hN hn 1 11 [0, 3, 4, 5] [6, 10] ⟨[(0, .c (.imm (.slice (.pair (.int .i64) (.pair (.int .i64) (.int .i64)))) l_1)), (3, .c (.elt 6 1 0 0)), (4, .c (.h 10)), (5, .c (.val (.int .i64 (IntKind.wrap .i64 (i_12 + (1 : Int))))))], [(6, .row (.int .i64) have_150), (10, .row (.pair (.int .i64) (.pair (.int .i64) (.int .i64))) m_151)], 11⟩ [] (by kernel_rfl) rfl rfl ap0 ?_
            refine VL_nil ?_
            exact V_roundEnd (have_150, m_151, (IntKind.wrap .i64 (i_12 + (1 : Int)))) H_221 [(6, 6), (7, 10)] hn (by kernel_rfl) (by kernel_rfl) rfl rfl rfl
        · intro b_86; have H_218 := of_f H_216 b_86
          refine VL_exit ?_
          refine QL_exit ?_
          refine QB_here ?_
          have H_293 := Option.some.inj (show some (Sum.inr (have_82, m_83)) = some q_211 from H_218); subst H_293
          refine VL_nil ?_
          exact QP_end (have_82, m_83) rfl [(6, 6), (7, 7)] hn (by kernel_rfl) (by kernel_rfl) rfl rfl rfl
      · intro y_214 hy; subst hy
        obtain ⟨have_153, m_154⟩ := y_214
        refine V_run hN hn 3 8 [3, 4, 12] [6, 7] ⟨[(3, .c (.elt 6 1 0 0)), (4, .c (.h 7)), (12, .c (.val (.int .i64 (0 : Int))))], [(6, .row (.int .i64) have_153), (7, .row (.pair (.int .i64) (.pair (.int .i64) (.int .i64))) m_154)], 8⟩ [] (by kernel_rfl) rfl rfl ap0 ?_
        obtain ⟨q_294, H_295, H_296⟩ := of_bind H_213
        refine V_cut (Y := Unit) (R := (Bool ⊕ Unit)) q_294 (fun y => (Sum.inr y)) (fun y => [(4, .c (.h 7))]) (fun y => [(7, .row (.pair (.int .i64) (.pair (.int .i64) (.int .i64))) m_154)]) ?_ ?_
        · skip
          refine VL_block ?_
          refine V_to [(3, .c (.elt 6 1 0 0)), (4, .c (.h 7)), (12, .c (.val (.int .i64 (0 : Int))))] [(6, .row (.int .i64) have_153), (7, .row (.pair (.int .i64) (.pair (.int .i64) (.int .i64))) m_154)] [(6, 6), (7, 7)] hn (by kernel_rfl) (by kernel_rfl) rfl rfl rfl ?_
          refine VL_loop (X := Int) (fun x => [(3, .c (.elt 6 1 0 0)), (4, .c (.h 7)), (12, .c (.val (.int .i64 x)))]) (fun x => [(6, .row (.int .i64) have_153), (7, .row (.pair (.int .i64) (.pair (.int .i64) (.int .i64))) m_154)]) (fun k x => palinodelaw15_SpansRows.l2 K m_154 have_153 k x = some q_294) K (0 : Int) H_295 (fun _ h => no_none h) ?_
          intro k_157 k_156 H_298
          have H_299 : palinodelaw15_SpansRows.l2 K m_154 have_153 (k_157 + 1) k_156 = some q_294 := H_298
          rw [palinodelaw15_SpansRows.l2] at H_299
          refine V_run hN hn 3 8 [3, 4, 12, 117] [6, 7] ⟨[(3, .c (.elt 6 1 0 0)), (4, .c (.h 7)), (12, .c (.val (.int .i64 k_156))), (117, .c (.val (.bool (decide (k_156 < (200 : Int))))))], [(6, .row (.int .i64) have_153), (7, .row (.pair (.int .i64) (.pair (.int .i64) (.int .i64))) m_154)], 8⟩ [] (by kernel_rfl) rfl rfl ap0 ?_
          refine VL_cond ((decide (k_156 < (200 : Int)))) (by kernel_rfl) ?_ ?_
          · intro b_159; have H_300 := of_t H_299 b_159
            refine V_run hN hn 2 8 [3, 4, 12, 117] [6, 7] ⟨[(3, .c (.elt 6 1 0 0)), (4, .c (.h 7)), (12, .c (.val (.int .i64 k_156))), (117, .c (.val (.bool (decide (k_156 < (200 : Int))))))], [(6, .row (.int .i64) have_153), (7, .row (.pair (.int .i64) (.pair (.int .i64) (.int .i64))) m_154)], 8⟩ [] (by kernel_rfl) rfl rfl ap0 ?_
            refine VL_block ?_
            refine V_run hN hn 1 8 [3, 4, 12, 117] [6, 7] ⟨[(3, .c (.elt 6 1 0 0)), (4, .c (.h 7)), (12, .c (.val (.int .i64 k_156))), (117, .c (.val (.bool (decide (k_156 < (200 : Int))))))], [(6, .row (.int .i64) have_153), (7, .row (.pair (.int .i64) (.pair (.int .i64) (.int .i64))) m_154)], 8⟩ [] (by kernel_rfl) rfl rfl ap0 ?_
            obtain ⟨r_162, h_163, H_302⟩ := of_bind H_300
            obtain ⟨c_164, H_303⟩ := of_if H_302
            refine V_draw hN hn (by kernel_rfl) [(2, ⟨11, 1, [.c (.h 0), .c (.val (.int .i64 k_156))], [(0, .row (.pair (.int .i64) (.pair (.int .i64) (.int .i64))) m_154)], .c (.val (.int .i64 r_162)), [(0, .row (.pair (.int .i64) (.pair (.int .i64) (.int .i64))) m_154)], [(0, 7)], 8⟩)] [] (calls_cons (spans_At_rg_spec K m_154 k_156 r_162 h_163) (by kernel_rfl) calls_nil) 8 [3, 4, 12, 126] [6, 7] ⟨[(3, .c (.elt 6 1 0 0)), (4, .c (.h 7)), (12, .c (.val (.int .i64 k_156))), (126, .c (.val (.bool (r_162 != (List.getD have_153 (Int.toNat k_156) (0 : Int))))))], [(6, .row (.int .i64) have_153), (7, .row (.pair (.int .i64) (.pair (.int .i64) (.int .i64))) m_154)], 8⟩ [0 ≤ k_156, k_156 < ((200 : Nat) : Int), k_156 < (((List.length have_153) : Nat) : Int), 0 ≤ k_156, k_156 < ((200 : Nat) : Int), k_156 < (((List.length have_153) : Nat) : Int)] (by kernel_rfl) rfl rfl (ap2 c_164.1 (ap2 c_164.2.1 (ap2 c_164.2.2 (ap2 c_164.1 (ap2 c_164.2.1 (ap1 c_164.2.2)))))) (by kernel_rfl) (by kernel_rfl) ?_
            refine VL_cond ((r_162 != (List.getD have_153 (Int.toNat k_156) (0 : Int)))) (by kernel_rfl) ?_ ?_
            · intro b_165; have H_304 := of_t H_303 b_165
              refine V_run hN hn 2 8 [2] [] ⟨[(2, .c (.val (.bool false)))], [], 8⟩ [] (by kernel_rfl) rfl rfl ap0 ?_
              have H_306 := Option.some.inj (show some (Sum.inl false) = some q_294 from H_304); subst H_306
              have H_307 := Option.some.inj (show some false = some r from H_296); subst H_307
              refine VL_ret ?_
              refine QB_ret ?_
              refine QL_ret ?_
              refine QB_ret ?_
              refine QP_ret ?_
              exact P_to [(2, .c (.val (.bool false)))] [] [] hn (by kernel_rfl) (by kernel_rfl) rfl rfl rfl (QF_retS (by kernel_rfl) (by kernel_rfl) rfl)
            · intro b_165; have H_305 := of_f H_303 b_165
              refine V_run hN hn 1 8 [3, 4, 12, 126] [6, 7] ⟨[(3, .c (.elt 6 1 0 0)), (4, .c (.h 7)), (12, .c (.val (.int .i64 k_156))), (126, .c (.val (.bool (r_162 != (List.getD have_153 (Int.toNat k_156) (0 : Int))))))], [(6, .row (.int .i64) have_153), (7, .row (.pair (.int .i64) (.pair (.int .i64) (.int .i64))) m_154)], 8⟩ [] (by kernel_rfl) rfl rfl ap0 ?_
              refine VL_nil (QB_end ?_)
              refine V_run hN hn 1 8 [3, 4, 12] [6, 7] ⟨[(3, .c (.elt 6 1 0 0)), (4, .c (.h 7)), (12, .c (.val (.int .i64 (IntKind.wrap .i64 (k_156 + (1 : Int))))))], [(6, .row (.int .i64) have_153), (7, .row (.pair (.int .i64) (.pair (.int .i64) (.int .i64))) m_154)], 8⟩ [] (by kernel_rfl) rfl rfl ap0 ?_
              refine VL_nil ?_
              exact V_roundEnd (IntKind.wrap .i64 (k_156 + (1 : Int))) H_305 [(6, 6), (7, 7)] hn (by kernel_rfl) (by kernel_rfl) rfl rfl rfl
          · intro b_159; have H_301 := of_f H_299 b_159
            refine VL_exit ?_
            refine QL_exit ?_
            refine QB_here ?_
            have H_308 := Option.some.inj (show some (Sum.inr ()) = some q_294 from H_301); subst H_308
            refine VL_nil ?_
            exact QP_end () rfl [(7, 7)] hn (by kernel_rfl) (by kernel_rfl) rfl rfl rfl
        · intro y_297 hy; subst hy
          skip
          refine V_run hN hn 1 8 [4] [7] ⟨[(4, .c (.h 7))], [(7, .row (.pair (.int .i64) (.pair (.int .i64) (.int .i64))) m_154)], 8⟩ [] (by kernel_rfl) rfl rfl ap0 ?_
          obtain ⟨r_170, h_171, H_309⟩ := of_bind H_296
          refine V_reg hN hn [(1, ⟨15, 1, [.c (.val (.slice none 0 0)), .c (.h 0)], [(0, .row (.pair (.int .i64) (.pair (.int .i64) (.int .i64))) m_154)], .tup [(false, [.h 8]), (false, [.val (.int .i64 r_170.2)])], [(0, .row (.pair (.int .i64) (.pair (.int .i64) (.int .i64))) m_154), (8, .row (.pair (.int .i64) (.pair (.int .i64) (.int .i64))) r_170.1)], [(0, 7), (8, 8)], 9⟩)] [] (calls_cons (spans_Merge_nr_spec K m_154 r_170 h_171) (by kernel_rfl) calls_nil) 8 [4, 13, 14] [7, 8] ⟨[(4, .c (.h 7)), (13, .c (.h 8)), (14, .c (.val (.int .i64 r_170.2)))], [(7, .row (.pair (.int .i64) (.pair (.int .i64) (.int .i64))) m_154), (8, .row (.pair (.int .i64) (.pair (.int .i64) (.int .i64))) r_170.1)], 9⟩ [] (by kernel_rfl) rfl rfl ap0 (by kernel_rfl) (by kernel_rfl) ?_
          refine V_run hN hn 1 9 [4, 13, 14] [7, 8] ⟨[(4, .c (.h 7)), (13, .c (.h 8)), (14, .c (.val (.int .i64 r_170.2)))], [(7, .row (.pair (.int .i64) (.pair (.int .i64) (.int .i64))) m_154), (8, .row (.pair (.int .i64) (.pair (.int .i64) (.int .i64))) r_170.1)], 9⟩ [] (by kernel_rfl) rfl rfl ap0 ?_
          obtain ⟨r_174, h_175, H_310⟩ := of_bind H_309
          refine V_reg hN hn [(2, ⟨15, 1, [.c (.h 0), .c (.h 0)], [(0, .row (.pair (.int .i64) (.pair (.int .i64) (.int .i64))) m_154)], .tup [(false, [.h 8]), (false, [.val (.int .i64 r_174.2)])], [(0, .row (.pair (.int .i64) (.pair (.int .i64) (.int .i64))) m_154), (8, .row (.pair (.int .i64) (.pair (.int .i64) (.int .i64))) r_174.1)], [(0, 7), (8, 9)], 10⟩)] [] (calls_cons (spans_Merge_rr_spec K m_154 r_174 h_175) (by kernel_rfl) calls_nil) 9 [4, 13, 14, 15, 16] [7, 8, 9] ⟨[(4, .c (.h 7)), (13, .c (.h 8)), (14, .c (.val (.int .i64 r_170.2))), (15, .c (.h 9)), (16, .c (.val (.int .i64 r_174.2)))], [(7, .row (.pair (.int .i64) (.pair (.int .i64) (.int .i64))) m_154), (8, .row (.pair (.int .i64) (.pair (.int .i64) (.int .i64))) r_170.1), (9, .row (.pair (.int .i64) (.pair (.int .i64) (.int .i64))) r_174.1)], 10⟩ [] (by kernel_rfl) rfl rfl ap0 (by kernel_rfl) (by kernel_rfl) ?_
          refine V_run hN hn 1 10 [4, 13, 14, 15, 16] [7, 8, 9] ⟨[(4, .c (.h 7)), (13, .c (.h 8)), (14, .c (.val (.int .i64 r_170.2))), (15, .c (.h 9)), (16, .c (.val (.int .i64 r_174.2)))], [(7, .row (.pair (.int .i64) (.pair (.int .i64) (.int .i64))) m_154), (8, .row (.pair (.int .i64) (.pair (.int .i64) (.int .i64))) r_170.1), (9, .row (.pair (.int .i64) (.pair (.int .i64) (.int .i64))) r_174.1)], 10⟩ [] (by kernel_rfl) rfl rfl ap0 ?_
          rcases Bool.eq_false_or_eq_true ((r_170.2 == (0 : Int))) with b_178 | b_178
          · have H_311 := of_t H_310 b_178
            rcases Bool.eq_false_or_eq_true ((r_174.2 == (0 : Int))) with b_179 | b_179
            · have H_313 := of_t H_311 b_179
              obtain ⟨r_180, h_181, H_315⟩ := of_bind H_313
              rcases Bool.eq_false_or_eq_true (r_180) with b_182 | b_182
              · have H_316 := of_t H_315 b_182
                obtain ⟨r_183, h_184, H_318⟩ := of_bind H_316
                refine V_reg hN hn [(9, ⟨12, 2, [.c (.h 0), .c (.h 1)], [(0, .row (.pair (.int .i64) (.pair (.int .i64) (.int .i64))) r_170.1), (1, .row (.pair (.int .i64) (.pair (.int .i64) (.int .i64))) m_154)], .c (.val (.bool r_180)), [(0, .row (.pair (.int .i64) (.pair (.int .i64) (.int .i64))) r_170.1), (1, .row (.pair (.int .i64) (.pair (.int .i64) (.int .i64))) m_154)], [(0, 8), (1, 7)], 10⟩), (14, ⟨12, 2, [.c (.h 0), .c (.h 1)], [(0, .row (.pair (.int .i64) (.pair (.int .i64) (.int .i64))) r_174.1), (1, .row (.pair (.int .i64) (.pair (.int .i64) (.int .i64))) m_154)], .c (.val (.bool r_183)), [(0, .row (.pair (.int .i64) (.pair (.int .i64) (.int .i64))) r_174.1), (1, .row (.pair (.int .i64) (.pair (.int .i64) (.int .i64))) m_154)], [(0, 9), (1, 7)], 10⟩)] [(140, true), (144, true), (149, true)] (calls_cons (palinodelaw15_same_rr_spec K r_170.1 m_154 r_180 h_181) (by kernel_rfl) (calls_cons (palinodelaw15_same_rr_spec K r_174.1 m_154 r_183 h_184) (by kernel_rfl) calls_nil)) 10 [2] [] ⟨[(2, .c (.val (.bool r_183)))], [], 10⟩ [(r_170.2 == (0 : Int)) = true, (r_174.2 == (0 : Int)) = true, r_180 = true] (by kernel_rfl) rfl rfl (ap2 b_178 (ap2 b_179 (ap1 b_182))) (by kernel_rfl) (by kernel_rfl) ?_
                have H_319 := Option.some.inj (show some r_183 = some r from H_318); subst H_319
                refine VL_ret ?_
                exact P_to [(2, .c (.val (.bool r_183)))] [] [] hn (by kernel_rfl) (by kernel_rfl) rfl rfl rfl (QF_retS (by kernel_rfl) (by kernel_rfl) rfl)
              · have H_317 := of_f H_315 b_182
                refine V_reg hN hn [(9, ⟨12, 2, [.c (.h 0), .c (.h 1)], [(0, .row (.pair (.int .i64) (.pair (.int .i64) (.int .i64))) r_170.1), (1, .row (.pair (.int .i64) (.pair (.int .i64) (.int .i64))) m_154)], .c (.val (.bool r_180)), [(0, .row (.pair (.int .i64) (.pair (.int .i64) (.int .i64))) r_170.1), (1, .row (.pair (.int .i64) (.pair (.int .i64) (.int .i64))) m_154)], [(0, 8), (1, 7)], 10⟩)] [(140, true), (144, true), (149, false)] (calls_cons (palinodelaw15_same_rr_spec K r_170.1 m_154 r_180 h_181) (by kernel_rfl) calls_nil) 10 [2] [] ⟨[(2, .c (.val (.bool false)))], [], 10⟩ [(r_170.2 == (0 : Int)) = true, (r_174.2 == (0 : Int)) = true, r_180 = false] (by kernel_rfl) rfl rfl (ap2 b_178 (ap2 b_179 (ap1 b_182))) (by kernel_rfl) (by kernel_rfl) ?_
                have H_320 := Option.some.inj (show some false = some r from H_317); subst H_320
                refine VL_ret ?_
                exact P_to [(2, .c (.val (.bool false)))] [] [] hn (by kernel_rfl) (by kernel_rfl) rfl rfl rfl (QF_retS (by kernel_rfl) (by kernel_rfl) rfl)
            · have H_314 := of_f H_311 b_179
              refine V_reg hN hn [] [(140, true), (144, false)] calls_nil 10 [2] [] ⟨[(2, .c (.val (.bool false)))], [], 10⟩ [(r_170.2 == (0 : Int)) = true, (r_174.2 == (0 : Int)) = false] (by kernel_rfl) rfl rfl (ap2 b_178 (ap1 b_179)) (by kernel_rfl) (by kernel_rfl) ?_
              have H_321 := Option.some.inj (show some false = some r from H_314); subst H_321
              refine VL_ret ?_
              exact P_to [(2, .c (.val (.bool false)))] [] [] hn (by kernel_rfl) (by kernel_rfl) rfl rfl rfl (QF_retS (by kernel_rfl) (by kernel_rfl) rfl)
          · have H_312 := of_f H_310 b_178
            refine V_reg hN hn [] [(140, false)] calls_nil 10 [2] [] ⟨[(2, .c (.val (.bool false)))], [], 10⟩ [(r_170.2 == (0 : Int)) = false] (by kernel_rfl) rfl rfl (ap1 b_178) (by kernel_rfl) (by kernel_rfl) ?_
            have H_322 := Option.some.inj (show some false = some r from H_312); subst H_322
            refine VL_ret ?_
            exact P_to [(2, .c (.val (.bool false)))] [] [] hn (by kernel_rfl) (by kernel_rfl) rfl rfl rfl (QF_retS (by kernel_rfl) (by kernel_rfl) rfl)

end Go.Pal
