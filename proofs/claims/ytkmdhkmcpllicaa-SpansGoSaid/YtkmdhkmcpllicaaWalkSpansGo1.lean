/- The Go functions that SpansGo reaches compute what the plain functions say: part 1, printed by a program of this workplace. -/
import Derived.Test.YtkmdhkmcpllicaaChecked
import Derived.Test.YtkmdhkmcpllicaaWalkSpansGo0
namespace Go.Pal
open Go Go.Proofs
set_option maxRecDepth 100000
set_option linter.unusedVariables false

theorem spans_At_rg_spec (K : Nat) (l_1 : (List (Int × (Int × Int)))) (at_2 : Int) (r : Int) (H : spans_At_rg K l_1 at_2 = some r) : Spec Try.prog 11 1 [.c (.h 0), .c (.val (.int .i64 at_2))] [(0, .row (.pair (.int .i64) (.pair (.int .i64) (.int .i64))) l_1)] (.c (.val (.int .i64 r))) [(0, .row (.pair (.int .i64) (.pair (.int .i64) (.int .i64))) l_1)] := by
  refine Spec_mk (fn := Try.f11) (c := (Try.f11.body).get!) Try.func11 (by kernel_rfl) rfl ?_
  intro C hN hn
  replace hN : C.N = 26 := hN
  unfold spans_At_rg at H
  refine V_run hN hn 5 1 [1, 7, 8, 9] [0] ⟨[(1, .c (.val (.int .i64 at_2))), (7, .c (.h 0)), (8, .c (.val (.int .i64 (((List.length l_1) : Nat) : Int)))), (9, .c (.val (.int .i64 (0 : Int))))], [(0, .row (.pair (.int .i64) (.pair (.int .i64) (.int .i64))) l_1)], 1⟩ [] (by kernel_rfl) rfl rfl ap0 ?_
  refine VL_block ?_
  refine V_to [(1, .c (.val (.int .i64 at_2))), (7, .c (.h 0)), (8, .c (.val (.int .i64 (((List.length l_1) : Nat) : Int)))), (9, .c (.val (.int .i64 (0 : Int))))] [(0, .row (.pair (.int .i64) (.pair (.int .i64) (.int .i64))) l_1)] [] hn (by kernel_rfl) (by kernel_rfl) rfl rfl rfl ?_
  refine VL_loop (X := Int) (fun x => [(1, .c (.val (.int .i64 at_2))), (7, .c (.h 0)), (8, .c (.val (.int .i64 (((List.length l_1) : Nat) : Int)))), (9, .c (.val (.int .i64 x)))]) (fun x => [(0, .row (.pair (.int .i64) (.pair (.int .i64) (.int .i64))) l_1)]) (fun k x => spans_At_rg.l0 K l_1 at_2 k x = some r) K (0 : Int) H (fun _ h => no_none h) ?_
  intro k_5 t_4 H_22
  have H_23 : spans_At_rg.l0 K l_1 at_2 (k_5 + 1) t_4 = some r := H_22
  rw [spans_At_rg.l0] at H_23
  refine V_run hN hn 3 1 [1, 7, 8, 9, 10] [0] ⟨[(1, .c (.val (.int .i64 at_2))), (7, .c (.h 0)), (8, .c (.val (.int .i64 (((List.length l_1) : Nat) : Int)))), (9, .c (.val (.int .i64 t_4))), (10, .c (.val (.bool (decide (t_4 < (((List.length l_1) : Nat) : Int))))))], [(0, .row (.pair (.int .i64) (.pair (.int .i64) (.int .i64))) l_1)], 1⟩ [] (by kernel_rfl) rfl rfl ap0 ?_
  refine VL_cond ((decide (t_4 < (((List.length l_1) : Nat) : Int)))) (by kernel_rfl) ?_ ?_
  · intro b_7; have H_24 := of_t H_23 b_7
    refine V_run hN hn 2 1 [1, 7, 8, 9, 10] [0] ⟨[(1, .c (.val (.int .i64 at_2))), (7, .c (.h 0)), (8, .c (.val (.int .i64 (((List.length l_1) : Nat) : Int)))), (9, .c (.val (.int .i64 t_4))), (10, .c (.val (.bool (decide (t_4 < (((List.length l_1) : Nat) : Int))))))], [(0, .row (.pair (.int .i64) (.pair (.int .i64) (.int .i64))) l_1)], 1⟩ [] (by kernel_rfl) rfl rfl ap0 ?_
    refine VL_block ?_
    obtain ⟨c_9, H_26⟩ := of_if H_24
    refine V_run hN hn 3 1 [1, 6, 7, 8, 9] [0, 1] ⟨[(1, .c (.val (.int .i64 at_2))), (6, .c (.h 1)), (7, .c (.h 0)), (8, .c (.val (.int .i64 (((List.length l_1) : Nat) : Int)))), (9, .c (.val (.int .i64 t_4)))], [(0, .row (.pair (.int .i64) (.pair (.int .i64) (.int .i64))) l_1), (1, .box [.val (.int .i64 (List.getD l_1 (Int.toNat t_4) ((0 : Int), ((0 : Int), (0 : Int)))).1), .val (.int .i64 (List.getD l_1 (Int.toNat t_4) ((0 : Int), ((0 : Int), (0 : Int)))).2.1), .val (.int .i64 (List.getD l_1 (Int.toNat t_4) ((0 : Int), ((0 : Int), (0 : Int)))).2.2)])], 2⟩ [0 ≤ t_4, t_4 < (((List.length l_1) : Nat) : Int)] (by kernel_rfl) rfl rfl (ap2 c_9.1 (ap1 c_9.2)) ?_
    obtain ⟨q_27, H_28, H_29⟩ := of_bind H_26
    refine V_cut (Y := Bool) (R := Bool) q_27 (fun y => y) (fun y => [(1, .c (.val (.int .i64 at_2))), (6, .c (.h 1)), (7, .c (.h 0)), (8, .c (.val (.int .i64 (((List.length l_1) : Nat) : Int)))), (9, .c (.val (.int .i64 t_4))), (22, .c (.val (.bool y)))]) (fun y => [(0, .row (.pair (.int .i64) (.pair (.int .i64) (.int .i64))) l_1), (1, .box [.val (.int .i64 (List.getD l_1 (Int.toNat t_4) ((0 : Int), ((0 : Int), (0 : Int)))).1), .val (.int .i64 (List.getD l_1 (Int.toNat t_4) ((0 : Int), ((0 : Int), (0 : Int)))).2.1), .val (.int .i64 (List.getD l_1 (Int.toNat t_4) ((0 : Int), ((0 : Int), (0 : Int)))).2.2)])]) ?_ ?_
    · skip
      rcases Bool.eq_false_or_eq_true ((decide (at_2 ≥ (List.getD l_1 (Int.toNat t_4) ((0 : Int), ((0 : Int), (0 : Int)))).1))) with b_10 | b_10
      · have H_31 := of_t H_28 b_10
        refine V_reg hN hn [] [(17, true)] calls_nil 2 [1, 6, 7, 8, 9, 22] [0, 1] ⟨[(1, .c (.val (.int .i64 at_2))), (6, .c (.h 1)), (7, .c (.h 0)), (8, .c (.val (.int .i64 (((List.length l_1) : Nat) : Int)))), (9, .c (.val (.int .i64 t_4))), (22, .c (.val (.bool (decide (at_2 < (List.getD l_1 (Int.toNat t_4) ((0 : Int), ((0 : Int), (0 : Int)))).2.1)))))], [(0, .row (.pair (.int .i64) (.pair (.int .i64) (.int .i64))) l_1), (1, .box [.val (.int .i64 (List.getD l_1 (Int.toNat t_4) ((0 : Int), ((0 : Int), (0 : Int)))).1), .val (.int .i64 (List.getD l_1 (Int.toNat t_4) ((0 : Int), ((0 : Int), (0 : Int)))).2.1), .val (.int .i64 (List.getD l_1 (Int.toNat t_4) ((0 : Int), ((0 : Int), (0 : Int)))).2.2)])], 2⟩ [(decide (at_2 ≥ (List.getD l_1 (Int.toNat t_4) ((0 : Int), ((0 : Int), (0 : Int)))).1)) = true] (by kernel_rfl) rfl rfl (ap1 b_10) (by kernel_rfl) (by kernel_rfl) ?_
        have H_33 := Option.some.inj (show some (decide (at_2 < (List.getD l_1 (Int.toNat t_4) ((0 : Int), ((0 : Int), (0 : Int)))).2.1)) = some q_27 from H_31); subst H_33
        refine VL_nil ?_
        exact QP_end (decide (at_2 < (List.getD l_1 (Int.toNat t_4) ((0 : Int), ((0 : Int), (0 : Int)))).2.1)) rfl [(1, 1)] hn (by kernel_rfl) (by kernel_rfl) rfl rfl rfl
      · have H_32 := of_f H_28 b_10
        refine V_reg hN hn [] [(17, false)] calls_nil 2 [1, 6, 7, 8, 9, 22] [0, 1] ⟨[(1, .c (.val (.int .i64 at_2))), (6, .c (.h 1)), (7, .c (.h 0)), (8, .c (.val (.int .i64 (((List.length l_1) : Nat) : Int)))), (9, .c (.val (.int .i64 t_4))), (22, .c (.val (.bool false)))], [(0, .row (.pair (.int .i64) (.pair (.int .i64) (.int .i64))) l_1), (1, .box [.val (.int .i64 (List.getD l_1 (Int.toNat t_4) ((0 : Int), ((0 : Int), (0 : Int)))).1), .val (.int .i64 (List.getD l_1 (Int.toNat t_4) ((0 : Int), ((0 : Int), (0 : Int)))).2.1), .val (.int .i64 (List.getD l_1 (Int.toNat t_4) ((0 : Int), ((0 : Int), (0 : Int)))).2.2)])], 2⟩ [(decide (at_2 ≥ (List.getD l_1 (Int.toNat t_4) ((0 : Int), ((0 : Int), (0 : Int)))).1)) = false] (by kernel_rfl) rfl rfl (ap1 b_10) (by kernel_rfl) (by kernel_rfl) ?_
        have H_34 := Option.some.inj (show some false = some q_27 from H_32); subst H_34
        refine VL_nil ?_
        exact QP_end false rfl [(1, 1)] hn (by kernel_rfl) (by kernel_rfl) rfl rfl rfl
    · intro y_30 hy; subst hy
      skip
      skip
      refine VL_cond (y_30) (by kernel_rfl) ?_ ?_
      · intro b_14; have H_35 := of_t H_29 b_14
        refine V_run hN hn 2 2 [4] [0] ⟨[(4, .c (.val (.int .i64 (List.getD l_1 (Int.toNat t_4) ((0 : Int), ((0 : Int), (0 : Int)))).2.2)))], [(0, .row (.pair (.int .i64) (.pair (.int .i64) (.int .i64))) l_1)], 2⟩ [] (by kernel_rfl) rfl rfl ap0 ?_
        have H_37 := Option.some.inj (show some (List.getD l_1 (Int.toNat t_4) ((0 : Int), ((0 : Int), (0 : Int)))).2.2 = some r from H_35); subst H_37
        refine VL_ret ?_
        refine QB_ret ?_
        refine QL_ret ?_
        refine QB_ret ?_
        exact P_to [(4, .c (.val (.int .i64 (List.getD l_1 (Int.toNat t_4) ((0 : Int), ((0 : Int), (0 : Int)))).2.2)))] [(0, .row (.pair (.int .i64) (.pair (.int .i64) (.int .i64))) l_1)] [] hn (by kernel_rfl) (by kernel_rfl) rfl rfl rfl (QF_retS (by kernel_rfl) (by kernel_rfl) rfl)
      · intro b_14; have H_36 := of_f H_29 b_14
        refine V_run hN hn 1 2 [1, 6, 7, 8, 9, 22] [0, 1] ⟨[(1, .c (.val (.int .i64 at_2))), (6, .c (.h 1)), (7, .c (.h 0)), (8, .c (.val (.int .i64 (((List.length l_1) : Nat) : Int)))), (9, .c (.val (.int .i64 t_4))), (22, .c (.val (.bool y_30)))], [(0, .row (.pair (.int .i64) (.pair (.int .i64) (.int .i64))) l_1), (1, .box [.val (.int .i64 (List.getD l_1 (Int.toNat t_4) ((0 : Int), ((0 : Int), (0 : Int)))).1), .val (.int .i64 (List.getD l_1 (Int.toNat t_4) ((0 : Int), ((0 : Int), (0 : Int)))).2.1), .val (.int .i64 (List.getD l_1 (Int.toNat t_4) ((0 : Int), ((0 : Int), (0 : Int)))).2.2)])], 2⟩ [] (by kernel_rfl) rfl rfl ap0 ?_
        refine VL_nil (QB_end ?_)
        refine V_run hN hn 1 2 [1, 7, 8, 9] [0] ⟨[(1, .c (.val (.int .i64 at_2))), (7, .c (.h 0)), (8, .c (.val (.int .i64 (((List.length l_1) : Nat) : Int)))), (9, .c (.val (.int .i64 (IntKind.wrap .i64 (t_4 + (1 : Int))))))], [(0, .row (.pair (.int .i64) (.pair (.int .i64) (.int .i64))) l_1)], 2⟩ [] (by kernel_rfl) rfl rfl ap0 ?_
        refine VL_nil ?_
        exact V_roundEnd (IntKind.wrap .i64 (t_4 + (1 : Int))) H_36 [] hn (by kernel_rfl) (by kernel_rfl) rfl rfl rfl
  · intro b_7; have H_25 := of_f H_23 b_7
    refine VL_exit ?_
    refine QL_exit ?_
    refine QB_here ?_
    refine V_run hN hn 2 1 [4] [0] ⟨[(4, .c (.val (.int .i64 (0 : Int))))], [(0, .row (.pair (.int .i64) (.pair (.int .i64) (.int .i64))) l_1)], 1⟩ [] (by kernel_rfl) rfl rfl ap0 ?_
    have H_38 := Option.some.inj (show some (0 : Int) = some r from H_25); subst H_38
    refine VL_ret ?_
    exact P_to [(4, .c (.val (.int .i64 (0 : Int))))] [(0, .row (.pair (.int .i64) (.pair (.int .i64) (.int .i64))) l_1)] [] hn (by kernel_rfl) (by kernel_rfl) rfl rfl rfl (QF_retS (by kernel_rfl) (by kernel_rfl) rfl)

theorem palinodelaw15_known_spec (K : Nat) (r : Bool) (H : palinodelaw15_known K  = some r) : Spec Try.prog 9 0 [] [] (.c (.val (.bool r))) [] := by
  refine Spec_mk (fn := Try.f9) (c := (Try.f9.body).get!) Try.func9 (by kernel_rfl) rfl ?_
  intro C hN hn
  replace hN : C.N = 81 := hN
  unfold palinodelaw15_known at H
  refine V_run hN hn 3 0 [] [] ⟨[], [], 0⟩ [] (by kernel_rfl) rfl rfl ap0 ?_
  obtain ⟨r_2, h_3, H_48⟩ := of_bind H
  refine V_reg hN hn [(1, ⟨10, 0, [.c (.val (.slice none 0 0)), .agg [.val (.int .i64 (0 : Int)), .val (.int .i64 (9 : Int)), .val (.int .i64 (1 : Int))]], [], .tup [(false, [.h 9]), (false, [.val (.int .i64 r_2.2)])], [(9, .row (.pair (.int .i64) (.pair (.int .i64) (.int .i64))) r_2.1)], [(9, 0)], 1⟩)] [] (calls_cons (spans_Put_nsggg_spec K (0 : Int) (9 : Int) (1 : Int) r_2 h_3) (by kernel_rfl) calls_nil) 0 [1, 2] [0] ⟨[(1, .c (.h 0)), (2, .c (.val (.int .i64 r_2.2)))], [(0, .row (.pair (.int .i64) (.pair (.int .i64) (.int .i64))) r_2.1)], 1⟩ [] (by kernel_rfl) rfl rfl ap0 (by kernel_rfl) (by kernel_rfl) ?_
  refine V_run hN hn 1 1 [1, 2] [0] ⟨[(1, .c (.h 0)), (2, .c (.val (.int .i64 r_2.2)))], [(0, .row (.pair (.int .i64) (.pair (.int .i64) (.int .i64))) r_2.1)], 1⟩ [] (by kernel_rfl) rfl rfl ap0 ?_
  obtain ⟨r_6, h_7, H_49⟩ := of_bind H_48
  refine V_reg hN hn [(2, ⟨10, 1, [.c (.h 0), .agg [.val (.int .i64 (3 : Int)), .val (.int .i64 (5 : Int)), .val (.int .i64 (2 : Int))]], [(0, .row (.pair (.int .i64) (.pair (.int .i64) (.int .i64))) r_2.1)], .tup [(false, [.h 10]), (false, [.val (.int .i64 r_6.2)])], [(0, .row (.pair (.int .i64) (.pair (.int .i64) (.int .i64))) r_2.1), (10, .row (.pair (.int .i64) (.pair (.int .i64) (.int .i64))) r_6.1)], [(0, 0), (10, 1)], 2⟩)] [] (calls_cons (spans_Put_rsggg_spec K r_2.1 (3 : Int) (5 : Int) (2 : Int) r_6 h_7) (by kernel_rfl) calls_nil) 1 [2, 3, 4] [1] ⟨[(2, .c (.val (.int .i64 r_2.2))), (3, .c (.h 1)), (4, .c (.val (.int .i64 r_6.2)))], [(1, .row (.pair (.int .i64) (.pair (.int .i64) (.int .i64))) r_6.1)], 2⟩ [] (by kernel_rfl) rfl rfl ap0 (by kernel_rfl) (by kernel_rfl) ?_
  refine V_run hN hn 1 2 [2, 3, 4] [1] ⟨[(2, .c (.val (.int .i64 r_2.2))), (3, .c (.h 1)), (4, .c (.val (.int .i64 r_6.2)))], [(1, .row (.pair (.int .i64) (.pair (.int .i64) (.int .i64))) r_6.1)], 2⟩ [] (by kernel_rfl) rfl rfl ap0 ?_
  obtain ⟨r_10, h_11, H_50⟩ := of_bind H_49
  refine V_reg hN hn [(2, ⟨10, 1, [.c (.h 0), .agg [.val (.int .i64 (3 : Int)), .val (.int .i64 (5 : Int)), .val (.int .i64 (101 : Int))]], [(0, .row (.pair (.int .i64) (.pair (.int .i64) (.int .i64))) r_6.1)], .tup [(false, [.h 10]), (false, [.val (.int .i64 r_10.2)])], [(0, .row (.pair (.int .i64) (.pair (.int .i64) (.int .i64))) r_6.1), (10, .row (.pair (.int .i64) (.pair (.int .i64) (.int .i64))) r_10.1)], [(0, 1), (10, 2)], 3⟩)] [] (calls_cons (spans_Put_rsggg_spec K r_6.1 (3 : Int) (5 : Int) (101 : Int) r_10 h_11) (by kernel_rfl) calls_nil) 2 [2, 3, 4, 6] [1] ⟨[(2, .c (.val (.int .i64 r_2.2))), (3, .c (.h 1)), (4, .c (.val (.int .i64 r_6.2))), (6, .c (.val (.int .i64 r_10.2)))], [(1, .row (.pair (.int .i64) (.pair (.int .i64) (.int .i64))) r_6.1)], 3⟩ [] (by kernel_rfl) rfl rfl ap0 (by kernel_rfl) (by kernel_rfl) ?_
  refine V_run hN hn 1 3 [2, 3, 4, 6] [1] ⟨[(2, .c (.val (.int .i64 r_2.2))), (3, .c (.h 1)), (4, .c (.val (.int .i64 r_6.2))), (6, .c (.val (.int .i64 r_10.2)))], [(1, .row (.pair (.int .i64) (.pair (.int .i64) (.int .i64))) r_6.1)], 3⟩ [] (by kernel_rfl) rfl rfl ap0 ?_
  obtain ⟨r_14, h_15, H_51⟩ := of_bind H_50
  refine V_reg hN hn [(2, ⟨14, 1, [.c (.h 0), .agg [.val (.int .i64 (4 : Int)), .val (.int .i64 (6 : Int))]], [(0, .row (.pair (.int .i64) (.pair (.int .i64) (.int .i64))) r_6.1)], .c (.h 6), [(0, .row (.pair (.int .i64) (.pair (.int .i64) (.int .i64))) r_6.1), (6, .row (.pair (.int .i64) (.pair (.int .i64) (.int .i64))) r_14)], [(0, 1), (6, 3)], 4⟩)] [] (calls_cons (spans_In_rsgg_spec K r_6.1 (4 : Int) (6 : Int) r_14 h_15) (by kernel_rfl) calls_nil) 3 [2, 3, 4, 6, 7] [1, 3] ⟨[(2, .c (.val (.int .i64 r_2.2))), (3, .c (.h 1)), (4, .c (.val (.int .i64 r_6.2))), (6, .c (.val (.int .i64 r_10.2))), (7, .c (.h 3))], [(1, .row (.pair (.int .i64) (.pair (.int .i64) (.int .i64))) r_6.1), (3, .row (.pair (.int .i64) (.pair (.int .i64) (.int .i64))) r_14)], 4⟩ [] (by kernel_rfl) rfl rfl ap0 (by kernel_rfl) (by kernel_rfl) ?_
  refine V_run hN hn 1 4 [2, 3, 4, 6, 7] [1, 3] ⟨[(2, .c (.val (.int .i64 r_2.2))), (3, .c (.h 1)), (4, .c (.val (.int .i64 r_6.2))), (6, .c (.val (.int .i64 r_10.2))), (7, .c (.h 3))], [(1, .row (.pair (.int .i64) (.pair (.int .i64) (.int .i64))) r_6.1), (3, .row (.pair (.int .i64) (.pair (.int .i64) (.int .i64))) r_14)], 4⟩ [] (by kernel_rfl) rfl rfl ap0 ?_
  rcases Bool.eq_false_or_eq_true ((r_2.2 == (0 : Int))) with b_18 | b_18
  · have H_52 := of_t H_51 b_18
    rcases Bool.eq_false_or_eq_true ((r_6.2 == (0 : Int))) with b_19 | b_19
    · have H_54 := of_t H_52 b_19
      rcases Bool.eq_false_or_eq_true (((((List.length r_6.1) : Nat) : Int) == (3 : Int))) with b_20 | b_20
      · have H_56 := of_t H_54 b_20
        rcases Bool.eq_false_or_eq_true ((((List.getD r_6.1 2 ((0 : Int), ((0 : Int), (0 : Int)))).1 == (5 : Int)) && (((List.getD r_6.1 2 ((0 : Int), ((0 : Int), (0 : Int)))).2.1 == (9 : Int)) && ((List.getD r_6.1 2 ((0 : Int), ((0 : Int), (0 : Int)))).2.2 == (1 : Int))))) with b_21 | b_21
        · have H_58 := of_t H_56 b_21
          obtain ⟨r_22, h_23, H_60⟩ := of_bind H_58
          rcases Bool.eq_false_or_eq_true ((r_22 == (2 : Int))) with b_24 | b_24
          · have H_61 := of_t H_60 b_24
            obtain ⟨r_25, h_26, H_63⟩ := of_bind H_61
            rcases Bool.eq_false_or_eq_true ((r_25 == (0 : Int))) with b_27 | b_27
            · have H_64 := of_t H_63 b_27
              rcases Bool.eq_false_or_eq_true ((r_10.2 == (12 : Int))) with b_28 | b_28
              · have H_66 := of_t H_64 b_28
                obtain ⟨r_29, h_30, H_68⟩ := of_bind H_66
                rcases Bool.eq_false_or_eq_true (r_29) with b_31 | b_31
                · have H_69 := of_t H_68 b_31
                  obtain ⟨r_32, h_33, H_71⟩ := of_bind H_69
                  rcases Bool.eq_false_or_eq_true ((!r_32)) with b_34 | b_34
                  · have H_72 := of_t H_71 b_34
                    rcases Bool.eq_false_or_eq_true (((((List.length r_14) : Nat) : Int) == (2 : Int))) with b_35 | b_35
                    · have H_74 := of_t H_72 b_35
                      obtain ⟨c_36, H_76⟩ := of_if H_74
                      refine V_reg hN hn [(20, ⟨11, 1, [.c (.h 0), .c (.val (.int .i64 (3 : Int)))], [(0, .row (.pair (.int .i64) (.pair (.int .i64) (.int .i64))) r_6.1)], .c (.val (.int .i64 r_22)), [(0, .row (.pair (.int .i64) (.pair (.int .i64) (.int .i64))) r_6.1)], [(0, 1)], 4⟩), (25, ⟨11, 1, [.c (.h 0), .c (.val (.int .i64 (9 : Int)))], [(0, .row (.pair (.int .i64) (.pair (.int .i64) (.int .i64))) r_6.1)], .c (.val (.int .i64 r_25)), [(0, .row (.pair (.int .i64) (.pair (.int .i64) (.int .i64))) r_6.1)], [(0, 1)], 4⟩), (34, ⟨13, 1, [.c (.h 0), .c (.val (.int .i64 (9 : Int)))], [(0, .row (.pair (.int .i64) (.pair (.int .i64) (.int .i64))) r_6.1)], .c (.val (.bool r_29)), [(0, .row (.pair (.int .i64) (.pair (.int .i64) (.int .i64))) r_6.1)], [(0, 1)], 4⟩), (38, ⟨13, 1, [.c (.h 0), .c (.val (.int .i64 (8 : Int)))], [(0, .row (.pair (.int .i64) (.pair (.int .i64) (.int .i64))) r_6.1)], .c (.val (.bool r_32)), [(0, .row (.pair (.int .i64) (.pair (.int .i64) (.int .i64))) r_6.1)], [(0, 1)], 4⟩)] [(30, true), (34, true), (39, true), (46, true), (51, true), (56, true), (60, true), (64, true), (69, true), (74, true)] (calls_cons (spans_At_rg_spec K r_6.1 (3 : Int) r_22 h_23) (by kernel_rfl) (calls_cons (spans_At_rg_spec K r_6.1 (9 : Int) r_25 h_26) (by kernel_rfl) (calls_cons (spans_Is_rg_spec K r_6.1 (9 : Int) r_29 h_30) (by kernel_rfl) (calls_cons (spans_Is_rg_spec K r_6.1 (8 : Int) r_32 h_33) (by kernel_rfl) calls_nil)))) 4 [0] [] ⟨[(0, .c (.val (.bool (((List.getD r_14 0 ((0 : Int), ((0 : Int), (0 : Int)))).1 == (4 : Int)) && (((List.getD r_14 0 ((0 : Int), ((0 : Int), (0 : Int)))).2.1 == (5 : Int)) && ((List.getD r_14 0 ((0 : Int), ((0 : Int), (0 : Int)))).2.2 == (2 : Int)))))))], [], 4⟩ [(r_2.2 == (0 : Int)) = true, (r_6.2 == (0 : Int)) = true, ((((List.length r_6.1) : Nat) : Int) == (3 : Int)) = true, (0 : Int) ≤ (2 : Int), (2 : Int) < (((List.length r_6.1) : Nat) : Int), (((List.getD r_6.1 2 ((0 : Int), ((0 : Int), (0 : Int)))).1 == (5 : Int)) && (((List.getD r_6.1 2 ((0 : Int), ((0 : Int), (0 : Int)))).2.1 == (9 : Int)) && ((List.getD r_6.1 2 ((0 : Int), ((0 : Int), (0 : Int)))).2.2 == (1 : Int)))) = true, (r_22 == (2 : Int)) = true, (r_25 == (0 : Int)) = true, (r_10.2 == (12 : Int)) = true, r_29 = true, (!r_32) = true, ((((List.length r_14) : Nat) : Int) == (2 : Int)) = true, (0 : Int) ≤ (0 : Int), (0 : Int) < (((List.length r_14) : Nat) : Int)] (by kernel_rfl) rfl rfl (ap2 b_18 (ap2 b_19 (ap2 b_20 (ap2 (by decide) (ap2 c_36.1 (ap2 b_21 (ap2 b_24 (ap2 b_27 (ap2 b_28 (ap2 b_31 (ap2 b_34 (ap2 b_35 (ap2 (by decide) (ap1 c_36.2)))))))))))))) (by kernel_rfl) (by kernel_rfl) ?_
                      have H_77 := Option.some.inj (show some (((List.getD r_14 0 ((0 : Int), ((0 : Int), (0 : Int)))).1 == (4 : Int)) && (((List.getD r_14 0 ((0 : Int), ((0 : Int), (0 : Int)))).2.1 == (5 : Int)) && ((List.getD r_14 0 ((0 : Int), ((0 : Int), (0 : Int)))).2.2 == (2 : Int)))) = some r from H_76); subst H_77
                      refine VL_ret ?_
                      exact P_to [(0, .c (.val (.bool (((List.getD r_14 0 ((0 : Int), ((0 : Int), (0 : Int)))).1 == (4 : Int)) && (((List.getD r_14 0 ((0 : Int), ((0 : Int), (0 : Int)))).2.1 == (5 : Int)) && ((List.getD r_14 0 ((0 : Int), ((0 : Int), (0 : Int)))).2.2 == (2 : Int)))))))] [] [] hn (by kernel_rfl) (by kernel_rfl) rfl rfl rfl (QF_retS (by kernel_rfl) (by kernel_rfl) rfl)
                    · have H_75 := of_f H_72 b_35
                      obtain ⟨c_37, H_78⟩ := of_if H_75
                      refine V_reg hN hn [(20, ⟨11, 1, [.c (.h 0), .c (.val (.int .i64 (3 : Int)))], [(0, .row (.pair (.int .i64) (.pair (.int .i64) (.int .i64))) r_6.1)], .c (.val (.int .i64 r_22)), [(0, .row (.pair (.int .i64) (.pair (.int .i64) (.int .i64))) r_6.1)], [(0, 1)], 4⟩), (25, ⟨11, 1, [.c (.h 0), .c (.val (.int .i64 (9 : Int)))], [(0, .row (.pair (.int .i64) (.pair (.int .i64) (.int .i64))) r_6.1)], .c (.val (.int .i64 r_25)), [(0, .row (.pair (.int .i64) (.pair (.int .i64) (.int .i64))) r_6.1)], [(0, 1)], 4⟩), (34, ⟨13, 1, [.c (.h 0), .c (.val (.int .i64 (9 : Int)))], [(0, .row (.pair (.int .i64) (.pair (.int .i64) (.int .i64))) r_6.1)], .c (.val (.bool r_29)), [(0, .row (.pair (.int .i64) (.pair (.int .i64) (.int .i64))) r_6.1)], [(0, 1)], 4⟩), (38, ⟨13, 1, [.c (.h 0), .c (.val (.int .i64 (8 : Int)))], [(0, .row (.pair (.int .i64) (.pair (.int .i64) (.int .i64))) r_6.1)], .c (.val (.bool r_32)), [(0, .row (.pair (.int .i64) (.pair (.int .i64) (.int .i64))) r_6.1)], [(0, 1)], 4⟩)] [(30, true), (34, true), (39, true), (46, true), (51, true), (56, true), (60, true), (64, true), (69, true), (74, false)] (calls_cons (spans_At_rg_spec K r_6.1 (3 : Int) r_22 h_23) (by kernel_rfl) (calls_cons (spans_At_rg_spec K r_6.1 (9 : Int) r_25 h_26) (by kernel_rfl) (calls_cons (spans_Is_rg_spec K r_6.1 (9 : Int) r_29 h_30) (by kernel_rfl) (calls_cons (spans_Is_rg_spec K r_6.1 (8 : Int) r_32 h_33) (by kernel_rfl) calls_nil)))) 4 [0] [] ⟨[(0, .c (.val (.bool false)))], [], 4⟩ [(r_2.2 == (0 : Int)) = true, (r_6.2 == (0 : Int)) = true, ((((List.length r_6.1) : Nat) : Int) == (3 : Int)) = true, (0 : Int) ≤ (2 : Int), (2 : Int) < (((List.length r_6.1) : Nat) : Int), (((List.getD r_6.1 2 ((0 : Int), ((0 : Int), (0 : Int)))).1 == (5 : Int)) && (((List.getD r_6.1 2 ((0 : Int), ((0 : Int), (0 : Int)))).2.1 == (9 : Int)) && ((List.getD r_6.1 2 ((0 : Int), ((0 : Int), (0 : Int)))).2.2 == (1 : Int)))) = true, (r_22 == (2 : Int)) = true, (r_25 == (0 : Int)) = true, (r_10.2 == (12 : Int)) = true, r_29 = true, (!r_32) = true, ((((List.length r_14) : Nat) : Int) == (2 : Int)) = false] (by kernel_rfl) rfl rfl (ap2 b_18 (ap2 b_19 (ap2 b_20 (ap2 (by decide) (ap2 c_37 (ap2 b_21 (ap2 b_24 (ap2 b_27 (ap2 b_28 (ap2 b_31 (ap2 b_34 (ap1 b_35)))))))))))) (by kernel_rfl) (by kernel_rfl) ?_
                      have H_79 := Option.some.inj (show some false = some r from H_78); subst H_79
                      refine VL_ret ?_
                      exact P_to [(0, .c (.val (.bool false)))] [] [] hn (by kernel_rfl) (by kernel_rfl) rfl rfl rfl (QF_retS (by kernel_rfl) (by kernel_rfl) rfl)
                  · have H_73 := of_f H_71 b_34
                    obtain ⟨c_38, H_80⟩ := of_if H_73
                    refine V_reg hN hn [(20, ⟨11, 1, [.c (.h 0), .c (.val (.int .i64 (3 : Int)))], [(0, .row (.pair (.int .i64) (.pair (.int .i64) (.int .i64))) r_6.1)], .c (.val (.int .i64 r_22)), [(0, .row (.pair (.int .i64) (.pair (.int .i64) (.int .i64))) r_6.1)], [(0, 1)], 4⟩), (25, ⟨11, 1, [.c (.h 0), .c (.val (.int .i64 (9 : Int)))], [(0, .row (.pair (.int .i64) (.pair (.int .i64) (.int .i64))) r_6.1)], .c (.val (.int .i64 r_25)), [(0, .row (.pair (.int .i64) (.pair (.int .i64) (.int .i64))) r_6.1)], [(0, 1)], 4⟩), (34, ⟨13, 1, [.c (.h 0), .c (.val (.int .i64 (9 : Int)))], [(0, .row (.pair (.int .i64) (.pair (.int .i64) (.int .i64))) r_6.1)], .c (.val (.bool r_29)), [(0, .row (.pair (.int .i64) (.pair (.int .i64) (.int .i64))) r_6.1)], [(0, 1)], 4⟩), (38, ⟨13, 1, [.c (.h 0), .c (.val (.int .i64 (8 : Int)))], [(0, .row (.pair (.int .i64) (.pair (.int .i64) (.int .i64))) r_6.1)], .c (.val (.bool r_32)), [(0, .row (.pair (.int .i64) (.pair (.int .i64) (.int .i64))) r_6.1)], [(0, 1)], 4⟩)] [(30, true), (34, true), (39, true), (46, true), (51, true), (56, true), (60, true), (64, true), (69, false)] (calls_cons (spans_At_rg_spec K r_6.1 (3 : Int) r_22 h_23) (by kernel_rfl) (calls_cons (spans_At_rg_spec K r_6.1 (9 : Int) r_25 h_26) (by kernel_rfl) (calls_cons (spans_Is_rg_spec K r_6.1 (9 : Int) r_29 h_30) (by kernel_rfl) (calls_cons (spans_Is_rg_spec K r_6.1 (8 : Int) r_32 h_33) (by kernel_rfl) calls_nil)))) 4 [0] [] ⟨[(0, .c (.val (.bool false)))], [], 4⟩ [(r_2.2 == (0 : Int)) = true, (r_6.2 == (0 : Int)) = true, ((((List.length r_6.1) : Nat) : Int) == (3 : Int)) = true, (0 : Int) ≤ (2 : Int), (2 : Int) < (((List.length r_6.1) : Nat) : Int), (((List.getD r_6.1 2 ((0 : Int), ((0 : Int), (0 : Int)))).1 == (5 : Int)) && (((List.getD r_6.1 2 ((0 : Int), ((0 : Int), (0 : Int)))).2.1 == (9 : Int)) && ((List.getD r_6.1 2 ((0 : Int), ((0 : Int), (0 : Int)))).2.2 == (1 : Int)))) = true, (r_22 == (2 : Int)) = true, (r_25 == (0 : Int)) = true, (r_10.2 == (12 : Int)) = true, r_29 = true, (!r_32) = false] (by kernel_rfl) rfl rfl (ap2 b_18 (ap2 b_19 (ap2 b_20 (ap2 (by decide) (ap2 c_38 (ap2 b_21 (ap2 b_24 (ap2 b_27 (ap2 b_28 (ap2 b_31 (ap1 b_34))))))))))) (by kernel_rfl) (by kernel_rfl) ?_
                    have H_81 := Option.some.inj (show some false = some r from H_80); subst H_81
                    refine VL_ret ?_
                    exact P_to [(0, .c (.val (.bool false)))] [] [] hn (by kernel_rfl) (by kernel_rfl) rfl rfl rfl (QF_retS (by kernel_rfl) (by kernel_rfl) rfl)
                · have H_70 := of_f H_68 b_31
                  obtain ⟨c_39, H_82⟩ := of_if H_70
                  refine V_reg hN hn [(20, ⟨11, 1, [.c (.h 0), .c (.val (.int .i64 (3 : Int)))], [(0, .row (.pair (.int .i64) (.pair (.int .i64) (.int .i64))) r_6.1)], .c (.val (.int .i64 r_22)), [(0, .row (.pair (.int .i64) (.pair (.int .i64) (.int .i64))) r_6.1)], [(0, 1)], 4⟩), (25, ⟨11, 1, [.c (.h 0), .c (.val (.int .i64 (9 : Int)))], [(0, .row (.pair (.int .i64) (.pair (.int .i64) (.int .i64))) r_6.1)], .c (.val (.int .i64 r_25)), [(0, .row (.pair (.int .i64) (.pair (.int .i64) (.int .i64))) r_6.1)], [(0, 1)], 4⟩), (34, ⟨13, 1, [.c (.h 0), .c (.val (.int .i64 (9 : Int)))], [(0, .row (.pair (.int .i64) (.pair (.int .i64) (.int .i64))) r_6.1)], .c (.val (.bool r_29)), [(0, .row (.pair (.int .i64) (.pair (.int .i64) (.int .i64))) r_6.1)], [(0, 1)], 4⟩)] [(30, true), (34, true), (39, true), (46, true), (51, true), (56, true), (60, true), (64, false)] (calls_cons (spans_At_rg_spec K r_6.1 (3 : Int) r_22 h_23) (by kernel_rfl) (calls_cons (spans_At_rg_spec K r_6.1 (9 : Int) r_25 h_26) (by kernel_rfl) (calls_cons (spans_Is_rg_spec K r_6.1 (9 : Int) r_29 h_30) (by kernel_rfl) calls_nil))) 4 [0] [] ⟨[(0, .c (.val (.bool false)))], [], 4⟩ [(r_2.2 == (0 : Int)) = true, (r_6.2 == (0 : Int)) = true, ((((List.length r_6.1) : Nat) : Int) == (3 : Int)) = true, (0 : Int) ≤ (2 : Int), (2 : Int) < (((List.length r_6.1) : Nat) : Int), (((List.getD r_6.1 2 ((0 : Int), ((0 : Int), (0 : Int)))).1 == (5 : Int)) && (((List.getD r_6.1 2 ((0 : Int), ((0 : Int), (0 : Int)))).2.1 == (9 : Int)) && ((List.getD r_6.1 2 ((0 : Int), ((0 : Int), (0 : Int)))).2.2 == (1 : Int)))) = true, (r_22 == (2 : Int)) = true, (r_25 == (0 : Int)) = true, (r_10.2 == (12 : Int)) = true, r_29 = false] (by kernel_rfl) rfl rfl (ap2 b_18 (ap2 b_19 (ap2 b_20 (ap2 (by decide) (ap2 c_39 (ap2 b_21 (ap2 b_24 (ap2 b_27 (ap2 b_28 (ap1 b_31)))))))))) (by kernel_rfl) (by kernel_rfl) ?_
                  have H_83 := Option.some.inj (show some false = some r from H_82); subst H_83
                  refine VL_ret ?_
                  exact P_to [(0, .c (.val (.bool false)))] [] [] hn (by kernel_rfl) (by kernel_rfl) rfl rfl rfl (QF_retS (by kernel_rfl) (by kernel_rfl) rfl)
              · have H_67 := of_f H_64 b_28
                obtain ⟨c_40, H_84⟩ := of_if H_67
                refine V_reg hN hn [(20, ⟨11, 1, [.c (.h 0), .c (.val (.int .i64 (3 : Int)))], [(0, .row (.pair (.int .i64) (.pair (.int .i64) (.int .i64))) r_6.1)], .c (.val (.int .i64 r_22)), [(0, .row (.pair (.int .i64) (.pair (.int .i64) (.int .i64))) r_6.1)], [(0, 1)], 4⟩), (25, ⟨11, 1, [.c (.h 0), .c (.val (.int .i64 (9 : Int)))], [(0, .row (.pair (.int .i64) (.pair (.int .i64) (.int .i64))) r_6.1)], .c (.val (.int .i64 r_25)), [(0, .row (.pair (.int .i64) (.pair (.int .i64) (.int .i64))) r_6.1)], [(0, 1)], 4⟩)] [(30, true), (34, true), (39, true), (46, true), (51, true), (56, true), (60, false)] (calls_cons (spans_At_rg_spec K r_6.1 (3 : Int) r_22 h_23) (by kernel_rfl) (calls_cons (spans_At_rg_spec K r_6.1 (9 : Int) r_25 h_26) (by kernel_rfl) calls_nil)) 4 [0] [] ⟨[(0, .c (.val (.bool false)))], [], 4⟩ [(r_2.2 == (0 : Int)) = true, (r_6.2 == (0 : Int)) = true, ((((List.length r_6.1) : Nat) : Int) == (3 : Int)) = true, (0 : Int) ≤ (2 : Int), (2 : Int) < (((List.length r_6.1) : Nat) : Int), (((List.getD r_6.1 2 ((0 : Int), ((0 : Int), (0 : Int)))).1 == (5 : Int)) && (((List.getD r_6.1 2 ((0 : Int), ((0 : Int), (0 : Int)))).2.1 == (9 : Int)) && ((List.getD r_6.1 2 ((0 : Int), ((0 : Int), (0 : Int)))).2.2 == (1 : Int)))) = true, (r_22 == (2 : Int)) = true, (r_25 == (0 : Int)) = true, (r_10.2 == (12 : Int)) = false] (by kernel_rfl) rfl rfl (ap2 b_18 (ap2 b_19 (ap2 b_20 (ap2 (by decide) (ap2 c_40 (ap2 b_21 (ap2 b_24 (ap2 b_27 (ap1 b_28))))))))) (by kernel_rfl) (by kernel_rfl) ?_
                have H_85 := Option.some.inj (show some false = some r from H_84); subst H_85
                refine VL_ret ?_
                exact P_to [(0, .c (.val (.bool false)))] [] [] hn (by kernel_rfl) (by kernel_rfl) rfl rfl rfl (QF_retS (by kernel_rfl) (by kernel_rfl) rfl)
            · have H_65 := of_f H_63 b_27
              obtain ⟨c_41, H_86⟩ := of_if H_65
              refine V_reg hN hn [(20, ⟨11, 1, [.c (.h 0), .c (.val (.int .i64 (3 : Int)))], [(0, .row (.pair (.int .i64) (.pair (.int .i64) (.int .i64))) r_6.1)], .c (.val (.int .i64 r_22)), [(0, .row (.pair (.int .i64) (.pair (.int .i64) (.int .i64))) r_6.1)], [(0, 1)], 4⟩), (25, ⟨11, 1, [.c (.h 0), .c (.val (.int .i64 (9 : Int)))], [(0, .row (.pair (.int .i64) (.pair (.int .i64) (.int .i64))) r_6.1)], .c (.val (.int .i64 r_25)), [(0, .row (.pair (.int .i64) (.pair (.int .i64) (.int .i64))) r_6.1)], [(0, 1)], 4⟩)] [(30, true), (34, true), (39, true), (46, true), (51, true), (56, false)] (calls_cons (spans_At_rg_spec K r_6.1 (3 : Int) r_22 h_23) (by kernel_rfl) (calls_cons (spans_At_rg_spec K r_6.1 (9 : Int) r_25 h_26) (by kernel_rfl) calls_nil)) 4 [0] [] ⟨[(0, .c (.val (.bool false)))], [], 4⟩ [(r_2.2 == (0 : Int)) = true, (r_6.2 == (0 : Int)) = true, ((((List.length r_6.1) : Nat) : Int) == (3 : Int)) = true, (0 : Int) ≤ (2 : Int), (2 : Int) < (((List.length r_6.1) : Nat) : Int), (((List.getD r_6.1 2 ((0 : Int), ((0 : Int), (0 : Int)))).1 == (5 : Int)) && (((List.getD r_6.1 2 ((0 : Int), ((0 : Int), (0 : Int)))).2.1 == (9 : Int)) && ((List.getD r_6.1 2 ((0 : Int), ((0 : Int), (0 : Int)))).2.2 == (1 : Int)))) = true, (r_22 == (2 : Int)) = true, (r_25 == (0 : Int)) = false] (by kernel_rfl) rfl rfl (ap2 b_18 (ap2 b_19 (ap2 b_20 (ap2 (by decide) (ap2 c_41 (ap2 b_21 (ap2 b_24 (ap1 b_27)))))))) (by kernel_rfl) (by kernel_rfl) ?_
              have H_87 := Option.some.inj (show some false = some r from H_86); subst H_87
              refine VL_ret ?_
              exact P_to [(0, .c (.val (.bool false)))] [] [] hn (by kernel_rfl) (by kernel_rfl) rfl rfl rfl (QF_retS (by kernel_rfl) (by kernel_rfl) rfl)
          · have H_62 := of_f H_60 b_24
            obtain ⟨c_42, H_88⟩ := of_if H_62
            refine V_reg hN hn [(20, ⟨11, 1, [.c (.h 0), .c (.val (.int .i64 (3 : Int)))], [(0, .row (.pair (.int .i64) (.pair (.int .i64) (.int .i64))) r_6.1)], .c (.val (.int .i64 r_22)), [(0, .row (.pair (.int .i64) (.pair (.int .i64) (.int .i64))) r_6.1)], [(0, 1)], 4⟩)] [(30, true), (34, true), (39, true), (46, true), (51, false)] (calls_cons (spans_At_rg_spec K r_6.1 (3 : Int) r_22 h_23) (by kernel_rfl) calls_nil) 4 [0] [] ⟨[(0, .c (.val (.bool false)))], [], 4⟩ [(r_2.2 == (0 : Int)) = true, (r_6.2 == (0 : Int)) = true, ((((List.length r_6.1) : Nat) : Int) == (3 : Int)) = true, (0 : Int) ≤ (2 : Int), (2 : Int) < (((List.length r_6.1) : Nat) : Int), (((List.getD r_6.1 2 ((0 : Int), ((0 : Int), (0 : Int)))).1 == (5 : Int)) && (((List.getD r_6.1 2 ((0 : Int), ((0 : Int), (0 : Int)))).2.1 == (9 : Int)) && ((List.getD r_6.1 2 ((0 : Int), ((0 : Int), (0 : Int)))).2.2 == (1 : Int)))) = true, (r_22 == (2 : Int)) = false] (by kernel_rfl) rfl rfl (ap2 b_18 (ap2 b_19 (ap2 b_20 (ap2 (by decide) (ap2 c_42 (ap2 b_21 (ap1 b_24))))))) (by kernel_rfl) (by kernel_rfl) ?_
            have H_89 := Option.some.inj (show some false = some r from H_88); subst H_89
            refine VL_ret ?_
            exact P_to [(0, .c (.val (.bool false)))] [] [] hn (by kernel_rfl) (by kernel_rfl) rfl rfl rfl (QF_retS (by kernel_rfl) (by kernel_rfl) rfl)
        · have H_59 := of_f H_56 b_21
          obtain ⟨c_43, H_90⟩ := of_if H_59
          refine V_reg hN hn [] [(30, true), (34, true), (39, true), (46, false)] calls_nil 4 [0] [] ⟨[(0, .c (.val (.bool false)))], [], 4⟩ [(r_2.2 == (0 : Int)) = true, (r_6.2 == (0 : Int)) = true, ((((List.length r_6.1) : Nat) : Int) == (3 : Int)) = true, (0 : Int) ≤ (2 : Int), (2 : Int) < (((List.length r_6.1) : Nat) : Int), (((List.getD r_6.1 2 ((0 : Int), ((0 : Int), (0 : Int)))).1 == (5 : Int)) && (((List.getD r_6.1 2 ((0 : Int), ((0 : Int), (0 : Int)))).2.1 == (9 : Int)) && ((List.getD r_6.1 2 ((0 : Int), ((0 : Int), (0 : Int)))).2.2 == (1 : Int)))) = false] (by kernel_rfl) rfl rfl (ap2 b_18 (ap2 b_19 (ap2 b_20 (ap2 (by decide) (ap2 c_43 (ap1 b_21)))))) (by kernel_rfl) (by kernel_rfl) ?_
          have H_91 := Option.some.inj (show some false = some r from H_90); subst H_91
          refine VL_ret ?_
          exact P_to [(0, .c (.val (.bool false)))] [] [] hn (by kernel_rfl) (by kernel_rfl) rfl rfl rfl (QF_retS (by kernel_rfl) (by kernel_rfl) rfl)
      · have H_57 := of_f H_54 b_20
        refine V_reg hN hn [] [(30, true), (34, true), (39, false)] calls_nil 4 [0] [] ⟨[(0, .c (.val (.bool false)))], [], 4⟩ [(r_2.2 == (0 : Int)) = true, (r_6.2 == (0 : Int)) = true, ((((List.length r_6.1) : Nat) : Int) == (3 : Int)) = false] (by kernel_rfl) rfl rfl (ap2 b_18 (ap2 b_19 (ap1 b_20))) (by kernel_rfl) (by kernel_rfl) ?_
        have H_92 := Option.some.inj (show some false = some r from H_57); subst H_92
        refine VL_ret ?_
        exact P_to [(0, .c (.val (.bool false)))] [] [] hn (by kernel_rfl) (by kernel_rfl) rfl rfl rfl (QF_retS (by kernel_rfl) (by kernel_rfl) rfl)
    · have H_55 := of_f H_52 b_19
      refine V_reg hN hn [] [(30, true), (34, false)] calls_nil 4 [0] [] ⟨[(0, .c (.val (.bool false)))], [], 4⟩ [(r_2.2 == (0 : Int)) = true, (r_6.2 == (0 : Int)) = false] (by kernel_rfl) rfl rfl (ap2 b_18 (ap1 b_19)) (by kernel_rfl) (by kernel_rfl) ?_
      have H_93 := Option.some.inj (show some false = some r from H_55); subst H_93
      refine VL_ret ?_
      exact P_to [(0, .c (.val (.bool false)))] [] [] hn (by kernel_rfl) (by kernel_rfl) rfl rfl rfl (QF_retS (by kernel_rfl) (by kernel_rfl) rfl)
  · have H_53 := of_f H_51 b_18
    refine V_reg hN hn [] [(30, false)] calls_nil 4 [0] [] ⟨[(0, .c (.val (.bool false)))], [], 4⟩ [(r_2.2 == (0 : Int)) = false] (by kernel_rfl) rfl rfl (ap1 b_18) (by kernel_rfl) (by kernel_rfl) ?_
    have H_94 := Option.some.inj (show some false = some r from H_53); subst H_94
    refine VL_ret ?_
    exact P_to [(0, .c (.val (.bool false)))] [] [] hn (by kernel_rfl) (by kernel_rfl) rfl rfl rfl (QF_retS (by kernel_rfl) (by kernel_rfl) rfl)

theorem delta_IsCopy_spec (K : Nat) (x_1 : Int) (x_2 : Int) (x_3 : ByteArray) (r : Bool) (H : delta_IsCopy K x_1 x_2 x_3 = some r) : Spec Try.prog 38 0 [.agg [.val (.int .i64 x_1), .val (.int .i64 x_2), .val (.string x_3)]] [] (.c (.val (.bool r))) [] := by
  refine Spec_mk (fn := Try.f38) (c := (Try.f38.body).get!) Try.func38 (by kernel_rfl) rfl ?_
  intro C hN hn
  replace hN : C.N = 6 := hN
  unfold delta_IsCopy at H
  refine V_run hN hn 4 0 [2] [] ⟨[(2, .c (.val (.bool (ByteArray.toList x_3 == ByteArray.toList (ByteArray.mk #[])))))], [], 1⟩ [] (by kernel_rfl) rfl rfl ap0 ?_
  have H_6 := Option.some.inj (show some (ByteArray.toList x_3 == ByteArray.toList (ByteArray.mk #[])) = some r from H); subst H_6
  refine VL_ret ?_
  exact P_to [(2, .c (.val (.bool (ByteArray.toList x_3 == ByteArray.toList (ByteArray.mk #[])))))] [] [] hn (by kernel_rfl) (by kernel_rfl) rfl rfl rfl (QF_retS (by kernel_rfl) (by kernel_rfl) rfl)

theorem utf_forms_spec (K : Nat) (r : (Int × Int × Int × Int × Int × Int × Int × Int × Int × Int × Int × Int)) (H : utf_forms K  = some r) : Spec Try.prog 57 0 [] [] (.agg [.val (.int .u8 r.1), .val (.int .u8 r.2.1), .val (.int .i32 r.2.2.1), .val (.int .u8 r.2.2.2.1), .val (.int .u8 r.2.2.2.2.1), .val (.int .i32 r.2.2.2.2.2.1), .val (.int .u8 r.2.2.2.2.2.2.1), .val (.int .u8 r.2.2.2.2.2.2.2.1), .val (.int .i32 r.2.2.2.2.2.2.2.2.1), .val (.int .u8 r.2.2.2.2.2.2.2.2.2.1), .val (.int .u8 r.2.2.2.2.2.2.2.2.2.2.1), .val (.int .i32 r.2.2.2.2.2.2.2.2.2.2.2)]) [] := by
  refine Spec_mk (fn := Try.f57) (c := (Try.f57.body).get!) Try.func57 (by kernel_rfl) rfl ?_
  intro C hN hn
  replace hN : C.N = 6 := hN
  unfold utf_forms at H
  refine V_run hN hn 4 0 [0] [0] ⟨[(0, .c (.h 0))], [(0, .box [.val (.int .u8 (128 : Int)), .val (.int .u8 (0 : Int)), .val (.int .i32 (0 : Int)), .val (.int .u8 (224 : Int)), .val (.int .u8 (192 : Int)), .val (.int .i32 (128 : Int)), .val (.int .u8 (240 : Int)), .val (.int .u8 (224 : Int)), .val (.int .i32 (2048 : Int)), .val (.int .u8 (248 : Int)), .val (.int .u8 (240 : Int)), .val (.int .i32 (65536 : Int))])], 1⟩ [] (by kernel_rfl) rfl rfl ap0 ?_
  have H_14 := Option.some.inj (show some ((128 : Int), (0 : Int), (0 : Int), (224 : Int), (192 : Int), (128 : Int), (240 : Int), (224 : Int), (2048 : Int), (248 : Int), (240 : Int), (65536 : Int)) = some r from H); subst H_14
  refine VL_ret ?_
  exact P_to [(0, .c (.h 0))] [(0, .box [.val (.int .u8 (128 : Int)), .val (.int .u8 (0 : Int)), .val (.int .i32 (0 : Int)), .val (.int .u8 (224 : Int)), .val (.int .u8 (192 : Int)), .val (.int .i32 (128 : Int)), .val (.int .u8 (240 : Int)), .val (.int .u8 (224 : Int)), .val (.int .i32 (2048 : Int)), .val (.int .u8 (248 : Int)), .val (.int .u8 (240 : Int)), .val (.int .i32 (65536 : Int))])] [(0, 0)] hn (by kernel_rfl) (by kernel_rfl) rfl rfl rfl (QF_retS (by kernel_rfl) (by kernel_rfl) rfl)

theorem utf_isPoint_spec (K : Nat) (r_1 : Int) (r : Bool) (H : utf_isPoint K r_1 = some r) : Spec Try.prog 60 0 [.c (.val (.int .i32 r_1))] [] (.c (.val (.bool r))) [] := by
  refine Spec_mk (fn := Try.f60) (c := (Try.f60.body).get!) Try.func60 (by kernel_rfl) rfl ?_
  intro C hN hn
  replace hN : C.N = 17 := hN
  unfold utf_isPoint at H
  refine V_run hN hn 3 0 [0] [] ⟨[(0, .c (.val (.int .i32 r_1)))], [], 0⟩ [] (by kernel_rfl) rfl rfl ap0 ?_
  rcases Bool.eq_false_or_eq_true ((decide (r_1 ≥ (0 : Int)))) with b_3 | b_3
  · have H_11 := of_t H b_3
    rcases Bool.eq_false_or_eq_true ((decide (r_1 ≤ (1114111 : Int)))) with b_4 | b_4
    · have H_13 := of_t H_11 b_4
      rcases Bool.eq_false_or_eq_true ((decide (r_1 < (55296 : Int)))) with b_5 | b_5
      · have H_15 := of_t H_13 b_5
        refine V_reg hN hn [] [(5, true), (9, true), (12, true)] calls_nil 0 [2] [] ⟨[(2, .c (.val (.bool true)))], [], 0⟩ [(decide (r_1 ≥ (0 : Int))) = true, (decide (r_1 ≤ (1114111 : Int))) = true, (decide (r_1 < (55296 : Int))) = true] (by kernel_rfl) rfl rfl (ap2 b_3 (ap2 b_4 (ap1 b_5))) (by kernel_rfl) (by kernel_rfl) ?_
        have H_17 := Option.some.inj (show some true = some r from H_15); subst H_17
        refine VL_ret ?_
        exact P_to [(2, .c (.val (.bool true)))] [] [] hn (by kernel_rfl) (by kernel_rfl) rfl rfl rfl (QF_retS (by kernel_rfl) (by kernel_rfl) rfl)
      · have H_16 := of_f H_13 b_5
        refine V_reg hN hn [] [(5, true), (9, true), (12, false)] calls_nil 0 [2] [] ⟨[(2, .c (.val (.bool (decide (r_1 > (57343 : Int))))))], [], 0⟩ [(decide (r_1 ≥ (0 : Int))) = true, (decide (r_1 ≤ (1114111 : Int))) = true, (decide (r_1 < (55296 : Int))) = false] (by kernel_rfl) rfl rfl (ap2 b_3 (ap2 b_4 (ap1 b_5))) (by kernel_rfl) (by kernel_rfl) ?_
        have H_18 := Option.some.inj (show some (decide (r_1 > (57343 : Int))) = some r from H_16); subst H_18
        refine VL_ret ?_
        exact P_to [(2, .c (.val (.bool (decide (r_1 > (57343 : Int))))))] [] [] hn (by kernel_rfl) (by kernel_rfl) rfl rfl rfl (QF_retS (by kernel_rfl) (by kernel_rfl) rfl)
    · have H_14 := of_f H_11 b_4
      refine V_reg hN hn [] [(5, true), (9, false)] calls_nil 0 [2] [] ⟨[(2, .c (.val (.bool false)))], [], 0⟩ [(decide (r_1 ≥ (0 : Int))) = true, (decide (r_1 ≤ (1114111 : Int))) = false] (by kernel_rfl) rfl rfl (ap2 b_3 (ap1 b_4)) (by kernel_rfl) (by kernel_rfl) ?_
      have H_19 := Option.some.inj (show some false = some r from H_14); subst H_19
      refine VL_ret ?_
      exact P_to [(2, .c (.val (.bool false)))] [] [] hn (by kernel_rfl) (by kernel_rfl) rfl rfl rfl (QF_retS (by kernel_rfl) (by kernel_rfl) rfl)
  · have H_12 := of_f H b_3
    refine V_reg hN hn [] [(5, false)] calls_nil 0 [2] [] ⟨[(2, .c (.val (.bool false)))], [], 0⟩ [(decide (r_1 ≥ (0 : Int))) = false] (by kernel_rfl) rfl rfl (ap1 b_3) (by kernel_rfl) (by kernel_rfl) ?_
    have H_20 := Option.some.inj (show some false = some r from H_12); subst H_20
    refine VL_ret ?_
    exact P_to [(2, .c (.val (.bool false)))] [] [] hn (by kernel_rfl) (by kernel_rfl) rfl rfl rfl (QF_retS (by kernel_rfl) (by kernel_rfl) rfl)

theorem utf_long_spec (K : Nat) (s_1 : ByteArray) (at_2 : Int) (n_3 : Int) (f_4 : Int) (f_5 : Int) (f_6 : Int) (r : (Int × Int)) (H : utf_long K s_1 at_2 n_3 f_4 f_5 f_6 = some r) : Spec Try.prog 58 0 [.c (.val (.string s_1)), .c (.val (.int .i64 at_2)), .c (.val (.int .i64 n_3)), .agg [.val (.int .u8 f_4), .val (.int .u8 f_5), .val (.int .i32 f_6)]] [] (.tup [(false, [.val (.int .i32 r.1)]), (false, [.val (.int .i64 r.2)])]) [] := by
  refine Spec_mk (fn := Try.f58) (c := (Try.f58.body).get!) Try.func58 (by kernel_rfl) rfl ?_
  intro C hN hn
  replace hN : C.N = 56 := hN
  unfold utf_long at H
  refine V_run hN hn 5 0 [0, 1, 2, 7, 18] [0] ⟨[(0, .c (.val (.string s_1))), (1, .c (.val (.int .i64 at_2))), (2, .c (.val (.int .i64 n_3))), (7, .c (.h 0)), (18, .c (.val (.bool (decide ((IntKind.wrap .i64 ((((ByteArray.size s_1) : Nat) : Int) - at_2)) < n_3)))))], [(0, .box [.val (.int .u8 f_4), .val (.int .u8 f_5), .val (.int .i32 f_6)])], 1⟩ [] (by kernel_rfl) rfl rfl ap0 ?_
  refine VL_cond ((decide ((IntKind.wrap .i64 ((((ByteArray.size s_1) : Nat) : Int) - at_2)) < n_3))) (by kernel_rfl) ?_ ?_
  · intro b_8; have H_40 := of_t H b_8
    refine V_run hN hn 2 1 [8, 9] [] ⟨[(8, .c (.val (.int .i32 (0 : Int)))), (9, .c (.val (.int .i64 (0 : Int))))], [], 1⟩ [] (by kernel_rfl) rfl rfl ap0 ?_
    have H_42 := Option.some.inj (show some ((0 : Int), (0 : Int)) = some r from H_40); subst H_42
    refine VL_ret ?_
    exact P_to [(8, .c (.val (.int .i32 (0 : Int)))), (9, .c (.val (.int .i64 (0 : Int))))] [] [] hn (by kernel_rfl) (by kernel_rfl) rfl rfl rfl (QF_retS (by kernel_rfl) (by kernel_rfl) rfl)
  · intro b_8; have H_41 := of_f H b_8
    refine V_run hN hn 2 1 [0, 1, 2, 7, 18] [0] ⟨[(0, .c (.val (.string s_1))), (1, .c (.val (.int .i64 at_2))), (2, .c (.val (.int .i64 n_3))), (7, .c (.h 0)), (18, .c (.val (.bool (decide ((IntKind.wrap .i64 ((((ByteArray.size s_1) : Nat) : Int) - at_2)) < n_3)))))], [(0, .box [.val (.int .u8 f_4), .val (.int .u8 f_5), .val (.int .i32 f_6)])], 1⟩ [] (by kernel_rfl) rfl rfl ap0 ?_
    obtain ⟨c_11, H_43⟩ := of_if H_41
    refine V_draw hN hn (by kernel_rfl) [] [] calls_nil 1 [0, 1, 2, 7, 10] [0] ⟨[(0, .c (.val (.string s_1))), (1, .c (.val (.int .i64 at_2))), (2, .c (.val (.int .i64 n_3))), (7, .c (.h 0)), (10, .c (.val (.int .i32 (IntKind.wrap .i32 (IntKind.wrap .u8 (BitVec.toNat (BitVec.ofInt (IntKind.bits .u8) (bt s_1 at_2) &&& ~~~BitVec.ofInt (IntKind.bits .u8) f_4)))))))], [(0, .box [.val (.int .u8 f_4), .val (.int .u8 f_5), .val (.int .i32 f_6)])], 1⟩ [0 ≤ at_2, at_2 < (((ByteArray.size s_1) : Nat) : Int)] (by kernel_rfl) rfl rfl (ap2 c_11.1 (ap1 c_11.2)) (by kernel_rfl) (by kernel_rfl) ?_
    refine V_run hN hn 3 1 [0, 1, 2, 7, 10, 11] [0] ⟨[(0, .c (.val (.string s_1))), (1, .c (.val (.int .i64 at_2))), (2, .c (.val (.int .i64 n_3))), (7, .c (.h 0)), (10, .c (.val (.int .i32 (IntKind.wrap .i32 (IntKind.wrap .u8 (BitVec.toNat (BitVec.ofInt (IntKind.bits .u8) (bt s_1 at_2) &&& ~~~BitVec.ofInt (IntKind.bits .u8) f_4))))))), (11, .c (.val (.int .i64 (1 : Int))))], [(0, .box [.val (.int .u8 f_4), .val (.int .u8 f_5), .val (.int .i32 f_6)])], 1⟩ [] (by kernel_rfl) rfl rfl ap0 ?_
    obtain ⟨q_44, H_45, H_46⟩ := of_bind H_43
    refine V_cut (Y := Int) (R := ((Int × Int) ⊕ Int)) q_44 (fun y => (Sum.inr y)) (fun y => [(2, .c (.val (.int .i64 n_3))), (7, .c (.h 0)), (10, .c (.val (.int .i32 y)))]) (fun y => [(0, .box [.val (.int .u8 f_4), .val (.int .u8 f_5), .val (.int .i32 f_6)])]) ?_ ?_
    · skip
      refine VL_block ?_
      refine V_to [(0, .c (.val (.string s_1))), (1, .c (.val (.int .i64 at_2))), (2, .c (.val (.int .i64 n_3))), (7, .c (.h 0)), (10, .c (.val (.int .i32 (IntKind.wrap .i32 (IntKind.wrap .u8 (BitVec.toNat (BitVec.ofInt (IntKind.bits .u8) (bt s_1 at_2) &&& ~~~BitVec.ofInt (IntKind.bits .u8) f_4))))))), (11, .c (.val (.int .i64 (1 : Int))))] [(0, .box [.val (.int .u8 f_4), .val (.int .u8 f_5), .val (.int .i32 f_6)])] [(0, 0)] hn (by kernel_rfl) (by kernel_rfl) rfl rfl rfl ?_
      refine VL_loop (X := (Int × Int)) (fun x => [(0, .c (.val (.string s_1))), (1, .c (.val (.int .i64 at_2))), (2, .c (.val (.int .i64 n_3))), (7, .c (.h 0)), (10, .c (.val (.int .i32 x.1))), (11, .c (.val (.int .i64 x.2)))]) (fun x => [(0, .box [.val (.int .u8 f_4), .val (.int .u8 f_5), .val (.int .i32 f_6)])]) (fun k x => utf_long.l0 K n_3 at_2 s_1 k x.1 x.2 = some q_44) K ((IntKind.wrap .i32 (IntKind.wrap .u8 (BitVec.toNat (BitVec.ofInt (IntKind.bits .u8) (bt s_1 at_2) &&& ~~~BitVec.ofInt (IntKind.bits .u8) f_4)))), (1 : Int)) H_45 (fun _ h => no_none h) ?_
      intro k_15 x_15 H_48
      obtain ⟨r_13, i_14⟩ := x_15
      have H_49 : utf_long.l0 K n_3 at_2 s_1 (k_15 + 1) r_13 i_14 = some q_44 := H_48
      rw [utf_long.l0] at H_49
      refine V_run hN hn 3 1 [0, 1, 2, 7, 10, 11, 28] [0] ⟨[(0, .c (.val (.string s_1))), (1, .c (.val (.int .i64 at_2))), (2, .c (.val (.int .i64 n_3))), (7, .c (.h 0)), (10, .c (.val (.int .i32 r_13))), (11, .c (.val (.int .i64 i_14))), (28, .c (.val (.bool (decide (i_14 < n_3)))))], [(0, .box [.val (.int .u8 f_4), .val (.int .u8 f_5), .val (.int .i32 f_6)])], 1⟩ [] (by kernel_rfl) rfl rfl ap0 ?_
      refine VL_cond ((decide (i_14 < n_3))) (by kernel_rfl) ?_ ?_
      · intro b_17; have H_50 := of_t H_49 b_17
        refine V_run hN hn 2 1 [0, 1, 2, 7, 10, 11, 28] [0] ⟨[(0, .c (.val (.string s_1))), (1, .c (.val (.int .i64 at_2))), (2, .c (.val (.int .i64 n_3))), (7, .c (.h 0)), (10, .c (.val (.int .i32 r_13))), (11, .c (.val (.int .i64 i_14))), (28, .c (.val (.bool (decide (i_14 < n_3)))))], [(0, .box [.val (.int .u8 f_4), .val (.int .u8 f_5), .val (.int .i32 f_6)])], 1⟩ [] (by kernel_rfl) rfl rfl ap0 ?_
        refine VL_block ?_
        obtain ⟨c_19, H_52⟩ := of_if H_50
        refine V_run hN hn 5 1 [0, 1, 2, 7, 10, 11, 12, 38] [0] ⟨[(0, .c (.val (.string s_1))), (1, .c (.val (.int .i64 at_2))), (2, .c (.val (.int .i64 n_3))), (7, .c (.h 0)), (10, .c (.val (.int .i32 r_13))), (11, .c (.val (.int .i64 i_14))), (12, .c (.val (.int .u8 (bt s_1 (IntKind.wrap .i64 (at_2 + i_14)))))), (38, .c (.val (.bool ((IntKind.wrap .u8 (BitVec.toNat (BitVec.ofInt (IntKind.bits .u8) (bt s_1 (IntKind.wrap .i64 (at_2 + i_14))) &&& BitVec.ofInt (IntKind.bits .u8) (192 : Int)))) != (128 : Int)))))], [(0, .box [.val (.int .u8 f_4), .val (.int .u8 f_5), .val (.int .i32 f_6)])], 1⟩ [0 ≤ (IntKind.wrap .i64 (at_2 + i_14)), (IntKind.wrap .i64 (at_2 + i_14)) < (((ByteArray.size s_1) : Nat) : Int)] (by kernel_rfl) rfl rfl (ap2 c_19.1 (ap1 c_19.2)) ?_
        refine VL_cond (((IntKind.wrap .u8 (BitVec.toNat (BitVec.ofInt (IntKind.bits .u8) (bt s_1 (IntKind.wrap .i64 (at_2 + i_14))) &&& BitVec.ofInt (IntKind.bits .u8) (192 : Int)))) != (128 : Int))) (by kernel_rfl) ?_ ?_
        · intro b_20; have H_53 := of_t H_52 b_20
          refine V_run hN hn 2 1 [8, 9] [] ⟨[(8, .c (.val (.int .i32 (0 : Int)))), (9, .c (.val (.int .i64 (0 : Int))))], [], 1⟩ [] (by kernel_rfl) rfl rfl ap0 ?_
          have H_55 := Option.some.inj (show some (Sum.inl ((0 : Int), (0 : Int))) = some q_44 from H_53); subst H_55
          have H_56 := Option.some.inj (show some ((0 : Int), (0 : Int)) = some r from H_46); subst H_56
          refine VL_ret ?_
          refine QB_ret ?_
          refine QL_ret ?_
          refine QB_ret ?_
          refine QP_ret ?_
          exact P_to [(8, .c (.val (.int .i32 (0 : Int)))), (9, .c (.val (.int .i64 (0 : Int))))] [] [] hn (by kernel_rfl) (by kernel_rfl) rfl rfl rfl (QF_retS (by kernel_rfl) (by kernel_rfl) rfl)
        · intro b_20; have H_54 := of_f H_52 b_20
          refine V_run hN hn 2 1 [0, 1, 2, 7, 10, 11] [0] ⟨[(0, .c (.val (.string s_1))), (1, .c (.val (.int .i64 at_2))), (2, .c (.val (.int .i64 n_3))), (7, .c (.h 0)), (10, .c (.val (.int .i32 (IntKind.wrap .i32 (BitVec.toNat (BitVec.ofInt (IntKind.bits .i32) (IntKind.wrap .i32 (r_13 * (64 : Int))) ||| BitVec.ofInt (IntKind.bits .i32) (IntKind.wrap .i32 (IntKind.wrap .u8 (BitVec.toNat (BitVec.ofInt (IntKind.bits .u8) (bt s_1 (IntKind.wrap .i64 (at_2 + i_14))) &&& ~~~BitVec.ofInt (IntKind.bits .u8) (192 : Int))))))))))), (11, .c (.val (.int .i64 i_14)))], [(0, .box [.val (.int .u8 f_4), .val (.int .u8 f_5), .val (.int .i32 f_6)])], 1⟩ [(0 : Int) ≤ (6 : Int)] (by kernel_rfl) rfl rfl (ap1 (by decide)) ?_
          refine VL_nil (QB_end ?_)
          refine V_run hN hn 1 1 [0, 1, 2, 7, 10, 11] [0] ⟨[(0, .c (.val (.string s_1))), (1, .c (.val (.int .i64 at_2))), (2, .c (.val (.int .i64 n_3))), (7, .c (.h 0)), (10, .c (.val (.int .i32 (IntKind.wrap .i32 (BitVec.toNat (BitVec.ofInt (IntKind.bits .i32) (IntKind.wrap .i32 (r_13 * (64 : Int))) ||| BitVec.ofInt (IntKind.bits .i32) (IntKind.wrap .i32 (IntKind.wrap .u8 (BitVec.toNat (BitVec.ofInt (IntKind.bits .u8) (bt s_1 (IntKind.wrap .i64 (at_2 + i_14))) &&& ~~~BitVec.ofInt (IntKind.bits .u8) (192 : Int))))))))))), (11, .c (.val (.int .i64 (IntKind.wrap .i64 (i_14 + (1 : Int))))))], [(0, .box [.val (.int .u8 f_4), .val (.int .u8 f_5), .val (.int .i32 f_6)])], 1⟩ [] (by kernel_rfl) rfl rfl ap0 ?_
          refine VL_nil ?_
          exact V_roundEnd ((IntKind.wrap .i32 (BitVec.toNat (BitVec.ofInt (IntKind.bits .i32) (IntKind.wrap .i32 (r_13 * (64 : Int))) ||| BitVec.ofInt (IntKind.bits .i32) (IntKind.wrap .i32 (IntKind.wrap .u8 (BitVec.toNat (BitVec.ofInt (IntKind.bits .u8) (bt s_1 (IntKind.wrap .i64 (at_2 + i_14))) &&& ~~~BitVec.ofInt (IntKind.bits .u8) (192 : Int)))))))), (IntKind.wrap .i64 (i_14 + (1 : Int)))) H_54 [(0, 0)] hn (by kernel_rfl) (by kernel_rfl) rfl rfl rfl
      · intro b_17; have H_51 := of_f H_49 b_17
        refine VL_exit ?_
        refine QL_exit ?_
        refine QB_here ?_
        have H_57 := Option.some.inj (show some (Sum.inr r_13) = some q_44 from H_51); subst H_57
        refine VL_nil ?_
        exact QP_end r_13 rfl [(0, 0)] hn (by kernel_rfl) (by kernel_rfl) rfl rfl rfl
    · intro y_47 hy; subst hy
      skip
      skip
      refine V_run hN hn 2 1 [2, 7, 10] [0] ⟨[(2, .c (.val (.int .i64 n_3))), (7, .c (.h 0)), (10, .c (.val (.int .i32 y_47)))], [(0, .box [.val (.int .u8 f_4), .val (.int .u8 f_5), .val (.int .i32 f_6)])], 1⟩ [] (by kernel_rfl) rfl rfl ap0 ?_
      obtain ⟨q_58, H_59, H_60⟩ := of_bind H_46
      refine V_cut (Y := Bool) (R := Bool) q_58 (fun y => y) (fun y => [(2, .c (.val (.int .i64 n_3))), (10, .c (.val (.int .i32 y_47))), (53, .c (.val (.bool y)))]) (fun y => []) ?_ ?_
      · skip
        rcases Bool.eq_false_or_eq_true ((decide (y_47 < f_6))) with b_26 | b_26
        · have H_62 := of_t H_59 b_26
          refine V_reg hN hn [] [(49, true)] calls_nil 1 [2, 10, 53] [] ⟨[(2, .c (.val (.int .i64 n_3))), (10, .c (.val (.int .i32 y_47))), (53, .c (.val (.bool true)))], [], 1⟩ [(decide (y_47 < f_6)) = true] (by kernel_rfl) rfl rfl (ap1 b_26) (by kernel_rfl) (by kernel_rfl) ?_
          have H_64 := Option.some.inj (show some true = some q_58 from H_62); subst H_64
          refine VL_nil ?_
          exact QP_end true rfl [] hn (by kernel_rfl) (by kernel_rfl) rfl rfl rfl
        · have H_63 := of_f H_59 b_26
          obtain ⟨r_28, h_29, H_65⟩ := of_bind H_63
          refine V_reg hN hn [(6, ⟨60, 0, [.c (.val (.int .i32 y_47))], [], .c (.val (.bool r_28)), [], [], 1⟩)] [(49, false)] (calls_cons (utf_isPoint_spec K y_47 r_28 h_29) (by kernel_rfl) calls_nil) 1 [2, 10, 53] [] ⟨[(2, .c (.val (.int .i64 n_3))), (10, .c (.val (.int .i32 y_47))), (53, .c (.val (.bool (!r_28))))], [], 1⟩ [(decide (y_47 < f_6)) = false] (by kernel_rfl) rfl rfl (ap1 b_26) (by kernel_rfl) (by kernel_rfl) ?_
          have H_66 := Option.some.inj (show some (!r_28) = some q_58 from H_65); subst H_66
          refine VL_nil ?_
          exact QP_end (!r_28) rfl [] hn (by kernel_rfl) (by kernel_rfl) rfl rfl rfl
      · intro y_61 hy; subst hy
        skip
        skip
        refine VL_cond (y_61) (by kernel_rfl) ?_ ?_
        · intro b_32; have H_67 := of_t H_60 b_32
          refine V_run hN hn 2 1 [8, 9] [] ⟨[(8, .c (.val (.int .i32 (0 : Int)))), (9, .c (.val (.int .i64 (0 : Int))))], [], 1⟩ [] (by kernel_rfl) rfl rfl ap0 ?_
          have H_69 := Option.some.inj (show some ((0 : Int), (0 : Int)) = some r from H_67); subst H_69
          refine VL_ret ?_
          exact P_to [(8, .c (.val (.int .i32 (0 : Int)))), (9, .c (.val (.int .i64 (0 : Int))))] [] [] hn (by kernel_rfl) (by kernel_rfl) rfl rfl rfl (QF_retS (by kernel_rfl) (by kernel_rfl) rfl)
        · intro b_32; have H_68 := of_f H_60 b_32
          refine V_run hN hn 3 1 [8, 9] [] ⟨[(8, .c (.val (.int .i32 y_47))), (9, .c (.val (.int .i64 n_3)))], [], 1⟩ [] (by kernel_rfl) rfl rfl ap0 ?_
          have H_70 := Option.some.inj (show some (y_47, n_3) = some r from H_68); subst H_70
          refine VL_ret ?_
          exact P_to [(8, .c (.val (.int .i32 y_47))), (9, .c (.val (.int .i64 n_3)))] [] [] hn (by kernel_rfl) (by kernel_rfl) rfl rfl rfl (QF_retS (by kernel_rfl) (by kernel_rfl) rfl)

theorem utf_point_spec (K : Nat) (s_1 : ByteArray) (at_2 : Int) (r : (Int × Int)) (H : utf_point K s_1 at_2 = some r) : Spec Try.prog 54 0 [.c (.val (.string s_1)), .c (.val (.int .i64 at_2))] [] (.tup [(false, [.val (.int .i32 r.1)]), (false, [.val (.int .i64 r.2)])]) [] := by
  refine Spec_mk (fn := Try.f54) (c := (Try.f54.body).get!) Try.func54 (by kernel_rfl) rfl ?_
  intro C hN hn
  replace hN : C.N = 39 := hN
  unfold utf_point at H
  refine V_run hN hn 4 0 [0, 1] [] ⟨[(0, .c (.val (.string s_1))), (1, .c (.val (.int .i64 at_2)))], [], 0⟩ [] (by kernel_rfl) rfl rfl ap0 ?_
  obtain ⟨q_32, H_33, H_34⟩ := of_bind H
  refine V_cut (Y := Bool) (R := Bool) q_32 (fun y => y) (fun y => [(0, .c (.val (.string s_1))), (1, .c (.val (.int .i64 at_2))), (15, .c (.val (.bool y)))]) (fun y => []) ?_ ?_
  · skip
    rcases Bool.eq_false_or_eq_true ((decide (at_2 < (0 : Int)))) with b_4 | b_4
    · have H_36 := of_t H_33 b_4
      refine V_reg hN hn [] [(10, true)] calls_nil 0 [0, 1, 15] [] ⟨[(0, .c (.val (.string s_1))), (1, .c (.val (.int .i64 at_2))), (15, .c (.val (.bool true)))], [], 0⟩ [(decide (at_2 < (0 : Int))) = true] (by kernel_rfl) rfl rfl (ap1 b_4) (by kernel_rfl) (by kernel_rfl) ?_
      have H_38 := Option.some.inj (show some true = some q_32 from H_36); subst H_38
      refine VL_nil ?_
      exact QP_end true rfl [] hn (by kernel_rfl) (by kernel_rfl) rfl rfl rfl
    · have H_37 := of_f H_33 b_4
      refine V_reg hN hn [] [(10, false)] calls_nil 0 [0, 1, 15] [] ⟨[(0, .c (.val (.string s_1))), (1, .c (.val (.int .i64 at_2))), (15, .c (.val (.bool (decide (at_2 ≥ (((ByteArray.size s_1) : Nat) : Int))))))], [], 0⟩ [(decide (at_2 < (0 : Int))) = false] (by kernel_rfl) rfl rfl (ap1 b_4) (by kernel_rfl) (by kernel_rfl) ?_
      have H_39 := Option.some.inj (show some (decide (at_2 ≥ (((ByteArray.size s_1) : Nat) : Int))) = some q_32 from H_37); subst H_39
      refine VL_nil ?_
      exact QP_end (decide (at_2 ≥ (((ByteArray.size s_1) : Nat) : Int))) rfl [] hn (by kernel_rfl) (by kernel_rfl) rfl rfl rfl
  · intro y_35 hy; subst hy
    skip
    skip
    refine VL_cond (y_35) (by kernel_rfl) ?_ ?_
    · intro b_8; have H_40 := of_t H_34 b_8
      refine V_run hN hn 2 0 [4, 5] [] ⟨[(4, .c (.val (.int .i32 (0 : Int)))), (5, .c (.val (.int .i64 (0 : Int))))], [], 0⟩ [] (by kernel_rfl) rfl rfl ap0 ?_
      have H_42 := Option.some.inj (show some ((0 : Int), (0 : Int)) = some r from H_40); subst H_42
      refine VL_ret ?_
      exact P_to [(4, .c (.val (.int .i32 (0 : Int)))), (5, .c (.val (.int .i64 (0 : Int))))] [] [] hn (by kernel_rfl) (by kernel_rfl) rfl rfl rfl (QF_retS (by kernel_rfl) (by kernel_rfl) rfl)
    · intro b_8; have H_41 := of_f H_34 b_8
      refine V_run hN hn 3 0 [0, 1, 15] [] ⟨[(0, .c (.val (.string s_1))), (1, .c (.val (.int .i64 at_2))), (15, .c (.val (.bool y_35)))], [], 0⟩ [] (by kernel_rfl) rfl rfl ap0 ?_
      obtain ⟨r_11, h_12, H_43⟩ := of_bind H_41
      refine V_reg hN hn [(0, ⟨57, 0, [], [], .agg [.val (.int .u8 r_11.1), .val (.int .u8 r_11.2.1), .val (.int .i32 r_11.2.2.1), .val (.int .u8 r_11.2.2.2.1), .val (.int .u8 r_11.2.2.2.2.1), .val (.int .i32 r_11.2.2.2.2.2.1), .val (.int .u8 r_11.2.2.2.2.2.2.1), .val (.int .u8 r_11.2.2.2.2.2.2.2.1), .val (.int .i32 r_11.2.2.2.2.2.2.2.2.1), .val (.int .u8 r_11.2.2.2.2.2.2.2.2.2.1), .val (.int .u8 r_11.2.2.2.2.2.2.2.2.2.2.1), .val (.int .i32 r_11.2.2.2.2.2.2.2.2.2.2.2)], [], [], 0⟩)] [] (calls_cons (utf_forms_spec K  r_11 h_12) (by kernel_rfl) calls_nil) 0 [0, 1, 16, 17] [] ⟨[(0, .c (.val (.string s_1))), (1, .c (.val (.int .i64 at_2))), (16, .agg [.val (.int .u8 r_11.1), .val (.int .u8 r_11.2.1), .val (.int .i32 r_11.2.2.1), .val (.int .u8 r_11.2.2.2.1), .val (.int .u8 r_11.2.2.2.2.1), .val (.int .i32 r_11.2.2.2.2.2.1), .val (.int .u8 r_11.2.2.2.2.2.2.1), .val (.int .u8 r_11.2.2.2.2.2.2.2.1), .val (.int .i32 r_11.2.2.2.2.2.2.2.2.1), .val (.int .u8 r_11.2.2.2.2.2.2.2.2.2.1), .val (.int .u8 r_11.2.2.2.2.2.2.2.2.2.2.1), .val (.int .i32 r_11.2.2.2.2.2.2.2.2.2.2.2)]), (17, .c (.val (.int .i64 (0 : Int))))], [], 0⟩ [] (by kernel_rfl) rfl rfl ap0 (by kernel_rfl) (by kernel_rfl) ?_
      refine VL_block ?_
      refine V_to [(0, .c (.val (.string s_1))), (1, .c (.val (.int .i64 at_2))), (16, .agg [.val (.int .u8 r_11.1), .val (.int .u8 r_11.2.1), .val (.int .i32 r_11.2.2.1), .val (.int .u8 r_11.2.2.2.1), .val (.int .u8 r_11.2.2.2.2.1), .val (.int .i32 r_11.2.2.2.2.2.1), .val (.int .u8 r_11.2.2.2.2.2.2.1), .val (.int .u8 r_11.2.2.2.2.2.2.2.1), .val (.int .i32 r_11.2.2.2.2.2.2.2.2.1), .val (.int .u8 r_11.2.2.2.2.2.2.2.2.2.1), .val (.int .u8 r_11.2.2.2.2.2.2.2.2.2.2.1), .val (.int .i32 r_11.2.2.2.2.2.2.2.2.2.2.2)]), (17, .c (.val (.int .i64 (0 : Int))))] [] [] hn (by kernel_rfl) (by kernel_rfl) rfl rfl rfl ?_
      refine VL_loop (X := Int) (fun x => [(0, .c (.val (.string s_1))), (1, .c (.val (.int .i64 at_2))), (16, .agg [.val (.int .u8 r_11.1), .val (.int .u8 r_11.2.1), .val (.int .i32 r_11.2.2.1), .val (.int .u8 r_11.2.2.2.1), .val (.int .u8 r_11.2.2.2.2.1), .val (.int .i32 r_11.2.2.2.2.2.1), .val (.int .u8 r_11.2.2.2.2.2.2.1), .val (.int .u8 r_11.2.2.2.2.2.2.2.1), .val (.int .i32 r_11.2.2.2.2.2.2.2.2.1), .val (.int .u8 r_11.2.2.2.2.2.2.2.2.2.1), .val (.int .u8 r_11.2.2.2.2.2.2.2.2.2.2.1), .val (.int .i32 r_11.2.2.2.2.2.2.2.2.2.2.2)]), (17, .c (.val (.int .i64 x)))]) (fun x => []) (fun k x => utf_point.l0 K at_2 s_1 r_11 k x = some r) K (0 : Int) H_43 (fun _ h => no_none h) ?_
      intro k_15 t_14 H_44
      have H_45 : utf_point.l0 K at_2 s_1 r_11 (k_15 + 1) t_14 = some r := H_44
      rw [utf_point.l0] at H_45
      refine V_run hN hn 3 0 [0, 1, 16, 17, 18] [] ⟨[(0, .c (.val (.string s_1))), (1, .c (.val (.int .i64 at_2))), (16, .agg [.val (.int .u8 r_11.1), .val (.int .u8 r_11.2.1), .val (.int .i32 r_11.2.2.1), .val (.int .u8 r_11.2.2.2.1), .val (.int .u8 r_11.2.2.2.2.1), .val (.int .i32 r_11.2.2.2.2.2.1), .val (.int .u8 r_11.2.2.2.2.2.2.1), .val (.int .u8 r_11.2.2.2.2.2.2.2.1), .val (.int .i32 r_11.2.2.2.2.2.2.2.2.1), .val (.int .u8 r_11.2.2.2.2.2.2.2.2.2.1), .val (.int .u8 r_11.2.2.2.2.2.2.2.2.2.2.1), .val (.int .i32 r_11.2.2.2.2.2.2.2.2.2.2.2)]), (17, .c (.val (.int .i64 t_14))), (18, .c (.val (.bool (decide (t_14 < (4 : Int))))))], [], 0⟩ [] (by kernel_rfl) rfl rfl ap0 ?_
      refine VL_cond ((decide (t_14 < (4 : Int)))) (by kernel_rfl) ?_ ?_
      · intro b_17; have H_46 := of_t H_45 b_17
        refine V_run hN hn 2 0 [0, 1, 16, 17, 18] [] ⟨[(0, .c (.val (.string s_1))), (1, .c (.val (.int .i64 at_2))), (16, .agg [.val (.int .u8 r_11.1), .val (.int .u8 r_11.2.1), .val (.int .i32 r_11.2.2.1), .val (.int .u8 r_11.2.2.2.1), .val (.int .u8 r_11.2.2.2.2.1), .val (.int .i32 r_11.2.2.2.2.2.1), .val (.int .u8 r_11.2.2.2.2.2.2.1), .val (.int .u8 r_11.2.2.2.2.2.2.2.1), .val (.int .i32 r_11.2.2.2.2.2.2.2.2.1), .val (.int .u8 r_11.2.2.2.2.2.2.2.2.2.1), .val (.int .u8 r_11.2.2.2.2.2.2.2.2.2.2.1), .val (.int .i32 r_11.2.2.2.2.2.2.2.2.2.2.2)]), (17, .c (.val (.int .i64 t_14))), (18, .c (.val (.bool (decide (t_14 < (4 : Int))))))], [], 0⟩ [] (by kernel_rfl) rfl rfl ap0 ?_
        refine VL_block ?_
        obtain ⟨c_19, H_48⟩ := of_if H_46
        refine V_run hN hn 3 0 [0, 1, 6, 7, 16, 17] [0] ⟨[(0, .c (.val (.string s_1))), (1, .c (.val (.int .i64 at_2))), (6, .c (.val (.int .i64 t_14))), (7, .c (.h 0)), (16, .agg [.val (.int .u8 r_11.1), .val (.int .u8 r_11.2.1), .val (.int .i32 r_11.2.2.1), .val (.int .u8 r_11.2.2.2.1), .val (.int .u8 r_11.2.2.2.2.1), .val (.int .i32 r_11.2.2.2.2.2.1), .val (.int .u8 r_11.2.2.2.2.2.2.1), .val (.int .u8 r_11.2.2.2.2.2.2.2.1), .val (.int .i32 r_11.2.2.2.2.2.2.2.2.1), .val (.int .u8 r_11.2.2.2.2.2.2.2.2.2.1), .val (.int .u8 r_11.2.2.2.2.2.2.2.2.2.2.1), .val (.int .i32 r_11.2.2.2.2.2.2.2.2.2.2.2)]), (17, .c (.val (.int .i64 t_14)))], [(0, .box [.val (.int .u8 (List.getD ([(r_11.1, (r_11.2.1, r_11.2.2.1)), (r_11.2.2.2.1, (r_11.2.2.2.2.1, r_11.2.2.2.2.2.1)), (r_11.2.2.2.2.2.2.1, (r_11.2.2.2.2.2.2.2.1, r_11.2.2.2.2.2.2.2.2.1)), (r_11.2.2.2.2.2.2.2.2.2.1, (r_11.2.2.2.2.2.2.2.2.2.2.1, r_11.2.2.2.2.2.2.2.2.2.2.2))] : List (Int × (Int × Int))) (Int.toNat t_14) ((0 : Int), ((0 : Int), (0 : Int)))).1), .val (.int .u8 (List.getD ([(r_11.1, (r_11.2.1, r_11.2.2.1)), (r_11.2.2.2.1, (r_11.2.2.2.2.1, r_11.2.2.2.2.2.1)), (r_11.2.2.2.2.2.2.1, (r_11.2.2.2.2.2.2.2.1, r_11.2.2.2.2.2.2.2.2.1)), (r_11.2.2.2.2.2.2.2.2.2.1, (r_11.2.2.2.2.2.2.2.2.2.2.1, r_11.2.2.2.2.2.2.2.2.2.2.2))] : List (Int × (Int × Int))) (Int.toNat t_14) ((0 : Int), ((0 : Int), (0 : Int)))).2.1), .val (.int .i32 (List.getD ([(r_11.1, (r_11.2.1, r_11.2.2.1)), (r_11.2.2.2.1, (r_11.2.2.2.2.1, r_11.2.2.2.2.2.1)), (r_11.2.2.2.2.2.2.1, (r_11.2.2.2.2.2.2.2.1, r_11.2.2.2.2.2.2.2.2.1)), (r_11.2.2.2.2.2.2.2.2.2.1, (r_11.2.2.2.2.2.2.2.2.2.2.1, r_11.2.2.2.2.2.2.2.2.2.2.2))] : List (Int × (Int × Int))) (Int.toNat t_14) ((0 : Int), ((0 : Int), (0 : Int)))).2.2)])], 1⟩ [0 ≤ t_14, t_14 < ((4 : Nat) : Int)] (by kernel_rfl) rfl rfl (ap2 c_19.1 (ap1 c_19.2)) ?_
        obtain ⟨c_20, H_49⟩ := of_if H_48
        refine V_draw hN hn (by kernel_rfl) [] [] calls_nil 1 [0, 1, 6, 7, 16, 17, 29] [0] ⟨[(0, .c (.val (.string s_1))), (1, .c (.val (.int .i64 at_2))), (6, .c (.val (.int .i64 t_14))), (7, .c (.h 0)), (16, .agg [.val (.int .u8 r_11.1), .val (.int .u8 r_11.2.1), .val (.int .i32 r_11.2.2.1), .val (.int .u8 r_11.2.2.2.1), .val (.int .u8 r_11.2.2.2.2.1), .val (.int .i32 r_11.2.2.2.2.2.1), .val (.int .u8 r_11.2.2.2.2.2.2.1), .val (.int .u8 r_11.2.2.2.2.2.2.2.1), .val (.int .i32 r_11.2.2.2.2.2.2.2.2.1), .val (.int .u8 r_11.2.2.2.2.2.2.2.2.2.1), .val (.int .u8 r_11.2.2.2.2.2.2.2.2.2.2.1), .val (.int .i32 r_11.2.2.2.2.2.2.2.2.2.2.2)]), (17, .c (.val (.int .i64 t_14))), (29, .c (.val (.bool ((IntKind.wrap .u8 (BitVec.toNat (BitVec.ofInt (IntKind.bits .u8) (bt s_1 at_2) &&& BitVec.ofInt (IntKind.bits .u8) (List.getD ([(r_11.1, (r_11.2.1, r_11.2.2.1)), (r_11.2.2.2.1, (r_11.2.2.2.2.1, r_11.2.2.2.2.2.1)), (r_11.2.2.2.2.2.2.1, (r_11.2.2.2.2.2.2.2.1, r_11.2.2.2.2.2.2.2.2.1)), (r_11.2.2.2.2.2.2.2.2.2.1, (r_11.2.2.2.2.2.2.2.2.2.2.1, r_11.2.2.2.2.2.2.2.2.2.2.2))] : List (Int × (Int × Int))) (Int.toNat t_14) ((0 : Int), ((0 : Int), (0 : Int)))).1))) == (List.getD ([(r_11.1, (r_11.2.1, r_11.2.2.1)), (r_11.2.2.2.1, (r_11.2.2.2.2.1, r_11.2.2.2.2.2.1)), (r_11.2.2.2.2.2.2.1, (r_11.2.2.2.2.2.2.2.1, r_11.2.2.2.2.2.2.2.2.1)), (r_11.2.2.2.2.2.2.2.2.2.1, (r_11.2.2.2.2.2.2.2.2.2.2.1, r_11.2.2.2.2.2.2.2.2.2.2.2))] : List (Int × (Int × Int))) (Int.toNat t_14) ((0 : Int), ((0 : Int), (0 : Int)))).2.1))))], [(0, .box [.val (.int .u8 (List.getD ([(r_11.1, (r_11.2.1, r_11.2.2.1)), (r_11.2.2.2.1, (r_11.2.2.2.2.1, r_11.2.2.2.2.2.1)), (r_11.2.2.2.2.2.2.1, (r_11.2.2.2.2.2.2.2.1, r_11.2.2.2.2.2.2.2.2.1)), (r_11.2.2.2.2.2.2.2.2.2.1, (r_11.2.2.2.2.2.2.2.2.2.2.1, r_11.2.2.2.2.2.2.2.2.2.2.2))] : List (Int × (Int × Int))) (Int.toNat t_14) ((0 : Int), ((0 : Int), (0 : Int)))).1), .val (.int .u8 (List.getD ([(r_11.1, (r_11.2.1, r_11.2.2.1)), (r_11.2.2.2.1, (r_11.2.2.2.2.1, r_11.2.2.2.2.2.1)), (r_11.2.2.2.2.2.2.1, (r_11.2.2.2.2.2.2.2.1, r_11.2.2.2.2.2.2.2.2.1)), (r_11.2.2.2.2.2.2.2.2.2.1, (r_11.2.2.2.2.2.2.2.2.2.2.1, r_11.2.2.2.2.2.2.2.2.2.2.2))] : List (Int × (Int × Int))) (Int.toNat t_14) ((0 : Int), ((0 : Int), (0 : Int)))).2.1), .val (.int .i32 (List.getD ([(r_11.1, (r_11.2.1, r_11.2.2.1)), (r_11.2.2.2.1, (r_11.2.2.2.2.1, r_11.2.2.2.2.2.1)), (r_11.2.2.2.2.2.2.1, (r_11.2.2.2.2.2.2.2.1, r_11.2.2.2.2.2.2.2.2.1)), (r_11.2.2.2.2.2.2.2.2.2.1, (r_11.2.2.2.2.2.2.2.2.2.2.1, r_11.2.2.2.2.2.2.2.2.2.2.2))] : List (Int × (Int × Int))) (Int.toNat t_14) ((0 : Int), ((0 : Int), (0 : Int)))).2.2)])], 1⟩ [0 ≤ at_2, at_2 < (((ByteArray.size s_1) : Nat) : Int)] (by kernel_rfl) rfl rfl (ap2 c_20.1 (ap1 c_20.2)) (by kernel_rfl) (by kernel_rfl) ?_
        refine VL_cond (((IntKind.wrap .u8 (BitVec.toNat (BitVec.ofInt (IntKind.bits .u8) (bt s_1 at_2) &&& BitVec.ofInt (IntKind.bits .u8) (List.getD ([(r_11.1, (r_11.2.1, r_11.2.2.1)), (r_11.2.2.2.1, (r_11.2.2.2.2.1, r_11.2.2.2.2.2.1)), (r_11.2.2.2.2.2.2.1, (r_11.2.2.2.2.2.2.2.1, r_11.2.2.2.2.2.2.2.2.1)), (r_11.2.2.2.2.2.2.2.2.2.1, (r_11.2.2.2.2.2.2.2.2.2.2.1, r_11.2.2.2.2.2.2.2.2.2.2.2))] : List (Int × (Int × Int))) (Int.toNat t_14) ((0 : Int), ((0 : Int), (0 : Int)))).1))) == (List.getD ([(r_11.1, (r_11.2.1, r_11.2.2.1)), (r_11.2.2.2.1, (r_11.2.2.2.2.1, r_11.2.2.2.2.2.1)), (r_11.2.2.2.2.2.2.1, (r_11.2.2.2.2.2.2.2.1, r_11.2.2.2.2.2.2.2.2.1)), (r_11.2.2.2.2.2.2.2.2.2.1, (r_11.2.2.2.2.2.2.2.2.2.2.1, r_11.2.2.2.2.2.2.2.2.2.2.2))] : List (Int × (Int × Int))) (Int.toNat t_14) ((0 : Int), ((0 : Int), (0 : Int)))).2.1)) (by kernel_rfl) ?_ ?_
        · intro b_21; have H_50 := of_t H_49 b_21
          refine V_run hN hn 1 1 [0, 1, 6, 7, 16, 17, 29] [0] ⟨[(0, .c (.val (.string s_1))), (1, .c (.val (.int .i64 at_2))), (6, .c (.val (.int .i64 t_14))), (7, .c (.h 0)), (16, .agg [.val (.int .u8 r_11.1), .val (.int .u8 r_11.2.1), .val (.int .i32 r_11.2.2.1), .val (.int .u8 r_11.2.2.2.1), .val (.int .u8 r_11.2.2.2.2.1), .val (.int .i32 r_11.2.2.2.2.2.1), .val (.int .u8 r_11.2.2.2.2.2.2.1), .val (.int .u8 r_11.2.2.2.2.2.2.2.1), .val (.int .i32 r_11.2.2.2.2.2.2.2.2.1), .val (.int .u8 r_11.2.2.2.2.2.2.2.2.2.1), .val (.int .u8 r_11.2.2.2.2.2.2.2.2.2.2.1), .val (.int .i32 r_11.2.2.2.2.2.2.2.2.2.2.2)]), (17, .c (.val (.int .i64 t_14))), (29, .c (.val (.bool ((IntKind.wrap .u8 (BitVec.toNat (BitVec.ofInt (IntKind.bits .u8) (bt s_1 at_2) &&& BitVec.ofInt (IntKind.bits .u8) (List.getD ([(r_11.1, (r_11.2.1, r_11.2.2.1)), (r_11.2.2.2.1, (r_11.2.2.2.2.1, r_11.2.2.2.2.2.1)), (r_11.2.2.2.2.2.2.1, (r_11.2.2.2.2.2.2.2.1, r_11.2.2.2.2.2.2.2.2.1)), (r_11.2.2.2.2.2.2.2.2.2.1, (r_11.2.2.2.2.2.2.2.2.2.2.1, r_11.2.2.2.2.2.2.2.2.2.2.2))] : List (Int × (Int × Int))) (Int.toNat t_14) ((0 : Int), ((0 : Int), (0 : Int)))).1))) == (List.getD ([(r_11.1, (r_11.2.1, r_11.2.2.1)), (r_11.2.2.2.1, (r_11.2.2.2.2.1, r_11.2.2.2.2.2.1)), (r_11.2.2.2.2.2.2.1, (r_11.2.2.2.2.2.2.2.1, r_11.2.2.2.2.2.2.2.2.1)), (r_11.2.2.2.2.2.2.2.2.2.1, (r_11.2.2.2.2.2.2.2.2.2.2.1, r_11.2.2.2.2.2.2.2.2.2.2.2))] : List (Int × (Int × Int))) (Int.toNat t_14) ((0 : Int), ((0 : Int), (0 : Int)))).2.1))))], [(0, .box [.val (.int .u8 (List.getD ([(r_11.1, (r_11.2.1, r_11.2.2.1)), (r_11.2.2.2.1, (r_11.2.2.2.2.1, r_11.2.2.2.2.2.1)), (r_11.2.2.2.2.2.2.1, (r_11.2.2.2.2.2.2.2.1, r_11.2.2.2.2.2.2.2.2.1)), (r_11.2.2.2.2.2.2.2.2.2.1, (r_11.2.2.2.2.2.2.2.2.2.2.1, r_11.2.2.2.2.2.2.2.2.2.2.2))] : List (Int × (Int × Int))) (Int.toNat t_14) ((0 : Int), ((0 : Int), (0 : Int)))).1), .val (.int .u8 (List.getD ([(r_11.1, (r_11.2.1, r_11.2.2.1)), (r_11.2.2.2.1, (r_11.2.2.2.2.1, r_11.2.2.2.2.2.1)), (r_11.2.2.2.2.2.2.1, (r_11.2.2.2.2.2.2.2.1, r_11.2.2.2.2.2.2.2.2.1)), (r_11.2.2.2.2.2.2.2.2.2.1, (r_11.2.2.2.2.2.2.2.2.2.2.1, r_11.2.2.2.2.2.2.2.2.2.2.2))] : List (Int × (Int × Int))) (Int.toNat t_14) ((0 : Int), ((0 : Int), (0 : Int)))).2.1), .val (.int .i32 (List.getD ([(r_11.1, (r_11.2.1, r_11.2.2.1)), (r_11.2.2.2.1, (r_11.2.2.2.2.1, r_11.2.2.2.2.2.1)), (r_11.2.2.2.2.2.2.1, (r_11.2.2.2.2.2.2.2.1, r_11.2.2.2.2.2.2.2.2.1)), (r_11.2.2.2.2.2.2.2.2.2.1, (r_11.2.2.2.2.2.2.2.2.2.2.1, r_11.2.2.2.2.2.2.2.2.2.2.2))] : List (Int × (Int × Int))) (Int.toNat t_14) ((0 : Int), ((0 : Int), (0 : Int)))).2.2)])], 1⟩ [] (by kernel_rfl) rfl rfl ap0 ?_
          obtain ⟨r_23, h_24, H_52⟩ := of_bind H_50
          refine V_reg hN hn [(5, ⟨58, 0, [.c (.val (.string s_1)), .c (.val (.int .i64 at_2)), .c (.val (.int .i64 (IntKind.wrap .i64 (t_14 + (1 : Int))))), .agg [.val (.int .u8 (List.getD ([(r_11.1, (r_11.2.1, r_11.2.2.1)), (r_11.2.2.2.1, (r_11.2.2.2.2.1, r_11.2.2.2.2.2.1)), (r_11.2.2.2.2.2.2.1, (r_11.2.2.2.2.2.2.2.1, r_11.2.2.2.2.2.2.2.2.1)), (r_11.2.2.2.2.2.2.2.2.2.1, (r_11.2.2.2.2.2.2.2.2.2.2.1, r_11.2.2.2.2.2.2.2.2.2.2.2))] : List (Int × (Int × Int))) (Int.toNat t_14) ((0 : Int), ((0 : Int), (0 : Int)))).1), .val (.int .u8 (List.getD ([(r_11.1, (r_11.2.1, r_11.2.2.1)), (r_11.2.2.2.1, (r_11.2.2.2.2.1, r_11.2.2.2.2.2.1)), (r_11.2.2.2.2.2.2.1, (r_11.2.2.2.2.2.2.2.1, r_11.2.2.2.2.2.2.2.2.1)), (r_11.2.2.2.2.2.2.2.2.2.1, (r_11.2.2.2.2.2.2.2.2.2.2.1, r_11.2.2.2.2.2.2.2.2.2.2.2))] : List (Int × (Int × Int))) (Int.toNat t_14) ((0 : Int), ((0 : Int), (0 : Int)))).2.1), .val (.int .i32 (List.getD ([(r_11.1, (r_11.2.1, r_11.2.2.1)), (r_11.2.2.2.1, (r_11.2.2.2.2.1, r_11.2.2.2.2.2.1)), (r_11.2.2.2.2.2.2.1, (r_11.2.2.2.2.2.2.2.1, r_11.2.2.2.2.2.2.2.2.1)), (r_11.2.2.2.2.2.2.2.2.2.1, (r_11.2.2.2.2.2.2.2.2.2.2.1, r_11.2.2.2.2.2.2.2.2.2.2.2))] : List (Int × (Int × Int))) (Int.toNat t_14) ((0 : Int), ((0 : Int), (0 : Int)))).2.2)]], [], .tup [(false, [.val (.int .i32 r_23.1)]), (false, [.val (.int .i64 r_23.2)])], [], [], 1⟩)] [] (calls_cons (utf_long_spec K s_1 at_2 (IntKind.wrap .i64 (t_14 + (1 : Int))) (List.getD ([(r_11.1, (r_11.2.1, r_11.2.2.1)), (r_11.2.2.2.1, (r_11.2.2.2.2.1, r_11.2.2.2.2.2.1)), (r_11.2.2.2.2.2.2.1, (r_11.2.2.2.2.2.2.2.1, r_11.2.2.2.2.2.2.2.2.1)), (r_11.2.2.2.2.2.2.2.2.2.1, (r_11.2.2.2.2.2.2.2.2.2.2.1, r_11.2.2.2.2.2.2.2.2.2.2.2))] : List (Int × (Int × Int))) (Int.toNat t_14) ((0 : Int), ((0 : Int), (0 : Int)))).1 (List.getD ([(r_11.1, (r_11.2.1, r_11.2.2.1)), (r_11.2.2.2.1, (r_11.2.2.2.2.1, r_11.2.2.2.2.2.1)), (r_11.2.2.2.2.2.2.1, (r_11.2.2.2.2.2.2.2.1, r_11.2.2.2.2.2.2.2.2.1)), (r_11.2.2.2.2.2.2.2.2.2.1, (r_11.2.2.2.2.2.2.2.2.2.2.1, r_11.2.2.2.2.2.2.2.2.2.2.2))] : List (Int × (Int × Int))) (Int.toNat t_14) ((0 : Int), ((0 : Int), (0 : Int)))).2.1 (List.getD ([(r_11.1, (r_11.2.1, r_11.2.2.1)), (r_11.2.2.2.1, (r_11.2.2.2.2.1, r_11.2.2.2.2.2.1)), (r_11.2.2.2.2.2.2.1, (r_11.2.2.2.2.2.2.2.1, r_11.2.2.2.2.2.2.2.2.1)), (r_11.2.2.2.2.2.2.2.2.2.1, (r_11.2.2.2.2.2.2.2.2.2.2.1, r_11.2.2.2.2.2.2.2.2.2.2.2))] : List (Int × (Int × Int))) (Int.toNat t_14) ((0 : Int), ((0 : Int), (0 : Int)))).2.2 r_23 h_24) (by kernel_rfl) calls_nil) 1 [4, 5] [] ⟨[(4, .c (.val (.int .i32 r_23.1))), (5, .c (.val (.int .i64 r_23.2)))], [], 1⟩ [] (by kernel_rfl) rfl rfl ap0 (by kernel_rfl) (by kernel_rfl) ?_
          have H_53 := Option.some.inj (show some (r_23.1, r_23.2) = some r from H_52); subst H_53
          refine VL_ret ?_
          refine QB_ret ?_
          refine QL_ret ?_
          refine QB_ret ?_
          exact P_to [(4, .c (.val (.int .i32 r_23.1))), (5, .c (.val (.int .i64 r_23.2)))] [] [] hn (by kernel_rfl) (by kernel_rfl) rfl rfl rfl (QF_retS (by kernel_rfl) (by kernel_rfl) rfl)
        · intro b_21; have H_51 := of_f H_49 b_21
          refine V_run hN hn 1 1 [0, 1, 6, 7, 16, 17, 29] [0] ⟨[(0, .c (.val (.string s_1))), (1, .c (.val (.int .i64 at_2))), (6, .c (.val (.int .i64 t_14))), (7, .c (.h 0)), (16, .agg [.val (.int .u8 r_11.1), .val (.int .u8 r_11.2.1), .val (.int .i32 r_11.2.2.1), .val (.int .u8 r_11.2.2.2.1), .val (.int .u8 r_11.2.2.2.2.1), .val (.int .i32 r_11.2.2.2.2.2.1), .val (.int .u8 r_11.2.2.2.2.2.2.1), .val (.int .u8 r_11.2.2.2.2.2.2.2.1), .val (.int .i32 r_11.2.2.2.2.2.2.2.2.1), .val (.int .u8 r_11.2.2.2.2.2.2.2.2.2.1), .val (.int .u8 r_11.2.2.2.2.2.2.2.2.2.2.1), .val (.int .i32 r_11.2.2.2.2.2.2.2.2.2.2.2)]), (17, .c (.val (.int .i64 t_14))), (29, .c (.val (.bool ((IntKind.wrap .u8 (BitVec.toNat (BitVec.ofInt (IntKind.bits .u8) (bt s_1 at_2) &&& BitVec.ofInt (IntKind.bits .u8) (List.getD ([(r_11.1, (r_11.2.1, r_11.2.2.1)), (r_11.2.2.2.1, (r_11.2.2.2.2.1, r_11.2.2.2.2.2.1)), (r_11.2.2.2.2.2.2.1, (r_11.2.2.2.2.2.2.2.1, r_11.2.2.2.2.2.2.2.2.1)), (r_11.2.2.2.2.2.2.2.2.2.1, (r_11.2.2.2.2.2.2.2.2.2.2.1, r_11.2.2.2.2.2.2.2.2.2.2.2))] : List (Int × (Int × Int))) (Int.toNat t_14) ((0 : Int), ((0 : Int), (0 : Int)))).1))) == (List.getD ([(r_11.1, (r_11.2.1, r_11.2.2.1)), (r_11.2.2.2.1, (r_11.2.2.2.2.1, r_11.2.2.2.2.2.1)), (r_11.2.2.2.2.2.2.1, (r_11.2.2.2.2.2.2.2.1, r_11.2.2.2.2.2.2.2.2.1)), (r_11.2.2.2.2.2.2.2.2.2.1, (r_11.2.2.2.2.2.2.2.2.2.2.1, r_11.2.2.2.2.2.2.2.2.2.2.2))] : List (Int × (Int × Int))) (Int.toNat t_14) ((0 : Int), ((0 : Int), (0 : Int)))).2.1))))], [(0, .box [.val (.int .u8 (List.getD ([(r_11.1, (r_11.2.1, r_11.2.2.1)), (r_11.2.2.2.1, (r_11.2.2.2.2.1, r_11.2.2.2.2.2.1)), (r_11.2.2.2.2.2.2.1, (r_11.2.2.2.2.2.2.2.1, r_11.2.2.2.2.2.2.2.2.1)), (r_11.2.2.2.2.2.2.2.2.2.1, (r_11.2.2.2.2.2.2.2.2.2.2.1, r_11.2.2.2.2.2.2.2.2.2.2.2))] : List (Int × (Int × Int))) (Int.toNat t_14) ((0 : Int), ((0 : Int), (0 : Int)))).1), .val (.int .u8 (List.getD ([(r_11.1, (r_11.2.1, r_11.2.2.1)), (r_11.2.2.2.1, (r_11.2.2.2.2.1, r_11.2.2.2.2.2.1)), (r_11.2.2.2.2.2.2.1, (r_11.2.2.2.2.2.2.2.1, r_11.2.2.2.2.2.2.2.2.1)), (r_11.2.2.2.2.2.2.2.2.2.1, (r_11.2.2.2.2.2.2.2.2.2.2.1, r_11.2.2.2.2.2.2.2.2.2.2.2))] : List (Int × (Int × Int))) (Int.toNat t_14) ((0 : Int), ((0 : Int), (0 : Int)))).2.1), .val (.int .i32 (List.getD ([(r_11.1, (r_11.2.1, r_11.2.2.1)), (r_11.2.2.2.1, (r_11.2.2.2.2.1, r_11.2.2.2.2.2.1)), (r_11.2.2.2.2.2.2.1, (r_11.2.2.2.2.2.2.2.1, r_11.2.2.2.2.2.2.2.2.1)), (r_11.2.2.2.2.2.2.2.2.2.1, (r_11.2.2.2.2.2.2.2.2.2.2.1, r_11.2.2.2.2.2.2.2.2.2.2.2))] : List (Int × (Int × Int))) (Int.toNat t_14) ((0 : Int), ((0 : Int), (0 : Int)))).2.2)])], 1⟩ [] (by kernel_rfl) rfl rfl ap0 ?_
          refine VL_nil (QB_end ?_)
          refine V_run hN hn 1 1 [0, 1, 16, 17] [] ⟨[(0, .c (.val (.string s_1))), (1, .c (.val (.int .i64 at_2))), (16, .agg [.val (.int .u8 r_11.1), .val (.int .u8 r_11.2.1), .val (.int .i32 r_11.2.2.1), .val (.int .u8 r_11.2.2.2.1), .val (.int .u8 r_11.2.2.2.2.1), .val (.int .i32 r_11.2.2.2.2.2.1), .val (.int .u8 r_11.2.2.2.2.2.2.1), .val (.int .u8 r_11.2.2.2.2.2.2.2.1), .val (.int .i32 r_11.2.2.2.2.2.2.2.2.1), .val (.int .u8 r_11.2.2.2.2.2.2.2.2.2.1), .val (.int .u8 r_11.2.2.2.2.2.2.2.2.2.2.1), .val (.int .i32 r_11.2.2.2.2.2.2.2.2.2.2.2)]), (17, .c (.val (.int .i64 (IntKind.wrap .i64 (t_14 + (1 : Int))))))], [], 1⟩ [] (by kernel_rfl) rfl rfl ap0 ?_
          refine VL_nil ?_
          exact V_roundEnd (IntKind.wrap .i64 (t_14 + (1 : Int))) H_51 [] hn (by kernel_rfl) (by kernel_rfl) rfl rfl rfl
      · intro b_17; have H_47 := of_f H_45 b_17
        refine VL_exit ?_
        refine QL_exit ?_
        refine QB_here ?_
        refine V_run hN hn 2 0 [4, 5] [] ⟨[(4, .c (.val (.int .i32 (0 : Int)))), (5, .c (.val (.int .i64 (0 : Int))))], [], 0⟩ [] (by kernel_rfl) rfl rfl ap0 ?_
        have H_54 := Option.some.inj (show some ((0 : Int), (0 : Int)) = some r from H_47); subst H_54
        refine VL_ret ?_
        exact P_to [(4, .c (.val (.int .i32 (0 : Int)))), (5, .c (.val (.int .i64 (0 : Int))))] [] [] hn (by kernel_rfl) (by kernel_rfl) rfl rfl rfl (QF_retS (by kernel_rfl) (by kernel_rfl) rfl)

theorem utf_Size_spec (K : Nat) (s_1 : ByteArray) (at_2 : Int) (r : Int) (H : utf_Size K s_1 at_2 = some r) : Spec Try.prog 51 0 [.c (.val (.string s_1)), .c (.val (.int .i64 at_2))] [] (.c (.val (.int .i64 r))) [] := by
  refine Spec_mk (fn := Try.f51) (c := (Try.f51.body).get!) Try.func51 (by kernel_rfl) rfl ?_
  intro C hN hn
  replace hN : C.N = 14 := hN
  unfold utf_Size at H
  refine V_run hN hn 3 0 [0, 1] [] ⟨[(0, .c (.val (.string s_1))), (1, .c (.val (.int .i64 at_2)))], [], 0⟩ [] (by kernel_rfl) rfl rfl ap0 ?_
  obtain ⟨r_4, h_5, H_9⟩ := of_bind H
  refine V_reg hN hn [(2, ⟨54, 0, [.c (.val (.string s_1)), .c (.val (.int .i64 at_2))], [], .tup [(false, [.val (.int .i32 r_4.1)]), (false, [.val (.int .i64 r_4.2)])], [], [], 0⟩)] [] (calls_cons (utf_point_spec K s_1 at_2 r_4 h_5) (by kernel_rfl) calls_nil) 0 [6] [] ⟨[(6, .c (.val (.int .i64 r_4.2)))], [], 0⟩ [] (by kernel_rfl) rfl rfl ap0 (by kernel_rfl) (by kernel_rfl) ?_
  refine V_run hN hn 2 0 [4] [] ⟨[(4, .c (.val (.int .i64 r_4.2)))], [], 0⟩ [] (by kernel_rfl) rfl rfl ap0 ?_
  have H_10 := Option.some.inj (show some r_4.2 = some r from H_9); subst H_10
  refine VL_ret ?_
  exact P_to [(4, .c (.val (.int .i64 r_4.2)))] [] [] hn (by kernel_rfl) (by kernel_rfl) rfl rfl rfl (QF_retS (by kernel_rfl) (by kernel_rfl) rfl)

theorem utf_Valid_spec (K : Nat) (s_1 : ByteArray) (r : Bool) (H : utf_Valid K s_1 = some r) : Spec Try.prog 44 0 [.c (.val (.string s_1))] [] (.c (.val (.bool r))) [] := by
  refine Spec_mk (fn := Try.f44) (c := (Try.f44.body).get!) Try.func44 (by kernel_rfl) rfl ?_
  intro C hN hn
  replace hN : C.N = 17 := hN
  unfold utf_Valid at H
  refine V_run hN hn 5 0 [0, 3] [] ⟨[(0, .c (.val (.string s_1))), (3, .c (.val (.int .i64 (0 : Int))))], [], 0⟩ [] (by kernel_rfl) rfl rfl ap0 ?_
  refine VL_block ?_
  refine V_to [(0, .c (.val (.string s_1))), (3, .c (.val (.int .i64 (0 : Int))))] [] [] hn (by kernel_rfl) (by kernel_rfl) rfl rfl rfl ?_
  refine VL_loop (X := Int) (fun x => [(0, .c (.val (.string s_1))), (3, .c (.val (.int .i64 x)))]) (fun x => []) (fun k x => utf_Valid.l0 K s_1 k x = some r) K (0 : Int) H (fun _ h => no_none h) ?_
  intro k_4 at_3 H_18
  have H_19 : utf_Valid.l0 K s_1 (k_4 + 1) at_3 = some r := H_18
  rw [utf_Valid.l0] at H_19
  refine V_run hN hn 3 0 [0, 3, 8] [] ⟨[(0, .c (.val (.string s_1))), (3, .c (.val (.int .i64 at_3))), (8, .c (.val (.bool (decide (at_3 < (((ByteArray.size s_1) : Nat) : Int))))))], [], 0⟩ [] (by kernel_rfl) rfl rfl ap0 ?_
  refine VL_cond ((decide (at_3 < (((ByteArray.size s_1) : Nat) : Int)))) (by kernel_rfl) ?_ ?_
  · intro b_6; have H_20 := of_t H_19 b_6
    refine V_run hN hn 1 0 [0, 3, 8] [] ⟨[(0, .c (.val (.string s_1))), (3, .c (.val (.int .i64 at_3))), (8, .c (.val (.bool (decide (at_3 < (((ByteArray.size s_1) : Nat) : Int))))))], [], 0⟩ [] (by kernel_rfl) rfl rfl ap0 ?_
    refine VL_block ?_
    refine V_run hN hn 1 0 [0, 3, 8] [] ⟨[(0, .c (.val (.string s_1))), (3, .c (.val (.int .i64 at_3))), (8, .c (.val (.bool (decide (at_3 < (((ByteArray.size s_1) : Nat) : Int))))))], [], 0⟩ [] (by kernel_rfl) rfl rfl ap0 ?_
    obtain ⟨r_9, h_10, H_22⟩ := of_bind H_20
    refine V_reg hN hn [(2, ⟨51, 0, [.c (.val (.string s_1)), .c (.val (.int .i64 at_3))], [], .c (.val (.int .i64 r_9)), [], [], 0⟩)] [] (calls_cons (utf_Size_spec K s_1 at_3 r_9 h_10) (by kernel_rfl) calls_nil) 0 [0, 3, 4] [] ⟨[(0, .c (.val (.string s_1))), (3, .c (.val (.int .i64 at_3))), (4, .c (.val (.int .i64 r_9)))], [], 0⟩ [] (by kernel_rfl) rfl rfl ap0 (by kernel_rfl) (by kernel_rfl) ?_
    refine V_run hN hn 3 0 [0, 3, 4, 13] [] ⟨[(0, .c (.val (.string s_1))), (3, .c (.val (.int .i64 at_3))), (4, .c (.val (.int .i64 r_9))), (13, .c (.val (.bool (r_9 == (0 : Int)))))], [], 0⟩ [] (by kernel_rfl) rfl rfl ap0 ?_
    refine VL_cond ((r_9 == (0 : Int))) (by kernel_rfl) ?_ ?_
    · intro b_13; have H_23 := of_t H_22 b_13
      refine V_run hN hn 2 0 [2] [] ⟨[(2, .c (.val (.bool false)))], [], 0⟩ [] (by kernel_rfl) rfl rfl ap0 ?_
      have H_25 := Option.some.inj (show some false = some r from H_23); subst H_25
      refine VL_ret ?_
      refine QB_ret ?_
      refine QL_ret ?_
      refine QB_ret ?_
      exact P_to [(2, .c (.val (.bool false)))] [] [] hn (by kernel_rfl) (by kernel_rfl) rfl rfl rfl (QF_retS (by kernel_rfl) (by kernel_rfl) rfl)
    · intro b_13; have H_24 := of_f H_22 b_13
      refine V_run hN hn 2 0 [0, 3] [] ⟨[(0, .c (.val (.string s_1))), (3, .c (.val (.int .i64 (IntKind.wrap .i64 (at_3 + r_9)))))], [], 0⟩ [] (by kernel_rfl) rfl rfl ap0 ?_
      refine VL_nil (QB_end ?_)
      refine VL_nil ?_
      exact V_roundEnd (IntKind.wrap .i64 (at_3 + r_9)) H_24 [] hn (by kernel_rfl) (by kernel_rfl) rfl rfl rfl
  · intro b_6; have H_21 := of_f H_19 b_6
    refine VL_exit ?_
    refine QL_exit ?_
    refine QB_here ?_
    refine V_run hN hn 2 0 [2] [] ⟨[(2, .c (.val (.bool true)))], [], 0⟩ [] (by kernel_rfl) rfl rfl ap0 ?_
    have H_26 := Option.some.inj (show some true = some r from H_21); subst H_26
    refine VL_ret ?_
    exact P_to [(2, .c (.val (.bool true)))] [] [] hn (by kernel_rfl) (by kernel_rfl) rfl rfl rfl (QF_retS (by kernel_rfl) (by kernel_rfl) rfl)

theorem delta_elem_spec (K : Nat) (x_1 : Int) (x_2 : Int) (x_3 : ByteArray) (base_4 : Int) (to_5 : Int) (ahead_6 : Bool) (copied_7 : Bool) (r : Bool) (H : delta_elem K x_1 x_2 x_3 base_4 to_5 ahead_6 copied_7 = some r) : Spec Try.prog 39 0 [.agg [.val (.int .i64 x_1), .val (.int .i64 x_2), .val (.string x_3)], .c (.val (.int .i64 base_4)), .c (.val (.int .i64 to_5)), .c (.val (.bool ahead_6)), .c (.val (.bool copied_7))] [] (.c (.val (.bool r))) [] := by
  refine Spec_mk (fn := Try.f39) (c := (Try.f39.body).get!) Try.func39 (by kernel_rfl) rfl ?_
  intro C hN hn
  replace hN : C.N = 65 := hN
  unfold delta_elem at H
  refine V_run hN hn 4 0 [1, 2, 3, 4, 5] [0] ⟨[(1, .c (.val (.int .i64 base_4))), (2, .c (.val (.int .i64 to_5))), (3, .c (.val (.bool ahead_6))), (4, .c (.val (.bool copied_7))), (5, .c (.h 0))], [(0, .box [.val (.int .i64 x_1), .val (.int .i64 x_2), .val (.string x_3)])], 1⟩ [] (by kernel_rfl) rfl rfl ap0 ?_
  obtain ⟨r_9, h_10, H_42⟩ := of_bind H
  refine V_reg hN hn [(1, ⟨38, 0, [.agg [.val (.int .i64 x_1), .val (.int .i64 x_2), .val (.string x_3)]], [], .c (.val (.bool r_9)), [], [], 1⟩)] [] (calls_cons (delta_IsCopy_spec K x_1 x_2 x_3 r_9 h_10) (by kernel_rfl) calls_nil) 1 [1, 2, 3, 4, 5, 13] [0] ⟨[(1, .c (.val (.int .i64 base_4))), (2, .c (.val (.int .i64 to_5))), (3, .c (.val (.bool ahead_6))), (4, .c (.val (.bool copied_7))), (5, .c (.h 0)), (13, .c (.val (.bool r_9)))], [(0, .box [.val (.int .i64 x_1), .val (.int .i64 x_2), .val (.string x_3)])], 1⟩ [] (by kernel_rfl) rfl rfl ap0 (by kernel_rfl) (by kernel_rfl) ?_
  refine VL_cond (r_9) (by kernel_rfl) ?_ ?_
  · intro b_12; have H_43 := of_t H_42 b_12
    refine V_run hN hn 1 1 [1, 2, 3, 4, 5, 13] [0] ⟨[(1, .c (.val (.int .i64 base_4))), (2, .c (.val (.int .i64 to_5))), (3, .c (.val (.bool ahead_6))), (4, .c (.val (.bool copied_7))), (5, .c (.h 0)), (13, .c (.val (.bool r_9)))], [(0, .box [.val (.int .i64 x_1), .val (.int .i64 x_2), .val (.string x_3)])], 1⟩ [] (by kernel_rfl) rfl rfl ap0 ?_
    rcases Bool.eq_false_or_eq_true ((decide (x_1 ≥ to_5))) with b_14 | b_14
    · have H_45 := of_t H_43 b_14
      rcases Bool.eq_false_or_eq_true ((decide (x_1 > to_5))) with b_15 | b_15
      · have H_47 := of_t H_45 b_15
        rcases Bool.eq_false_or_eq_true ((decide (x_1 < x_2))) with b_16 | b_16
        · have H_49 := of_t H_47 b_16
          refine V_reg hN hn [] [(18, true), (23, true), (35, true)] calls_nil 1 [10] [] ⟨[(10, .c (.val (.bool (decide (x_2 ≤ base_4)))))], [], 1⟩ [(decide (x_1 ≥ to_5)) = true, (decide (x_1 > to_5)) = true, (decide (x_1 < x_2)) = true] (by kernel_rfl) rfl rfl (ap2 b_14 (ap2 b_15 (ap1 b_16))) (by kernel_rfl) (by kernel_rfl) ?_
          have H_51 := Option.some.inj (show some (decide (x_2 ≤ base_4)) = some r from H_49); subst H_51
          refine VL_ret ?_
          exact P_to [(10, .c (.val (.bool (decide (x_2 ≤ base_4)))))] [] [] hn (by kernel_rfl) (by kernel_rfl) rfl rfl rfl (QF_retS (by kernel_rfl) (by kernel_rfl) rfl)
        · have H_50 := of_f H_47 b_16
          refine V_reg hN hn [] [(18, true), (23, true), (35, false)] calls_nil 1 [10] [] ⟨[(10, .c (.val (.bool false)))], [], 1⟩ [(decide (x_1 ≥ to_5)) = true, (decide (x_1 > to_5)) = true, (decide (x_1 < x_2)) = false] (by kernel_rfl) rfl rfl (ap2 b_14 (ap2 b_15 (ap1 b_16))) (by kernel_rfl) (by kernel_rfl) ?_
          have H_52 := Option.some.inj (show some false = some r from H_50); subst H_52
          refine VL_ret ?_
          exact P_to [(10, .c (.val (.bool false)))] [] [] hn (by kernel_rfl) (by kernel_rfl) rfl rfl rfl (QF_retS (by kernel_rfl) (by kernel_rfl) rfl)
      · have H_48 := of_f H_45 b_15
        rcases Bool.eq_false_or_eq_true ((!copied_7)) with b_19 | b_19
        · have H_53 := of_t H_48 b_19
          rcases Bool.eq_false_or_eq_true ((decide (x_1 < x_2))) with b_20 | b_20
          · have H_55 := of_t H_53 b_20
            refine V_reg hN hn [] [(18, true), (23, false), (28, true), (35, true)] calls_nil 1 [10] [] ⟨[(10, .c (.val (.bool (decide (x_2 ≤ base_4)))))], [], 1⟩ [(decide (x_1 ≥ to_5)) = true, (decide (x_1 > to_5)) = false, (!copied_7) = true, (decide (x_1 < x_2)) = true] (by kernel_rfl) rfl rfl (ap2 b_14 (ap2 b_15 (ap2 b_19 (ap1 b_20)))) (by kernel_rfl) (by kernel_rfl) ?_
            have H_57 := Option.some.inj (show some (decide (x_2 ≤ base_4)) = some r from H_55); subst H_57
            refine VL_ret ?_
            exact P_to [(10, .c (.val (.bool (decide (x_2 ≤ base_4)))))] [] [] hn (by kernel_rfl) (by kernel_rfl) rfl rfl rfl (QF_retS (by kernel_rfl) (by kernel_rfl) rfl)
          · have H_56 := of_f H_53 b_20
            refine V_reg hN hn [] [(18, true), (23, false), (28, true), (35, false)] calls_nil 1 [10] [] ⟨[(10, .c (.val (.bool false)))], [], 1⟩ [(decide (x_1 ≥ to_5)) = true, (decide (x_1 > to_5)) = false, (!copied_7) = true, (decide (x_1 < x_2)) = false] (by kernel_rfl) rfl rfl (ap2 b_14 (ap2 b_15 (ap2 b_19 (ap1 b_20)))) (by kernel_rfl) (by kernel_rfl) ?_
            have H_58 := Option.some.inj (show some false = some r from H_56); subst H_58
            refine VL_ret ?_
            exact P_to [(10, .c (.val (.bool false)))] [] [] hn (by kernel_rfl) (by kernel_rfl) rfl rfl rfl (QF_retS (by kernel_rfl) (by kernel_rfl) rfl)
        · have H_54 := of_f H_48 b_19
          refine V_reg hN hn [] [(18, true), (23, false), (28, false)] calls_nil 1 [10] [] ⟨[(10, .c (.val (.bool false)))], [], 1⟩ [(decide (x_1 ≥ to_5)) = true, (decide (x_1 > to_5)) = false, (!copied_7) = false] (by kernel_rfl) rfl rfl (ap2 b_14 (ap2 b_15 (ap1 b_19))) (by kernel_rfl) (by kernel_rfl) ?_
          have H_59 := Option.some.inj (show some false = some r from H_54); subst H_59
          refine VL_ret ?_
          exact P_to [(10, .c (.val (.bool false)))] [] [] hn (by kernel_rfl) (by kernel_rfl) rfl rfl rfl (QF_retS (by kernel_rfl) (by kernel_rfl) rfl)
    · have H_46 := of_f H_43 b_14
      refine V_reg hN hn [] [(18, false)] calls_nil 1 [10] [] ⟨[(10, .c (.val (.bool false)))], [], 1⟩ [(decide (x_1 ≥ to_5)) = false] (by kernel_rfl) rfl rfl (ap1 b_14) (by kernel_rfl) (by kernel_rfl) ?_
      have H_60 := Option.some.inj (show some false = some r from H_46); subst H_60
      refine VL_ret ?_
      exact P_to [(10, .c (.val (.bool false)))] [] [] hn (by kernel_rfl) (by kernel_rfl) rfl rfl rfl (QF_retS (by kernel_rfl) (by kernel_rfl) rfl)
  · intro b_12; have H_44 := of_f H_42 b_12
    refine V_run hN hn 4 1 [3, 4, 5, 11] [0, 1] ⟨[(3, .c (.val (.bool ahead_6))), (4, .c (.val (.bool copied_7))), (5, .c (.h 0)), (11, .c (.h 1))], [(0, .box [.val (.int .i64 x_1), .val (.int .i64 x_2), .val (.string x_3)]), (1, .box [.val (.int .i64 (0 : Int)), .val (.int .i64 (0 : Int)), .val (.string x_3)])], 2⟩ [] (by kernel_rfl) rfl rfl ap0 ?_
    rcases Bool.eq_false_or_eq_true (((x_1 == (0 : Int)) && ((x_2 == (0 : Int)) && (ByteArray.toList x_3 == ByteArray.toList x_3)))) with b_26 | b_26
    · have H_61 := of_t H_44 b_26
      rcases Bool.eq_false_or_eq_true ((!ahead_6)) with b_27 | b_27
      · have H_63 := of_t H_61 b_27
        rcases Bool.eq_false_or_eq_true ((decide ((((ByteArray.size x_3) : Nat) : Int) ≤ (20000 : Int)))) with b_28 | b_28
        · have H_65 := of_t H_63 b_28
          obtain ⟨r_29, h_30, H_67⟩ := of_bind H_65
          refine V_reg hN hn [(19, ⟨44, 0, [.c (.val (.string x_3))], [], .c (.val (.bool r_29)), [], [], 2⟩)] [(47, true), (50, true), (60, true)] (calls_cons (utf_Valid_spec K x_3 r_29 h_30) (by kernel_rfl) calls_nil) 2 [10] [] ⟨[(10, .c (.val (.bool r_29)))], [], 2⟩ [((x_1 == (0 : Int)) && ((x_2 == (0 : Int)) && (ByteArray.toList x_3 == ByteArray.toList x_3))) = true, (!ahead_6) = true, (decide ((((ByteArray.size x_3) : Nat) : Int) ≤ (20000 : Int))) = true] (by kernel_rfl) rfl rfl (ap2 b_26 (ap2 b_27 (ap1 b_28))) (by kernel_rfl) (by kernel_rfl) ?_
          have H_68 := Option.some.inj (show some r_29 = some r from H_67); subst H_68
          refine VL_ret ?_
          exact P_to [(10, .c (.val (.bool r_29)))] [] [] hn (by kernel_rfl) (by kernel_rfl) rfl rfl rfl (QF_retS (by kernel_rfl) (by kernel_rfl) rfl)
        · have H_66 := of_f H_63 b_28
          refine V_reg hN hn [] [(47, true), (50, true), (60, false)] calls_nil 2 [10] [] ⟨[(10, .c (.val (.bool false)))], [], 2⟩ [((x_1 == (0 : Int)) && ((x_2 == (0 : Int)) && (ByteArray.toList x_3 == ByteArray.toList x_3))) = true, (!ahead_6) = true, (decide ((((ByteArray.size x_3) : Nat) : Int) ≤ (20000 : Int))) = false] (by kernel_rfl) rfl rfl (ap2 b_26 (ap2 b_27 (ap1 b_28))) (by kernel_rfl) (by kernel_rfl) ?_
          have H_69 := Option.some.inj (show some false = some r from H_66); subst H_69
          refine VL_ret ?_
          exact P_to [(10, .c (.val (.bool false)))] [] [] hn (by kernel_rfl) (by kernel_rfl) rfl rfl rfl (QF_retS (by kernel_rfl) (by kernel_rfl) rfl)
      · have H_64 := of_f H_61 b_27
        rcases Bool.eq_false_or_eq_true (copied_7) with b_33 | b_33
        · have H_70 := of_t H_64 b_33
          rcases Bool.eq_false_or_eq_true ((decide ((((ByteArray.size x_3) : Nat) : Int) ≤ (20000 : Int)))) with b_34 | b_34
          · have H_72 := of_t H_70 b_34
            obtain ⟨r_35, h_36, H_74⟩ := of_bind H_72
            refine V_reg hN hn [(19, ⟨44, 0, [.c (.val (.string x_3))], [], .c (.val (.bool r_35)), [], [], 2⟩)] [(47, true), (50, false), (54, true), (60, true)] (calls_cons (utf_Valid_spec K x_3 r_35 h_36) (by kernel_rfl) calls_nil) 2 [10] [] ⟨[(10, .c (.val (.bool r_35)))], [], 2⟩ [((x_1 == (0 : Int)) && ((x_2 == (0 : Int)) && (ByteArray.toList x_3 == ByteArray.toList x_3))) = true, (!ahead_6) = false, copied_7 = true, (decide ((((ByteArray.size x_3) : Nat) : Int) ≤ (20000 : Int))) = true] (by kernel_rfl) rfl rfl (ap2 b_26 (ap2 b_27 (ap2 b_33 (ap1 b_34)))) (by kernel_rfl) (by kernel_rfl) ?_
            have H_75 := Option.some.inj (show some r_35 = some r from H_74); subst H_75
            refine VL_ret ?_
            exact P_to [(10, .c (.val (.bool r_35)))] [] [] hn (by kernel_rfl) (by kernel_rfl) rfl rfl rfl (QF_retS (by kernel_rfl) (by kernel_rfl) rfl)
          · have H_73 := of_f H_70 b_34
            refine V_reg hN hn [] [(47, true), (50, false), (54, true), (60, false)] calls_nil 2 [10] [] ⟨[(10, .c (.val (.bool false)))], [], 2⟩ [((x_1 == (0 : Int)) && ((x_2 == (0 : Int)) && (ByteArray.toList x_3 == ByteArray.toList x_3))) = true, (!ahead_6) = false, copied_7 = true, (decide ((((ByteArray.size x_3) : Nat) : Int) ≤ (20000 : Int))) = false] (by kernel_rfl) rfl rfl (ap2 b_26 (ap2 b_27 (ap2 b_33 (ap1 b_34)))) (by kernel_rfl) (by kernel_rfl) ?_
            have H_76 := Option.some.inj (show some false = some r from H_73); subst H_76
            refine VL_ret ?_
            exact P_to [(10, .c (.val (.bool false)))] [] [] hn (by kernel_rfl) (by kernel_rfl) rfl rfl rfl (QF_retS (by kernel_rfl) (by kernel_rfl) rfl)
        · have H_71 := of_f H_64 b_33
          refine V_reg hN hn [] [(47, true), (50, false), (54, false)] calls_nil 2 [10] [] ⟨[(10, .c (.val (.bool false)))], [], 2⟩ [((x_1 == (0 : Int)) && ((x_2 == (0 : Int)) && (ByteArray.toList x_3 == ByteArray.toList x_3))) = true, (!ahead_6) = false, copied_7 = false] (by kernel_rfl) rfl rfl (ap2 b_26 (ap2 b_27 (ap1 b_33))) (by kernel_rfl) (by kernel_rfl) ?_
          have H_77 := Option.some.inj (show some false = some r from H_71); subst H_77
          refine VL_ret ?_
          exact P_to [(10, .c (.val (.bool false)))] [] [] hn (by kernel_rfl) (by kernel_rfl) rfl rfl rfl (QF_retS (by kernel_rfl) (by kernel_rfl) rfl)
    · have H_62 := of_f H_44 b_26
      refine V_reg hN hn [] [(47, false)] calls_nil 2 [10] [] ⟨[(10, .c (.val (.bool false)))], [], 2⟩ [((x_1 == (0 : Int)) && ((x_2 == (0 : Int)) && (ByteArray.toList x_3 == ByteArray.toList x_3))) = false] (by kernel_rfl) rfl rfl (ap1 b_26) (by kernel_rfl) (by kernel_rfl) ?_
      have H_78 := Option.some.inj (show some false = some r from H_62); subst H_78
      refine VL_ret ?_
      exact P_to [(10, .c (.val (.bool false)))] [] [] hn (by kernel_rfl) (by kernel_rfl) rfl rfl rfl (QF_retS (by kernel_rfl) (by kernel_rfl) rfl)

theorem delta_Is_spec (K : Nat) (d_1 : Int) (d_2 : (List (Int × (Int × ByteArray)))) (r : Bool) (H : delta_Is K d_1 d_2 = some r) : Spec Try.prog 28 0 [.agg [.val (.int .i64 d_1), .imm (.slice (.pair (.int .i64) (.pair (.int .i64) .str))) d_2]] [] (.c (.val (.bool r))) [] := by
  refine Spec_mk (fn := Try.f28) (c := (Try.f28.body).get!) Try.func28 (by kernel_rfl) rfl ?_
  intro C hN hn
  replace hN : C.N = 68 := hN
  unfold delta_Is at H
  refine V_run hN hn 4 0 [1] [0] ⟨[(1, .c (.h 0))], [(0, .box [.val (.int .i64 d_1), .imm (.slice (.pair (.int .i64) (.pair (.int .i64) .str))) d_2])], 1⟩ [] (by kernel_rfl) rfl rfl ap0 ?_
  obtain ⟨q_53, H_54, H_55⟩ := of_bind H
  refine V_cut (Y := Bool) (R := Bool) q_53 (fun y => y) (fun y => [(1, .c (.h 0)), (21, .c (.val (.bool y)))]) (fun y => [(0, .box [.val (.int .i64 d_1), .imm (.slice (.pair (.int .i64) (.pair (.int .i64) .str))) d_2])]) ?_ ?_
  · skip
    rcases Bool.eq_false_or_eq_true ((decide (d_1 < (0 : Int)))) with b_4 | b_4
    · have H_57 := of_t H_54 b_4
      refine V_reg hN hn [] [(11, true)] calls_nil 1 [1, 21] [0] ⟨[(1, .c (.h 0)), (21, .c (.val (.bool true)))], [(0, .box [.val (.int .i64 d_1), .imm (.slice (.pair (.int .i64) (.pair (.int .i64) .str))) d_2])], 1⟩ [(decide (d_1 < (0 : Int))) = true] (by kernel_rfl) rfl rfl (ap1 b_4) (by kernel_rfl) (by kernel_rfl) ?_
      have H_59 := Option.some.inj (show some true = some q_53 from H_57); subst H_59
      refine VL_nil ?_
      exact QP_end true rfl [(0, 0)] hn (by kernel_rfl) (by kernel_rfl) rfl rfl rfl
    · have H_58 := of_f H_54 b_4
      rcases Bool.eq_false_or_eq_true ((decide (d_1 > (20000 : Int)))) with b_6 | b_6
      · have H_60 := of_t H_58 b_6
        refine V_reg hN hn [] [(11, false), (16, true)] calls_nil 1 [1, 21] [0] ⟨[(1, .c (.h 0)), (21, .c (.val (.bool true)))], [(0, .box [.val (.int .i64 d_1), .imm (.slice (.pair (.int .i64) (.pair (.int .i64) .str))) d_2])], 1⟩ [(decide (d_1 < (0 : Int))) = false, (decide (d_1 > (20000 : Int))) = true] (by kernel_rfl) rfl rfl (ap2 b_4 (ap1 b_6)) (by kernel_rfl) (by kernel_rfl) ?_
        have H_62 := Option.some.inj (show some true = some q_53 from H_60); subst H_62
        refine VL_nil ?_
        exact QP_end true rfl [(0, 0)] hn (by kernel_rfl) (by kernel_rfl) rfl rfl rfl
      · have H_61 := of_f H_58 b_6
        refine V_reg hN hn [] [(11, false), (16, false)] calls_nil 1 [1, 21] [0] ⟨[(1, .c (.h 0)), (21, .c (.val (.bool (decide ((((List.length d_2) : Nat) : Int) > (60 : Int))))))], [(0, .box [.val (.int .i64 d_1), .imm (.slice (.pair (.int .i64) (.pair (.int .i64) .str))) d_2])], 1⟩ [(decide (d_1 < (0 : Int))) = false, (decide (d_1 > (20000 : Int))) = false] (by kernel_rfl) rfl rfl (ap2 b_4 (ap1 b_6)) (by kernel_rfl) (by kernel_rfl) ?_
        have H_63 := Option.some.inj (show some (decide ((((List.length d_2) : Nat) : Int) > (60 : Int))) = some q_53 from H_61); subst H_63
        refine VL_nil ?_
        exact QP_end (decide ((((List.length d_2) : Nat) : Int) > (60 : Int))) rfl [(0, 0)] hn (by kernel_rfl) (by kernel_rfl) rfl rfl rfl
  · intro y_56 hy; subst hy
    skip
    skip
    refine VL_cond (y_56) (by kernel_rfl) ?_ ?_
    · intro b_10; have H_64 := of_t H_55 b_10
      refine V_run hN hn 2 1 [2] [] ⟨[(2, .c (.val (.bool false)))], [], 1⟩ [] (by kernel_rfl) rfl rfl ap0 ?_
      have H_66 := Option.some.inj (show some false = some r from H_64); subst H_66
      refine VL_ret ?_
      exact P_to [(2, .c (.val (.bool false)))] [] [] hn (by kernel_rfl) (by kernel_rfl) rfl rfl rfl (QF_retS (by kernel_rfl) (by kernel_rfl) rfl)
    · intro b_10; have H_65 := of_f H_55 b_10
      refine V_run hN hn 6 1 [1, 3, 4, 23, 24, 25] [0] ⟨[(1, .c (.h 0)), (3, .c (.val (.int .i64 (0 : Int)))), (4, .c (.val (.int .i64 (0 : Int)))), (23, .c (.imm (.slice (.pair (.int .i64) (.pair (.int .i64) .str))) d_2)), (24, .c (.val (.int .i64 (((List.length d_2) : Nat) : Int)))), (25, .c (.val (.int .i64 (0 : Int))))], [(0, .box [.val (.int .i64 d_1), .imm (.slice (.pair (.int .i64) (.pair (.int .i64) .str))) d_2])], 1⟩ [] (by kernel_rfl) rfl rfl ap0 ?_
      refine VL_block ?_
      refine V_to [(1, .c (.h 0)), (3, .c (.val (.int .i64 (0 : Int)))), (4, .c (.val (.int .i64 (0 : Int)))), (23, .c (.imm (.slice (.pair (.int .i64) (.pair (.int .i64) .str))) d_2)), (24, .c (.val (.int .i64 (((List.length d_2) : Nat) : Int)))), (25, .c (.val (.int .i64 (0 : Int))))] [(0, .box [.val (.int .i64 d_1), .imm (.slice (.pair (.int .i64) (.pair (.int .i64) .str))) d_2])] [(0, 0)] hn (by kernel_rfl) (by kernel_rfl) rfl rfl rfl ?_
      refine VL_loop (X := (Int × Int × Int)) (fun x => [(1, .c (.h 0)), (3, .c (.val (.int .i64 x.1))), (4, .c (.val (.int .i64 x.2.1))), (23, .c (.imm (.slice (.pair (.int .i64) (.pair (.int .i64) .str))) d_2)), (24, .c (.val (.int .i64 (((List.length d_2) : Nat) : Int)))), (25, .c (.val (.int .i64 x.2.2)))]) (fun x => [(0, .box [.val (.int .i64 d_1), .imm (.slice (.pair (.int .i64) (.pair (.int .i64) .str))) d_2])]) (fun k x => delta_Is.l0 K d_2 d_1 k x.1 x.2.1 x.2.2 = some r) K ((0 : Int), (0 : Int), (0 : Int)) H_65 (fun _ h => no_none h) ?_
      intro k_16 x_16 H_67
      obtain ⟨size_13, to_14, t_15⟩ := x_16
      have H_68 : delta_Is.l0 K d_2 d_1 (k_16 + 1) size_13 to_14 t_15 = some r := H_67
      rw [delta_Is.l0] at H_68
      refine V_run hN hn 3 1 [1, 3, 4, 23, 24, 25, 26] [0] ⟨[(1, .c (.h 0)), (3, .c (.val (.int .i64 size_13))), (4, .c (.val (.int .i64 to_14))), (23, .c (.imm (.slice (.pair (.int .i64) (.pair (.int .i64) .str))) d_2)), (24, .c (.val (.int .i64 (((List.length d_2) : Nat) : Int)))), (25, .c (.val (.int .i64 t_15))), (26, .c (.val (.bool (decide (t_15 < (((List.length d_2) : Nat) : Int))))))], [(0, .box [.val (.int .i64 d_1), .imm (.slice (.pair (.int .i64) (.pair (.int .i64) .str))) d_2])], 1⟩ [] (by kernel_rfl) rfl rfl ap0 ?_
      refine VL_cond ((decide (t_15 < (((List.length d_2) : Nat) : Int)))) (by kernel_rfl) ?_ ?_
      · intro b_18; have H_69 := of_t H_68 b_18
        refine V_run hN hn 2 1 [1, 3, 4, 23, 24, 25, 26] [0] ⟨[(1, .c (.h 0)), (3, .c (.val (.int .i64 size_13))), (4, .c (.val (.int .i64 to_14))), (23, .c (.imm (.slice (.pair (.int .i64) (.pair (.int .i64) .str))) d_2)), (24, .c (.val (.int .i64 (((List.length d_2) : Nat) : Int)))), (25, .c (.val (.int .i64 t_15))), (26, .c (.val (.bool (decide (t_15 < (((List.length d_2) : Nat) : Int))))))], [(0, .box [.val (.int .i64 d_1), .imm (.slice (.pair (.int .i64) (.pair (.int .i64) .str))) d_2])], 1⟩ [] (by kernel_rfl) rfl rfl ap0 ?_
        refine VL_block ?_
        obtain ⟨c_20, H_71⟩ := of_if H_69
        refine V_run hN hn 3 1 [1, 3, 4, 5, 6, 23, 24, 25] [0, 1] ⟨[(1, .c (.h 0)), (3, .c (.val (.int .i64 size_13))), (4, .c (.val (.int .i64 to_14))), (5, .c (.val (.int .i64 t_15))), (6, .c (.h 1)), (23, .c (.imm (.slice (.pair (.int .i64) (.pair (.int .i64) .str))) d_2)), (24, .c (.val (.int .i64 (((List.length d_2) : Nat) : Int)))), (25, .c (.val (.int .i64 t_15)))], [(0, .box [.val (.int .i64 d_1), .imm (.slice (.pair (.int .i64) (.pair (.int .i64) .str))) d_2]), (1, .box [.val (.int .i64 (List.getD d_2 (Int.toNat t_15) ((0 : Int), ((0 : Int), ByteArray.empty))).1), .val (.int .i64 (List.getD d_2 (Int.toNat t_15) ((0 : Int), ((0 : Int), ByteArray.empty))).2.1), .val (.string (List.getD d_2 (Int.toNat t_15) ((0 : Int), ((0 : Int), ByteArray.empty))).2.2)])], 2⟩ [0 ≤ t_15, t_15 < (((List.length d_2) : Nat) : Int)] (by kernel_rfl) rfl rfl (ap2 c_20.1 (ap1 c_20.2)) ?_
        obtain ⟨q_72, H_73, H_74⟩ := of_bind H_71
        refine V_cut (Y := Bool) (R := Bool) q_72 (fun y => y) (fun y => [(1, .c (.h 0)), (3, .c (.val (.int .i64 size_13))), (4, .c (.val (.int .i64 to_14))), (5, .c (.val (.int .i64 t_15))), (6, .c (.h 1)), (7, .c (.val (.bool y))), (23, .c (.imm (.slice (.pair (.int .i64) (.pair (.int .i64) .str))) d_2)), (24, .c (.val (.int .i64 (((List.length d_2) : Nat) : Int)))), (25, .c (.val (.int .i64 t_15)))]) (fun y => [(0, .box [.val (.int .i64 d_1), .imm (.slice (.pair (.int .i64) (.pair (.int .i64) .str))) d_2]), (1, .box [.val (.int .i64 (List.getD d_2 (Int.toNat t_15) ((0 : Int), ((0 : Int), ByteArray.empty))).1), .val (.int .i64 (List.getD d_2 (Int.toNat t_15) ((0 : Int), ((0 : Int), ByteArray.empty))).2.1), .val (.string (List.getD d_2 (Int.toNat t_15) ((0 : Int), ((0 : Int), ByteArray.empty))).2.2)])]) ?_ ?_
        · skip
          rcases Bool.eq_false_or_eq_true ((decide (t_15 > (0 : Int)))) with b_21 | b_21
          · have H_76 := of_t H_73 b_21
            obtain ⟨r_22, h_23, H_78⟩ := of_bind H_76
            obtain ⟨c_24, H_79⟩ := of_if H_78
            refine V_reg hN hn [(9, ⟨38, 0, [.agg [.val (.int .i64 (List.getD d_2 (Int.toNat (IntKind.wrap .i64 (t_15 - (1 : Int)))) ((0 : Int), ((0 : Int), ByteArray.empty))).1), .val (.int .i64 (List.getD d_2 (Int.toNat (IntKind.wrap .i64 (t_15 - (1 : Int)))) ((0 : Int), ((0 : Int), ByteArray.empty))).2.1), .val (.string (List.getD d_2 (Int.toNat (IntKind.wrap .i64 (t_15 - (1 : Int)))) ((0 : Int), ((0 : Int), ByteArray.empty))).2.2)]], [], .c (.val (.bool r_22)), [], [], 2⟩)] [(32, true)] (calls_cons (delta_IsCopy_spec K (List.getD d_2 (Int.toNat (IntKind.wrap .i64 (t_15 - (1 : Int)))) ((0 : Int), ((0 : Int), ByteArray.empty))).1 (List.getD d_2 (Int.toNat (IntKind.wrap .i64 (t_15 - (1 : Int)))) ((0 : Int), ((0 : Int), ByteArray.empty))).2.1 (List.getD d_2 (Int.toNat (IntKind.wrap .i64 (t_15 - (1 : Int)))) ((0 : Int), ((0 : Int), ByteArray.empty))).2.2 r_22 h_23) (by kernel_rfl) calls_nil) 2 [1, 3, 4, 5, 6, 7, 23, 24, 25] [0, 1] ⟨[(1, .c (.h 0)), (3, .c (.val (.int .i64 size_13))), (4, .c (.val (.int .i64 to_14))), (5, .c (.val (.int .i64 t_15))), (6, .c (.h 1)), (7, .c (.val (.bool r_22))), (23, .c (.imm (.slice (.pair (.int .i64) (.pair (.int .i64) .str))) d_2)), (24, .c (.val (.int .i64 (((List.length d_2) : Nat) : Int)))), (25, .c (.val (.int .i64 t_15)))], [(0, .box [.val (.int .i64 d_1), .imm (.slice (.pair (.int .i64) (.pair (.int .i64) .str))) d_2]), (1, .box [.val (.int .i64 (List.getD d_2 (Int.toNat t_15) ((0 : Int), ((0 : Int), ByteArray.empty))).1), .val (.int .i64 (List.getD d_2 (Int.toNat t_15) ((0 : Int), ((0 : Int), ByteArray.empty))).2.1), .val (.string (List.getD d_2 (Int.toNat t_15) ((0 : Int), ((0 : Int), ByteArray.empty))).2.2)])], 2⟩ [(decide (t_15 > (0 : Int))) = true, 0 ≤ (IntKind.wrap .i64 (t_15 - (1 : Int))), (IntKind.wrap .i64 (t_15 - (1 : Int))) < (((List.length d_2) : Nat) : Int)] (by kernel_rfl) rfl rfl (ap2 b_21 (ap2 c_24.1 (ap1 c_24.2))) (by kernel_rfl) (by kernel_rfl) ?_
            have H_80 := Option.some.inj (show some r_22 = some q_72 from H_79); subst H_80
            refine VL_nil ?_
            exact QP_end r_22 rfl [(0, 0), (1, 1)] hn (by kernel_rfl) (by kernel_rfl) rfl rfl rfl
          · have H_77 := of_f H_73 b_21
            refine V_reg hN hn [] [(32, false)] calls_nil 2 [1, 3, 4, 5, 6, 7, 23, 24, 25] [0, 1] ⟨[(1, .c (.h 0)), (3, .c (.val (.int .i64 size_13))), (4, .c (.val (.int .i64 to_14))), (5, .c (.val (.int .i64 t_15))), (6, .c (.h 1)), (7, .c (.val (.bool false))), (23, .c (.imm (.slice (.pair (.int .i64) (.pair (.int .i64) .str))) d_2)), (24, .c (.val (.int .i64 (((List.length d_2) : Nat) : Int)))), (25, .c (.val (.int .i64 t_15)))], [(0, .box [.val (.int .i64 d_1), .imm (.slice (.pair (.int .i64) (.pair (.int .i64) .str))) d_2]), (1, .box [.val (.int .i64 (List.getD d_2 (Int.toNat t_15) ((0 : Int), ((0 : Int), ByteArray.empty))).1), .val (.int .i64 (List.getD d_2 (Int.toNat t_15) ((0 : Int), ((0 : Int), ByteArray.empty))).2.1), .val (.string (List.getD d_2 (Int.toNat t_15) ((0 : Int), ((0 : Int), ByteArray.empty))).2.2)])], 2⟩ [(decide (t_15 > (0 : Int))) = false] (by kernel_rfl) rfl rfl (ap1 b_21) (by kernel_rfl) (by kernel_rfl) ?_
            have H_81 := Option.some.inj (show some false = some q_72 from H_77); subst H_81
            refine VL_nil ?_
            exact QP_end false rfl [(0, 0), (1, 1)] hn (by kernel_rfl) (by kernel_rfl) rfl rfl rfl
        · intro y_75 hy; subst hy
          skip
          skip
          refine V_run hN hn 2 2 [1, 3, 4, 5, 6, 7, 23, 24, 25] [0, 1] ⟨[(1, .c (.h 0)), (3, .c (.val (.int .i64 size_13))), (4, .c (.val (.int .i64 to_14))), (5, .c (.val (.int .i64 t_15))), (6, .c (.h 1)), (7, .c (.val (.bool y_75))), (23, .c (.imm (.slice (.pair (.int .i64) (.pair (.int .i64) .str))) d_2)), (24, .c (.val (.int .i64 (((List.length d_2) : Nat) : Int)))), (25, .c (.val (.int .i64 t_15)))], [(0, .box [.val (.int .i64 d_1), .imm (.slice (.pair (.int .i64) (.pair (.int .i64) .str))) d_2]), (1, .box [.val (.int .i64 (List.getD d_2 (Int.toNat t_15) ((0 : Int), ((0 : Int), ByteArray.empty))).1), .val (.int .i64 (List.getD d_2 (Int.toNat t_15) ((0 : Int), ((0 : Int), ByteArray.empty))).2.1), .val (.string (List.getD d_2 (Int.toNat t_15) ((0 : Int), ((0 : Int), ByteArray.empty))).2.2)])], 2⟩ [] (by kernel_rfl) rfl rfl ap0 ?_
          obtain ⟨r_28, h_29, H_82⟩ := of_bind H_74
          refine V_reg hN hn [(7, ⟨39, 0, [.agg [.val (.int .i64 (List.getD d_2 (Int.toNat t_15) ((0 : Int), ((0 : Int), ByteArray.empty))).1), .val (.int .i64 (List.getD d_2 (Int.toNat t_15) ((0 : Int), ((0 : Int), ByteArray.empty))).2.1), .val (.string (List.getD d_2 (Int.toNat t_15) ((0 : Int), ((0 : Int), ByteArray.empty))).2.2)], .c (.val (.int .i64 d_1)), .c (.val (.int .i64 to_14)), .c (.val (.bool (decide (t_15 > (0 : Int))))), .c (.val (.bool y_75))], [], .c (.val (.bool r_28)), [], [], 2⟩)] [] (calls_cons (delta_elem_spec K (List.getD d_2 (Int.toNat t_15) ((0 : Int), ((0 : Int), ByteArray.empty))).1 (List.getD d_2 (Int.toNat t_15) ((0 : Int), ((0 : Int), ByteArray.empty))).2.1 (List.getD d_2 (Int.toNat t_15) ((0 : Int), ((0 : Int), ByteArray.empty))).2.2 d_1 to_14 (decide (t_15 > (0 : Int))) y_75 r_28 h_29) (by kernel_rfl) calls_nil) 2 [1, 3, 4, 6, 23, 24, 25, 49] [0, 1] ⟨[(1, .c (.h 0)), (3, .c (.val (.int .i64 size_13))), (4, .c (.val (.int .i64 to_14))), (6, .c (.h 1)), (23, .c (.imm (.slice (.pair (.int .i64) (.pair (.int .i64) .str))) d_2)), (24, .c (.val (.int .i64 (((List.length d_2) : Nat) : Int)))), (25, .c (.val (.int .i64 t_15))), (49, .c (.val (.bool (!r_28))))], [(0, .box [.val (.int .i64 d_1), .imm (.slice (.pair (.int .i64) (.pair (.int .i64) .str))) d_2]), (1, .box [.val (.int .i64 (List.getD d_2 (Int.toNat t_15) ((0 : Int), ((0 : Int), ByteArray.empty))).1), .val (.int .i64 (List.getD d_2 (Int.toNat t_15) ((0 : Int), ((0 : Int), ByteArray.empty))).2.1), .val (.string (List.getD d_2 (Int.toNat t_15) ((0 : Int), ((0 : Int), ByteArray.empty))).2.2)])], 2⟩ [] (by kernel_rfl) rfl rfl ap0 (by kernel_rfl) (by kernel_rfl) ?_
          refine VL_cond ((!r_28)) (by kernel_rfl) ?_ ?_
          · intro b_31; have H_83 := of_t H_82 b_31
            refine V_run hN hn 2 2 [2] [] ⟨[(2, .c (.val (.bool false)))], [], 2⟩ [] (by kernel_rfl) rfl rfl ap0 ?_
            have H_85 := Option.some.inj (show some false = some r from H_83); subst H_85
            refine VL_ret ?_
            refine QB_ret ?_
            refine QL_ret ?_
            refine QB_ret ?_
            exact P_to [(2, .c (.val (.bool false)))] [] [] hn (by kernel_rfl) (by kernel_rfl) rfl rfl rfl (QF_retS (by kernel_rfl) (by kernel_rfl) rfl)
          · intro b_31; have H_84 := of_f H_82 b_31
            refine V_run hN hn 3 2 [1, 3, 4, 6, 23, 24, 25, 49] [0, 1] ⟨[(1, .c (.h 0)), (3, .c (.val (.int .i64 size_13))), (4, .c (.val (.int .i64 to_14))), (6, .c (.h 1)), (23, .c (.imm (.slice (.pair (.int .i64) (.pair (.int .i64) .str))) d_2)), (24, .c (.val (.int .i64 (((List.length d_2) : Nat) : Int)))), (25, .c (.val (.int .i64 t_15))), (49, .c (.val (.bool (!r_28))))], [(0, .box [.val (.int .i64 d_1), .imm (.slice (.pair (.int .i64) (.pair (.int .i64) .str))) d_2]), (1, .box [.val (.int .i64 (List.getD d_2 (Int.toNat t_15) ((0 : Int), ((0 : Int), ByteArray.empty))).1), .val (.int .i64 (List.getD d_2 (Int.toNat t_15) ((0 : Int), ((0 : Int), ByteArray.empty))).2.1), .val (.string (List.getD d_2 (Int.toNat t_15) ((0 : Int), ((0 : Int), ByteArray.empty))).2.2)])], 2⟩ [] (by kernel_rfl) rfl rfl ap0 ?_
            obtain ⟨r_34, h_35, H_86⟩ := of_bind H_84
            refine V_reg hN hn [(1, ⟨38, 0, [.agg [.val (.int .i64 (List.getD d_2 (Int.toNat t_15) ((0 : Int), ((0 : Int), ByteArray.empty))).1), .val (.int .i64 (List.getD d_2 (Int.toNat t_15) ((0 : Int), ((0 : Int), ByteArray.empty))).2.1), .val (.string (List.getD d_2 (Int.toNat t_15) ((0 : Int), ((0 : Int), ByteArray.empty))).2.2)]], [], .c (.val (.bool r_34)), [], [], 2⟩)] [] (calls_cons (delta_IsCopy_spec K (List.getD d_2 (Int.toNat t_15) ((0 : Int), ((0 : Int), ByteArray.empty))).1 (List.getD d_2 (Int.toNat t_15) ((0 : Int), ((0 : Int), ByteArray.empty))).2.1 (List.getD d_2 (Int.toNat t_15) ((0 : Int), ((0 : Int), ByteArray.empty))).2.2 r_34 h_35) (by kernel_rfl) calls_nil) 2 [1, 3, 4, 6, 23, 24, 25, 51] [0, 1] ⟨[(1, .c (.h 0)), (3, .c (.val (.int .i64 size_13))), (4, .c (.val (.int .i64 to_14))), (6, .c (.h 1)), (23, .c (.imm (.slice (.pair (.int .i64) (.pair (.int .i64) .str))) d_2)), (24, .c (.val (.int .i64 (((List.length d_2) : Nat) : Int)))), (25, .c (.val (.int .i64 t_15))), (51, .c (.val (.bool r_34)))], [(0, .box [.val (.int .i64 d_1), .imm (.slice (.pair (.int .i64) (.pair (.int .i64) .str))) d_2]), (1, .box [.val (.int .i64 (List.getD d_2 (Int.toNat t_15) ((0 : Int), ((0 : Int), ByteArray.empty))).1), .val (.int .i64 (List.getD d_2 (Int.toNat t_15) ((0 : Int), ((0 : Int), ByteArray.empty))).2.1), .val (.string (List.getD d_2 (Int.toNat t_15) ((0 : Int), ((0 : Int), ByteArray.empty))).2.2)])], 2⟩ [] (by kernel_rfl) rfl rfl ap0 (by kernel_rfl) (by kernel_rfl) ?_
            obtain ⟨q_87, H_88, H_89⟩ := of_bind H_86
            refine V_cut (Y := Int) (R := Int) q_87 (fun y => y) (fun y => [(1, .c (.h 0)), (3, .c (.val (.int .i64 size_13))), (4, .c (.val (.int .i64 y))), (6, .c (.h 1)), (23, .c (.imm (.slice (.pair (.int .i64) (.pair (.int .i64) .str))) d_2)), (24, .c (.val (.int .i64 (((List.length d_2) : Nat) : Int)))), (25, .c (.val (.int .i64 t_15)))]) (fun y => [(0, .box [.val (.int .i64 d_1), .imm (.slice (.pair (.int .i64) (.pair (.int .i64) .str))) d_2]), (1, .box [.val (.int .i64 (List.getD d_2 (Int.toNat t_15) ((0 : Int), ((0 : Int), ByteArray.empty))).1), .val (.int .i64 (List.getD d_2 (Int.toNat t_15) ((0 : Int), ((0 : Int), ByteArray.empty))).2.1), .val (.string (List.getD d_2 (Int.toNat t_15) ((0 : Int), ((0 : Int), ByteArray.empty))).2.2)])]) ?_ ?_
            · skip
              refine VL_cond (r_34) (by kernel_rfl) ?_ ?_
              · intro b_37; have H_91 := of_t H_88 b_37
                refine V_run hN hn 1 2 [1, 3, 4, 6, 23, 24, 25] [0, 1] ⟨[(1, .c (.h 0)), (3, .c (.val (.int .i64 size_13))), (4, .c (.val (.int .i64 (List.getD d_2 (Int.toNat t_15) ((0 : Int), ((0 : Int), ByteArray.empty))).2.1))), (6, .c (.h 1)), (23, .c (.imm (.slice (.pair (.int .i64) (.pair (.int .i64) .str))) d_2)), (24, .c (.val (.int .i64 (((List.length d_2) : Nat) : Int)))), (25, .c (.val (.int .i64 t_15)))], [(0, .box [.val (.int .i64 d_1), .imm (.slice (.pair (.int .i64) (.pair (.int .i64) .str))) d_2]), (1, .box [.val (.int .i64 (List.getD d_2 (Int.toNat t_15) ((0 : Int), ((0 : Int), ByteArray.empty))).1), .val (.int .i64 (List.getD d_2 (Int.toNat t_15) ((0 : Int), ((0 : Int), ByteArray.empty))).2.1), .val (.string (List.getD d_2 (Int.toNat t_15) ((0 : Int), ((0 : Int), ByteArray.empty))).2.2)])], 2⟩ [] (by kernel_rfl) rfl rfl ap0 ?_
                have H_93 := Option.some.inj (show some (List.getD d_2 (Int.toNat t_15) ((0 : Int), ((0 : Int), ByteArray.empty))).2.1 = some q_87 from H_91); subst H_93
                refine VL_nil ?_
                exact QP_end (List.getD d_2 (Int.toNat t_15) ((0 : Int), ((0 : Int), ByteArray.empty))).2.1 rfl [(0, 0), (1, 1)] hn (by kernel_rfl) (by kernel_rfl) rfl rfl rfl
              · intro b_37; have H_92 := of_f H_88 b_37
                refine V_run hN hn 1 2 [1, 3, 4, 6, 23, 24, 25, 51] [0, 1] ⟨[(1, .c (.h 0)), (3, .c (.val (.int .i64 size_13))), (4, .c (.val (.int .i64 to_14))), (6, .c (.h 1)), (23, .c (.imm (.slice (.pair (.int .i64) (.pair (.int .i64) .str))) d_2)), (24, .c (.val (.int .i64 (((List.length d_2) : Nat) : Int)))), (25, .c (.val (.int .i64 t_15))), (51, .c (.val (.bool r_34)))], [(0, .box [.val (.int .i64 d_1), .imm (.slice (.pair (.int .i64) (.pair (.int .i64) .str))) d_2]), (1, .box [.val (.int .i64 (List.getD d_2 (Int.toNat t_15) ((0 : Int), ((0 : Int), ByteArray.empty))).1), .val (.int .i64 (List.getD d_2 (Int.toNat t_15) ((0 : Int), ((0 : Int), ByteArray.empty))).2.1), .val (.string (List.getD d_2 (Int.toNat t_15) ((0 : Int), ((0 : Int), ByteArray.empty))).2.2)])], 2⟩ [] (by kernel_rfl) rfl rfl ap0 ?_
                have H_94 := Option.some.inj (show some to_14 = some q_87 from H_92); subst H_94
                refine VL_nil ?_
                exact QP_end to_14 rfl [(0, 0), (1, 1)] hn (by kernel_rfl) (by kernel_rfl) rfl rfl rfl
            · intro y_90 hy; subst hy
              skip
              skip
              refine V_run hN hn 4 2 [1, 3, 4, 23, 24, 25, 66] [0] ⟨[(1, .c (.h 0)), (3, .c (.val (.int .i64 (IntKind.wrap .i64 (size_13 + (IntKind.wrap .i64 ((IntKind.wrap .i64 ((List.getD d_2 (Int.toNat t_15) ((0 : Int), ((0 : Int), ByteArray.empty))).2.1 - (List.getD d_2 (Int.toNat t_15) ((0 : Int), ((0 : Int), ByteArray.empty))).1)) + (((ByteArray.size (List.getD d_2 (Int.toNat t_15) ((0 : Int), ((0 : Int), ByteArray.empty))).2.2) : Nat) : Int)))))))), (4, .c (.val (.int .i64 y_90))), (23, .c (.imm (.slice (.pair (.int .i64) (.pair (.int .i64) .str))) d_2)), (24, .c (.val (.int .i64 (((List.length d_2) : Nat) : Int)))), (25, .c (.val (.int .i64 t_15))), (66, .c (.val (.bool (decide ((IntKind.wrap .i64 (size_13 + (IntKind.wrap .i64 ((IntKind.wrap .i64 ((List.getD d_2 (Int.toNat t_15) ((0 : Int), ((0 : Int), ByteArray.empty))).2.1 - (List.getD d_2 (Int.toNat t_15) ((0 : Int), ((0 : Int), ByteArray.empty))).1)) + (((ByteArray.size (List.getD d_2 (Int.toNat t_15) ((0 : Int), ((0 : Int), ByteArray.empty))).2.2) : Nat) : Int))))) > (20000 : Int))))))], [(0, .box [.val (.int .i64 d_1), .imm (.slice (.pair (.int .i64) (.pair (.int .i64) .str))) d_2])], 2⟩ [] (by kernel_rfl) rfl rfl ap0 ?_
              refine VL_cond ((decide ((IntKind.wrap .i64 (size_13 + (IntKind.wrap .i64 ((IntKind.wrap .i64 ((List.getD d_2 (Int.toNat t_15) ((0 : Int), ((0 : Int), ByteArray.empty))).2.1 - (List.getD d_2 (Int.toNat t_15) ((0 : Int), ((0 : Int), ByteArray.empty))).1)) + (((ByteArray.size (List.getD d_2 (Int.toNat t_15) ((0 : Int), ((0 : Int), ByteArray.empty))).2.2) : Nat) : Int))))) > (20000 : Int)))) (by kernel_rfl) ?_ ?_
              · intro b_42; have H_95 := of_t H_89 b_42
                refine V_run hN hn 2 2 [2] [] ⟨[(2, .c (.val (.bool false)))], [], 2⟩ [] (by kernel_rfl) rfl rfl ap0 ?_
                have H_97 := Option.some.inj (show some false = some r from H_95); subst H_97
                refine VL_ret ?_
                refine QB_ret ?_
                refine QL_ret ?_
                refine QB_ret ?_
                exact P_to [(2, .c (.val (.bool false)))] [] [] hn (by kernel_rfl) (by kernel_rfl) rfl rfl rfl (QF_retS (by kernel_rfl) (by kernel_rfl) rfl)
              · intro b_42; have H_96 := of_f H_89 b_42
                refine V_run hN hn 1 2 [1, 3, 4, 23, 24, 25, 66] [0] ⟨[(1, .c (.h 0)), (3, .c (.val (.int .i64 (IntKind.wrap .i64 (size_13 + (IntKind.wrap .i64 ((IntKind.wrap .i64 ((List.getD d_2 (Int.toNat t_15) ((0 : Int), ((0 : Int), ByteArray.empty))).2.1 - (List.getD d_2 (Int.toNat t_15) ((0 : Int), ((0 : Int), ByteArray.empty))).1)) + (((ByteArray.size (List.getD d_2 (Int.toNat t_15) ((0 : Int), ((0 : Int), ByteArray.empty))).2.2) : Nat) : Int)))))))), (4, .c (.val (.int .i64 y_90))), (23, .c (.imm (.slice (.pair (.int .i64) (.pair (.int .i64) .str))) d_2)), (24, .c (.val (.int .i64 (((List.length d_2) : Nat) : Int)))), (25, .c (.val (.int .i64 t_15))), (66, .c (.val (.bool (decide ((IntKind.wrap .i64 (size_13 + (IntKind.wrap .i64 ((IntKind.wrap .i64 ((List.getD d_2 (Int.toNat t_15) ((0 : Int), ((0 : Int), ByteArray.empty))).2.1 - (List.getD d_2 (Int.toNat t_15) ((0 : Int), ((0 : Int), ByteArray.empty))).1)) + (((ByteArray.size (List.getD d_2 (Int.toNat t_15) ((0 : Int), ((0 : Int), ByteArray.empty))).2.2) : Nat) : Int))))) > (20000 : Int))))))], [(0, .box [.val (.int .i64 d_1), .imm (.slice (.pair (.int .i64) (.pair (.int .i64) .str))) d_2])], 2⟩ [] (by kernel_rfl) rfl rfl ap0 ?_
                refine VL_nil (QB_end ?_)
                refine V_run hN hn 1 2 [1, 3, 4, 23, 24, 25] [0] ⟨[(1, .c (.h 0)), (3, .c (.val (.int .i64 (IntKind.wrap .i64 (size_13 + (IntKind.wrap .i64 ((IntKind.wrap .i64 ((List.getD d_2 (Int.toNat t_15) ((0 : Int), ((0 : Int), ByteArray.empty))).2.1 - (List.getD d_2 (Int.toNat t_15) ((0 : Int), ((0 : Int), ByteArray.empty))).1)) + (((ByteArray.size (List.getD d_2 (Int.toNat t_15) ((0 : Int), ((0 : Int), ByteArray.empty))).2.2) : Nat) : Int)))))))), (4, .c (.val (.int .i64 y_90))), (23, .c (.imm (.slice (.pair (.int .i64) (.pair (.int .i64) .str))) d_2)), (24, .c (.val (.int .i64 (((List.length d_2) : Nat) : Int)))), (25, .c (.val (.int .i64 (IntKind.wrap .i64 (t_15 + (1 : Int))))))], [(0, .box [.val (.int .i64 d_1), .imm (.slice (.pair (.int .i64) (.pair (.int .i64) .str))) d_2])], 2⟩ [] (by kernel_rfl) rfl rfl ap0 ?_
                refine VL_nil ?_
                exact V_roundEnd ((IntKind.wrap .i64 (size_13 + (IntKind.wrap .i64 ((IntKind.wrap .i64 ((List.getD d_2 (Int.toNat t_15) ((0 : Int), ((0 : Int), ByteArray.empty))).2.1 - (List.getD d_2 (Int.toNat t_15) ((0 : Int), ((0 : Int), ByteArray.empty))).1)) + (((ByteArray.size (List.getD d_2 (Int.toNat t_15) ((0 : Int), ((0 : Int), ByteArray.empty))).2.2) : Nat) : Int))))), y_90, (IntKind.wrap .i64 (t_15 + (1 : Int)))) H_96 [(0, 0)] hn (by kernel_rfl) (by kernel_rfl) rfl rfl rfl
      · intro b_18; have H_70 := of_f H_68 b_18
        refine VL_exit ?_
        refine QL_exit ?_
        refine QB_here ?_
        refine V_run hN hn 2 1 [2] [] ⟨[(2, .c (.val (.bool true)))], [], 1⟩ [] (by kernel_rfl) rfl rfl ap0 ?_
        have H_98 := Option.some.inj (show some true = some r from H_70); subst H_98
        refine VL_ret ?_
        exact P_to [(2, .c (.val (.bool true)))] [] [] hn (by kernel_rfl) (by kernel_rfl) rfl rfl rfl (QF_retS (by kernel_rfl) (by kernel_rfl) rfl)

theorem offset_Move_spec (K : Nat) (d_1 : Int) (d_2 : (List (Int × (Int × ByteArray)))) (at_3 : Int) (after_4 : Bool) (r : Int) (H : offset_Move K d_1 d_2 at_3 after_4 = some r) : Spec Try.prog 40 0 [.agg [.val (.int .i64 d_1), .imm (.slice (.pair (.int .i64) (.pair (.int .i64) .str))) d_2], .c (.val (.int .i64 at_3)), .c (.val (.bool after_4))] [] (.c (.val (.int .i64 r))) [] := by
  refine Spec_mk (fn := Try.f40) (c := (Try.f40.body).get!) Try.func40 (by kernel_rfl) rfl ?_
  intro C hN hn
  replace hN : C.N = 61 := hN
  unfold offset_Move at H
  refine V_run hN hn 2 0 [1, 2, 3] [0] ⟨[(1, .c (.val (.int .i64 at_3))), (2, .c (.val (.bool after_4))), (3, .c (.h 0))], [(0, .box [.val (.int .i64 d_1), .imm (.slice (.pair (.int .i64) (.pair (.int .i64) .str))) d_2])], 1⟩ [] (by kernel_rfl) rfl rfl ap0 ?_
  refine VL_scope ?_
  refine V_run hN hn 2 1 [1, 2, 3] [0] ⟨[(1, .c (.val (.int .i64 at_3))), (2, .c (.val (.bool after_4))), (3, .c (.h 0))], [(0, .box [.val (.int .i64 d_1), .imm (.slice (.pair (.int .i64) (.pair (.int .i64) .str))) d_2])], 1⟩ [] (by kernel_rfl) rfl rfl ap0 ?_
  obtain ⟨r_7, h_8, H_43⟩ := of_bind H
  refine V_reg hN hn [(1, ⟨28, 0, [.agg [.val (.int .i64 d_1), .imm (.slice (.pair (.int .i64) (.pair (.int .i64) .str))) d_2]], [], .c (.val (.bool r_7)), [], [], 1⟩)] [] (calls_cons (delta_Is_spec K d_1 d_2 r_7 h_8) (by kernel_rfl) calls_nil) 1 [1, 2, 3, 13] [0] ⟨[(1, .c (.val (.int .i64 at_3))), (2, .c (.val (.bool after_4))), (3, .c (.h 0)), (13, .c (.val (.bool (!r_7))))], [(0, .box [.val (.int .i64 d_1), .imm (.slice (.pair (.int .i64) (.pair (.int .i64) .str))) d_2])], 1⟩ [] (by kernel_rfl) rfl rfl ap0 (by kernel_rfl) (by kernel_rfl) ?_
  refine VL_cond ((!r_7)) (by kernel_rfl) ?_ ?_
  · intro b_10; have H_44 := of_t H_43 b_10
    refine V_run hN hn 2 1 [6] [] ⟨[(6, .c (.val (.int .i64 (0 : Int))))], [], 1⟩ [] (by kernel_rfl) rfl rfl ap0 ?_
    have H_46 := Option.some.inj (show some (0 : Int) = some r from H_44); subst H_46
    refine VL_ret ?_
    refine QG_ret ?_
    exact P_to [(6, .c (.val (.int .i64 (0 : Int))))] [] [] hn (by kernel_rfl) (by kernel_rfl) rfl rfl rfl (QF_retS (by kernel_rfl) (by kernel_rfl) rfl)
  · intro b_10; have H_45 := of_f H_43 b_10
    refine V_run hN hn 6 1 [1, 2, 3, 7, 8] [0] ⟨[(1, .c (.val (.int .i64 (mn2 (mx2 at_3 (0 : Int)) d_1)))), (2, .c (.val (.bool after_4))), (3, .c (.h 0)), (7, .c (.val (.int .i64 (0 : Int)))), (8, .c (.val (.int .i64 (0 : Int))))], [(0, .box [.val (.int .i64 d_1), .imm (.slice (.pair (.int .i64) (.pair (.int .i64) .str))) d_2])], 1⟩ [] (by kernel_rfl) rfl rfl ap0 ?_
    refine VL_label ?_
    refine V_run hN hn 3 1 [1, 2, 7, 8, 20, 21, 22] [] ⟨[(1, .c (.val (.int .i64 (mn2 (mx2 at_3 (0 : Int)) d_1)))), (2, .c (.val (.bool after_4))), (7, .c (.val (.int .i64 (0 : Int)))), (8, .c (.val (.int .i64 (0 : Int)))), (20, .c (.imm (.slice (.pair (.int .i64) (.pair (.int .i64) .str))) d_2)), (21, .c (.val (.int .i64 (((List.length d_2) : Nat) : Int)))), (22, .c (.val (.int .i64 (0 : Int))))], [], 1⟩ [] (by kernel_rfl) rfl rfl ap0 ?_
    obtain ⟨q_47, H_48, H_49⟩ := of_bind H_45
    refine V_cut (Y := (Int × Int)) (R := (Int × Int)) q_47 (fun y => y) (fun y => [(2, .c (.val (.bool after_4))), (7, .c (.val (.int .i64 y.1))), (8, .c (.val (.int .i64 y.2)))]) (fun y => []) ?_ ?_
    · skip
      refine VL_block ?_
      refine V_to [(1, .c (.val (.int .i64 (mn2 (mx2 at_3 (0 : Int)) d_1)))), (2, .c (.val (.bool after_4))), (7, .c (.val (.int .i64 (0 : Int)))), (8, .c (.val (.int .i64 (0 : Int)))), (20, .c (.imm (.slice (.pair (.int .i64) (.pair (.int .i64) .str))) d_2)), (21, .c (.val (.int .i64 (((List.length d_2) : Nat) : Int)))), (22, .c (.val (.int .i64 (0 : Int))))] [] [] hn (by kernel_rfl) (by kernel_rfl) rfl rfl rfl ?_
      refine VL_loop (X := (Int × Int × Int)) (fun x => [(1, .c (.val (.int .i64 (mn2 (mx2 at_3 (0 : Int)) d_1)))), (2, .c (.val (.bool after_4))), (7, .c (.val (.int .i64 x.1))), (8, .c (.val (.int .i64 x.2.1))), (20, .c (.imm (.slice (.pair (.int .i64) (.pair (.int .i64) .str))) d_2)), (21, .c (.val (.int .i64 (((List.length d_2) : Nat) : Int)))), (22, .c (.val (.int .i64 x.2.2)))]) (fun x => []) (fun k x => offset_Move.l0 K d_2 at_3 d_1 k x.1 x.2.1 x.2.2 = some q_47) K ((0 : Int), (0 : Int), (0 : Int)) H_48 (fun _ h => no_none h) ?_
      intro k_17 x_17 H_51
      obtain ⟨n_14, waits_15, t_16⟩ := x_17
      have H_52 : offset_Move.l0 K d_2 at_3 d_1 (k_17 + 1) n_14 waits_15 t_16 = some q_47 := H_51
      rw [offset_Move.l0] at H_52
      refine V_run hN hn 3 1 [1, 2, 7, 8, 20, 21, 22, 23] [] ⟨[(1, .c (.val (.int .i64 (mn2 (mx2 at_3 (0 : Int)) d_1)))), (2, .c (.val (.bool after_4))), (7, .c (.val (.int .i64 n_14))), (8, .c (.val (.int .i64 waits_15))), (20, .c (.imm (.slice (.pair (.int .i64) (.pair (.int .i64) .str))) d_2)), (21, .c (.val (.int .i64 (((List.length d_2) : Nat) : Int)))), (22, .c (.val (.int .i64 t_16))), (23, .c (.val (.bool (decide (t_16 < (((List.length d_2) : Nat) : Int))))))], [], 1⟩ [] (by kernel_rfl) rfl rfl ap0 ?_
      refine VL_cond ((decide (t_16 < (((List.length d_2) : Nat) : Int)))) (by kernel_rfl) ?_ ?_
      · intro b_19; have H_53 := of_t H_52 b_19
        refine V_run hN hn 2 1 [1, 2, 7, 8, 20, 21, 22, 23] [] ⟨[(1, .c (.val (.int .i64 (mn2 (mx2 at_3 (0 : Int)) d_1)))), (2, .c (.val (.bool after_4))), (7, .c (.val (.int .i64 n_14))), (8, .c (.val (.int .i64 waits_15))), (20, .c (.imm (.slice (.pair (.int .i64) (.pair (.int .i64) .str))) d_2)), (21, .c (.val (.int .i64 (((List.length d_2) : Nat) : Int)))), (22, .c (.val (.int .i64 t_16))), (23, .c (.val (.bool (decide (t_16 < (((List.length d_2) : Nat) : Int))))))], [], 1⟩ [] (by kernel_rfl) rfl rfl ap0 ?_
        refine VL_block ?_
        obtain ⟨c_21, H_55⟩ := of_if H_53
        refine V_run hN hn 2 1 [1, 2, 7, 8, 10, 20, 21, 22] [1] ⟨[(1, .c (.val (.int .i64 (mn2 (mx2 at_3 (0 : Int)) d_1)))), (2, .c (.val (.bool after_4))), (7, .c (.val (.int .i64 n_14))), (8, .c (.val (.int .i64 waits_15))), (10, .c (.h 1)), (20, .c (.imm (.slice (.pair (.int .i64) (.pair (.int .i64) .str))) d_2)), (21, .c (.val (.int .i64 (((List.length d_2) : Nat) : Int)))), (22, .c (.val (.int .i64 t_16)))], [(1, .box [.val (.int .i64 (List.getD d_2 (Int.toNat t_16) ((0 : Int), ((0 : Int), ByteArray.empty))).1), .val (.int .i64 (List.getD d_2 (Int.toNat t_16) ((0 : Int), ((0 : Int), ByteArray.empty))).2.1), .val (.string (List.getD d_2 (Int.toNat t_16) ((0 : Int), ((0 : Int), ByteArray.empty))).2.2)])], 2⟩ [0 ≤ t_16, t_16 < (((List.length d_2) : Nat) : Int)] (by kernel_rfl) rfl rfl (ap2 c_21.1 (ap1 c_21.2)) ?_
        refine VL_block ?_
        refine V_run hN hn 1 2 [1, 2, 7, 8, 10, 20, 21, 22] [1] ⟨[(1, .c (.val (.int .i64 (mn2 (mx2 at_3 (0 : Int)) d_1)))), (2, .c (.val (.bool after_4))), (7, .c (.val (.int .i64 n_14))), (8, .c (.val (.int .i64 waits_15))), (10, .c (.h 1)), (20, .c (.imm (.slice (.pair (.int .i64) (.pair (.int .i64) .str))) d_2)), (21, .c (.val (.int .i64 (((List.length d_2) : Nat) : Int)))), (22, .c (.val (.int .i64 t_16)))], [(1, .box [.val (.int .i64 (List.getD d_2 (Int.toNat t_16) ((0 : Int), ((0 : Int), ByteArray.empty))).1), .val (.int .i64 (List.getD d_2 (Int.toNat t_16) ((0 : Int), ((0 : Int), ByteArray.empty))).2.1), .val (.string (List.getD d_2 (Int.toNat t_16) ((0 : Int), ((0 : Int), ByteArray.empty))).2.2)])], 2⟩ [] (by kernel_rfl) rfl rfl ap0 ?_
        obtain ⟨r_23, h_24, H_56⟩ := of_bind H_55
        refine V_reg hN hn [(1, ⟨38, 0, [.agg [.val (.int .i64 (List.getD d_2 (Int.toNat t_16) ((0 : Int), ((0 : Int), ByteArray.empty))).1), .val (.int .i64 (List.getD d_2 (Int.toNat t_16) ((0 : Int), ((0 : Int), ByteArray.empty))).2.1), .val (.string (List.getD d_2 (Int.toNat t_16) ((0 : Int), ((0 : Int), ByteArray.empty))).2.2)]], [], .c (.val (.bool r_23)), [], [], 2⟩)] [] (calls_cons (delta_IsCopy_spec K (List.getD d_2 (Int.toNat t_16) ((0 : Int), ((0 : Int), ByteArray.empty))).1 (List.getD d_2 (Int.toNat t_16) ((0 : Int), ((0 : Int), ByteArray.empty))).2.1 (List.getD d_2 (Int.toNat t_16) ((0 : Int), ((0 : Int), ByteArray.empty))).2.2 r_23 h_24) (by kernel_rfl) calls_nil) 2 [1, 2, 7, 8, 10, 20, 21, 22, 41] [1] ⟨[(1, .c (.val (.int .i64 (mn2 (mx2 at_3 (0 : Int)) d_1)))), (2, .c (.val (.bool after_4))), (7, .c (.val (.int .i64 n_14))), (8, .c (.val (.int .i64 waits_15))), (10, .c (.h 1)), (20, .c (.imm (.slice (.pair (.int .i64) (.pair (.int .i64) .str))) d_2)), (21, .c (.val (.int .i64 (((List.length d_2) : Nat) : Int)))), (22, .c (.val (.int .i64 t_16))), (41, .c (.val (.bool (!r_23))))], [(1, .box [.val (.int .i64 (List.getD d_2 (Int.toNat t_16) ((0 : Int), ((0 : Int), ByteArray.empty))).1), .val (.int .i64 (List.getD d_2 (Int.toNat t_16) ((0 : Int), ((0 : Int), ByteArray.empty))).2.1), .val (.string (List.getD d_2 (Int.toNat t_16) ((0 : Int), ((0 : Int), ByteArray.empty))).2.2)])], 2⟩ [] (by kernel_rfl) rfl rfl ap0 (by kernel_rfl) (by kernel_rfl) ?_
        refine VL_cond ((!r_23)) (by kernel_rfl) ?_ ?_
        · intro b_26; have H_57 := of_t H_56 b_26
          refine V_run hN hn 1 2 [1, 2, 7, 8, 20, 21, 22] [] ⟨[(1, .c (.val (.int .i64 (mn2 (mx2 at_3 (0 : Int)) d_1)))), (2, .c (.val (.bool after_4))), (7, .c (.val (.int .i64 n_14))), (8, .c (.val (.int .i64 (IntKind.wrap .i64 (waits_15 + (((ByteArray.size (List.getD d_2 (Int.toNat t_16) ((0 : Int), ((0 : Int), ByteArray.empty))).2.2) : Nat) : Int)))))), (20, .c (.imm (.slice (.pair (.int .i64) (.pair (.int .i64) .str))) d_2)), (21, .c (.val (.int .i64 (((List.length d_2) : Nat) : Int)))), (22, .c (.val (.int .i64 t_16)))], [], 2⟩ [] (by kernel_rfl) rfl rfl ap0 ?_
          refine VL_nil (QB_end ?_)
          refine VL_nil (QB_end ?_)
          refine V_run hN hn 1 2 [1, 2, 7, 8, 20, 21, 22] [] ⟨[(1, .c (.val (.int .i64 (mn2 (mx2 at_3 (0 : Int)) d_1)))), (2, .c (.val (.bool after_4))), (7, .c (.val (.int .i64 n_14))), (8, .c (.val (.int .i64 (IntKind.wrap .i64 (waits_15 + (((ByteArray.size (List.getD d_2 (Int.toNat t_16) ((0 : Int), ((0 : Int), ByteArray.empty))).2.2) : Nat) : Int)))))), (20, .c (.imm (.slice (.pair (.int .i64) (.pair (.int .i64) .str))) d_2)), (21, .c (.val (.int .i64 (((List.length d_2) : Nat) : Int)))), (22, .c (.val (.int .i64 (IntKind.wrap .i64 (t_16 + (1 : Int))))))], [], 2⟩ [] (by kernel_rfl) rfl rfl ap0 ?_
          refine VL_nil ?_
          exact V_roundEnd (n_14, (IntKind.wrap .i64 (waits_15 + (((ByteArray.size (List.getD d_2 (Int.toNat t_16) ((0 : Int), ((0 : Int), ByteArray.empty))).2.2) : Nat) : Int))), (IntKind.wrap .i64 (t_16 + (1 : Int)))) H_57 [] hn (by kernel_rfl) (by kernel_rfl) rfl rfl rfl
        · intro b_26; have H_58 := of_f H_56 b_26
          refine V_run hN hn 2 2 [1, 2, 7, 8, 10, 20, 21, 22, 50] [1] ⟨[(1, .c (.val (.int .i64 (mn2 (mx2 at_3 (0 : Int)) d_1)))), (2, .c (.val (.bool after_4))), (7, .c (.val (.int .i64 n_14))), (8, .c (.val (.int .i64 waits_15))), (10, .c (.h 1)), (20, .c (.imm (.slice (.pair (.int .i64) (.pair (.int .i64) .str))) d_2)), (21, .c (.val (.int .i64 (((List.length d_2) : Nat) : Int)))), (22, .c (.val (.int .i64 t_16))), (50, .c (.val (.bool (decide ((List.getD d_2 (Int.toNat t_16) ((0 : Int), ((0 : Int), ByteArray.empty))).1 ≥ (mn2 (mx2 at_3 (0 : Int)) d_1))))))], [(1, .box [.val (.int .i64 (List.getD d_2 (Int.toNat t_16) ((0 : Int), ((0 : Int), ByteArray.empty))).1), .val (.int .i64 (List.getD d_2 (Int.toNat t_16) ((0 : Int), ((0 : Int), ByteArray.empty))).2.1), .val (.string (List.getD d_2 (Int.toNat t_16) ((0 : Int), ((0 : Int), ByteArray.empty))).2.2)])], 2⟩ [] (by kernel_rfl) rfl rfl ap0 ?_
          refine VL_cond ((decide ((List.getD d_2 (Int.toNat t_16) ((0 : Int), ((0 : Int), ByteArray.empty))).1 ≥ (mn2 (mx2 at_3 (0 : Int)) d_1)))) (by kernel_rfl) ?_ ?_
          · intro b_30; have H_59 := of_t H_58 b_30
            refine VL_exit ?_
            refine QB_out (by decide) ?_
            refine QB_out (by decide) ?_
            refine QL_exit ?_
            refine QB_here ?_
            have H_61 := Option.some.inj (show some (n_14, waits_15) = some q_47 from H_59); subst H_61
            refine VL_nil ?_
            exact QP_end (n_14, waits_15) rfl [] hn (by kernel_rfl) (by kernel_rfl) rfl rfl rfl
          · intro b_30; have H_60 := of_f H_58 b_30
            refine V_run hN hn 6 2 [1, 2, 7, 8, 20, 21, 22, 40] [] ⟨[(1, .c (.val (.int .i64 (mn2 (mx2 at_3 (0 : Int)) d_1)))), (2, .c (.val (.bool after_4))), (7, .c (.val (.int .i64 (IntKind.wrap .i64 (n_14 + (IntKind.wrap .i64 ((IntKind.wrap .i64 (waits_15 + (mn2 (List.getD d_2 (Int.toNat t_16) ((0 : Int), ((0 : Int), ByteArray.empty))).2.1 (mn2 (mx2 at_3 (0 : Int)) d_1)))) - (List.getD d_2 (Int.toNat t_16) ((0 : Int), ((0 : Int), ByteArray.empty))).1))))))), (8, .c (.val (.int .i64 (0 : Int)))), (20, .c (.imm (.slice (.pair (.int .i64) (.pair (.int .i64) .str))) d_2)), (21, .c (.val (.int .i64 (((List.length d_2) : Nat) : Int)))), (22, .c (.val (.int .i64 t_16))), (40, .c (.val (.bool (decide ((List.getD d_2 (Int.toNat t_16) ((0 : Int), ((0 : Int), ByteArray.empty))).2.1 > (mn2 (mx2 at_3 (0 : Int)) d_1))))))], [], 2⟩ [] (by kernel_rfl) rfl rfl ap0 ?_
            refine VL_cond ((decide ((List.getD d_2 (Int.toNat t_16) ((0 : Int), ((0 : Int), ByteArray.empty))).2.1 > (mn2 (mx2 at_3 (0 : Int)) d_1)))) (by kernel_rfl) ?_ ?_
            · intro b_32; have H_62 := of_t H_60 b_32
              refine VL_exit ?_
              refine QB_out (by decide) ?_
              refine QB_out (by decide) ?_
              refine QL_exit ?_
              refine QB_here ?_
              have H_64 := Option.some.inj (show some ((IntKind.wrap .i64 (n_14 + (IntKind.wrap .i64 ((IntKind.wrap .i64 (waits_15 + (mn2 (List.getD d_2 (Int.toNat t_16) ((0 : Int), ((0 : Int), ByteArray.empty))).2.1 (mn2 (mx2 at_3 (0 : Int)) d_1)))) - (List.getD d_2 (Int.toNat t_16) ((0 : Int), ((0 : Int), ByteArray.empty))).1)))), (0 : Int)) = some q_47 from H_62); subst H_64
              refine VL_nil ?_
              exact QP_end ((IntKind.wrap .i64 (n_14 + (IntKind.wrap .i64 ((IntKind.wrap .i64 (waits_15 + (mn2 (List.getD d_2 (Int.toNat t_16) ((0 : Int), ((0 : Int), ByteArray.empty))).2.1 (mn2 (mx2 at_3 (0 : Int)) d_1)))) - (List.getD d_2 (Int.toNat t_16) ((0 : Int), ((0 : Int), ByteArray.empty))).1)))), (0 : Int)) rfl [] hn (by kernel_rfl) (by kernel_rfl) rfl rfl rfl
            · intro b_32; have H_63 := of_f H_60 b_32
              refine V_run hN hn 1 2 [1, 2, 7, 8, 20, 21, 22, 40] [] ⟨[(1, .c (.val (.int .i64 (mn2 (mx2 at_3 (0 : Int)) d_1)))), (2, .c (.val (.bool after_4))), (7, .c (.val (.int .i64 (IntKind.wrap .i64 (n_14 + (IntKind.wrap .i64 ((IntKind.wrap .i64 (waits_15 + (mn2 (List.getD d_2 (Int.toNat t_16) ((0 : Int), ((0 : Int), ByteArray.empty))).2.1 (mn2 (mx2 at_3 (0 : Int)) d_1)))) - (List.getD d_2 (Int.toNat t_16) ((0 : Int), ((0 : Int), ByteArray.empty))).1))))))), (8, .c (.val (.int .i64 (0 : Int)))), (20, .c (.imm (.slice (.pair (.int .i64) (.pair (.int .i64) .str))) d_2)), (21, .c (.val (.int .i64 (((List.length d_2) : Nat) : Int)))), (22, .c (.val (.int .i64 t_16))), (40, .c (.val (.bool (decide ((List.getD d_2 (Int.toNat t_16) ((0 : Int), ((0 : Int), ByteArray.empty))).2.1 > (mn2 (mx2 at_3 (0 : Int)) d_1))))))], [], 2⟩ [] (by kernel_rfl) rfl rfl ap0 ?_
              refine VL_nil (QB_end ?_)
              refine VL_nil (QB_end ?_)
              refine V_run hN hn 1 2 [1, 2, 7, 8, 20, 21, 22] [] ⟨[(1, .c (.val (.int .i64 (mn2 (mx2 at_3 (0 : Int)) d_1)))), (2, .c (.val (.bool after_4))), (7, .c (.val (.int .i64 (IntKind.wrap .i64 (n_14 + (IntKind.wrap .i64 ((IntKind.wrap .i64 (waits_15 + (mn2 (List.getD d_2 (Int.toNat t_16) ((0 : Int), ((0 : Int), ByteArray.empty))).2.1 (mn2 (mx2 at_3 (0 : Int)) d_1)))) - (List.getD d_2 (Int.toNat t_16) ((0 : Int), ((0 : Int), ByteArray.empty))).1))))))), (8, .c (.val (.int .i64 (0 : Int)))), (20, .c (.imm (.slice (.pair (.int .i64) (.pair (.int .i64) .str))) d_2)), (21, .c (.val (.int .i64 (((List.length d_2) : Nat) : Int)))), (22, .c (.val (.int .i64 (IntKind.wrap .i64 (t_16 + (1 : Int))))))], [], 2⟩ [] (by kernel_rfl) rfl rfl ap0 ?_
              refine VL_nil ?_
              exact V_roundEnd ((IntKind.wrap .i64 (n_14 + (IntKind.wrap .i64 ((IntKind.wrap .i64 (waits_15 + (mn2 (List.getD d_2 (Int.toNat t_16) ((0 : Int), ((0 : Int), ByteArray.empty))).2.1 (mn2 (mx2 at_3 (0 : Int)) d_1)))) - (List.getD d_2 (Int.toNat t_16) ((0 : Int), ((0 : Int), ByteArray.empty))).1)))), (0 : Int), (IntKind.wrap .i64 (t_16 + (1 : Int)))) H_63 [] hn (by kernel_rfl) (by kernel_rfl) rfl rfl rfl
      · intro b_19; have H_54 := of_f H_52 b_19
        refine VL_exit ?_
        refine QL_exit ?_
        refine QB_here ?_
        have H_65 := Option.some.inj (show some (n_14, waits_15) = some q_47 from H_54); subst H_65
        refine VL_nil ?_
        exact QP_end (n_14, waits_15) rfl [] hn (by kernel_rfl) (by kernel_rfl) rfl rfl rfl
    · intro y_50 hy; subst hy
      obtain ⟨n_35, waits_36⟩ := y_50
      refine V_run hN hn 3 2 [7, 8, 56] [] ⟨[(7, .c (.val (.int .i64 n_35))), (8, .c (.val (.int .i64 waits_36))), (56, .c (.val (.bool after_4)))], [], 2⟩ [] (by kernel_rfl) rfl rfl ap0 ?_
      refine VL_cond (after_4) (by kernel_rfl) ?_ ?_
      · intro b_38; have H_66 := of_t H_49 b_38
        refine V_run hN hn 3 2 [6] [] ⟨[(6, .c (.val (.int .i64 (IntKind.wrap .i64 (n_35 + waits_36)))))], [], 2⟩ [] (by kernel_rfl) rfl rfl ap0 ?_
        have H_68 := Option.some.inj (show some (IntKind.wrap .i64 (n_35 + waits_36)) = some r from H_66); subst H_68
        refine VL_ret ?_
        refine QG_ret ?_
        exact P_to [(6, .c (.val (.int .i64 (IntKind.wrap .i64 (n_35 + waits_36)))))] [] [] hn (by kernel_rfl) (by kernel_rfl) rfl rfl rfl (QF_retS (by kernel_rfl) (by kernel_rfl) rfl)
      · intro b_38; have H_67 := of_f H_49 b_38
        refine V_run hN hn 3 2 [6] [] ⟨[(6, .c (.val (.int .i64 n_35)))], [], 2⟩ [] (by kernel_rfl) rfl rfl ap0 ?_
        have H_69 := Option.some.inj (show some n_35 = some r from H_67); subst H_69
        refine VL_ret ?_
        refine QG_ret ?_
        exact P_to [(6, .c (.val (.int .i64 n_35)))] [] [] hn (by kernel_rfl) (by kernel_rfl) rfl rfl rfl (QF_retS (by kernel_rfl) (by kernel_rfl) rfl)

theorem offset_Interval_spec (K : Nat) (d_1 : Int) (d_2 : (List (Int × (Int × ByteArray)))) (i_3 : Int) (i_4 : Int) (r : (Int × Int)) (H : offset_Interval K d_1 d_2 i_3 i_4 = some r) : Spec Try.prog 29 0 [.agg [.val (.int .i64 d_1), .imm (.slice (.pair (.int .i64) (.pair (.int .i64) .str))) d_2], .agg [.val (.int .i64 i_3), .val (.int .i64 i_4)]] [] (.agg [.val (.int .i64 r.1), .val (.int .i64 r.2)]) [] := by
  refine Spec_mk (fn := Try.f29) (c := (Try.f29.body).get!) Try.func29 (by kernel_rfl) rfl ?_
  intro C hN hn
  replace hN : C.N = 20 := hN
  unfold offset_Interval at H
  refine V_run hN hn 3 0 [2, 3, 4] [0, 1, 2] ⟨[(2, .c (.h 0)), (3, .c (.h 1)), (4, .c (.h 2))], [(0, .box [.val (.int .i64 d_1), .imm (.slice (.pair (.int .i64) (.pair (.int .i64) .str))) d_2]), (1, .box [.val (.int .i64 i_3), .val (.int .i64 i_4)]), (2, .box [.val (.int .i64 (0 : Int)), .val (.int .i64 (0 : Int))])], 3⟩ [] (by kernel_rfl) rfl rfl ap0 ?_
  obtain ⟨r_6, h_7, H_14⟩ := of_bind H
  obtain ⟨r_8, h_9, H_15⟩ := of_bind H_14
  refine V_draw hN hn (by kernel_rfl) [(3, ⟨40, 0, [.agg [.val (.int .i64 d_1), .imm (.slice (.pair (.int .i64) (.pair (.int .i64) .str))) d_2], .c (.val (.int .i64 i_3)), .c (.val (.bool true))], [], .c (.val (.int .i64 r_6)), [], [], 3⟩), (7, ⟨40, 0, [.agg [.val (.int .i64 d_1), .imm (.slice (.pair (.int .i64) (.pair (.int .i64) .str))) d_2], .c (.val (.int .i64 i_4)), .c (.val (.bool false))], [], .c (.val (.int .i64 r_8)), [], [], 3⟩)] [] (calls_cons (offset_Move_spec K d_1 d_2 i_3 true r_6 h_7) (by kernel_rfl) (calls_cons (offset_Move_spec K d_1 d_2 i_4 false r_8 h_9) (by kernel_rfl) calls_nil)) 3 [4, 5, 6] [2] ⟨[(4, .c (.h 2)), (5, .c (.val (.int .i64 r_6))), (6, .c (.val (.int .i64 r_8)))], [(2, .box [.val (.int .i64 (0 : Int)), .val (.int .i64 (0 : Int))])], 3⟩ [] (by kernel_rfl) rfl rfl ap0 (by kernel_rfl) (by kernel_rfl) ?_
  refine V_run hN hn 2 3 [4] [2] ⟨[(4, .c (.h 2))], [(2, .box [.val (.int .i64 r_6), .val (.int .i64 (mx2 r_6 r_8))])], 3⟩ [] (by kernel_rfl) rfl rfl ap0 ?_
  have H_16 := Option.some.inj (show some (r_6, (mx2 r_6 r_8)) = some r from H_15); subst H_16
  refine VL_ret ?_
  exact P_to [(4, .c (.h 2))] [(2, .box [.val (.int .i64 r_6), .val (.int .i64 (mx2 r_6 r_8))])] [(2, 2)] hn (by kernel_rfl) (by kernel_rfl) rfl rfl rfl (QF_retS (by kernel_rfl) (by kernel_rfl) rfl)

theorem delta_Ordered_r_spec (K : Nat) (l_1 : (List (Int × (Int × ByteArray)))) (r : Bool) (H : delta_Ordered_r K l_1 = some r) : Spec Try.prog 43 1 [.c (.h 0)] [(0, .row (.pair (.int .i64) (.pair (.int .i64) .str)) l_1)] (.c (.val (.bool r))) [(0, .row (.pair (.int .i64) (.pair (.int .i64) .str)) l_1)] := by
  refine Spec_mk (fn := Try.f43) (c := (Try.f43.body).get!) Try.func43 (by kernel_rfl) rfl ?_
  intro C hN hn
  replace hN : C.N = 40 := hN
  unfold delta_Ordered_r at H
  refine V_run hN hn 5 1 [0, 3] [0] ⟨[(0, .c (.h 0)), (3, .c (.val (.int .i64 (1 : Int))))], [(0, .row (.pair (.int .i64) (.pair (.int .i64) .str)) l_1)], 1⟩ [] (by kernel_rfl) rfl rfl ap0 ?_
  refine VL_block ?_
  refine V_to [(0, .c (.h 0)), (3, .c (.val (.int .i64 (1 : Int))))] [(0, .row (.pair (.int .i64) (.pair (.int .i64) .str)) l_1)] [] hn (by kernel_rfl) (by kernel_rfl) rfl rfl rfl ?_
  refine VL_loop (X := Int) (fun x => [(0, .c (.h 0)), (3, .c (.val (.int .i64 x)))]) (fun x => [(0, .row (.pair (.int .i64) (.pair (.int .i64) .str)) l_1)]) (fun k x => delta_Ordered_r.l0 K l_1 k x = some r) K (1 : Int) H (fun _ h => no_none h) ?_
  intro k_4 i_3 H_25
  have H_26 : delta_Ordered_r.l0 K l_1 (k_4 + 1) i_3 = some r := H_25
  rw [delta_Ordered_r.l0] at H_26
  refine V_run hN hn 3 1 [0, 3, 9] [0] ⟨[(0, .c (.h 0)), (3, .c (.val (.int .i64 i_3))), (9, .c (.val (.bool (decide (i_3 < (((List.length l_1) : Nat) : Int))))))], [(0, .row (.pair (.int .i64) (.pair (.int .i64) .str)) l_1)], 1⟩ [] (by kernel_rfl) rfl rfl ap0 ?_
  refine VL_cond ((decide (i_3 < (((List.length l_1) : Nat) : Int)))) (by kernel_rfl) ?_ ?_
  · intro b_6; have H_27 := of_t H_26 b_6
    refine V_run hN hn 2 1 [0, 3, 9] [0] ⟨[(0, .c (.h 0)), (3, .c (.val (.int .i64 i_3))), (9, .c (.val (.bool (decide (i_3 < (((List.length l_1) : Nat) : Int))))))], [(0, .row (.pair (.int .i64) (.pair (.int .i64) .str)) l_1)], 1⟩ [] (by kernel_rfl) rfl rfl ap0 ?_
    refine VL_block ?_
    refine V_run hN hn 1 1 [0, 3, 9] [0] ⟨[(0, .c (.h 0)), (3, .c (.val (.int .i64 i_3))), (9, .c (.val (.bool (decide (i_3 < (((List.length l_1) : Nat) : Int))))))], [(0, .row (.pair (.int .i64) (.pair (.int .i64) .str)) l_1)], 1⟩ [] (by kernel_rfl) rfl rfl ap0 ?_
    obtain ⟨c_9, H_29⟩ := of_if H_27
    refine V_draw hN hn (by kernel_rfl) [] [] calls_nil 1 [0, 3, 4, 5] [0, 1, 2] ⟨[(0, .c (.h 0)), (3, .c (.val (.int .i64 i_3))), (4, .c (.h 1)), (5, .c (.h 2))], [(0, .row (.pair (.int .i64) (.pair (.int .i64) .str)) l_1), (1, .box [.val (.int .i64 (List.getD l_1 (Int.toNat (IntKind.wrap .i64 (i_3 - (1 : Int)))) ((0 : Int), ((0 : Int), ByteArray.empty))).1), .val (.int .i64 (List.getD l_1 (Int.toNat (IntKind.wrap .i64 (i_3 - (1 : Int)))) ((0 : Int), ((0 : Int), ByteArray.empty))).2.1), .val (.string (List.getD l_1 (Int.toNat (IntKind.wrap .i64 (i_3 - (1 : Int)))) ((0 : Int), ((0 : Int), ByteArray.empty))).2.2)]), (2, .box [.val (.int .i64 (List.getD l_1 (Int.toNat i_3) ((0 : Int), ((0 : Int), ByteArray.empty))).1), .val (.int .i64 (List.getD l_1 (Int.toNat i_3) ((0 : Int), ((0 : Int), ByteArray.empty))).2.1), .val (.string (List.getD l_1 (Int.toNat i_3) ((0 : Int), ((0 : Int), ByteArray.empty))).2.2)])], 3⟩ [0 ≤ (IntKind.wrap .i64 (i_3 - (1 : Int))), (IntKind.wrap .i64 (i_3 - (1 : Int))) < (((List.length l_1) : Nat) : Int), 0 ≤ (IntKind.wrap .i64 (i_3 - (1 : Int))), (IntKind.wrap .i64 (i_3 - (1 : Int))) < (((List.length l_1) : Nat) : Int), 0 ≤ (IntKind.wrap .i64 (i_3 - (1 : Int))), (IntKind.wrap .i64 (i_3 - (1 : Int))) < (((List.length l_1) : Nat) : Int), 0 ≤ (IntKind.wrap .i64 (i_3 - (1 : Int))), (IntKind.wrap .i64 (i_3 - (1 : Int))) < (((List.length l_1) : Nat) : Int), 0 ≤ i_3, i_3 < (((List.length l_1) : Nat) : Int), 0 ≤ i_3, i_3 < (((List.length l_1) : Nat) : Int), 0 ≤ i_3, i_3 < (((List.length l_1) : Nat) : Int), 0 ≤ i_3, i_3 < (((List.length l_1) : Nat) : Int), 0 ≤ i_3, i_3 < (((List.length l_1) : Nat) : Int)] (by kernel_rfl) rfl rfl (ap2 c_9.1 (ap2 c_9.2.1 (ap2 c_9.1 (ap2 c_9.2.1 (ap2 c_9.1 (ap2 c_9.2.1 (ap2 c_9.1 (ap2 c_9.2.1 (ap2 c_9.2.2.1 (ap2 c_9.2.2.2 (ap2 c_9.2.2.1 (ap2 c_9.2.2.2 (ap2 c_9.2.2.1 (ap2 c_9.2.2.2 (ap2 c_9.2.2.1 (ap2 c_9.2.2.2 (ap2 c_9.2.2.1 (ap1 c_9.2.2.2)))))))))))))))))) (by kernel_rfl) (by kernel_rfl) ?_
    refine V_run hN hn 1 3 [0, 3, 4, 5] [0, 1, 2] ⟨[(0, .c (.h 0)), (3, .c (.val (.int .i64 i_3))), (4, .c (.h 1)), (5, .c (.h 2))], [(0, .row (.pair (.int .i64) (.pair (.int .i64) .str)) l_1), (1, .box [.val (.int .i64 (List.getD l_1 (Int.toNat (IntKind.wrap .i64 (i_3 - (1 : Int)))) ((0 : Int), ((0 : Int), ByteArray.empty))).1), .val (.int .i64 (List.getD l_1 (Int.toNat (IntKind.wrap .i64 (i_3 - (1 : Int)))) ((0 : Int), ((0 : Int), ByteArray.empty))).2.1), .val (.string (List.getD l_1 (Int.toNat (IntKind.wrap .i64 (i_3 - (1 : Int)))) ((0 : Int), ((0 : Int), ByteArray.empty))).2.2)]), (2, .box [.val (.int .i64 (List.getD l_1 (Int.toNat i_3) ((0 : Int), ((0 : Int), ByteArray.empty))).1), .val (.int .i64 (List.getD l_1 (Int.toNat i_3) ((0 : Int), ((0 : Int), ByteArray.empty))).2.1), .val (.string (List.getD l_1 (Int.toNat i_3) ((0 : Int), ((0 : Int), ByteArray.empty))).2.2)])], 3⟩ [] (by kernel_rfl) rfl rfl ap0 ?_
    obtain ⟨q_30, H_31, H_32⟩ := of_bind H_29
    refine V_cut (Y := Bool) (R := Bool) q_30 (fun y => y) (fun y => [(0, .c (.h 0)), (3, .c (.val (.int .i64 i_3))), (39, .c (.val (.bool y)))]) (fun y => [(0, .row (.pair (.int .i64) (.pair (.int .i64) .str)) l_1)]) ?_ ?_
    · skip
      rcases Bool.eq_false_or_eq_true ((decide ((List.getD l_1 (Int.toNat i_3) ((0 : Int), ((0 : Int), ByteArray.empty))).1 < (List.getD l_1 (Int.toNat (IntKind.wrap .i64 (i_3 - (1 : Int)))) ((0 : Int), ((0 : Int), ByteArray.empty))).2.1))) with b_11 | b_11
      · have H_34 := of_t H_31 b_11
        refine V_reg hN hn [] [(26, true)] calls_nil 3 [0, 3, 39] [0] ⟨[(0, .c (.h 0)), (3, .c (.val (.int .i64 i_3))), (39, .c (.val (.bool true)))], [(0, .row (.pair (.int .i64) (.pair (.int .i64) .str)) l_1)], 3⟩ [(decide ((List.getD l_1 (Int.toNat i_3) ((0 : Int), ((0 : Int), ByteArray.empty))).1 < (List.getD l_1 (Int.toNat (IntKind.wrap .i64 (i_3 - (1 : Int)))) ((0 : Int), ((0 : Int), ByteArray.empty))).2.1)) = true] (by kernel_rfl) rfl rfl (ap1 b_11) (by kernel_rfl) (by kernel_rfl) ?_
        have H_36 := Option.some.inj (show some true = some q_30 from H_34); subst H_36
        refine VL_nil ?_
        exact QP_end true rfl [] hn (by kernel_rfl) (by kernel_rfl) rfl rfl rfl
      · have H_35 := of_f H_31 b_11
        rcases Bool.eq_false_or_eq_true (((List.getD l_1 (Int.toNat (IntKind.wrap .i64 (i_3 - (1 : Int)))) ((0 : Int), ((0 : Int), ByteArray.empty))).1 == (List.getD l_1 (Int.toNat i_3) ((0 : Int), ((0 : Int), ByteArray.empty))).1)) with b_13 | b_13
        · have H_37 := of_t H_35 b_13
          refine V_reg hN hn [] [(26, false), (32, true)] calls_nil 3 [0, 3, 39] [0] ⟨[(0, .c (.h 0)), (3, .c (.val (.int .i64 i_3))), (39, .c (.val (.bool ((List.getD l_1 (Int.toNat (IntKind.wrap .i64 (i_3 - (1 : Int)))) ((0 : Int), ((0 : Int), ByteArray.empty))).2.1 == (List.getD l_1 (Int.toNat i_3) ((0 : Int), ((0 : Int), ByteArray.empty))).1))))], [(0, .row (.pair (.int .i64) (.pair (.int .i64) .str)) l_1)], 3⟩ [(decide ((List.getD l_1 (Int.toNat i_3) ((0 : Int), ((0 : Int), ByteArray.empty))).1 < (List.getD l_1 (Int.toNat (IntKind.wrap .i64 (i_3 - (1 : Int)))) ((0 : Int), ((0 : Int), ByteArray.empty))).2.1)) = false, ((List.getD l_1 (Int.toNat (IntKind.wrap .i64 (i_3 - (1 : Int)))) ((0 : Int), ((0 : Int), ByteArray.empty))).1 == (List.getD l_1 (Int.toNat i_3) ((0 : Int), ((0 : Int), ByteArray.empty))).1) = true] (by kernel_rfl) rfl rfl (ap2 b_11 (ap1 b_13)) (by kernel_rfl) (by kernel_rfl) ?_
          have H_39 := Option.some.inj (show some ((List.getD l_1 (Int.toNat (IntKind.wrap .i64 (i_3 - (1 : Int)))) ((0 : Int), ((0 : Int), ByteArray.empty))).2.1 == (List.getD l_1 (Int.toNat i_3) ((0 : Int), ((0 : Int), ByteArray.empty))).1) = some q_30 from H_37); subst H_39
          refine VL_nil ?_
          exact QP_end ((List.getD l_1 (Int.toNat (IntKind.wrap .i64 (i_3 - (1 : Int)))) ((0 : Int), ((0 : Int), ByteArray.empty))).2.1 == (List.getD l_1 (Int.toNat i_3) ((0 : Int), ((0 : Int), ByteArray.empty))).1) rfl [] hn (by kernel_rfl) (by kernel_rfl) rfl rfl rfl
        · have H_38 := of_f H_35 b_13
          refine V_reg hN hn [] [(26, false), (32, false)] calls_nil 3 [0, 3, 39] [0] ⟨[(0, .c (.h 0)), (3, .c (.val (.int .i64 i_3))), (39, .c (.val (.bool false)))], [(0, .row (.pair (.int .i64) (.pair (.int .i64) .str)) l_1)], 3⟩ [(decide ((List.getD l_1 (Int.toNat i_3) ((0 : Int), ((0 : Int), ByteArray.empty))).1 < (List.getD l_1 (Int.toNat (IntKind.wrap .i64 (i_3 - (1 : Int)))) ((0 : Int), ((0 : Int), ByteArray.empty))).2.1)) = false, ((List.getD l_1 (Int.toNat (IntKind.wrap .i64 (i_3 - (1 : Int)))) ((0 : Int), ((0 : Int), ByteArray.empty))).1 == (List.getD l_1 (Int.toNat i_3) ((0 : Int), ((0 : Int), ByteArray.empty))).1) = false] (by kernel_rfl) rfl rfl (ap2 b_11 (ap1 b_13)) (by kernel_rfl) (by kernel_rfl) ?_
          have H_40 := Option.some.inj (show some false = some q_30 from H_38); subst H_40
          refine VL_nil ?_
          exact QP_end false rfl [] hn (by kernel_rfl) (by kernel_rfl) rfl rfl rfl
    · intro y_33 hy; subst hy
      skip
      skip
      refine VL_cond (y_33) (by kernel_rfl) ?_ ?_
      · intro b_17; have H_41 := of_t H_32 b_17
        refine V_run hN hn 2 3 [2] [0] ⟨[(2, .c (.val (.bool false)))], [(0, .row (.pair (.int .i64) (.pair (.int .i64) .str)) l_1)], 3⟩ [] (by kernel_rfl) rfl rfl ap0 ?_
        have H_43 := Option.some.inj (show some false = some r from H_41); subst H_43
        refine VL_ret ?_
        refine QB_ret ?_
        refine QL_ret ?_
        refine QB_ret ?_
        exact P_to [(2, .c (.val (.bool false)))] [(0, .row (.pair (.int .i64) (.pair (.int .i64) .str)) l_1)] [] hn (by kernel_rfl) (by kernel_rfl) rfl rfl rfl (QF_retS (by kernel_rfl) (by kernel_rfl) rfl)
      · intro b_17; have H_42 := of_f H_32 b_17
        refine V_run hN hn 1 3 [0, 3, 39] [0] ⟨[(0, .c (.h 0)), (3, .c (.val (.int .i64 i_3))), (39, .c (.val (.bool y_33)))], [(0, .row (.pair (.int .i64) (.pair (.int .i64) .str)) l_1)], 3⟩ [] (by kernel_rfl) rfl rfl ap0 ?_
        refine VL_nil (QB_end ?_)
        refine V_run hN hn 1 3 [0, 3] [0] ⟨[(0, .c (.h 0)), (3, .c (.val (.int .i64 (IntKind.wrap .i64 (i_3 + (1 : Int))))))], [(0, .row (.pair (.int .i64) (.pair (.int .i64) .str)) l_1)], 3⟩ [] (by kernel_rfl) rfl rfl ap0 ?_
        refine VL_nil ?_
        exact V_roundEnd (IntKind.wrap .i64 (i_3 + (1 : Int))) H_42 [] hn (by kernel_rfl) (by kernel_rfl) rfl rfl rfl
  · intro b_6; have H_28 := of_f H_26 b_6
    refine VL_exit ?_
    refine QL_exit ?_
    refine QB_here ?_
    refine V_run hN hn 2 1 [2] [0] ⟨[(2, .c (.val (.bool true)))], [(0, .row (.pair (.int .i64) (.pair (.int .i64) .str)) l_1)], 1⟩ [] (by kernel_rfl) rfl rfl ap0 ?_
    have H_44 := Option.some.inj (show some true = some r from H_28); subst H_44
    refine VL_ret ?_
    exact P_to [(2, .c (.val (.bool true)))] [(0, .row (.pair (.int .i64) (.pair (.int .i64) .str)) l_1)] [] hn (by kernel_rfl) (by kernel_rfl) rfl rfl rfl (QF_retS (by kernel_rfl) (by kernel_rfl) rfl)

theorem delta_long_gr_spec (K : Nat) (base_1 : Int) (l_2 : (List (Int × (Int × ByteArray)))) (r : Int) (H : delta_long_gr K base_1 l_2 = some r) : Spec Try.prog 45 1 [.c (.val (.int .i64 base_1)), .c (.h 0)] [(0, .row (.pair (.int .i64) (.pair (.int .i64) .str)) l_2)] (.c (.val (.int .i64 r))) [(0, .row (.pair (.int .i64) (.pair (.int .i64) .str)) l_2)] := by
  refine Spec_mk (fn := Try.f45) (c := (Try.f45.body).get!) Try.func45 (by kernel_rfl) rfl ?_
  intro C hN hn
  replace hN : C.N = 43 := hN
  unfold delta_long_gr at H
  refine V_run hN hn 7 1 [1, 5, 12, 13, 14] [0] ⟨[(1, .c (.h 0)), (5, .c (.val (.int .i64 (IntKind.wrap .i64 ((20000 : Int) - base_1))))), (12, .c (.h 0)), (13, .c (.val (.int .i64 (((List.length l_2) : Nat) : Int)))), (14, .c (.val (.int .i64 (0 : Int))))], [(0, .row (.pair (.int .i64) (.pair (.int .i64) .str)) l_2)], 1⟩ [] (by kernel_rfl) rfl rfl ap0 ?_
  obtain ⟨q_28, H_29, H_30⟩ := of_bind H
  refine V_cut (Y := Int) (R := Int) q_28 (fun y => y) (fun y => [(1, .c (.h 0)), (5, .c (.val (.int .i64 y)))]) (fun y => [(0, .row (.pair (.int .i64) (.pair (.int .i64) .str)) l_2)]) ?_ ?_
  · skip
    refine VL_block ?_
    refine V_to [(1, .c (.h 0)), (5, .c (.val (.int .i64 (IntKind.wrap .i64 ((20000 : Int) - base_1))))), (12, .c (.h 0)), (13, .c (.val (.int .i64 (((List.length l_2) : Nat) : Int)))), (14, .c (.val (.int .i64 (0 : Int))))] [(0, .row (.pair (.int .i64) (.pair (.int .i64) .str)) l_2)] [] hn (by kernel_rfl) (by kernel_rfl) rfl rfl rfl ?_
    refine VL_loop (X := (Int × Int)) (fun x => [(1, .c (.h 0)), (5, .c (.val (.int .i64 x.1))), (12, .c (.h 0)), (13, .c (.val (.int .i64 (((List.length l_2) : Nat) : Int)))), (14, .c (.val (.int .i64 x.2)))]) (fun x => [(0, .row (.pair (.int .i64) (.pair (.int .i64) .str)) l_2)]) (fun k x => delta_long_gr.l0 K l_2 k x.1 x.2 = some q_28) K ((IntKind.wrap .i64 ((20000 : Int) - base_1)), (0 : Int)) H_29 (fun _ h => no_none h) ?_
    intro k_6 x_6 H_32
    obtain ⟨left_4, t_5⟩ := x_6
    have H_33 : delta_long_gr.l0 K l_2 (k_6 + 1) left_4 t_5 = some q_28 := H_32
    rw [delta_long_gr.l0] at H_33
    refine V_run hN hn 3 1 [1, 5, 12, 13, 14, 15] [0] ⟨[(1, .c (.h 0)), (5, .c (.val (.int .i64 left_4))), (12, .c (.h 0)), (13, .c (.val (.int .i64 (((List.length l_2) : Nat) : Int)))), (14, .c (.val (.int .i64 t_5))), (15, .c (.val (.bool (decide (t_5 < (((List.length l_2) : Nat) : Int))))))], [(0, .row (.pair (.int .i64) (.pair (.int .i64) .str)) l_2)], 1⟩ [] (by kernel_rfl) rfl rfl ap0 ?_
    refine VL_cond ((decide (t_5 < (((List.length l_2) : Nat) : Int)))) (by kernel_rfl) ?_ ?_
    · intro b_8; have H_34 := of_t H_33 b_8
      refine V_run hN hn 2 1 [1, 5, 12, 13, 14, 15] [0] ⟨[(1, .c (.h 0)), (5, .c (.val (.int .i64 left_4))), (12, .c (.h 0)), (13, .c (.val (.int .i64 (((List.length l_2) : Nat) : Int)))), (14, .c (.val (.int .i64 t_5))), (15, .c (.val (.bool (decide (t_5 < (((List.length l_2) : Nat) : Int))))))], [(0, .row (.pair (.int .i64) (.pair (.int .i64) .str)) l_2)], 1⟩ [] (by kernel_rfl) rfl rfl ap0 ?_
      refine VL_block ?_
      obtain ⟨c_10, H_36⟩ := of_if H_34
      refine V_run hN hn 3 1 [1, 5, 12, 13, 14] [0] ⟨[(1, .c (.h 0)), (5, .c (.val (.int .i64 (IntKind.wrap .i64 (left_4 + (IntKind.wrap .i64 ((List.getD l_2 (Int.toNat t_5) ((0 : Int), ((0 : Int), ByteArray.empty))).2.1 - (List.getD l_2 (Int.toNat t_5) ((0 : Int), ((0 : Int), ByteArray.empty))).1))))))), (12, .c (.h 0)), (13, .c (.val (.int .i64 (((List.length l_2) : Nat) : Int)))), (14, .c (.val (.int .i64 t_5)))], [(0, .row (.pair (.int .i64) (.pair (.int .i64) .str)) l_2)], 2⟩ [0 ≤ t_5, t_5 < (((List.length l_2) : Nat) : Int)] (by kernel_rfl) rfl rfl (ap2 c_10.1 (ap1 c_10.2)) ?_
      refine VL_nil (QB_end ?_)
      refine V_run hN hn 1 2 [1, 5, 12, 13, 14] [0] ⟨[(1, .c (.h 0)), (5, .c (.val (.int .i64 (IntKind.wrap .i64 (left_4 + (IntKind.wrap .i64 ((List.getD l_2 (Int.toNat t_5) ((0 : Int), ((0 : Int), ByteArray.empty))).2.1 - (List.getD l_2 (Int.toNat t_5) ((0 : Int), ((0 : Int), ByteArray.empty))).1))))))), (12, .c (.h 0)), (13, .c (.val (.int .i64 (((List.length l_2) : Nat) : Int)))), (14, .c (.val (.int .i64 (IntKind.wrap .i64 (t_5 + (1 : Int))))))], [(0, .row (.pair (.int .i64) (.pair (.int .i64) .str)) l_2)], 2⟩ [] (by kernel_rfl) rfl rfl ap0 ?_
      refine VL_nil ?_
      exact V_roundEnd ((IntKind.wrap .i64 (left_4 + (IntKind.wrap .i64 ((List.getD l_2 (Int.toNat t_5) ((0 : Int), ((0 : Int), ByteArray.empty))).2.1 - (List.getD l_2 (Int.toNat t_5) ((0 : Int), ((0 : Int), ByteArray.empty))).1)))), (IntKind.wrap .i64 (t_5 + (1 : Int)))) H_36 [] hn (by kernel_rfl) (by kernel_rfl) rfl rfl rfl
    · intro b_8; have H_35 := of_f H_33 b_8
      refine VL_exit ?_
      refine QL_exit ?_
      refine QB_here ?_
      have H_37 := Option.some.inj (show some left_4 = some q_28 from H_35); subst H_37
      refine VL_nil ?_
      exact QP_end left_4 rfl [] hn (by kernel_rfl) (by kernel_rfl) rfl rfl rfl
  · intro y_31 hy; subst hy
    skip
    skip
    refine V_run hN hn 3 1 [5, 26, 27, 28] [0] ⟨[(5, .c (.val (.int .i64 y_31))), (26, .c (.h 0)), (27, .c (.val (.int .i64 (((List.length l_2) : Nat) : Int)))), (28, .c (.val (.int .i64 (0 : Int))))], [(0, .row (.pair (.int .i64) (.pair (.int .i64) .str)) l_2)], 1⟩ [] (by kernel_rfl) rfl rfl ap0 ?_
    refine VL_block ?_
    refine V_to [(5, .c (.val (.int .i64 y_31))), (26, .c (.h 0)), (27, .c (.val (.int .i64 (((List.length l_2) : Nat) : Int)))), (28, .c (.val (.int .i64 (0 : Int))))] [(0, .row (.pair (.int .i64) (.pair (.int .i64) .str)) l_2)] [] hn (by kernel_rfl) (by kernel_rfl) rfl rfl rfl ?_
    refine VL_loop (X := (Int × Int)) (fun x => [(5, .c (.val (.int .i64 x.1))), (26, .c (.h 0)), (27, .c (.val (.int .i64 (((List.length l_2) : Nat) : Int)))), (28, .c (.val (.int .i64 x.2)))]) (fun x => [(0, .row (.pair (.int .i64) (.pair (.int .i64) .str)) l_2)]) (fun k x => delta_long_gr.l1 K l_2 k x.1 x.2 = some r) K (y_31, (0 : Int)) H_30 (fun _ h => no_none h) ?_
    intro k_16 x_16 H_38
    obtain ⟨left_14, t_15⟩ := x_16
    have H_39 : delta_long_gr.l1 K l_2 (k_16 + 1) left_14 t_15 = some r := H_38
    rw [delta_long_gr.l1] at H_39
    refine V_run hN hn 3 1 [5, 26, 27, 28, 29] [0] ⟨[(5, .c (.val (.int .i64 left_14))), (26, .c (.h 0)), (27, .c (.val (.int .i64 (((List.length l_2) : Nat) : Int)))), (28, .c (.val (.int .i64 t_15))), (29, .c (.val (.bool (decide (t_15 < (((List.length l_2) : Nat) : Int))))))], [(0, .row (.pair (.int .i64) (.pair (.int .i64) .str)) l_2)], 1⟩ [] (by kernel_rfl) rfl rfl ap0 ?_
    refine VL_cond ((decide (t_15 < (((List.length l_2) : Nat) : Int)))) (by kernel_rfl) ?_ ?_
    · intro b_18; have H_40 := of_t H_39 b_18
      refine V_run hN hn 2 1 [5, 26, 27, 28, 29] [0] ⟨[(5, .c (.val (.int .i64 left_14))), (26, .c (.h 0)), (27, .c (.val (.int .i64 (((List.length l_2) : Nat) : Int)))), (28, .c (.val (.int .i64 t_15))), (29, .c (.val (.bool (decide (t_15 < (((List.length l_2) : Nat) : Int))))))], [(0, .row (.pair (.int .i64) (.pair (.int .i64) .str)) l_2)], 1⟩ [] (by kernel_rfl) rfl rfl ap0 ?_
      refine VL_block ?_
      obtain ⟨c_20, H_42⟩ := of_if H_40
      refine V_run hN hn 5 1 [5, 9, 26, 27, 28, 36] [0, 1] ⟨[(5, .c (.val (.int .i64 left_14))), (9, .c (.h 1)), (26, .c (.h 0)), (27, .c (.val (.int .i64 (((List.length l_2) : Nat) : Int)))), (28, .c (.val (.int .i64 t_15))), (36, .c (.val (.bool (decide ((((ByteArray.size (List.getD l_2 (Int.toNat t_15) ((0 : Int), ((0 : Int), ByteArray.empty))).2.2) : Nat) : Int) > left_14)))))], [(0, .row (.pair (.int .i64) (.pair (.int .i64) .str)) l_2), (1, .box [.val (.int .i64 (List.getD l_2 (Int.toNat t_15) ((0 : Int), ((0 : Int), ByteArray.empty))).1), .val (.int .i64 (List.getD l_2 (Int.toNat t_15) ((0 : Int), ((0 : Int), ByteArray.empty))).2.1), .val (.string (List.getD l_2 (Int.toNat t_15) ((0 : Int), ((0 : Int), ByteArray.empty))).2.2)])], 2⟩ [0 ≤ t_15, t_15 < (((List.length l_2) : Nat) : Int)] (by kernel_rfl) rfl rfl (ap2 c_20.1 (ap1 c_20.2)) ?_
      refine VL_cond ((decide ((((ByteArray.size (List.getD l_2 (Int.toNat t_15) ((0 : Int), ((0 : Int), ByteArray.empty))).2.2) : Nat) : Int) > left_14))) (by kernel_rfl) ?_ ?_
      · intro b_21; have H_43 := of_t H_42 b_21
        refine V_run hN hn 2 2 [4] [0] ⟨[(4, .c (.val (.int .i64 (13 : Int))))], [(0, .row (.pair (.int .i64) (.pair (.int .i64) .str)) l_2)], 2⟩ [] (by kernel_rfl) rfl rfl ap0 ?_
        have H_45 := Option.some.inj (show some (13 : Int) = some r from H_43); subst H_45
        refine VL_ret ?_
        refine QB_ret ?_
        refine QL_ret ?_
        refine QB_ret ?_
        exact P_to [(4, .c (.val (.int .i64 (13 : Int))))] [(0, .row (.pair (.int .i64) (.pair (.int .i64) .str)) l_2)] [] hn (by kernel_rfl) (by kernel_rfl) rfl rfl rfl (QF_retS (by kernel_rfl) (by kernel_rfl) rfl)
      · intro b_21; have H_44 := of_f H_42 b_21
        refine V_run hN hn 2 2 [5, 26, 27, 28] [0] ⟨[(5, .c (.val (.int .i64 (IntKind.wrap .i64 (left_14 - (((ByteArray.size (List.getD l_2 (Int.toNat t_15) ((0 : Int), ((0 : Int), ByteArray.empty))).2.2) : Nat) : Int)))))), (26, .c (.h 0)), (27, .c (.val (.int .i64 (((List.length l_2) : Nat) : Int)))), (28, .c (.val (.int .i64 t_15)))], [(0, .row (.pair (.int .i64) (.pair (.int .i64) .str)) l_2)], 2⟩ [] (by kernel_rfl) rfl rfl ap0 ?_
        refine VL_nil (QB_end ?_)
        refine V_run hN hn 1 2 [5, 26, 27, 28] [0] ⟨[(5, .c (.val (.int .i64 (IntKind.wrap .i64 (left_14 - (((ByteArray.size (List.getD l_2 (Int.toNat t_15) ((0 : Int), ((0 : Int), ByteArray.empty))).2.2) : Nat) : Int)))))), (26, .c (.h 0)), (27, .c (.val (.int .i64 (((List.length l_2) : Nat) : Int)))), (28, .c (.val (.int .i64 (IntKind.wrap .i64 (t_15 + (1 : Int))))))], [(0, .row (.pair (.int .i64) (.pair (.int .i64) .str)) l_2)], 2⟩ [] (by kernel_rfl) rfl rfl ap0 ?_
        refine VL_nil ?_
        exact V_roundEnd ((IntKind.wrap .i64 (left_14 - (((ByteArray.size (List.getD l_2 (Int.toNat t_15) ((0 : Int), ((0 : Int), ByteArray.empty))).2.2) : Nat) : Int))), (IntKind.wrap .i64 (t_15 + (1 : Int)))) H_44 [] hn (by kernel_rfl) (by kernel_rfl) rfl rfl rfl
    · intro b_18; have H_41 := of_f H_39 b_18
      refine VL_exit ?_
      refine QL_exit ?_
      refine QB_here ?_
      refine V_run hN hn 2 1 [4] [0] ⟨[(4, .c (.val (.int .i64 (0 : Int))))], [(0, .row (.pair (.int .i64) (.pair (.int .i64) .str)) l_2)], 1⟩ [] (by kernel_rfl) rfl rfl ap0 ?_
      have H_46 := Option.some.inj (show some (0 : Int) = some r from H_41); subst H_46
      refine VL_ret ?_
      exact P_to [(4, .c (.val (.int .i64 (0 : Int))))] [(0, .row (.pair (.int .i64) (.pair (.int .i64) .str)) l_2)] [] hn (by kernel_rfl) (by kernel_rfl) rfl rfl rfl (QF_retS (by kernel_rfl) (by kernel_rfl) rfl)

theorem delta_check_gr_spec (K : Nat) (base_1 : Int) (l_2 : (List (Int × (Int × ByteArray)))) (r : Int) (H : delta_check_gr K base_1 l_2 = some r) : Spec Try.prog 32 1 [.c (.val (.int .i64 base_1)), .c (.h 0)] [(0, .row (.pair (.int .i64) (.pair (.int .i64) .str)) l_2)] (.c (.val (.int .i64 r))) [(0, .row (.pair (.int .i64) (.pair (.int .i64) .str)) l_2)] := by
  refine Spec_mk (fn := Try.f32) (c := (Try.f32.body).get!) Try.func32 (by kernel_rfl) rfl ?_
  intro C hN hn
  replace hN : C.N = 55 := hN
  unfold delta_check_gr at H
  refine V_run hN hn 4 1 [0, 1] [0] ⟨[(0, .c (.val (.int .i64 base_1))), (1, .c (.h 0))], [(0, .row (.pair (.int .i64) (.pair (.int .i64) .str)) l_2)], 1⟩ [] (by kernel_rfl) rfl rfl ap0 ?_
  obtain ⟨q_59, H_60, H_61⟩ := of_bind H
  refine V_cut (Y := Bool) (R := Bool) q_59 (fun y => y) (fun y => [(0, .c (.val (.int .i64 base_1))), (1, .c (.h 0)), (14, .c (.val (.bool y)))]) (fun y => [(0, .row (.pair (.int .i64) (.pair (.int .i64) .str)) l_2)]) ?_ ?_
  · skip
    rcases Bool.eq_false_or_eq_true ((decide (base_1 < (0 : Int)))) with b_4 | b_4
    · have H_63 := of_t H_60 b_4
      refine V_reg hN hn [] [(11, true)] calls_nil 1 [0, 1, 14] [0] ⟨[(0, .c (.val (.int .i64 base_1))), (1, .c (.h 0)), (14, .c (.val (.bool true)))], [(0, .row (.pair (.int .i64) (.pair (.int .i64) .str)) l_2)], 1⟩ [(decide (base_1 < (0 : Int))) = true] (by kernel_rfl) rfl rfl (ap1 b_4) (by kernel_rfl) (by kernel_rfl) ?_
      have H_65 := Option.some.inj (show some true = some q_59 from H_63); subst H_65
      refine VL_nil ?_
      exact QP_end true rfl [] hn (by kernel_rfl) (by kernel_rfl) rfl rfl rfl
    · have H_64 := of_f H_60 b_4
      refine V_reg hN hn [] [(11, false)] calls_nil 1 [0, 1, 14] [0] ⟨[(0, .c (.val (.int .i64 base_1))), (1, .c (.h 0)), (14, .c (.val (.bool (decide (base_1 > (20000 : Int))))))], [(0, .row (.pair (.int .i64) (.pair (.int .i64) .str)) l_2)], 1⟩ [(decide (base_1 < (0 : Int))) = false] (by kernel_rfl) rfl rfl (ap1 b_4) (by kernel_rfl) (by kernel_rfl) ?_
      have H_66 := Option.some.inj (show some (decide (base_1 > (20000 : Int))) = some q_59 from H_64); subst H_66
      refine VL_nil ?_
      exact QP_end (decide (base_1 > (20000 : Int))) rfl [] hn (by kernel_rfl) (by kernel_rfl) rfl rfl rfl
  · intro y_62 hy; subst hy
    skip
    skip
    refine VL_cond (y_62) (by kernel_rfl) ?_ ?_
    · intro b_8; have H_67 := of_t H_61 b_8
      refine V_run hN hn 2 1 [4] [0] ⟨[(4, .c (.val (.int .i64 (10 : Int))))], [(0, .row (.pair (.int .i64) (.pair (.int .i64) .str)) l_2)], 1⟩ [] (by kernel_rfl) rfl rfl ap0 ?_
      have H_69 := Option.some.inj (show some (10 : Int) = some r from H_67); subst H_69
      refine VL_ret ?_
      exact P_to [(4, .c (.val (.int .i64 (10 : Int))))] [(0, .row (.pair (.int .i64) (.pair (.int .i64) .str)) l_2)] [] hn (by kernel_rfl) (by kernel_rfl) rfl rfl rfl (QF_retS (by kernel_rfl) (by kernel_rfl) rfl)
    · intro b_8; have H_68 := of_f H_61 b_8
      refine V_run hN hn 4 1 [0, 1, 15, 16, 17] [0] ⟨[(0, .c (.val (.int .i64 base_1))), (1, .c (.h 0)), (15, .c (.h 0)), (16, .c (.val (.int .i64 (((List.length l_2) : Nat) : Int)))), (17, .c (.val (.int .i64 (0 : Int))))], [(0, .row (.pair (.int .i64) (.pair (.int .i64) .str)) l_2)], 1⟩ [] (by kernel_rfl) rfl rfl ap0 ?_
      obtain ⟨q_70, H_71, H_72⟩ := of_bind H_68
      refine V_cut (Y := Unit) (R := (Int ⊕ Unit)) q_70 (fun y => (Sum.inr y)) (fun y => [(0, .c (.val (.int .i64 base_1))), (1, .c (.h 0))]) (fun y => [(0, .row (.pair (.int .i64) (.pair (.int .i64) .str)) l_2)]) ?_ ?_
      · skip
        refine VL_block ?_
        refine V_to [(0, .c (.val (.int .i64 base_1))), (1, .c (.h 0)), (15, .c (.h 0)), (16, .c (.val (.int .i64 (((List.length l_2) : Nat) : Int)))), (17, .c (.val (.int .i64 (0 : Int))))] [(0, .row (.pair (.int .i64) (.pair (.int .i64) .str)) l_2)] [] hn (by kernel_rfl) (by kernel_rfl) rfl rfl rfl ?_
        refine VL_loop (X := Int) (fun x => [(0, .c (.val (.int .i64 base_1))), (1, .c (.h 0)), (15, .c (.h 0)), (16, .c (.val (.int .i64 (((List.length l_2) : Nat) : Int)))), (17, .c (.val (.int .i64 x)))]) (fun x => [(0, .row (.pair (.int .i64) (.pair (.int .i64) .str)) l_2)]) (fun k x => delta_check_gr.l0 K l_2 base_1 k x = some q_70) K (0 : Int) H_71 (fun _ h => no_none h) ?_
        intro k_12 t_11 H_74
        have H_75 : delta_check_gr.l0 K l_2 base_1 (k_12 + 1) t_11 = some q_70 := H_74
        rw [delta_check_gr.l0] at H_75
        refine V_run hN hn 3 1 [0, 1, 15, 16, 17, 18] [0] ⟨[(0, .c (.val (.int .i64 base_1))), (1, .c (.h 0)), (15, .c (.h 0)), (16, .c (.val (.int .i64 (((List.length l_2) : Nat) : Int)))), (17, .c (.val (.int .i64 t_11))), (18, .c (.val (.bool (decide (t_11 < (((List.length l_2) : Nat) : Int))))))], [(0, .row (.pair (.int .i64) (.pair (.int .i64) .str)) l_2)], 1⟩ [] (by kernel_rfl) rfl rfl ap0 ?_
        refine VL_cond ((decide (t_11 < (((List.length l_2) : Nat) : Int)))) (by kernel_rfl) ?_ ?_
        · intro b_14; have H_76 := of_t H_75 b_14
          refine V_run hN hn 2 1 [0, 1, 15, 16, 17, 18] [0] ⟨[(0, .c (.val (.int .i64 base_1))), (1, .c (.h 0)), (15, .c (.h 0)), (16, .c (.val (.int .i64 (((List.length l_2) : Nat) : Int)))), (17, .c (.val (.int .i64 t_11))), (18, .c (.val (.bool (decide (t_11 < (((List.length l_2) : Nat) : Int))))))], [(0, .row (.pair (.int .i64) (.pair (.int .i64) .str)) l_2)], 1⟩ [] (by kernel_rfl) rfl rfl ap0 ?_
          refine VL_block ?_
          obtain ⟨c_16, H_78⟩ := of_if H_76
          refine V_run hN hn 3 1 [0, 1, 6, 15, 16, 17] [0, 1] ⟨[(0, .c (.val (.int .i64 base_1))), (1, .c (.h 0)), (6, .c (.h 1)), (15, .c (.h 0)), (16, .c (.val (.int .i64 (((List.length l_2) : Nat) : Int)))), (17, .c (.val (.int .i64 t_11)))], [(0, .row (.pair (.int .i64) (.pair (.int .i64) .str)) l_2), (1, .box [.val (.int .i64 (List.getD l_2 (Int.toNat t_11) ((0 : Int), ((0 : Int), ByteArray.empty))).1), .val (.int .i64 (List.getD l_2 (Int.toNat t_11) ((0 : Int), ((0 : Int), ByteArray.empty))).2.1), .val (.string (List.getD l_2 (Int.toNat t_11) ((0 : Int), ((0 : Int), ByteArray.empty))).2.2)])], 2⟩ [0 ≤ t_11, t_11 < (((List.length l_2) : Nat) : Int)] (by kernel_rfl) rfl rfl (ap2 c_16.1 (ap1 c_16.2)) ?_
          obtain ⟨q_79, H_80, H_81⟩ := of_bind H_78
          refine V_cut (Y := Bool) (R := Bool) q_79 (fun y => y) (fun y => [(0, .c (.val (.int .i64 base_1))), (1, .c (.h 0)), (15, .c (.h 0)), (16, .c (.val (.int .i64 (((List.length l_2) : Nat) : Int)))), (17, .c (.val (.int .i64 t_11))), (36, .c (.val (.bool y)))]) (fun y => [(0, .row (.pair (.int .i64) (.pair (.int .i64) .str)) l_2)]) ?_ ?_
          · skip
            rcases Bool.eq_false_or_eq_true ((decide ((List.getD l_2 (Int.toNat t_11) ((0 : Int), ((0 : Int), ByteArray.empty))).1 < (0 : Int)))) with b_17 | b_17
            · have H_83 := of_t H_80 b_17
              refine V_reg hN hn [] [(24, true)] calls_nil 2 [0, 1, 15, 16, 17, 36] [0] ⟨[(0, .c (.val (.int .i64 base_1))), (1, .c (.h 0)), (15, .c (.h 0)), (16, .c (.val (.int .i64 (((List.length l_2) : Nat) : Int)))), (17, .c (.val (.int .i64 t_11))), (36, .c (.val (.bool true)))], [(0, .row (.pair (.int .i64) (.pair (.int .i64) .str)) l_2)], 2⟩ [(decide ((List.getD l_2 (Int.toNat t_11) ((0 : Int), ((0 : Int), ByteArray.empty))).1 < (0 : Int))) = true] (by kernel_rfl) rfl rfl (ap1 b_17) (by kernel_rfl) (by kernel_rfl) ?_
              have H_85 := Option.some.inj (show some true = some q_79 from H_83); subst H_85
              refine VL_nil ?_
              exact QP_end true rfl [] hn (by kernel_rfl) (by kernel_rfl) rfl rfl rfl
            · have H_84 := of_f H_80 b_17
              rcases Bool.eq_false_or_eq_true ((decide ((List.getD l_2 (Int.toNat t_11) ((0 : Int), ((0 : Int), ByteArray.empty))).1 > (List.getD l_2 (Int.toNat t_11) ((0 : Int), ((0 : Int), ByteArray.empty))).2.1))) with b_19 | b_19
              · have H_86 := of_t H_84 b_19
                refine V_reg hN hn [] [(24, false), (31, true)] calls_nil 2 [0, 1, 15, 16, 17, 36] [0] ⟨[(0, .c (.val (.int .i64 base_1))), (1, .c (.h 0)), (15, .c (.h 0)), (16, .c (.val (.int .i64 (((List.length l_2) : Nat) : Int)))), (17, .c (.val (.int .i64 t_11))), (36, .c (.val (.bool true)))], [(0, .row (.pair (.int .i64) (.pair (.int .i64) .str)) l_2)], 2⟩ [(decide ((List.getD l_2 (Int.toNat t_11) ((0 : Int), ((0 : Int), ByteArray.empty))).1 < (0 : Int))) = false, (decide ((List.getD l_2 (Int.toNat t_11) ((0 : Int), ((0 : Int), ByteArray.empty))).1 > (List.getD l_2 (Int.toNat t_11) ((0 : Int), ((0 : Int), ByteArray.empty))).2.1)) = true] (by kernel_rfl) rfl rfl (ap2 b_17 (ap1 b_19)) (by kernel_rfl) (by kernel_rfl) ?_
                have H_88 := Option.some.inj (show some true = some q_79 from H_86); subst H_88
                refine VL_nil ?_
                exact QP_end true rfl [] hn (by kernel_rfl) (by kernel_rfl) rfl rfl rfl
              · have H_87 := of_f H_84 b_19
                refine V_reg hN hn [] [(24, false), (31, false)] calls_nil 2 [0, 1, 15, 16, 17, 36] [0] ⟨[(0, .c (.val (.int .i64 base_1))), (1, .c (.h 0)), (15, .c (.h 0)), (16, .c (.val (.int .i64 (((List.length l_2) : Nat) : Int)))), (17, .c (.val (.int .i64 t_11))), (36, .c (.val (.bool (decide ((List.getD l_2 (Int.toNat t_11) ((0 : Int), ((0 : Int), ByteArray.empty))).2.1 > base_1)))))], [(0, .row (.pair (.int .i64) (.pair (.int .i64) .str)) l_2)], 2⟩ [(decide ((List.getD l_2 (Int.toNat t_11) ((0 : Int), ((0 : Int), ByteArray.empty))).1 < (0 : Int))) = false, (decide ((List.getD l_2 (Int.toNat t_11) ((0 : Int), ((0 : Int), ByteArray.empty))).1 > (List.getD l_2 (Int.toNat t_11) ((0 : Int), ((0 : Int), ByteArray.empty))).2.1)) = false] (by kernel_rfl) rfl rfl (ap2 b_17 (ap1 b_19)) (by kernel_rfl) (by kernel_rfl) ?_
                have H_89 := Option.some.inj (show some (decide ((List.getD l_2 (Int.toNat t_11) ((0 : Int), ((0 : Int), ByteArray.empty))).2.1 > base_1)) = some q_79 from H_87); subst H_89
                refine VL_nil ?_
                exact QP_end (decide ((List.getD l_2 (Int.toNat t_11) ((0 : Int), ((0 : Int), ByteArray.empty))).2.1 > base_1)) rfl [] hn (by kernel_rfl) (by kernel_rfl) rfl rfl rfl
          · intro y_82 hy; subst hy
            skip
            skip
            refine VL_cond (y_82) (by kernel_rfl) ?_ ?_
            · intro b_23; have H_90 := of_t H_81 b_23
              refine V_run hN hn 2 2 [4] [0] ⟨[(4, .c (.val (.int .i64 (10 : Int))))], [(0, .row (.pair (.int .i64) (.pair (.int .i64) .str)) l_2)], 2⟩ [] (by kernel_rfl) rfl rfl ap0 ?_
              have H_92 := Option.some.inj (show some (Sum.inl (10 : Int)) = some q_70 from H_90); subst H_92
              have H_93 := Option.some.inj (show some (10 : Int) = some r from H_72); subst H_93
              refine VL_ret ?_
              refine QB_ret ?_
              refine QL_ret ?_
              refine QB_ret ?_
              refine QP_ret ?_
              exact P_to [(4, .c (.val (.int .i64 (10 : Int))))] [(0, .row (.pair (.int .i64) (.pair (.int .i64) .str)) l_2)] [] hn (by kernel_rfl) (by kernel_rfl) rfl rfl rfl (QF_retS (by kernel_rfl) (by kernel_rfl) rfl)
            · intro b_23; have H_91 := of_f H_81 b_23
              refine V_run hN hn 1 2 [0, 1, 15, 16, 17, 36] [0] ⟨[(0, .c (.val (.int .i64 base_1))), (1, .c (.h 0)), (15, .c (.h 0)), (16, .c (.val (.int .i64 (((List.length l_2) : Nat) : Int)))), (17, .c (.val (.int .i64 t_11))), (36, .c (.val (.bool y_82)))], [(0, .row (.pair (.int .i64) (.pair (.int .i64) .str)) l_2)], 2⟩ [] (by kernel_rfl) rfl rfl ap0 ?_
              refine VL_nil (QB_end ?_)
              refine V_run hN hn 1 2 [0, 1, 15, 16, 17] [0] ⟨[(0, .c (.val (.int .i64 base_1))), (1, .c (.h 0)), (15, .c (.h 0)), (16, .c (.val (.int .i64 (((List.length l_2) : Nat) : Int)))), (17, .c (.val (.int .i64 (IntKind.wrap .i64 (t_11 + (1 : Int))))))], [(0, .row (.pair (.int .i64) (.pair (.int .i64) .str)) l_2)], 2⟩ [] (by kernel_rfl) rfl rfl ap0 ?_
              refine VL_nil ?_
              exact V_roundEnd (IntKind.wrap .i64 (t_11 + (1 : Int))) H_91 [] hn (by kernel_rfl) (by kernel_rfl) rfl rfl rfl
        · intro b_14; have H_77 := of_f H_75 b_14
          refine VL_exit ?_
          refine QL_exit ?_
          refine QB_here ?_
          have H_94 := Option.some.inj (show some (Sum.inr ()) = some q_70 from H_77); subst H_94
          refine VL_nil ?_
          exact QP_end () rfl [] hn (by kernel_rfl) (by kernel_rfl) rfl rfl rfl
      · intro y_73 hy; subst hy
        skip
        refine V_run hN hn 2 1 [0, 1] [0] ⟨[(0, .c (.val (.int .i64 base_1))), (1, .c (.h 0))], [(0, .row (.pair (.int .i64) (.pair (.int .i64) .str)) l_2)], 1⟩ [] (by kernel_rfl) rfl rfl ap0 ?_
        obtain ⟨r_28, h_29, H_95⟩ := of_bind H_72
        refine V_reg hN hn [(1, ⟨43, 1, [.c (.h 0)], [(0, .row (.pair (.int .i64) (.pair (.int .i64) .str)) l_2)], .c (.val (.bool r_28)), [(0, .row (.pair (.int .i64) (.pair (.int .i64) .str)) l_2)], [(0, 0)], 1⟩)] [] (calls_cons (delta_Ordered_r_spec K l_2 r_28 h_29) (by kernel_rfl) calls_nil) 1 [0, 1, 40] [0] ⟨[(0, .c (.val (.int .i64 base_1))), (1, .c (.h 0)), (40, .c (.val (.bool (!r_28))))], [(0, .row (.pair (.int .i64) (.pair (.int .i64) .str)) l_2)], 1⟩ [] (by kernel_rfl) rfl rfl ap0 (by kernel_rfl) (by kernel_rfl) ?_
        refine VL_cond ((!r_28)) (by kernel_rfl) ?_ ?_
        · intro b_31; have H_96 := of_t H_95 b_31
          refine V_run hN hn 2 1 [4] [0] ⟨[(4, .c (.val (.int .i64 (180 : Int))))], [(0, .row (.pair (.int .i64) (.pair (.int .i64) .str)) l_2)], 1⟩ [] (by kernel_rfl) rfl rfl ap0 ?_
          have H_98 := Option.some.inj (show some (180 : Int) = some r from H_96); subst H_98
          refine VL_ret ?_
          exact P_to [(4, .c (.val (.int .i64 (180 : Int))))] [(0, .row (.pair (.int .i64) (.pair (.int .i64) .str)) l_2)] [] hn (by kernel_rfl) (by kernel_rfl) rfl rfl rfl (QF_retS (by kernel_rfl) (by kernel_rfl) rfl)
        · intro b_31; have H_97 := of_f H_95 b_31
          refine V_run hN hn 4 1 [0, 1, 41, 42, 43] [0] ⟨[(0, .c (.val (.int .i64 base_1))), (1, .c (.h 0)), (41, .c (.h 0)), (42, .c (.val (.int .i64 (((List.length l_2) : Nat) : Int)))), (43, .c (.val (.int .i64 (0 : Int))))], [(0, .row (.pair (.int .i64) (.pair (.int .i64) .str)) l_2)], 1⟩ [] (by kernel_rfl) rfl rfl ap0 ?_
          obtain ⟨q_99, H_100, H_101⟩ := of_bind H_97
          refine V_cut (Y := Unit) (R := (Int ⊕ Unit)) q_99 (fun y => (Sum.inr y)) (fun y => [(0, .c (.val (.int .i64 base_1))), (1, .c (.h 0))]) (fun y => [(0, .row (.pair (.int .i64) (.pair (.int .i64) .str)) l_2)]) ?_ ?_
          · skip
            refine VL_block ?_
            refine V_to [(0, .c (.val (.int .i64 base_1))), (1, .c (.h 0)), (41, .c (.h 0)), (42, .c (.val (.int .i64 (((List.length l_2) : Nat) : Int)))), (43, .c (.val (.int .i64 (0 : Int))))] [(0, .row (.pair (.int .i64) (.pair (.int .i64) .str)) l_2)] [] hn (by kernel_rfl) (by kernel_rfl) rfl rfl rfl ?_
            refine VL_loop (X := Int) (fun x => [(0, .c (.val (.int .i64 base_1))), (1, .c (.h 0)), (41, .c (.h 0)), (42, .c (.val (.int .i64 (((List.length l_2) : Nat) : Int)))), (43, .c (.val (.int .i64 x)))]) (fun x => [(0, .row (.pair (.int .i64) (.pair (.int .i64) .str)) l_2)]) (fun k x => delta_check_gr.l1 K l_2 k x = some q_99) K (0 : Int) H_100 (fun _ h => no_none h) ?_
            intro k_35 t_34 H_103
            have H_104 : delta_check_gr.l1 K l_2 (k_35 + 1) t_34 = some q_99 := H_103
            rw [delta_check_gr.l1] at H_104
            refine V_run hN hn 3 1 [0, 1, 41, 42, 43, 44] [0] ⟨[(0, .c (.val (.int .i64 base_1))), (1, .c (.h 0)), (41, .c (.h 0)), (42, .c (.val (.int .i64 (((List.length l_2) : Nat) : Int)))), (43, .c (.val (.int .i64 t_34))), (44, .c (.val (.bool (decide (t_34 < (((List.length l_2) : Nat) : Int))))))], [(0, .row (.pair (.int .i64) (.pair (.int .i64) .str)) l_2)], 1⟩ [] (by kernel_rfl) rfl rfl ap0 ?_
            refine VL_cond ((decide (t_34 < (((List.length l_2) : Nat) : Int)))) (by kernel_rfl) ?_ ?_
            · intro b_37; have H_105 := of_t H_104 b_37
              refine V_run hN hn 2 1 [0, 1, 41, 42, 43, 44] [0] ⟨[(0, .c (.val (.int .i64 base_1))), (1, .c (.h 0)), (41, .c (.h 0)), (42, .c (.val (.int .i64 (((List.length l_2) : Nat) : Int)))), (43, .c (.val (.int .i64 t_34))), (44, .c (.val (.bool (decide (t_34 < (((List.length l_2) : Nat) : Int))))))], [(0, .row (.pair (.int .i64) (.pair (.int .i64) .str)) l_2)], 1⟩ [] (by kernel_rfl) rfl rfl ap0 ?_
              refine VL_block ?_
              obtain ⟨c_39, H_107⟩ := of_if H_105
              refine V_run hN hn 3 1 [0, 1, 8, 41, 42, 43] [0, 1] ⟨[(0, .c (.val (.int .i64 base_1))), (1, .c (.h 0)), (8, .c (.h 1)), (41, .c (.h 0)), (42, .c (.val (.int .i64 (((List.length l_2) : Nat) : Int)))), (43, .c (.val (.int .i64 t_34)))], [(0, .row (.pair (.int .i64) (.pair (.int .i64) .str)) l_2), (1, .box [.val (.int .i64 (List.getD l_2 (Int.toNat t_34) ((0 : Int), ((0 : Int), ByteArray.empty))).1), .val (.int .i64 (List.getD l_2 (Int.toNat t_34) ((0 : Int), ((0 : Int), ByteArray.empty))).2.1), .val (.string (List.getD l_2 (Int.toNat t_34) ((0 : Int), ((0 : Int), ByteArray.empty))).2.2)])], 2⟩ [0 ≤ t_34, t_34 < (((List.length l_2) : Nat) : Int)] (by kernel_rfl) rfl rfl (ap2 c_39.1 (ap1 c_39.2)) ?_
              obtain ⟨r_40, h_41, H_108⟩ := of_bind H_107
              refine V_reg hN hn [(2, ⟨44, 0, [.c (.val (.string (List.getD l_2 (Int.toNat t_34) ((0 : Int), ((0 : Int), ByteArray.empty))).2.2))], [], .c (.val (.bool r_40)), [], [], 2⟩)] [] (calls_cons (utf_Valid_spec K (List.getD l_2 (Int.toNat t_34) ((0 : Int), ((0 : Int), ByteArray.empty))).2.2 r_40 h_41) (by kernel_rfl) calls_nil) 2 [0, 1, 41, 42, 43, 50] [0] ⟨[(0, .c (.val (.int .i64 base_1))), (1, .c (.h 0)), (41, .c (.h 0)), (42, .c (.val (.int .i64 (((List.length l_2) : Nat) : Int)))), (43, .c (.val (.int .i64 t_34))), (50, .c (.val (.bool (!r_40))))], [(0, .row (.pair (.int .i64) (.pair (.int .i64) .str)) l_2)], 2⟩ [] (by kernel_rfl) rfl rfl ap0 (by kernel_rfl) (by kernel_rfl) ?_
              refine VL_cond ((!r_40)) (by kernel_rfl) ?_ ?_
              · intro b_43; have H_109 := of_t H_108 b_43
                refine V_run hN hn 2 2 [4] [0] ⟨[(4, .c (.val (.int .i64 (12 : Int))))], [(0, .row (.pair (.int .i64) (.pair (.int .i64) .str)) l_2)], 2⟩ [] (by kernel_rfl) rfl rfl ap0 ?_
                have H_111 := Option.some.inj (show some (Sum.inl (12 : Int)) = some q_99 from H_109); subst H_111
                have H_112 := Option.some.inj (show some (12 : Int) = some r from H_101); subst H_112
                refine VL_ret ?_
                refine QB_ret ?_
                refine QL_ret ?_
                refine QB_ret ?_
                refine QP_ret ?_
                exact P_to [(4, .c (.val (.int .i64 (12 : Int))))] [(0, .row (.pair (.int .i64) (.pair (.int .i64) .str)) l_2)] [] hn (by kernel_rfl) (by kernel_rfl) rfl rfl rfl (QF_retS (by kernel_rfl) (by kernel_rfl) rfl)
              · intro b_43; have H_110 := of_f H_108 b_43
                refine V_run hN hn 1 2 [0, 1, 41, 42, 43, 50] [0] ⟨[(0, .c (.val (.int .i64 base_1))), (1, .c (.h 0)), (41, .c (.h 0)), (42, .c (.val (.int .i64 (((List.length l_2) : Nat) : Int)))), (43, .c (.val (.int .i64 t_34))), (50, .c (.val (.bool (!r_40))))], [(0, .row (.pair (.int .i64) (.pair (.int .i64) .str)) l_2)], 2⟩ [] (by kernel_rfl) rfl rfl ap0 ?_
                refine VL_nil (QB_end ?_)
                refine V_run hN hn 1 2 [0, 1, 41, 42, 43] [0] ⟨[(0, .c (.val (.int .i64 base_1))), (1, .c (.h 0)), (41, .c (.h 0)), (42, .c (.val (.int .i64 (((List.length l_2) : Nat) : Int)))), (43, .c (.val (.int .i64 (IntKind.wrap .i64 (t_34 + (1 : Int))))))], [(0, .row (.pair (.int .i64) (.pair (.int .i64) .str)) l_2)], 2⟩ [] (by kernel_rfl) rfl rfl ap0 ?_
                refine VL_nil ?_
                exact V_roundEnd (IntKind.wrap .i64 (t_34 + (1 : Int))) H_110 [] hn (by kernel_rfl) (by kernel_rfl) rfl rfl rfl
            · intro b_37; have H_106 := of_f H_104 b_37
              refine VL_exit ?_
              refine QL_exit ?_
              refine QB_here ?_
              have H_113 := Option.some.inj (show some (Sum.inr ()) = some q_99 from H_106); subst H_113
              refine VL_nil ?_
              exact QP_end () rfl [] hn (by kernel_rfl) (by kernel_rfl) rfl rfl rfl
          · intro y_102 hy; subst hy
            skip
            refine V_run hN hn 1 1 [0, 1] [0] ⟨[(0, .c (.val (.int .i64 base_1))), (1, .c (.h 0))], [(0, .row (.pair (.int .i64) (.pair (.int .i64) .str)) l_2)], 1⟩ [] (by kernel_rfl) rfl rfl ap0 ?_
            obtain ⟨r_48, h_49, H_114⟩ := of_bind H_101
            refine V_reg hN hn [(2, ⟨45, 1, [.c (.val (.int .i64 base_1)), .c (.h 0)], [(0, .row (.pair (.int .i64) (.pair (.int .i64) .str)) l_2)], .c (.val (.int .i64 r_48)), [(0, .row (.pair (.int .i64) (.pair (.int .i64) .str)) l_2)], [(0, 0)], 1⟩)] [] (calls_cons (delta_long_gr_spec K base_1 l_2 r_48 h_49) (by kernel_rfl) calls_nil) 1 [4] [0] ⟨[(4, .c (.val (.int .i64 r_48)))], [(0, .row (.pair (.int .i64) (.pair (.int .i64) .str)) l_2)], 1⟩ [] (by kernel_rfl) rfl rfl ap0 (by kernel_rfl) (by kernel_rfl) ?_
            have H_115 := Option.some.inj (show some r_48 = some r from H_114); subst H_115
            refine VL_ret ?_
            exact P_to [(4, .c (.val (.int .i64 r_48)))] [(0, .row (.pair (.int .i64) (.pair (.int .i64) .str)) l_2)] [] hn (by kernel_rfl) (by kernel_rfl) rfl rfl rfl (QF_retS (by kernel_rfl) (by kernel_rfl) rfl)

theorem delta_NewMaker_spec (K : Nat) (base_1 : Int) (r : Unit) (H : delta_NewMaker K base_1 = some r) : Spec Try.prog 33 0 [.c (.val (.int .i64 base_1))] [] (.c (.h 0)) [(0, .box [.val (.int .i64 base_1), .val (.slice none 0 0)])] := by
  refine Spec_mk (fn := Try.f33) (c := (Try.f33.body).get!) Try.func33 (by kernel_rfl) rfl ?_
  intro C hN hn
  replace hN : C.N = 7 := hN
  unfold delta_NewMaker at H
  refine V_run hN hn 4 0 [2] [0] ⟨[(2, .c (.h 0))], [(0, .box [.val (.int .i64 base_1), .val (.slice none 0 0)])], 1⟩ [] (by kernel_rfl) rfl rfl ap0 ?_
  have H_3 := Option.some.inj (show some () = some r from H); subst H_3
  refine VL_ret ?_
  exact P_to [(2, .c (.h 0))] [(0, .box [.val (.int .i64 base_1), .val (.slice none 0 0)])] [(0, 0)] hn (by kernel_rfl) (by kernel_rfl) rfl rfl rfl (QF_retS (by kernel_rfl) (by kernel_rfl) rfl)

theorem delta_Maker_Put_bg_92925_spec (K : Nat) (m_1 : Int) (m_2 : (List (Int × (Int × ByteArray)))) (s_3 : ByteArray) (r : (List (Int × (Int × ByteArray)))) (H : delta_Maker_Put_bg_92925 K m_1 m_2 s_3 = some r) : Spec Try.prog 35 2 [.c (.h 0), .c (.val (.string s_3))] [(0, .box [.val (.int .i64 m_1), .h 1]), (1, .row (.pair (.int .i64) (.pair (.int .i64) .str)) m_2)] (.tup []) [(0, .box [.val (.int .i64 m_1), .h 4]), (4, .row (.pair (.int .i64) (.pair (.int .i64) .str)) r)] := by
  refine Spec_mk (fn := Try.f35) (c := (Try.f35.body).get!) Try.func35 (by kernel_rfl) rfl ?_
  intro C hN hn
  replace hN : C.N = 54 := hN
  unfold delta_Maker_Put_bg_92925 at H
  refine V_run hN hn 3 2 [0, 1, 6] [0, 1] ⟨[(0, .c (.h 0)), (1, .c (.val (.string s_3))), (6, .c (.val (.bool (ByteArray.toList s_3 == ByteArray.toList (ByteArray.mk #[])))))], [(0, .box [.val (.int .i64 m_1), .h 1]), (1, .row (.pair (.int .i64) (.pair (.int .i64) .str)) m_2)], 2⟩ [] (by kernel_rfl) rfl rfl ap0 ?_
  refine VL_cond ((ByteArray.toList s_3 == ByteArray.toList (ByteArray.mk #[]))) (by kernel_rfl) ?_ ?_
  · intro b_5; have H_18 := of_t H b_5
    have H_20 := Option.some.inj (show some m_2 = some r from H_18); subst H_20
    refine VL_ret ?_
    exact P_to [] [(0, .box [.val (.int .i64 m_1), .h 4]), (4, .row (.pair (.int .i64) (.pair (.int .i64) .str)) m_2)] [(4, 1)] hn (by kernel_rfl) (by kernel_rfl) rfl rfl rfl (QF_retS (by kernel_rfl) (by kernel_rfl) rfl)
  · intro b_5; have H_19 := of_f H b_5
    refine V_run hN hn 4 2 [0, 1, 4] [0, 1] ⟨[(0, .c (.h 0)), (1, .c (.val (.string s_3))), (4, .c (.val (.int .i64 (IntKind.wrap .i64 ((((List.length m_2) : Nat) : Int) - (1 : Int))))))], [(0, .box [.val (.int .i64 m_1), .h 1]), (1, .row (.pair (.int .i64) (.pair (.int .i64) .str)) m_2)], 2⟩ [] (by kernel_rfl) rfl rfl ap0 ?_
    obtain ⟨q_21, H_22, H_23⟩ := of_bind H_19
    refine V_cut (Y := Bool) (R := Bool) q_21 (fun y => y) (fun y => [(0, .c (.h 0)), (1, .c (.val (.string s_3))), (4, .c (.val (.int .i64 (IntKind.wrap .i64 ((((List.length m_2) : Nat) : Int) - (1 : Int)))))), (27, .c (.val (.bool y)))]) (fun y => [(0, .box [.val (.int .i64 m_1), .h 1]), (1, .row (.pair (.int .i64) (.pair (.int .i64) .str)) m_2)]) ?_ ?_
    · skip
      rcases Bool.eq_false_or_eq_true ((decide ((IntKind.wrap .i64 ((((List.length m_2) : Nat) : Int) - (1 : Int))) ≥ (0 : Int)))) with b_7 | b_7
      · have H_25 := of_t H_22 b_7
        obtain ⟨r_8, h_9, H_27⟩ := of_bind H_25
        obtain ⟨c_10, H_28⟩ := of_if H_27
        refine V_reg hN hn [(11, ⟨38, 0, [.agg [.val (.int .i64 (List.getD m_2 (Int.toNat (IntKind.wrap .i64 ((((List.length m_2) : Nat) : Int) - (1 : Int)))) ((0 : Int), ((0 : Int), ByteArray.empty))).1), .val (.int .i64 (List.getD m_2 (Int.toNat (IntKind.wrap .i64 ((((List.length m_2) : Nat) : Int) - (1 : Int)))) ((0 : Int), ((0 : Int), ByteArray.empty))).2.1), .val (.string (List.getD m_2 (Int.toNat (IntKind.wrap .i64 ((((List.length m_2) : Nat) : Int) - (1 : Int)))) ((0 : Int), ((0 : Int), ByteArray.empty))).2.2)]], [], .c (.val (.bool r_8)), [], [], 2⟩)] [(16, true)] (calls_cons (delta_IsCopy_spec K (List.getD m_2 (Int.toNat (IntKind.wrap .i64 ((((List.length m_2) : Nat) : Int) - (1 : Int)))) ((0 : Int), ((0 : Int), ByteArray.empty))).1 (List.getD m_2 (Int.toNat (IntKind.wrap .i64 ((((List.length m_2) : Nat) : Int) - (1 : Int)))) ((0 : Int), ((0 : Int), ByteArray.empty))).2.1 (List.getD m_2 (Int.toNat (IntKind.wrap .i64 ((((List.length m_2) : Nat) : Int) - (1 : Int)))) ((0 : Int), ((0 : Int), ByteArray.empty))).2.2 r_8 h_9) (by kernel_rfl) calls_nil) 2 [0, 1, 4, 27] [0, 1] ⟨[(0, .c (.h 0)), (1, .c (.val (.string s_3))), (4, .c (.val (.int .i64 (IntKind.wrap .i64 ((((List.length m_2) : Nat) : Int) - (1 : Int)))))), (27, .c (.val (.bool (!r_8))))], [(0, .box [.val (.int .i64 m_1), .h 1]), (1, .row (.pair (.int .i64) (.pair (.int .i64) .str)) m_2)], 2⟩ [(decide ((IntKind.wrap .i64 ((((List.length m_2) : Nat) : Int) - (1 : Int))) ≥ (0 : Int))) = true, 0 ≤ (IntKind.wrap .i64 ((((List.length m_2) : Nat) : Int) - (1 : Int))), (IntKind.wrap .i64 ((((List.length m_2) : Nat) : Int) - (1 : Int))) < (((List.length m_2) : Nat) : Int)] (by kernel_rfl) rfl rfl (ap2 b_7 (ap2 c_10.1 (ap1 c_10.2))) (by kernel_rfl) (by kernel_rfl) ?_
        have H_29 := Option.some.inj (show some (!r_8) = some q_21 from H_28); subst H_29
        refine VL_nil ?_
        exact QP_end (!r_8) rfl [] hn (by kernel_rfl) (by kernel_rfl) rfl rfl rfl
      · have H_26 := of_f H_22 b_7
        refine V_reg hN hn [] [(16, false)] calls_nil 2 [0, 1, 4, 27] [0, 1] ⟨[(0, .c (.h 0)), (1, .c (.val (.string s_3))), (4, .c (.val (.int .i64 (IntKind.wrap .i64 ((((List.length m_2) : Nat) : Int) - (1 : Int)))))), (27, .c (.val (.bool false)))], [(0, .box [.val (.int .i64 m_1), .h 1]), (1, .row (.pair (.int .i64) (.pair (.int .i64) .str)) m_2)], 2⟩ [(decide ((IntKind.wrap .i64 ((((List.length m_2) : Nat) : Int) - (1 : Int))) ≥ (0 : Int))) = false] (by kernel_rfl) rfl rfl (ap1 b_7) (by kernel_rfl) (by kernel_rfl) ?_
        have H_30 := Option.some.inj (show some false = some q_21 from H_26); subst H_30
        refine VL_nil ?_
        exact QP_end false rfl [] hn (by kernel_rfl) (by kernel_rfl) rfl rfl rfl
    · intro y_24 hy; subst hy
      skip
      skip
      refine VL_cond (y_24) (by kernel_rfl) ?_ ?_
      · intro b_13; have H_31 := of_t H_23 b_13
        obtain ⟨c_14, H_33⟩ := of_if H_31
        refine V_run hN hn 1 2 [] [0, 1] ⟨[], [(0, .box [.val (.int .i64 m_1), .h 1]), (1, .row (.pair (.int .i64) (.pair (.int .i64) .str)) (List.set m_2 (Int.toNat (IntKind.wrap .i64 ((((List.length m_2) : Nat) : Int) - (1 : Int)))) ((List.getD m_2 (Int.toNat (IntKind.wrap .i64 ((((List.length m_2) : Nat) : Int) - (1 : Int)))) ((0 : Int), ((0 : Int), ByteArray.empty))).1, ((List.getD m_2 (Int.toNat (IntKind.wrap .i64 ((((List.length m_2) : Nat) : Int) - (1 : Int)))) ((0 : Int), ((0 : Int), ByteArray.empty))).2.1, ((List.getD m_2 (Int.toNat (IntKind.wrap .i64 ((((List.length m_2) : Nat) : Int) - (1 : Int)))) ((0 : Int), ((0 : Int), ByteArray.empty))).2.2 ++ s_3)))))], 2⟩ [0 ≤ (IntKind.wrap .i64 ((((List.length m_2) : Nat) : Int) - (1 : Int))), (IntKind.wrap .i64 ((((List.length m_2) : Nat) : Int) - (1 : Int))) < (((List.length m_2) : Nat) : Int), ByteArray.size (List.getD m_2 (Int.toNat (IntKind.wrap .i64 ((((List.length m_2) : Nat) : Int) - (1 : Int)))) ((0 : Int), ((0 : Int), ByteArray.empty))).2.2 + ByteArray.size s_3 ≤ 9223372036854775807, 0 ≤ (IntKind.wrap .i64 ((((List.length m_2) : Nat) : Int) - (1 : Int))), (IntKind.wrap .i64 ((((List.length m_2) : Nat) : Int) - (1 : Int))) < (((List.length m_2) : Nat) : Int)] (by kernel_rfl) rfl rfl (ap2 c_14.1 (ap2 c_14.2.1 (ap2 c_14.2.2 (ap2 c_14.1 (ap1 c_14.2.1))))) ?_
        have H_34 := Option.some.inj (show some (List.set m_2 (Int.toNat (IntKind.wrap .i64 ((((List.length m_2) : Nat) : Int) - (1 : Int)))) ((List.getD m_2 (Int.toNat (IntKind.wrap .i64 ((((List.length m_2) : Nat) : Int) - (1 : Int)))) ((0 : Int), ((0 : Int), ByteArray.empty))).1, ((List.getD m_2 (Int.toNat (IntKind.wrap .i64 ((((List.length m_2) : Nat) : Int) - (1 : Int)))) ((0 : Int), ((0 : Int), ByteArray.empty))).2.1, ((List.getD m_2 (Int.toNat (IntKind.wrap .i64 ((((List.length m_2) : Nat) : Int) - (1 : Int)))) ((0 : Int), ((0 : Int), ByteArray.empty))).2.2 ++ s_3)))) = some r from H_33); subst H_34
        refine VL_nil ?_
        exact P_to [] [(0, .box [.val (.int .i64 m_1), .h 4]), (4, .row (.pair (.int .i64) (.pair (.int .i64) .str)) (List.set m_2 (Int.toNat (IntKind.wrap .i64 ((((List.length m_2) : Nat) : Int) - (1 : Int)))) ((List.getD m_2 (Int.toNat (IntKind.wrap .i64 ((((List.length m_2) : Nat) : Int) - (1 : Int)))) ((0 : Int), ((0 : Int), ByteArray.empty))).1, ((List.getD m_2 (Int.toNat (IntKind.wrap .i64 ((((List.length m_2) : Nat) : Int) - (1 : Int)))) ((0 : Int), ((0 : Int), ByteArray.empty))).2.1, ((List.getD m_2 (Int.toNat (IntKind.wrap .i64 ((((List.length m_2) : Nat) : Int) - (1 : Int)))) ((0 : Int), ((0 : Int), ByteArray.empty))).2.2 ++ s_3)))))] [(4, 1)] hn (by kernel_rfl) (by kernel_rfl) rfl rfl rfl (QF_endS (by kernel_rfl) (by kernel_rfl) rfl)
      · intro b_13; have H_32 := of_f H_23 b_13
        obtain ⟨c_15, H_35⟩ := of_if H_32
        refine V_run hN hn 1 2 [] [0, 3] ⟨[], [(0, .box [.val (.int .i64 m_1), .h 3]), (3, .row (.pair (.int .i64) (.pair (.int .i64) .str)) (m_2 ++ ([((0 : Int), ((0 : Int), s_3))] : List (Int × (Int × ByteArray)))))], 4⟩ [(List.length m_2 + List.length ([((0 : Int), ((0 : Int), s_3))] : List (Int × (Int × ByteArray)))) * 32 ≤ 140737488355328] (by kernel_rfl) rfl rfl (ap1 c_15) ?_
        have H_36 := Option.some.inj (show some (m_2 ++ ([((0 : Int), ((0 : Int), s_3))] : List (Int × (Int × ByteArray)))) = some r from H_35); subst H_36
        refine VL_nil ?_
        exact P_to [] [(0, .box [.val (.int .i64 m_1), .h 4]), (4, .row (.pair (.int .i64) (.pair (.int .i64) .str)) (m_2 ++ ([((0 : Int), ((0 : Int), s_3))] : List (Int × (Int × ByteArray)))))] [(4, 3)] hn (by kernel_rfl) (by kernel_rfl) rfl rfl rfl (QF_endS (by kernel_rfl) (by kernel_rfl) rfl)

theorem delta_Maker_Copy_bgg_11dec_spec (K : Nat) (m_1 : Int) (m_2 : (List (Int × (Int × ByteArray)))) (from_3 : Int) (to_4 : Int) (r : (List (Int × (Int × ByteArray)))) (H : delta_Maker_Copy_bgg_11dec K m_1 m_2 from_3 to_4 = some r) : Spec Try.prog 34 2 [.c (.h 0), .c (.val (.int .i64 from_3)), .c (.val (.int .i64 to_4))] [(0, .box [.val (.int .i64 m_1), .h 1]), (1, .row (.pair (.int .i64) (.pair (.int .i64) .str)) m_2)] (.tup []) [(0, .box [.val (.int .i64 m_1), .h 4]), (4, .row (.pair (.int .i64) (.pair (.int .i64) .str)) r)] := by
  refine Spec_mk (fn := Try.f34) (c := (Try.f34.body).get!) Try.func34 (by kernel_rfl) rfl ?_
  intro C hN hn
  replace hN : C.N = 66 := hN
  unfold delta_Maker_Copy_bgg_11dec at H
  refine V_run hN hn 3 2 [0, 1, 2, 9] [0, 1] ⟨[(0, .c (.h 0)), (1, .c (.val (.int .i64 from_3))), (2, .c (.val (.int .i64 to_4))), (9, .c (.val (.bool (from_3 == to_4))))], [(0, .box [.val (.int .i64 m_1), .h 1]), (1, .row (.pair (.int .i64) (.pair (.int .i64) .str)) m_2)], 2⟩ [] (by kernel_rfl) rfl rfl ap0 ?_
  refine VL_cond ((from_3 == to_4)) (by kernel_rfl) ?_ ?_
  · intro b_6; have H_21 := of_t H b_6
    have H_23 := Option.some.inj (show some m_2 = some r from H_21); subst H_23
    refine VL_ret ?_
    exact P_to [] [(0, .box [.val (.int .i64 m_1), .h 4]), (4, .row (.pair (.int .i64) (.pair (.int .i64) .str)) m_2)] [(4, 1)] hn (by kernel_rfl) (by kernel_rfl) rfl rfl rfl (QF_retS (by kernel_rfl) (by kernel_rfl) rfl)
  · intro b_6; have H_22 := of_f H b_6
    refine V_run hN hn 4 2 [0, 1, 2, 6] [0, 1] ⟨[(0, .c (.h 0)), (1, .c (.val (.int .i64 from_3))), (2, .c (.val (.int .i64 to_4))), (6, .c (.val (.int .i64 (IntKind.wrap .i64 ((((List.length m_2) : Nat) : Int) - (1 : Int))))))], [(0, .box [.val (.int .i64 m_1), .h 1]), (1, .row (.pair (.int .i64) (.pair (.int .i64) .str)) m_2)], 2⟩ [] (by kernel_rfl) rfl rfl ap0 ?_
    obtain ⟨q_24, H_25, H_26⟩ := of_bind H_22
    refine V_cut (Y := Bool) (R := Bool) q_24 (fun y => y) (fun y => [(0, .c (.h 0)), (1, .c (.val (.int .i64 from_3))), (2, .c (.val (.int .i64 to_4))), (6, .c (.val (.int .i64 (IntKind.wrap .i64 ((((List.length m_2) : Nat) : Int) - (1 : Int)))))), (42, .c (.val (.bool y)))]) (fun y => [(0, .box [.val (.int .i64 m_1), .h 1]), (1, .row (.pair (.int .i64) (.pair (.int .i64) .str)) m_2)]) ?_ ?_
    · skip
      rcases Bool.eq_false_or_eq_true ((decide ((IntKind.wrap .i64 ((((List.length m_2) : Nat) : Int) - (1 : Int))) ≥ (0 : Int)))) with b_8 | b_8
      · have H_28 := of_t H_25 b_8
        obtain ⟨r_9, h_10, H_30⟩ := of_bind H_28
        rcases Bool.eq_false_or_eq_true (r_9) with b_11 | b_11
        · have H_31 := of_t H_30 b_11
          obtain ⟨c_12, H_33⟩ := of_if H_31
          refine V_reg hN hn [(11, ⟨38, 0, [.agg [.val (.int .i64 (List.getD m_2 (Int.toNat (IntKind.wrap .i64 ((((List.length m_2) : Nat) : Int) - (1 : Int)))) ((0 : Int), ((0 : Int), ByteArray.empty))).1), .val (.int .i64 (List.getD m_2 (Int.toNat (IntKind.wrap .i64 ((((List.length m_2) : Nat) : Int) - (1 : Int)))) ((0 : Int), ((0 : Int), ByteArray.empty))).2.1), .val (.string (List.getD m_2 (Int.toNat (IntKind.wrap .i64 ((((List.length m_2) : Nat) : Int) - (1 : Int)))) ((0 : Int), ((0 : Int), ByteArray.empty))).2.2)]], [], .c (.val (.bool r_9)), [], [], 2⟩)] [(19, true), (30, true)] (calls_cons (delta_IsCopy_spec K (List.getD m_2 (Int.toNat (IntKind.wrap .i64 ((((List.length m_2) : Nat) : Int) - (1 : Int)))) ((0 : Int), ((0 : Int), ByteArray.empty))).1 (List.getD m_2 (Int.toNat (IntKind.wrap .i64 ((((List.length m_2) : Nat) : Int) - (1 : Int)))) ((0 : Int), ((0 : Int), ByteArray.empty))).2.1 (List.getD m_2 (Int.toNat (IntKind.wrap .i64 ((((List.length m_2) : Nat) : Int) - (1 : Int)))) ((0 : Int), ((0 : Int), ByteArray.empty))).2.2 r_9 h_10) (by kernel_rfl) calls_nil) 2 [0, 1, 2, 6, 42] [0, 1] ⟨[(0, .c (.h 0)), (1, .c (.val (.int .i64 from_3))), (2, .c (.val (.int .i64 to_4))), (6, .c (.val (.int .i64 (IntKind.wrap .i64 ((((List.length m_2) : Nat) : Int) - (1 : Int)))))), (42, .c (.val (.bool ((List.getD m_2 (Int.toNat (IntKind.wrap .i64 ((((List.length m_2) : Nat) : Int) - (1 : Int)))) ((0 : Int), ((0 : Int), ByteArray.empty))).2.1 == from_3))))], [(0, .box [.val (.int .i64 m_1), .h 1]), (1, .row (.pair (.int .i64) (.pair (.int .i64) .str)) m_2)], 2⟩ [(decide ((IntKind.wrap .i64 ((((List.length m_2) : Nat) : Int) - (1 : Int))) ≥ (0 : Int))) = true, 0 ≤ (IntKind.wrap .i64 ((((List.length m_2) : Nat) : Int) - (1 : Int))), (IntKind.wrap .i64 ((((List.length m_2) : Nat) : Int) - (1 : Int))) < (((List.length m_2) : Nat) : Int), r_9 = true, 0 ≤ (IntKind.wrap .i64 ((((List.length m_2) : Nat) : Int) - (1 : Int))), (IntKind.wrap .i64 ((((List.length m_2) : Nat) : Int) - (1 : Int))) < (((List.length m_2) : Nat) : Int)] (by kernel_rfl) rfl rfl (ap2 b_8 (ap2 c_12.1 (ap2 c_12.2 (ap2 b_11 (ap2 c_12.1 (ap1 c_12.2)))))) (by kernel_rfl) (by kernel_rfl) ?_
          have H_34 := Option.some.inj (show some ((List.getD m_2 (Int.toNat (IntKind.wrap .i64 ((((List.length m_2) : Nat) : Int) - (1 : Int)))) ((0 : Int), ((0 : Int), ByteArray.empty))).2.1 == from_3) = some q_24 from H_33); subst H_34
          refine VL_nil ?_
          exact QP_end ((List.getD m_2 (Int.toNat (IntKind.wrap .i64 ((((List.length m_2) : Nat) : Int) - (1 : Int)))) ((0 : Int), ((0 : Int), ByteArray.empty))).2.1 == from_3) rfl [] hn (by kernel_rfl) (by kernel_rfl) rfl rfl rfl
        · have H_32 := of_f H_30 b_11
          obtain ⟨c_13, H_35⟩ := of_if H_32
          refine V_reg hN hn [(11, ⟨38, 0, [.agg [.val (.int .i64 (List.getD m_2 (Int.toNat (IntKind.wrap .i64 ((((List.length m_2) : Nat) : Int) - (1 : Int)))) ((0 : Int), ((0 : Int), ByteArray.empty))).1), .val (.int .i64 (List.getD m_2 (Int.toNat (IntKind.wrap .i64 ((((List.length m_2) : Nat) : Int) - (1 : Int)))) ((0 : Int), ((0 : Int), ByteArray.empty))).2.1), .val (.string (List.getD m_2 (Int.toNat (IntKind.wrap .i64 ((((List.length m_2) : Nat) : Int) - (1 : Int)))) ((0 : Int), ((0 : Int), ByteArray.empty))).2.2)]], [], .c (.val (.bool r_9)), [], [], 2⟩)] [(19, true), (30, false)] (calls_cons (delta_IsCopy_spec K (List.getD m_2 (Int.toNat (IntKind.wrap .i64 ((((List.length m_2) : Nat) : Int) - (1 : Int)))) ((0 : Int), ((0 : Int), ByteArray.empty))).1 (List.getD m_2 (Int.toNat (IntKind.wrap .i64 ((((List.length m_2) : Nat) : Int) - (1 : Int)))) ((0 : Int), ((0 : Int), ByteArray.empty))).2.1 (List.getD m_2 (Int.toNat (IntKind.wrap .i64 ((((List.length m_2) : Nat) : Int) - (1 : Int)))) ((0 : Int), ((0 : Int), ByteArray.empty))).2.2 r_9 h_10) (by kernel_rfl) calls_nil) 2 [0, 1, 2, 6, 42] [0, 1] ⟨[(0, .c (.h 0)), (1, .c (.val (.int .i64 from_3))), (2, .c (.val (.int .i64 to_4))), (6, .c (.val (.int .i64 (IntKind.wrap .i64 ((((List.length m_2) : Nat) : Int) - (1 : Int)))))), (42, .c (.val (.bool false)))], [(0, .box [.val (.int .i64 m_1), .h 1]), (1, .row (.pair (.int .i64) (.pair (.int .i64) .str)) m_2)], 2⟩ [(decide ((IntKind.wrap .i64 ((((List.length m_2) : Nat) : Int) - (1 : Int))) ≥ (0 : Int))) = true, 0 ≤ (IntKind.wrap .i64 ((((List.length m_2) : Nat) : Int) - (1 : Int))), (IntKind.wrap .i64 ((((List.length m_2) : Nat) : Int) - (1 : Int))) < (((List.length m_2) : Nat) : Int), r_9 = false] (by kernel_rfl) rfl rfl (ap2 b_8 (ap2 c_13.1 (ap2 c_13.2 (ap1 b_11)))) (by kernel_rfl) (by kernel_rfl) ?_
          have H_36 := Option.some.inj (show some false = some q_24 from H_35); subst H_36
          refine VL_nil ?_
          exact QP_end false rfl [] hn (by kernel_rfl) (by kernel_rfl) rfl rfl rfl
      · have H_29 := of_f H_25 b_8
        refine V_reg hN hn [] [(19, false)] calls_nil 2 [0, 1, 2, 6, 42] [0, 1] ⟨[(0, .c (.h 0)), (1, .c (.val (.int .i64 from_3))), (2, .c (.val (.int .i64 to_4))), (6, .c (.val (.int .i64 (IntKind.wrap .i64 ((((List.length m_2) : Nat) : Int) - (1 : Int)))))), (42, .c (.val (.bool false)))], [(0, .box [.val (.int .i64 m_1), .h 1]), (1, .row (.pair (.int .i64) (.pair (.int .i64) .str)) m_2)], 2⟩ [(decide ((IntKind.wrap .i64 ((((List.length m_2) : Nat) : Int) - (1 : Int))) ≥ (0 : Int))) = false] (by kernel_rfl) rfl rfl (ap1 b_8) (by kernel_rfl) (by kernel_rfl) ?_
        have H_37 := Option.some.inj (show some false = some q_24 from H_29); subst H_37
        refine VL_nil ?_
        exact QP_end false rfl [] hn (by kernel_rfl) (by kernel_rfl) rfl rfl rfl
    · intro y_27 hy; subst hy
      skip
      skip
      refine VL_cond (y_27) (by kernel_rfl) ?_ ?_
      · intro b_16; have H_38 := of_t H_26 b_16
        obtain ⟨c_17, H_40⟩ := of_if H_38
        refine V_run hN hn 1 2 [] [0, 1] ⟨[], [(0, .box [.val (.int .i64 m_1), .h 1]), (1, .row (.pair (.int .i64) (.pair (.int .i64) .str)) (List.set m_2 (Int.toNat (IntKind.wrap .i64 ((((List.length m_2) : Nat) : Int) - (1 : Int)))) ((List.getD m_2 (Int.toNat (IntKind.wrap .i64 ((((List.length m_2) : Nat) : Int) - (1 : Int)))) ((0 : Int), ((0 : Int), ByteArray.empty))).1, (to_4, (List.getD m_2 (Int.toNat (IntKind.wrap .i64 ((((List.length m_2) : Nat) : Int) - (1 : Int)))) ((0 : Int), ((0 : Int), ByteArray.empty))).2.2))))], 2⟩ [0 ≤ (IntKind.wrap .i64 ((((List.length m_2) : Nat) : Int) - (1 : Int))), (IntKind.wrap .i64 ((((List.length m_2) : Nat) : Int) - (1 : Int))) < (((List.length m_2) : Nat) : Int)] (by kernel_rfl) rfl rfl (ap2 c_17.1 (ap1 c_17.2)) ?_
        have H_41 := Option.some.inj (show some (List.set m_2 (Int.toNat (IntKind.wrap .i64 ((((List.length m_2) : Nat) : Int) - (1 : Int)))) ((List.getD m_2 (Int.toNat (IntKind.wrap .i64 ((((List.length m_2) : Nat) : Int) - (1 : Int)))) ((0 : Int), ((0 : Int), ByteArray.empty))).1, (to_4, (List.getD m_2 (Int.toNat (IntKind.wrap .i64 ((((List.length m_2) : Nat) : Int) - (1 : Int)))) ((0 : Int), ((0 : Int), ByteArray.empty))).2.2))) = some r from H_40); subst H_41
        refine VL_nil ?_
        exact P_to [] [(0, .box [.val (.int .i64 m_1), .h 4]), (4, .row (.pair (.int .i64) (.pair (.int .i64) .str)) (List.set m_2 (Int.toNat (IntKind.wrap .i64 ((((List.length m_2) : Nat) : Int) - (1 : Int)))) ((List.getD m_2 (Int.toNat (IntKind.wrap .i64 ((((List.length m_2) : Nat) : Int) - (1 : Int)))) ((0 : Int), ((0 : Int), ByteArray.empty))).1, (to_4, (List.getD m_2 (Int.toNat (IntKind.wrap .i64 ((((List.length m_2) : Nat) : Int) - (1 : Int)))) ((0 : Int), ((0 : Int), ByteArray.empty))).2.2))))] [(4, 1)] hn (by kernel_rfl) (by kernel_rfl) rfl rfl rfl (QF_endS (by kernel_rfl) (by kernel_rfl) rfl)
      · intro b_16; have H_39 := of_f H_26 b_16
        obtain ⟨c_18, H_42⟩ := of_if H_39
        refine V_run hN hn 1 2 [] [0, 3] ⟨[], [(0, .box [.val (.int .i64 m_1), .h 3]), (3, .row (.pair (.int .i64) (.pair (.int .i64) .str)) (m_2 ++ ([(from_3, (to_4, ByteArray.empty))] : List (Int × (Int × ByteArray)))))], 4⟩ [(List.length m_2 + List.length ([(from_3, (to_4, ByteArray.empty))] : List (Int × (Int × ByteArray)))) * 32 ≤ 140737488355328] (by kernel_rfl) rfl rfl (ap1 c_18) ?_
        have H_43 := Option.some.inj (show some (m_2 ++ ([(from_3, (to_4, ByteArray.empty))] : List (Int × (Int × ByteArray)))) = some r from H_42); subst H_43
        refine VL_nil ?_
        exact P_to [] [(0, .box [.val (.int .i64 m_1), .h 4]), (4, .row (.pair (.int .i64) (.pair (.int .i64) .str)) (m_2 ++ ([(from_3, (to_4, ByteArray.empty))] : List (Int × (Int × ByteArray)))))] [(4, 3)] hn (by kernel_rfl) (by kernel_rfl) rfl rfl rfl (QF_endS (by kernel_rfl) (by kernel_rfl) rfl)

theorem delta_Maker_Delta_b_ee1c6_spec (K : Nat) (m_1 : Int) (m_2 : (List (Int × (Int × ByteArray)))) (r : (Int × (List (Int × (Int × ByteArray))) × Int)) (H : delta_Maker_Delta_b_ee1c6 K m_1 m_2 = some r) : Spec Try.prog 36 1 [.c (.h 0)] [(0, .box [.val (.int .i64 m_1), .imm (.slice (.pair (.int .i64) (.pair (.int .i64) .str))) m_2])] (.tup [(true, [.val (.int .i64 r.1), .imm (.slice (.pair (.int .i64) (.pair (.int .i64) .str))) r.2.1]), (false, [.val (.int .i64 r.2.2)])]) [(0, .box [.val (.int .i64 m_1), .imm (.slice (.pair (.int .i64) (.pair (.int .i64) .str))) m_2])] := by
  refine Spec_mk (fn := Try.f36) (c := (Try.f36.body).get!) Try.func36 (by kernel_rfl) rfl ?_
  intro C hN hn
  replace hN : C.N = 16 := hN
  unfold delta_Maker_Delta_b_ee1c6 at H
  refine V_run hN hn 5 1 [0, 2, 10] [0, 1] ⟨[(0, .c (.h 0)), (2, .c (.h 1)), (10, .c (.val (.bool (decide ((((List.length m_2) : Nat) : Int) > (60 : Int))))))], [(0, .box [.val (.int .i64 m_1), .imm (.slice (.pair (.int .i64) (.pair (.int .i64) .str))) m_2]), (1, .box [.val (.int .i64 (0 : Int)), .val (.slice none 0 0)])], 2⟩ [] (by kernel_rfl) rfl rfl ap0 ?_
  refine VL_cond ((decide ((((List.length m_2) : Nat) : Int) > (60 : Int)))) (by kernel_rfl) ?_ ?_
  · intro b_4; have H_10 := of_t H b_4
    refine V_run hN hn 2 2 [2, 3] [0, 1] ⟨[(2, .c (.h 1)), (3, .c (.val (.int .i64 (70 : Int))))], [(0, .box [.val (.int .i64 m_1), .imm (.slice (.pair (.int .i64) (.pair (.int .i64) .str))) m_2]), (1, .box [.val (.int .i64 (0 : Int)), .val (.slice none 0 0)])], 2⟩ [] (by kernel_rfl) rfl rfl ap0 ?_
    have H_12 := Option.some.inj (show some ((0 : Int), ([] : List (Int × (Int × ByteArray))), (70 : Int)) = some r from H_10); subst H_12
    refine VL_ret ?_
    refine P_ghost [.readCell 1 1 (.slice (.pair (.int .i64) (.pair (.int .i64) .str)))] 2 hn [2, 3] [0, 1] ⟨[(2, .c (.h 1)), (3, .c (.val (.int .i64 (70 : Int))))], [(0, .box [.val (.int .i64 m_1), .imm (.slice (.pair (.int .i64) (.pair (.int .i64) .str))) m_2]), (1, .box [.val (.int .i64 (0 : Int)), .imm (.slice (.pair (.int .i64) (.pair (.int .i64) .str))) ([] : List (Int × (Int × ByteArray)))])], 2⟩ (by kernel_rfl) rfl rfl ?_
    exact P_to [(2, .c (.h 1)), (3, .c (.val (.int .i64 (70 : Int))))] [(0, .box [.val (.int .i64 m_1), .imm (.slice (.pair (.int .i64) (.pair (.int .i64) .str))) m_2]), (1, .box [.val (.int .i64 (0 : Int)), .imm (.slice (.pair (.int .i64) (.pair (.int .i64) .str))) ([] : List (Int × (Int × ByteArray)))])] [(1, 1)] hn (by kernel_rfl) (by kernel_rfl) rfl rfl rfl (QF_retS (by kernel_rfl) (by kernel_rfl) rfl)
  · intro b_4; have H_11 := of_f H b_4
    refine V_run hN hn 3 2 [2, 3] [0, 1] ⟨[(2, .c (.h 1)), (3, .c (.val (.int .i64 (0 : Int))))], [(0, .box [.val (.int .i64 m_1), .imm (.slice (.pair (.int .i64) (.pair (.int .i64) .str))) m_2]), (1, .box [.val (.int .i64 m_1), .imm (.slice (.pair (.int .i64) (.pair (.int .i64) .str))) m_2])], 2⟩ [] (by kernel_rfl) rfl rfl ap0 ?_
    have H_13 := Option.some.inj (show some (m_1, m_2, (0 : Int)) = some r from H_11); subst H_13
    refine VL_ret ?_
    exact P_to [(2, .c (.h 1)), (3, .c (.val (.int .i64 (0 : Int))))] [(0, .box [.val (.int .i64 m_1), .imm (.slice (.pair (.int .i64) (.pair (.int .i64) .str))) m_2]), (1, .box [.val (.int .i64 m_1), .imm (.slice (.pair (.int .i64) (.pair (.int .i64) .str))) m_2])] [(1, 1)] hn (by kernel_rfl) (by kernel_rfl) rfl rfl rfl (QF_retS (by kernel_rfl) (by kernel_rfl) rfl)

theorem delta_Build_gr_spec (K : Nat) (base_1 : Int) (l_2 : (List (Int × (Int × ByteArray)))) (r : (Int × (List (Int × (Int × ByteArray))) × Int)) (H : delta_Build_gr K base_1 l_2 = some r) : Spec Try.prog 23 1 [.c (.val (.int .i64 base_1)), .c (.h 0)] [(0, .row (.pair (.int .i64) (.pair (.int .i64) .str)) l_2)] (.tup [(true, [.val (.int .i64 r.1), .imm (.slice (.pair (.int .i64) (.pair (.int .i64) .str))) r.2.1]), (false, [.val (.int .i64 r.2.2)])]) [(0, .row (.pair (.int .i64) (.pair (.int .i64) .str)) l_2)] := by
  refine Spec_mk (fn := Try.f23) (c := (Try.f23.body).get!) Try.func23 (by kernel_rfl) rfl ?_
  intro C hN hn
  replace hN : C.N = 46 := hN
  unfold delta_Build_gr at H
  refine V_run hN hn 4 1 [0, 1, 4] [0, 1] ⟨[(0, .c (.val (.int .i64 base_1))), (1, .c (.h 0)), (4, .c (.h 1))], [(0, .row (.pair (.int .i64) (.pair (.int .i64) .str)) l_2), (1, .box [.val (.int .i64 (0 : Int)), .val (.slice none 0 0)])], 2⟩ [] (by kernel_rfl) rfl rfl ap0 ?_
  obtain ⟨r_4, h_5, H_60⟩ := of_bind H
  refine V_reg hN hn [(2, ⟨32, 1, [.c (.val (.int .i64 base_1)), .c (.h 0)], [(0, .row (.pair (.int .i64) (.pair (.int .i64) .str)) l_2)], .c (.val (.int .i64 r_4)), [(0, .row (.pair (.int .i64) (.pair (.int .i64) .str)) l_2)], [(0, 0)], 2⟩)] [] (calls_cons (delta_check_gr_spec K base_1 l_2 r_4 h_5) (by kernel_rfl) calls_nil) 2 [0, 1, 4, 6] [0, 1] ⟨[(0, .c (.val (.int .i64 base_1))), (1, .c (.h 0)), (4, .c (.h 1)), (6, .c (.val (.int .i64 r_4)))], [(0, .row (.pair (.int .i64) (.pair (.int .i64) .str)) l_2), (1, .box [.val (.int .i64 (0 : Int)), .val (.slice none 0 0)])], 2⟩ [] (by kernel_rfl) rfl rfl ap0 (by kernel_rfl) (by kernel_rfl) ?_
  refine V_run hN hn 2 2 [0, 1, 4, 6, 15] [0, 1] ⟨[(0, .c (.val (.int .i64 base_1))), (1, .c (.h 0)), (4, .c (.h 1)), (6, .c (.val (.int .i64 r_4))), (15, .c (.val (.bool (r_4 != (0 : Int)))))], [(0, .row (.pair (.int .i64) (.pair (.int .i64) .str)) l_2), (1, .box [.val (.int .i64 (0 : Int)), .val (.slice none 0 0)])], 2⟩ [] (by kernel_rfl) rfl rfl ap0 ?_
  refine VL_cond ((r_4 != (0 : Int))) (by kernel_rfl) ?_ ?_
  · intro b_8; have H_61 := of_t H_60 b_8
    refine V_run hN hn 2 2 [4, 5] [0, 1] ⟨[(4, .c (.h 1)), (5, .c (.val (.int .i64 r_4)))], [(0, .row (.pair (.int .i64) (.pair (.int .i64) .str)) l_2), (1, .box [.val (.int .i64 (0 : Int)), .val (.slice none 0 0)])], 2⟩ [] (by kernel_rfl) rfl rfl ap0 ?_
    have H_63 := Option.some.inj (show some ((0 : Int), ([] : List (Int × (Int × ByteArray))), r_4) = some r from H_61); subst H_63
    refine VL_ret ?_
    refine P_ghost [.readCell 1 1 (.slice (.pair (.int .i64) (.pair (.int .i64) .str)))] 2 hn [4, 5] [0, 1] ⟨[(4, .c (.h 1)), (5, .c (.val (.int .i64 r_4)))], [(0, .row (.pair (.int .i64) (.pair (.int .i64) .str)) l_2), (1, .box [.val (.int .i64 (0 : Int)), .imm (.slice (.pair (.int .i64) (.pair (.int .i64) .str))) ([] : List (Int × (Int × ByteArray)))])], 2⟩ (by kernel_rfl) rfl rfl ?_
    exact P_to [(4, .c (.h 1)), (5, .c (.val (.int .i64 r_4)))] [(0, .row (.pair (.int .i64) (.pair (.int .i64) .str)) l_2), (1, .box [.val (.int .i64 (0 : Int)), .imm (.slice (.pair (.int .i64) (.pair (.int .i64) .str))) ([] : List (Int × (Int × ByteArray)))])] [(1, 1)] hn (by kernel_rfl) (by kernel_rfl) rfl rfl rfl (QF_retS (by kernel_rfl) (by kernel_rfl) rfl)
  · intro b_8; have H_62 := of_f H_60 b_8
    refine V_run hN hn 2 2 [0, 1, 4, 6, 15] [0, 1] ⟨[(0, .c (.val (.int .i64 base_1))), (1, .c (.h 0)), (4, .c (.h 1)), (6, .c (.val (.int .i64 r_4))), (15, .c (.val (.bool (r_4 != (0 : Int)))))], [(0, .row (.pair (.int .i64) (.pair (.int .i64) .str)) l_2), (1, .box [.val (.int .i64 (0 : Int)), .val (.slice none 0 0)])], 2⟩ [] (by kernel_rfl) rfl rfl ap0 ?_
    obtain ⟨r_11, h_12, H_64⟩ := of_bind H_62
    refine V_reg hN hn [(1, ⟨33, 0, [.c (.val (.int .i64 base_1))], [], .c (.h 0), [(0, .box [.val (.int .i64 base_1), .val (.slice none 0 0)])], [(0, 2)], 3⟩)] [] (calls_cons (delta_NewMaker_spec K base_1 r_11 h_12) (by kernel_rfl) calls_nil) 2 [0, 1, 4, 7] [0, 1, 2] ⟨[(0, .c (.val (.int .i64 base_1))), (1, .c (.h 0)), (4, .c (.h 1)), (7, .c (.h 2))], [(0, .row (.pair (.int .i64) (.pair (.int .i64) .str)) l_2), (1, .box [.val (.int .i64 (0 : Int)), .val (.slice none 0 0)]), (2, .box [.val (.int .i64 base_1), .val (.slice none 0 0)])], 3⟩ [] (by kernel_rfl) rfl rfl ap0 (by kernel_rfl) (by kernel_rfl) ?_
    refine V_run hN hn 5 3 [0, 4, 7, 8, 20, 21, 22] [0, 1, 2] ⟨[(0, .c (.val (.int .i64 base_1))), (4, .c (.h 1)), (7, .c (.h 2)), (8, .c (.val (.int .i64 (0 : Int)))), (20, .c (.h 0)), (21, .c (.val (.int .i64 (((List.length l_2) : Nat) : Int)))), (22, .c (.val (.int .i64 (0 : Int))))], [(0, .row (.pair (.int .i64) (.pair (.int .i64) .str)) l_2), (1, .box [.val (.int .i64 (0 : Int)), .val (.slice none 0 0)]), (2, .box [.val (.int .i64 base_1), .val (.slice none 0 0)])], 3⟩ [] (by kernel_rfl) rfl rfl ap0 ?_
    obtain ⟨q_65, H_66, H_67⟩ := of_bind H_64
    refine V_cut (Y := ((List (Int × (Int × ByteArray))) × Int)) (R := ((List (Int × (Int × ByteArray))) × Int)) q_65 (fun y => y) (fun y => [(0, .c (.val (.int .i64 base_1))), (4, .c (.h 1)), (7, .c (.h 2)), (8, .c (.val (.int .i64 y.2)))]) (fun y => [(0, .row (.pair (.int .i64) (.pair (.int .i64) .str)) l_2), (1, .box [.val (.int .i64 (0 : Int)), .val (.slice none 0 0)]), (2, .box [.val (.int .i64 base_1), .h 6]), (6, .row (.pair (.int .i64) (.pair (.int .i64) .str)) y.1)]) ?_ ?_
    · skip
      refine VL_block ?_
      refine V_ghost [.nilCell 2 1 (.pair (.int .i64) (.pair (.int .i64) .str))] 3 hn [0, 4, 7, 8, 20, 21, 22] [0, 1, 2, 3] ⟨[(0, .c (.val (.int .i64 base_1))), (4, .c (.h 1)), (7, .c (.h 2)), (8, .c (.val (.int .i64 (0 : Int)))), (20, .c (.h 0)), (21, .c (.val (.int .i64 (((List.length l_2) : Nat) : Int)))), (22, .c (.val (.int .i64 (0 : Int))))], [(0, .row (.pair (.int .i64) (.pair (.int .i64) .str)) l_2), (1, .box [.val (.int .i64 (0 : Int)), .val (.slice none 0 0)]), (2, .box [.val (.int .i64 base_1), .h 3]), (3, .row (.pair (.int .i64) (.pair (.int .i64) .str)) ([] : List (Int × (Int × ByteArray))))], 4⟩ (by kernel_rfl) rfl rfl ?_
      refine V_to [(0, .c (.val (.int .i64 base_1))), (4, .c (.h 1)), (7, .c (.h 2)), (8, .c (.val (.int .i64 (0 : Int)))), (20, .c (.h 0)), (21, .c (.val (.int .i64 (((List.length l_2) : Nat) : Int)))), (22, .c (.val (.int .i64 (0 : Int))))] [(0, .row (.pair (.int .i64) (.pair (.int .i64) .str)) l_2), (1, .box [.val (.int .i64 (0 : Int)), .val (.slice none 0 0)]), (2, .box [.val (.int .i64 base_1), .h 6]), (6, .row (.pair (.int .i64) (.pair (.int .i64) .str)) ([] : List (Int × (Int × ByteArray))))] [(1, 1), (2, 2), (6, 3)] hn (by kernel_rfl) (by kernel_rfl) rfl rfl rfl ?_
      refine VL_loop (X := ((List (Int × (Int × ByteArray))) × Int × Int)) (fun x => [(0, .c (.val (.int .i64 base_1))), (4, .c (.h 1)), (7, .c (.h 2)), (8, .c (.val (.int .i64 x.2.1))), (20, .c (.h 0)), (21, .c (.val (.int .i64 (((List.length l_2) : Nat) : Int)))), (22, .c (.val (.int .i64 x.2.2)))]) (fun x => [(0, .row (.pair (.int .i64) (.pair (.int .i64) .str)) l_2), (1, .box [.val (.int .i64 (0 : Int)), .val (.slice none 0 0)]), (2, .box [.val (.int .i64 base_1), .h 6]), (6, .row (.pair (.int .i64) (.pair (.int .i64) .str)) x.1)]) (fun k x => delta_Build_gr.l0 K l_2 base_1 k x.1 x.2.1 x.2.2 = some q_65) K (([] : List (Int × (Int × ByteArray))), (0 : Int), (0 : Int)) H_66 (fun _ h => no_none h) ?_
      intro k_32 x_32 H_69
      obtain ⟨x_31, at_15, t_16⟩ := x_32
      have H_70 : delta_Build_gr.l0 K l_2 base_1 (k_32 + 1) x_31 at_15 t_16 = some q_65 := H_69
      rw [delta_Build_gr.l0] at H_70
      refine V_run hN hn 3 7 [0, 4, 7, 8, 20, 21, 22, 23] [0, 1, 2, 6] ⟨[(0, .c (.val (.int .i64 base_1))), (4, .c (.h 1)), (7, .c (.h 2)), (8, .c (.val (.int .i64 at_15))), (20, .c (.h 0)), (21, .c (.val (.int .i64 (((List.length l_2) : Nat) : Int)))), (22, .c (.val (.int .i64 t_16))), (23, .c (.val (.bool (decide (t_16 < (((List.length l_2) : Nat) : Int))))))], [(0, .row (.pair (.int .i64) (.pair (.int .i64) .str)) l_2), (1, .box [.val (.int .i64 (0 : Int)), .val (.slice none 0 0)]), (2, .box [.val (.int .i64 base_1), .h 6]), (6, .row (.pair (.int .i64) (.pair (.int .i64) .str)) x_31)], 7⟩ [] (by kernel_rfl) rfl rfl ap0 ?_
      refine VL_cond ((decide (t_16 < (((List.length l_2) : Nat) : Int)))) (by kernel_rfl) ?_ ?_
      · intro b_34; have H_71 := of_t H_70 b_34
        refine V_run hN hn 2 7 [0, 4, 7, 8, 20, 21, 22, 23] [0, 1, 2, 6] ⟨[(0, .c (.val (.int .i64 base_1))), (4, .c (.h 1)), (7, .c (.h 2)), (8, .c (.val (.int .i64 at_15))), (20, .c (.h 0)), (21, .c (.val (.int .i64 (((List.length l_2) : Nat) : Int)))), (22, .c (.val (.int .i64 t_16))), (23, .c (.val (.bool (decide (t_16 < (((List.length l_2) : Nat) : Int))))))], [(0, .row (.pair (.int .i64) (.pair (.int .i64) .str)) l_2), (1, .box [.val (.int .i64 (0 : Int)), .val (.slice none 0 0)]), (2, .box [.val (.int .i64 base_1), .h 6]), (6, .row (.pair (.int .i64) (.pair (.int .i64) .str)) x_31)], 7⟩ [] (by kernel_rfl) rfl rfl ap0 ?_
        refine VL_block ?_
        obtain ⟨c_36, H_73⟩ := of_if H_71
        refine V_run hN hn 3 7 [0, 4, 7, 8, 10, 20, 21, 22] [0, 1, 2, 6, 7] ⟨[(0, .c (.val (.int .i64 base_1))), (4, .c (.h 1)), (7, .c (.h 2)), (8, .c (.val (.int .i64 at_15))), (10, .c (.h 7)), (20, .c (.h 0)), (21, .c (.val (.int .i64 (((List.length l_2) : Nat) : Int)))), (22, .c (.val (.int .i64 t_16)))], [(0, .row (.pair (.int .i64) (.pair (.int .i64) .str)) l_2), (1, .box [.val (.int .i64 (0 : Int)), .val (.slice none 0 0)]), (2, .box [.val (.int .i64 base_1), .h 6]), (6, .row (.pair (.int .i64) (.pair (.int .i64) .str)) x_31), (7, .box [.val (.int .i64 (List.getD l_2 (Int.toNat t_16) ((0 : Int), ((0 : Int), ByteArray.empty))).1), .val (.int .i64 (List.getD l_2 (Int.toNat t_16) ((0 : Int), ((0 : Int), ByteArray.empty))).2.1), .val (.string (List.getD l_2 (Int.toNat t_16) ((0 : Int), ((0 : Int), ByteArray.empty))).2.2)])], 8⟩ [0 ≤ t_16, t_16 < (((List.length l_2) : Nat) : Int)] (by kernel_rfl) rfl rfl (ap2 c_36.1 (ap1 c_36.2)) ?_
        obtain ⟨r_37, h_38, H_74⟩ := of_bind H_73
        refine V_reg hN hn [(4, ⟨34, 2, [.c (.h 0), .c (.val (.int .i64 at_15)), .c (.val (.int .i64 (List.getD l_2 (Int.toNat t_16) ((0 : Int), ((0 : Int), ByteArray.empty))).1))], [(0, .box [.val (.int .i64 base_1), .h 1]), (1, .row (.pair (.int .i64) (.pair (.int .i64) .str)) x_31)], .tup [], [(0, .box [.val (.int .i64 base_1), .h 4]), (4, .row (.pair (.int .i64) (.pair (.int .i64) .str)) r_37)], [(0, 2), (1, 6), (4, 8)], 9⟩)] [] (calls_cons (delta_Maker_Copy_bgg_11dec_spec K base_1 x_31 at_15 (List.getD l_2 (Int.toNat t_16) ((0 : Int), ((0 : Int), ByteArray.empty))).1 r_37 h_38) (by kernel_rfl) calls_nil) 8 [0, 4, 7, 10, 20, 21, 22] [0, 1, 2, 7, 8] ⟨[(0, .c (.val (.int .i64 base_1))), (4, .c (.h 1)), (7, .c (.h 2)), (10, .c (.h 7)), (20, .c (.h 0)), (21, .c (.val (.int .i64 (((List.length l_2) : Nat) : Int)))), (22, .c (.val (.int .i64 t_16)))], [(0, .row (.pair (.int .i64) (.pair (.int .i64) .str)) l_2), (1, .box [.val (.int .i64 (0 : Int)), .val (.slice none 0 0)]), (2, .box [.val (.int .i64 base_1), .h 8]), (7, .box [.val (.int .i64 (List.getD l_2 (Int.toNat t_16) ((0 : Int), ((0 : Int), ByteArray.empty))).1), .val (.int .i64 (List.getD l_2 (Int.toNat t_16) ((0 : Int), ((0 : Int), ByteArray.empty))).2.1), .val (.string (List.getD l_2 (Int.toNat t_16) ((0 : Int), ((0 : Int), ByteArray.empty))).2.2)]), (8, .row (.pair (.int .i64) (.pair (.int .i64) .str)) r_37)], 9⟩ [] (by kernel_rfl) rfl rfl ap0 (by kernel_rfl) (by kernel_rfl) ?_
        refine V_run hN hn 1 9 [0, 4, 7, 10, 20, 21, 22] [0, 1, 2, 7, 8] ⟨[(0, .c (.val (.int .i64 base_1))), (4, .c (.h 1)), (7, .c (.h 2)), (10, .c (.h 7)), (20, .c (.h 0)), (21, .c (.val (.int .i64 (((List.length l_2) : Nat) : Int)))), (22, .c (.val (.int .i64 t_16)))], [(0, .row (.pair (.int .i64) (.pair (.int .i64) .str)) l_2), (1, .box [.val (.int .i64 (0 : Int)), .val (.slice none 0 0)]), (2, .box [.val (.int .i64 base_1), .h 8]), (7, .box [.val (.int .i64 (List.getD l_2 (Int.toNat t_16) ((0 : Int), ((0 : Int), ByteArray.empty))).1), .val (.int .i64 (List.getD l_2 (Int.toNat t_16) ((0 : Int), ((0 : Int), ByteArray.empty))).2.1), .val (.string (List.getD l_2 (Int.toNat t_16) ((0 : Int), ((0 : Int), ByteArray.empty))).2.2)]), (8, .row (.pair (.int .i64) (.pair (.int .i64) .str)) r_37)], 9⟩ [] (by kernel_rfl) rfl rfl ap0 ?_
        obtain ⟨r_41, h_42, H_75⟩ := of_bind H_74
        refine V_reg hN hn [(3, ⟨35, 2, [.c (.h 0), .c (.val (.string (List.getD l_2 (Int.toNat t_16) ((0 : Int), ((0 : Int), ByteArray.empty))).2.2))], [(0, .box [.val (.int .i64 base_1), .h 1]), (1, .row (.pair (.int .i64) (.pair (.int .i64) .str)) r_37)], .tup [], [(0, .box [.val (.int .i64 base_1), .h 4]), (4, .row (.pair (.int .i64) (.pair (.int .i64) .str)) r_41)], [(0, 2), (1, 8), (4, 9)], 10⟩)] [] (calls_cons (delta_Maker_Put_bg_92925_spec K base_1 r_37 (List.getD l_2 (Int.toNat t_16) ((0 : Int), ((0 : Int), ByteArray.empty))).2.2 r_41 h_42) (by kernel_rfl) calls_nil) 9 [0, 4, 7, 10, 20, 21, 22] [0, 1, 2, 7, 9] ⟨[(0, .c (.val (.int .i64 base_1))), (4, .c (.h 1)), (7, .c (.h 2)), (10, .c (.h 7)), (20, .c (.h 0)), (21, .c (.val (.int .i64 (((List.length l_2) : Nat) : Int)))), (22, .c (.val (.int .i64 t_16)))], [(0, .row (.pair (.int .i64) (.pair (.int .i64) .str)) l_2), (1, .box [.val (.int .i64 (0 : Int)), .val (.slice none 0 0)]), (2, .box [.val (.int .i64 base_1), .h 9]), (7, .box [.val (.int .i64 (List.getD l_2 (Int.toNat t_16) ((0 : Int), ((0 : Int), ByteArray.empty))).1), .val (.int .i64 (List.getD l_2 (Int.toNat t_16) ((0 : Int), ((0 : Int), ByteArray.empty))).2.1), .val (.string (List.getD l_2 (Int.toNat t_16) ((0 : Int), ((0 : Int), ByteArray.empty))).2.2)]), (9, .row (.pair (.int .i64) (.pair (.int .i64) .str)) r_41)], 10⟩ [] (by kernel_rfl) rfl rfl ap0 (by kernel_rfl) (by kernel_rfl) ?_
        refine V_run hN hn 1 10 [0, 4, 7, 8, 20, 21, 22] [0, 1, 2, 9] ⟨[(0, .c (.val (.int .i64 base_1))), (4, .c (.h 1)), (7, .c (.h 2)), (8, .c (.val (.int .i64 (List.getD l_2 (Int.toNat t_16) ((0 : Int), ((0 : Int), ByteArray.empty))).2.1))), (20, .c (.h 0)), (21, .c (.val (.int .i64 (((List.length l_2) : Nat) : Int)))), (22, .c (.val (.int .i64 t_16)))], [(0, .row (.pair (.int .i64) (.pair (.int .i64) .str)) l_2), (1, .box [.val (.int .i64 (0 : Int)), .val (.slice none 0 0)]), (2, .box [.val (.int .i64 base_1), .h 9]), (9, .row (.pair (.int .i64) (.pair (.int .i64) .str)) r_41)], 10⟩ [] (by kernel_rfl) rfl rfl ap0 ?_
        refine VL_nil (QB_end ?_)
        refine V_run hN hn 1 10 [0, 4, 7, 8, 20, 21, 22] [0, 1, 2, 9] ⟨[(0, .c (.val (.int .i64 base_1))), (4, .c (.h 1)), (7, .c (.h 2)), (8, .c (.val (.int .i64 (List.getD l_2 (Int.toNat t_16) ((0 : Int), ((0 : Int), ByteArray.empty))).2.1))), (20, .c (.h 0)), (21, .c (.val (.int .i64 (((List.length l_2) : Nat) : Int)))), (22, .c (.val (.int .i64 (IntKind.wrap .i64 (t_16 + (1 : Int))))))], [(0, .row (.pair (.int .i64) (.pair (.int .i64) .str)) l_2), (1, .box [.val (.int .i64 (0 : Int)), .val (.slice none 0 0)]), (2, .box [.val (.int .i64 base_1), .h 9]), (9, .row (.pair (.int .i64) (.pair (.int .i64) .str)) r_41)], 10⟩ [] (by kernel_rfl) rfl rfl ap0 ?_
        refine VL_nil ?_
        exact V_roundEnd (r_41, (List.getD l_2 (Int.toNat t_16) ((0 : Int), ((0 : Int), ByteArray.empty))).2.1, (IntKind.wrap .i64 (t_16 + (1 : Int)))) H_75 [(1, 1), (2, 2), (6, 9)] hn (by kernel_rfl) (by kernel_rfl) rfl rfl rfl
      · intro b_34; have H_72 := of_f H_70 b_34
        refine VL_exit ?_
        refine QL_exit ?_
        refine QB_here ?_
        have H_76 := Option.some.inj (show some (x_31, at_15) = some q_65 from H_72); subst H_76
        refine VL_nil ?_
        exact QP_end (x_31, at_15) rfl [(1, 1), (2, 2), (6, 6)] hn (by kernel_rfl) (by kernel_rfl) rfl rfl rfl
    · intro y_68 hy; subst hy
      obtain ⟨x_46, at_47⟩ := y_68
      refine V_run hN hn 1 7 [0, 4, 7, 8] [0, 1, 2, 6] ⟨[(0, .c (.val (.int .i64 base_1))), (4, .c (.h 1)), (7, .c (.h 2)), (8, .c (.val (.int .i64 at_47)))], [(0, .row (.pair (.int .i64) (.pair (.int .i64) .str)) l_2), (1, .box [.val (.int .i64 (0 : Int)), .val (.slice none 0 0)]), (2, .box [.val (.int .i64 base_1), .h 6]), (6, .row (.pair (.int .i64) (.pair (.int .i64) .str)) x_46)], 7⟩ [] (by kernel_rfl) rfl rfl ap0 ?_
      obtain ⟨r_49, h_50, H_77⟩ := of_bind H_67
      refine V_reg hN hn [(3, ⟨34, 2, [.c (.h 0), .c (.val (.int .i64 at_47)), .c (.val (.int .i64 base_1))], [(0, .box [.val (.int .i64 base_1), .h 1]), (1, .row (.pair (.int .i64) (.pair (.int .i64) .str)) x_46)], .tup [], [(0, .box [.val (.int .i64 base_1), .h 4]), (4, .row (.pair (.int .i64) (.pair (.int .i64) .str)) r_49)], [(0, 2), (1, 6), (4, 7)], 8⟩)] [] (calls_cons (delta_Maker_Copy_bgg_11dec_spec K base_1 x_46 at_47 base_1 r_49 h_50) (by kernel_rfl) calls_nil) 7 [4, 7] [0, 1, 2, 7] ⟨[(4, .c (.h 1)), (7, .c (.h 2))], [(0, .row (.pair (.int .i64) (.pair (.int .i64) .str)) l_2), (1, .box [.val (.int .i64 (0 : Int)), .val (.slice none 0 0)]), (2, .box [.val (.int .i64 base_1), .h 7]), (7, .row (.pair (.int .i64) (.pair (.int .i64) .str)) r_49)], 8⟩ [] (by kernel_rfl) rfl rfl ap0 (by kernel_rfl) (by kernel_rfl) ?_
      refine V_run hN hn 1 8 [4, 7] [0, 1, 2, 7] ⟨[(4, .c (.h 1)), (7, .c (.h 2))], [(0, .row (.pair (.int .i64) (.pair (.int .i64) .str)) l_2), (1, .box [.val (.int .i64 (0 : Int)), .val (.slice none 0 0)]), (2, .box [.val (.int .i64 base_1), .h 7]), (7, .row (.pair (.int .i64) (.pair (.int .i64) .str)) r_49)], 8⟩ [] (by kernel_rfl) rfl rfl ap0 ?_
      refine V_ghost [.shut 7] 8 hn [4, 7] [0, 1, 2] ⟨[(4, .c (.h 1)), (7, .c (.h 2))], [(0, .row (.pair (.int .i64) (.pair (.int .i64) .str)) l_2), (1, .box [.val (.int .i64 (0 : Int)), .val (.slice none 0 0)]), (2, .box [.val (.int .i64 base_1), .imm (.slice (.pair (.int .i64) (.pair (.int .i64) .str))) r_49])], 8⟩ (by kernel_rfl) rfl rfl ?_
      obtain ⟨r_53, h_54, H_78⟩ := of_bind H_77
      refine V_reg hN hn [(1, ⟨36, 1, [.c (.h 0)], [(0, .box [.val (.int .i64 base_1), .imm (.slice (.pair (.int .i64) (.pair (.int .i64) .str))) r_49])], .tup [(true, [.val (.int .i64 r_53.1), .imm (.slice (.pair (.int .i64) (.pair (.int .i64) .str))) r_53.2.1]), (false, [.val (.int .i64 r_53.2.2)])], [(0, .box [.val (.int .i64 base_1), .imm (.slice (.pair (.int .i64) (.pair (.int .i64) .str))) r_49])], [(0, 2)], 8⟩)] [] (calls_cons (delta_Maker_Delta_b_ee1c6_spec K base_1 r_49 r_53 h_54) (by kernel_rfl) calls_nil) 8 [4, 5] [0, 1] ⟨[(4, .c (.h 1)), (5, .c (.val (.int .i64 r_53.2.2)))], [(0, .row (.pair (.int .i64) (.pair (.int .i64) .str)) l_2), (1, .box [.val (.int .i64 r_53.1), .imm (.slice (.pair (.int .i64) (.pair (.int .i64) .str))) r_53.2.1])], 8⟩ [] (by kernel_rfl) rfl rfl ap0 (by kernel_rfl) (by kernel_rfl) ?_
      have H_79 := Option.some.inj (show some (r_53.1, r_53.2.1, r_53.2.2) = some r from H_78); subst H_79
      refine VL_ret ?_
      exact P_to [(4, .c (.h 1)), (5, .c (.val (.int .i64 r_53.2.2)))] [(0, .row (.pair (.int .i64) (.pair (.int .i64) .str)) l_2), (1, .box [.val (.int .i64 r_53.1), .imm (.slice (.pair (.int .i64) (.pair (.int .i64) .str))) r_53.2.1])] [(1, 1)] hn (by kernel_rfl) (by kernel_rfl) rfl rfl rfl (QF_retS (by kernel_rfl) (by kernel_rfl) rfl)

theorem spans_Edit_rsgg_spec (K : Nat) (l_1 : (List (Int × (Int × Int)))) (d_2 : Int) (d_3 : (List (Int × (Int × ByteArray)))) (r : ((List (Int × (Int × Int))) × Int)) (H : spans_Edit K l_1 d_2 d_3 = some r) : Spec Try.prog 18 1 [.c (.h 0), .agg [.val (.int .i64 d_2), .imm (.slice (.pair (.int .i64) (.pair (.int .i64) .str))) d_3]] [(0, .row (.pair (.int .i64) (.pair (.int .i64) (.int .i64))) l_1)] (.tup [(false, [.h 8]), (false, [.val (.int .i64 r.2)])]) [(0, .row (.pair (.int .i64) (.pair (.int .i64) (.int .i64))) l_1), (8, .row (.pair (.int .i64) (.pair (.int .i64) (.int .i64))) r.1)] := by
  refine Spec_mk (fn := Try.f18) (c := (Try.f18.body).get!) Try.func18 (by kernel_rfl) rfl ?_
  intro C hN hn
  replace hN : C.N = 45 := hN
  unfold spans_Edit at H
  refine V_run hN hn 4 1 [0, 3] [0, 1] ⟨[(0, .c (.h 0)), (3, .c (.h 1))], [(0, .row (.pair (.int .i64) (.pair (.int .i64) (.int .i64))) l_1), (1, .box [.val (.int .i64 d_2), .imm (.slice (.pair (.int .i64) (.pair (.int .i64) .str))) d_3])], 2⟩ [] (by kernel_rfl) rfl rfl ap0 ?_
  obtain ⟨q_51, H_52, H_53⟩ := of_bind H
  refine V_cut (Y := Bool) (R := Bool) q_51 (fun y => y) (fun y => [(0, .c (.h 0)), (3, .c (.h 1)), (19, .c (.val (.bool y)))]) (fun y => [(0, .row (.pair (.int .i64) (.pair (.int .i64) (.int .i64))) l_1), (1, .box [.val (.int .i64 d_2), .imm (.slice (.pair (.int .i64) (.pair (.int .i64) .str))) d_3])]) ?_ ?_
  · skip
    obtain ⟨r_5, h_6, H_55⟩ := of_bind H_52
    rcases Bool.eq_false_or_eq_true ((!r_5)) with b_7 | b_7
    · have H_56 := of_t H_55 b_7
      refine V_reg hN hn [(1, ⟨28, 0, [.agg [.val (.int .i64 d_2), .imm (.slice (.pair (.int .i64) (.pair (.int .i64) .str))) d_3]], [], .c (.val (.bool r_5)), [], [], 2⟩)] [(13, true)] (calls_cons (delta_Is_spec K d_2 d_3 r_5 h_6) (by kernel_rfl) calls_nil) 2 [0, 3, 19] [0, 1] ⟨[(0, .c (.h 0)), (3, .c (.h 1)), (19, .c (.val (.bool true)))], [(0, .row (.pair (.int .i64) (.pair (.int .i64) (.int .i64))) l_1), (1, .box [.val (.int .i64 d_2), .imm (.slice (.pair (.int .i64) (.pair (.int .i64) .str))) d_3])], 2⟩ [(!r_5) = true] (by kernel_rfl) rfl rfl (ap1 b_7) (by kernel_rfl) (by kernel_rfl) ?_
      have H_58 := Option.some.inj (show some true = some q_51 from H_56); subst H_58
      refine VL_nil ?_
      exact QP_end true rfl [(1, 1)] hn (by kernel_rfl) (by kernel_rfl) rfl rfl rfl
    · have H_57 := of_f H_55 b_7
      obtain ⟨r_9, h_10, H_59⟩ := of_bind H_57
      refine V_reg hN hn [(1, ⟨28, 0, [.agg [.val (.int .i64 d_2), .imm (.slice (.pair (.int .i64) (.pair (.int .i64) .str))) d_3]], [], .c (.val (.bool r_5)), [], [], 2⟩), (7, ⟨13, 1, [.c (.h 0), .c (.val (.int .i64 d_2))], [(0, .row (.pair (.int .i64) (.pair (.int .i64) (.int .i64))) l_1)], .c (.val (.bool r_9)), [(0, .row (.pair (.int .i64) (.pair (.int .i64) (.int .i64))) l_1)], [(0, 0)], 2⟩)] [(13, false)] (calls_cons (delta_Is_spec K d_2 d_3 r_5 h_6) (by kernel_rfl) (calls_cons (spans_Is_rg_spec K l_1 d_2 r_9 h_10) (by kernel_rfl) calls_nil)) 2 [0, 3, 19] [0, 1] ⟨[(0, .c (.h 0)), (3, .c (.h 1)), (19, .c (.val (.bool (!r_9))))], [(0, .row (.pair (.int .i64) (.pair (.int .i64) (.int .i64))) l_1), (1, .box [.val (.int .i64 d_2), .imm (.slice (.pair (.int .i64) (.pair (.int .i64) .str))) d_3])], 2⟩ [(!r_5) = false] (by kernel_rfl) rfl rfl (ap1 b_7) (by kernel_rfl) (by kernel_rfl) ?_
      have H_60 := Option.some.inj (show some (!r_9) = some q_51 from H_59); subst H_60
      refine VL_nil ?_
      exact QP_end (!r_9) rfl [(1, 1)] hn (by kernel_rfl) (by kernel_rfl) rfl rfl rfl
  · intro y_54 hy; subst hy
    skip
    skip
    refine VL_cond (y_54) (by kernel_rfl) ?_ ?_
    · intro b_13; have H_61 := of_t H_53 b_13
      refine V_run hN hn 2 2 [4, 5] [0] ⟨[(4, .c (.val (.slice none 0 0))), (5, .c (.val (.int .i64 (12 : Int))))], [(0, .row (.pair (.int .i64) (.pair (.int .i64) (.int .i64))) l_1)], 2⟩ [] (by kernel_rfl) rfl rfl ap0 ?_
      have H_63 := Option.some.inj (show some (([] : List (Int × (Int × Int))), (12 : Int)) = some r from H_61); subst H_63
      refine VL_ret ?_
      refine P_ghost [.nilSlot 4 (.pair (.int .i64) (.pair (.int .i64) (.int .i64)))] 2 hn [4, 5] [0, 2] ⟨[(4, .c (.h 2)), (5, .c (.val (.int .i64 (12 : Int))))], [(0, .row (.pair (.int .i64) (.pair (.int .i64) (.int .i64))) l_1), (2, .row (.pair (.int .i64) (.pair (.int .i64) (.int .i64))) ([] : List (Int × (Int × Int))))], 3⟩ (by kernel_rfl) rfl rfl ?_
      exact P_to [(4, .c (.h 8)), (5, .c (.val (.int .i64 (12 : Int))))] [(0, .row (.pair (.int .i64) (.pair (.int .i64) (.int .i64))) l_1), (8, .row (.pair (.int .i64) (.pair (.int .i64) (.int .i64))) ([] : List (Int × (Int × Int))))] [(8, 2)] hn (by kernel_rfl) (by kernel_rfl) rfl rfl rfl (QF_retS (by kernel_rfl) (by kernel_rfl) rfl)
    · intro b_13; have H_62 := of_f H_53 b_13
      refine V_run hN hn 6 2 [3, 6, 20, 21, 22] [0, 1, 2] ⟨[(3, .c (.h 1)), (6, .c (.h 2)), (20, .c (.h 0)), (21, .c (.val (.int .i64 (((List.length l_1) : Nat) : Int)))), (22, .c (.val (.int .i64 (0 : Int))))], [(0, .row (.pair (.int .i64) (.pair (.int .i64) (.int .i64))) l_1), (1, .box [.val (.int .i64 d_2), .imm (.slice (.pair (.int .i64) (.pair (.int .i64) .str))) d_3]), (2, .box [.val (.slice none 0 0)])], 3⟩ [] (by kernel_rfl) rfl rfl ap0 ?_
      obtain ⟨q_64, H_65, H_66⟩ := of_bind H_62
      refine V_cut (Y := (List (Int × (Int × Int)))) (R := (List (Int × (Int × Int)))) q_64 (fun y => y) (fun y => [(6, .c (.h 2))]) (fun y => [(0, .row (.pair (.int .i64) (.pair (.int .i64) (.int .i64))) l_1), (2, .box [.h 6]), (6, .row (.pair (.int .i64) (.pair (.int .i64) (.int .i64))) y)]) ?_ ?_
      · skip
        refine VL_block ?_
        refine V_ghost [.nilCell 2 0 (.pair (.int .i64) (.pair (.int .i64) (.int .i64)))] 3 hn [3, 6, 20, 21, 22] [0, 1, 2, 3] ⟨[(3, .c (.h 1)), (6, .c (.h 2)), (20, .c (.h 0)), (21, .c (.val (.int .i64 (((List.length l_1) : Nat) : Int)))), (22, .c (.val (.int .i64 (0 : Int))))], [(0, .row (.pair (.int .i64) (.pair (.int .i64) (.int .i64))) l_1), (1, .box [.val (.int .i64 d_2), .imm (.slice (.pair (.int .i64) (.pair (.int .i64) .str))) d_3]), (2, .box [.h 3]), (3, .row (.pair (.int .i64) (.pair (.int .i64) (.int .i64))) ([] : List (Int × (Int × Int))))], 4⟩ (by kernel_rfl) rfl rfl ?_
        refine V_to [(3, .c (.h 1)), (6, .c (.h 2)), (20, .c (.h 0)), (21, .c (.val (.int .i64 (((List.length l_1) : Nat) : Int)))), (22, .c (.val (.int .i64 (0 : Int))))] [(0, .row (.pair (.int .i64) (.pair (.int .i64) (.int .i64))) l_1), (1, .box [.val (.int .i64 d_2), .imm (.slice (.pair (.int .i64) (.pair (.int .i64) .str))) d_3]), (2, .box [.h 6]), (6, .row (.pair (.int .i64) (.pair (.int .i64) (.int .i64))) ([] : List (Int × (Int × Int))))] [(1, 1), (2, 2), (6, 3)] hn (by kernel_rfl) (by kernel_rfl) rfl rfl rfl ?_
        refine VL_loop (X := ((List (Int × (Int × Int))) × Int)) (fun x => [(3, .c (.h 1)), (6, .c (.h 2)), (20, .c (.h 0)), (21, .c (.val (.int .i64 (((List.length l_1) : Nat) : Int)))), (22, .c (.val (.int .i64 x.2)))]) (fun x => [(0, .row (.pair (.int .i64) (.pair (.int .i64) (.int .i64))) l_1), (1, .box [.val (.int .i64 d_2), .imm (.slice (.pair (.int .i64) (.pair (.int .i64) .str))) d_3]), (2, .box [.h 6]), (6, .row (.pair (.int .i64) (.pair (.int .i64) (.int .i64))) x.1)]) (fun k x => spans_Edit.l0 K l_1 d_2 d_3 k x.1 x.2 = some q_64) K (([] : List (Int × (Int × Int))), (0 : Int)) H_65 (fun _ h => no_none h) ?_
        intro k_30 x_30 H_68
        obtain ⟨x_29, t_16⟩ := x_30
        have H_69 : spans_Edit.l0 K l_1 d_2 d_3 (k_30 + 1) x_29 t_16 = some q_64 := H_68
        rw [spans_Edit.l0] at H_69
        refine V_run hN hn 3 7 [3, 6, 20, 21, 22, 23] [0, 1, 2, 6] ⟨[(3, .c (.h 1)), (6, .c (.h 2)), (20, .c (.h 0)), (21, .c (.val (.int .i64 (((List.length l_1) : Nat) : Int)))), (22, .c (.val (.int .i64 t_16))), (23, .c (.val (.bool (decide (t_16 < (((List.length l_1) : Nat) : Int))))))], [(0, .row (.pair (.int .i64) (.pair (.int .i64) (.int .i64))) l_1), (1, .box [.val (.int .i64 d_2), .imm (.slice (.pair (.int .i64) (.pair (.int .i64) .str))) d_3]), (2, .box [.h 6]), (6, .row (.pair (.int .i64) (.pair (.int .i64) (.int .i64))) x_29)], 7⟩ [] (by kernel_rfl) rfl rfl ap0 ?_
        refine VL_cond ((decide (t_16 < (((List.length l_1) : Nat) : Int)))) (by kernel_rfl) ?_ ?_
        · intro b_32; have H_70 := of_t H_69 b_32
          refine V_run hN hn 2 7 [3, 6, 20, 21, 22, 23] [0, 1, 2, 6] ⟨[(3, .c (.h 1)), (6, .c (.h 2)), (20, .c (.h 0)), (21, .c (.val (.int .i64 (((List.length l_1) : Nat) : Int)))), (22, .c (.val (.int .i64 t_16))), (23, .c (.val (.bool (decide (t_16 < (((List.length l_1) : Nat) : Int))))))], [(0, .row (.pair (.int .i64) (.pair (.int .i64) (.int .i64))) l_1), (1, .box [.val (.int .i64 d_2), .imm (.slice (.pair (.int .i64) (.pair (.int .i64) .str))) d_3]), (2, .box [.h 6]), (6, .row (.pair (.int .i64) (.pair (.int .i64) (.int .i64))) x_29)], 7⟩ [] (by kernel_rfl) rfl rfl ap0 ?_
          refine VL_block ?_
          obtain ⟨c_34, H_72⟩ := of_if H_70
          refine V_run hN hn 3 7 [3, 6, 8, 20, 21, 22] [0, 1, 2, 6, 7] ⟨[(3, .c (.h 1)), (6, .c (.h 2)), (8, .c (.h 7)), (20, .c (.h 0)), (21, .c (.val (.int .i64 (((List.length l_1) : Nat) : Int)))), (22, .c (.val (.int .i64 t_16)))], [(0, .row (.pair (.int .i64) (.pair (.int .i64) (.int .i64))) l_1), (1, .box [.val (.int .i64 d_2), .imm (.slice (.pair (.int .i64) (.pair (.int .i64) .str))) d_3]), (2, .box [.h 6]), (6, .row (.pair (.int .i64) (.pair (.int .i64) (.int .i64))) x_29), (7, .box [.val (.int .i64 (List.getD l_1 (Int.toNat t_16) ((0 : Int), ((0 : Int), (0 : Int)))).1), .val (.int .i64 (List.getD l_1 (Int.toNat t_16) ((0 : Int), ((0 : Int), (0 : Int)))).2.1), .val (.int .i64 (List.getD l_1 (Int.toNat t_16) ((0 : Int), ((0 : Int), (0 : Int)))).2.2)])], 8⟩ [0 ≤ t_16, t_16 < (((List.length l_1) : Nat) : Int)] (by kernel_rfl) rfl rfl (ap2 c_34.1 (ap1 c_34.2)) ?_
          obtain ⟨r_35, h_36, H_73⟩ := of_bind H_72
          refine V_reg hN hn [(6, ⟨29, 0, [.agg [.val (.int .i64 d_2), .imm (.slice (.pair (.int .i64) (.pair (.int .i64) .str))) d_3], .agg [.val (.int .i64 (List.getD l_1 (Int.toNat t_16) ((0 : Int), ((0 : Int), (0 : Int)))).1), .val (.int .i64 (List.getD l_1 (Int.toNat t_16) ((0 : Int), ((0 : Int), (0 : Int)))).2.1)]], [], .agg [.val (.int .i64 r_35.1), .val (.int .i64 r_35.2)], [], [], 8⟩)] [] (calls_cons (offset_Interval_spec K d_2 d_3 (List.getD l_1 (Int.toNat t_16) ((0 : Int), ((0 : Int), (0 : Int)))).1 (List.getD l_1 (Int.toNat t_16) ((0 : Int), ((0 : Int), (0 : Int)))).2.1 r_35 h_36) (by kernel_rfl) calls_nil) 8 [3, 6, 8, 9, 20, 21, 22] [0, 1, 2, 6, 7, 8] ⟨[(3, .c (.h 1)), (6, .c (.h 2)), (8, .c (.h 7)), (9, .c (.h 8)), (20, .c (.h 0)), (21, .c (.val (.int .i64 (((List.length l_1) : Nat) : Int)))), (22, .c (.val (.int .i64 t_16)))], [(0, .row (.pair (.int .i64) (.pair (.int .i64) (.int .i64))) l_1), (1, .box [.val (.int .i64 d_2), .imm (.slice (.pair (.int .i64) (.pair (.int .i64) .str))) d_3]), (2, .box [.h 6]), (6, .row (.pair (.int .i64) (.pair (.int .i64) (.int .i64))) x_29), (7, .box [.val (.int .i64 (List.getD l_1 (Int.toNat t_16) ((0 : Int), ((0 : Int), (0 : Int)))).1), .val (.int .i64 (List.getD l_1 (Int.toNat t_16) ((0 : Int), ((0 : Int), (0 : Int)))).2.1), .val (.int .i64 (List.getD l_1 (Int.toNat t_16) ((0 : Int), ((0 : Int), (0 : Int)))).2.2)]), (8, .box [.val (.int .i64 r_35.1), .val (.int .i64 r_35.2)])], 9⟩ [] (by kernel_rfl) rfl rfl ap0 (by kernel_rfl) (by kernel_rfl) ?_
          obtain ⟨r_38, h_39, H_74⟩ := of_bind H_73
          refine V_reg hN hn [(6, ⟨25, 2, [.c (.h 0), .c (.val (.int .i64 r_35.1)), .c (.val (.int .i64 r_35.2)), .c (.val (.int .i64 (List.getD l_1 (Int.toNat t_16) ((0 : Int), ((0 : Int), (0 : Int)))).2.2))], [(0, .box [.h 1]), (1, .row (.pair (.int .i64) (.pair (.int .i64) (.int .i64))) x_29)], .tup [], [(0, .box [.h 4]), (4, .row (.pair (.int .i64) (.pair (.int .i64) (.int .i64))) r_38)], [(0, 2), (1, 6), (4, 9)], 10⟩)] [] (calls_cons (spans_row_add_bggg_b0cf7_spec K x_29 r_35.1 r_35.2 (List.getD l_1 (Int.toNat t_16) ((0 : Int), ((0 : Int), (0 : Int)))).2.2 r_38 h_39) (by kernel_rfl) calls_nil) 9 [3, 6, 20, 21, 22] [0, 1, 2, 9] ⟨[(3, .c (.h 1)), (6, .c (.h 2)), (20, .c (.h 0)), (21, .c (.val (.int .i64 (((List.length l_1) : Nat) : Int)))), (22, .c (.val (.int .i64 t_16)))], [(0, .row (.pair (.int .i64) (.pair (.int .i64) (.int .i64))) l_1), (1, .box [.val (.int .i64 d_2), .imm (.slice (.pair (.int .i64) (.pair (.int .i64) .str))) d_3]), (2, .box [.h 9]), (9, .row (.pair (.int .i64) (.pair (.int .i64) (.int .i64))) r_38)], 10⟩ [] (by kernel_rfl) rfl rfl ap0 (by kernel_rfl) (by kernel_rfl) ?_
          refine VL_nil (QB_end ?_)
          refine V_run hN hn 1 10 [3, 6, 20, 21, 22] [0, 1, 2, 9] ⟨[(3, .c (.h 1)), (6, .c (.h 2)), (20, .c (.h 0)), (21, .c (.val (.int .i64 (((List.length l_1) : Nat) : Int)))), (22, .c (.val (.int .i64 (IntKind.wrap .i64 (t_16 + (1 : Int))))))], [(0, .row (.pair (.int .i64) (.pair (.int .i64) (.int .i64))) l_1), (1, .box [.val (.int .i64 d_2), .imm (.slice (.pair (.int .i64) (.pair (.int .i64) .str))) d_3]), (2, .box [.h 9]), (9, .row (.pair (.int .i64) (.pair (.int .i64) (.int .i64))) r_38)], 10⟩ [] (by kernel_rfl) rfl rfl ap0 ?_
          refine VL_nil ?_
          exact V_roundEnd (r_38, (IntKind.wrap .i64 (t_16 + (1 : Int)))) H_74 [(1, 1), (2, 2), (6, 9)] hn (by kernel_rfl) (by kernel_rfl) rfl rfl rfl
        · intro b_32; have H_71 := of_f H_69 b_32
          refine VL_exit ?_
          refine QL_exit ?_
          refine QB_here ?_
          have H_75 := Option.some.inj (show some x_29 = some q_64 from H_71); subst H_75
          refine VL_nil ?_
          exact QP_end x_29 rfl [(2, 2), (6, 6)] hn (by kernel_rfl) (by kernel_rfl) rfl rfl rfl
      · intro y_67 hy; subst hy
        skip
        skip
        refine V_run hN hn 1 7 [6] [0, 2, 6] ⟨[(6, .c (.h 2))], [(0, .row (.pair (.int .i64) (.pair (.int .i64) (.int .i64))) l_1), (2, .box [.h 6]), (6, .row (.pair (.int .i64) (.pair (.int .i64) (.int .i64))) y_67)], 7⟩ [] (by kernel_rfl) rfl rfl ap0 ?_
        obtain ⟨r_44, h_45, H_76⟩ := of_bind H_66
        refine V_reg hN hn [(1, ⟨26, 1, [.c (.h 0)], [(0, .row (.pair (.int .i64) (.pair (.int .i64) (.int .i64))) y_67)], .tup [(false, [.h 7]), (false, [.val (.int .i64 r_44.2.1)])], [(0, .row (.pair (.int .i64) (.pair (.int .i64) (.int .i64))) r_44.2.2), (7, .row (.pair (.int .i64) (.pair (.int .i64) (.int .i64))) r_44.1)], [(0, 6), (7, 7)], 8⟩)] [] (calls_cons (spans_told_r_spec K y_67 r_44 h_45) (by kernel_rfl) calls_nil) 7 [4, 5] [0, 7] ⟨[(4, .c (.h 7)), (5, .c (.val (.int .i64 r_44.2.1)))], [(0, .row (.pair (.int .i64) (.pair (.int .i64) (.int .i64))) l_1), (7, .row (.pair (.int .i64) (.pair (.int .i64) (.int .i64))) r_44.1)], 8⟩ [] (by kernel_rfl) rfl rfl ap0 (by kernel_rfl) (by kernel_rfl) ?_
        have H_77 := Option.some.inj (show some (r_44.1, r_44.2.1) = some r from H_76); subst H_77
        refine VL_ret ?_
        exact P_to [(4, .c (.h 8)), (5, .c (.val (.int .i64 r_44.2.1)))] [(0, .row (.pair (.int .i64) (.pair (.int .i64) (.int .i64))) l_1), (8, .row (.pair (.int .i64) (.pair (.int .i64) (.int .i64))) r_44.1)] [(8, 7)] hn (by kernel_rfl) (by kernel_rfl) rfl rfl rfl (QF_retS (by kernel_rfl) (by kernel_rfl) rfl)

end Go.Pal
