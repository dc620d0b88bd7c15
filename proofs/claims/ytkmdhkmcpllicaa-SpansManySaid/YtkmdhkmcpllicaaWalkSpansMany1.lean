/- The Go functions that SpansMany reaches compute what the plain functions say: part 1, printed by a program of this workplace. -/
import Derived.Test.YtkmdhkmcpllicaaChecked
import Derived.Test.YtkmdhkmcpllicaaWalkSpansMany0
namespace Go.Pal
open Go Go.Proofs
set_option maxRecDepth 100000
set_option linter.unusedVariables false

theorem spans_At_rg_spec (K : Nat) (l_1 : (List (Int × (Int × Int)))) (at_2 : Int) (r : Int) (H : spans_At_rg K l_1 at_2 = some r) : Spec Try.prog 11 1 [.c (.h 0), .c (.val (.int .i64 at_2))] [(0, .row (.pair (.int .i64) (.pair (.int .i64) (.int .i64))) l_1)] (.c (.val (.int .i64 r))) [(0, .row (.pair (.int .i64) (.pair (.int .i64) (.int .i64))) l_1)] := by
  refine Spec_mk (fn := Try.f11) (c := (Try.f11.body).get!) Try.func11 (by kernel_rfl) rfl ?_
  intro C hN hn
  replace hN : C.N = 26 := hN
  unfold spans_At_rg at H
  refine V_run hN hn 5 1 [1, 7, 8, 9] [0] ⟨[(1, .c (.val (.int .i64 at_2))), (7, .c (.h 0)), (8, .c (.val (.int .i64 (((List.length l_1) : Nat) : Int)))), (9, .c (.val (.int .i64 (0 : Int))))], [(0, .row (.pair (.int .i64) (.pair (.int .i64) (.int .i64))) l_1)], 1⟩ [] (by kernel_rfl) rfl rfl ap0 ?_
  refine VL_block ?_
  refine V_to [(1, .c (.val (.int .i64 at_2))), (7, .c (.h 0)), (8, .c (.val (.int .i64 (((List.length l_1) : Nat) : Int)))), (9, .c (.val (.int .i64 (0 : Int))))] [(0, .row (.pair (.int .i64) (.pair (.int .i64) (.int .i64))) l_1)] [] hn (by kernel_rfl) (by kernel_rfl) rfl rfl rfl ?_
  refine VL_loop (X := Int) (fun x => [(1, .c (.val (.int .i64 at_2))), (7, .c (.h 0)), (8, .c (.val (.int .i64 (((List.length l_1) : Nat) : Int)))), (9, .c (.val (.int .i64 x)))]) (fun x => [(0, .row (.pair (.int .i64) (.pair (.int .i64) (.int .i64))) l_1)]) (fun k x => spans_At_rg.l0 K l_1 at_2 k x = some r) K (0 : Int) H (fun _ h => no_none h) ?_
  intro k_5 t_4 H_22
  have H_23 : spans_At_rg.l0 K l_1 at_2 (k_5 + 1) t_4 = some r := H_22
  rw [spans_At_rg.l0] at H_23
  refine V_run hN hn 3 1 [1, 7, 8, 9, 10] [0] ⟨[(1, .c (.val (.int .i64 at_2))), (7, .c (.h 0)), (8, .c (.val (.int .i64 (((List.length l_1) : Nat) : Int)))), (9, .c (.val (.int .i64 t_4))), (10, .c (.val (.bool (decide (t_4 < (((List.length l_1) : Nat) : Int))))))], [(0, .row (.pair (.int .i64) (.pair (.int .i64) (.int .i64))) l_1)], 1⟩ [] (by kernel_rfl) rfl rfl ap0 ?_
  refine VL_cond ((decide (t_4 < (((List.length l_1) : Nat) : Int)))) (by kernel_rfl) ?_ ?_
  · intro b_7; have H_24 := of_t H_23 b_7
    refine V_run hN hn 2 1 [1, 7, 8, 9, 10] [0] ⟨[(1, .c (.val (.int .i64 at_2))), (7, .c (.h 0)), (8, .c (.val (.int .i64 (((List.length l_1) : Nat) : Int)))), (9, .c (.val (.int .i64 t_4))), (10, .c (.val (.bool (decide (t_4 < (((List.length l_1) : Nat) : Int))))))], [(0, .row (.pair (.int .i64) (.pair (.int .i64) (.int .i64))) l_1)], 1⟩ [] (by kernel_rfl) rfl rfl ap0 ?_
    refine VL_block ?_
    obtain ⟨c_9, H_26⟩ := of_if H_24
    refine V_run hN hn 3 1 [1, 6, 7, 8, 9] [0, 1] ⟨[(1, .c (.val (.int .i64 at_2))), (6, .c (.h 1)), (7, .c (.h 0)), (8, .c (.val (.int .i64 (((List.length l_1) : Nat) : Int)))), (9, .c (.val (.int .i64 t_4)))], [(0, .row (.pair (.int .i64) (.pair (.int .i64) (.int .i64))) l_1), (1, .box [.val (.int .i64 (List.getD l_1 (Int.toNat t_4) ((0 : Int), ((0 : Int), (0 : Int)))).1), .val (.int .i64 (List.getD l_1 (Int.toNat t_4) ((0 : Int), ((0 : Int), (0 : Int)))).2.1), .val (.int .i64 (List.getD l_1 (Int.toNat t_4) ((0 : Int), ((0 : Int), (0 : Int)))).2.2)])], 2⟩ [0 ≤ t_4, t_4 < (((List.length l_1) : Nat) : Int)] (by kernel_rfl) rfl rfl (ap2 c_9.1 (ap1 c_9.2)) ?_
    obtain ⟨q_27, H_28, H_29⟩ := of_bind H_26
    refine V_cut (Y := Bool) (R := Bool) q_27 (fun y => y) (fun y => [(1, .c (.val (.int .i64 at_2))), (6, .c (.h 1)), (7, .c (.h 0)), (8, .c (.val (.int .i64 (((List.length l_1) : Nat) : Int)))), (9, .c (.val (.int .i64 t_4))), (22, .c (.val (.bool y)))]) (fun y => [(0, .row (.pair (.int .i64) (.pair (.int .i64) (.int .i64))) l_1), (1, .box [.val (.int .i64 (List.getD l_1 (Int.toNat t_4) ((0 : Int), ((0 : Int), (0 : Int)))).1), .val (.int .i64 (List.getD l_1 (Int.toNat t_4) ((0 : Int), ((0 : Int), (0 : Int)))).2.1), .val (.int .i64 (List.getD l_1 (Int.toNat t_4) ((0 : Int), ((0 : Int), (0 : Int)))).2.2)])]) ?_ ?_
    · skip
      rcases Bool.eq_false_or_eq_true ((decide (at_2 ≥ (List.getD l_1 (Int.toNat t_4) ((0 : Int), ((0 : Int), (0 : Int)))).1))) with b_10 | b_10
      · have H_31 := of_t H_28 b_10
        refine V_reg hN hn [] [(17, true)] calls_nil 2 [1, 6, 7, 8, 9, 22] [0, 1] ⟨[(1, .c (.val (.int .i64 at_2))), (6, .c (.h 1)), (7, .c (.h 0)), (8, .c (.val (.int .i64 (((List.length l_1) : Nat) : Int)))), (9, .c (.val (.int .i64 t_4))), (22, .c (.val (.bool (decide (at_2 < (List.getD l_1 (Int.toNat t_4) ((0 : Int), ((0 : Int), (0 : Int)))).2.1)))))], [(0, .row (.pair (.int .i64) (.pair (.int .i64) (.int .i64))) l_1), (1, .box [.val (.int .i64 (List.getD l_1 (Int.toNat t_4) ((0 : Int), ((0 : Int), (0 : Int)))).1), .val (.int .i64 (List.getD l_1 (Int.toNat t_4) ((0 : Int), ((0 : Int), (0 : Int)))).2.1), .val (.int .i64 (List.getD l_1 (Int.toNat t_4) ((0 : Int), ((0 : Int), (0 : Int)))).2.2)])], 2⟩ [(decide (at_2 ≥ (List.getD l_1 (Int.toNat t_4) ((0 : Int), ((0 : Int), (0 : Int)))).1)) = true] (by kernel_rfl) rfl rfl (ap1 b_10) (by kernel_rfl) (by kernel_rfl) ?_
        have H_33 := Option.some.inj (show some (decide (at_2 < (List.getD l_1 (Int.toNat t_4) ((0 : Int), ((0 : Int), (0 : Int)))).2.1)) = some q_27 from H_31); subst H_33
        refine VL_nil ?_
        exact QP_end (decide (at_2 < (List.getD l_1 (Int.toNat t_4) ((0 : Int), ((0 : Int), (0 : Int)))).2.1)) rfl [(1, 1)] hn (by kernel_rfl) (by kernel_rfl) rfl rfl rfl
      · have H_32 := of_f H_28 b_10
        refine V_reg hN hn [] [(17, false)] calls_nil 2 [1, 6, 7, 8, 9, 22] [0, 1] ⟨[(1, .c (.val (.int .i64 at_2))), (6, .c (.h 1)), (7, .c (.h 0)), (8, .c (.val (.int .i64 (((List.length l_1) : Nat) : Int)))), (9, .c (.val (.int .i64 t_4))), (22, .c (.val (.bool false)))], [(0, .row (.pair (.int .i64) (.pair (.int .i64) (.int .i64))) l_1), (1, .box [.val (.int .i64 (List.getD l_1 (Int.toNat t_4) ((0 : Int), ((0 : Int), (0 : Int)))).1), .val (.int .i64 (List.getD l_1 (Int.toNat t_4) ((0 : Int), ((0 : Int), (0 : Int)))).2.1), .val (.int .i64 (List.getD l_1 (Int.toNat t_4) ((0 : Int), ((0 : Int), (0 : Int)))).2.2)])], 2⟩ [(decide (at_2 ≥ (List.getD l_1 (Int.toNat t_4) ((0 : Int), ((0 : Int), (0 : Int)))).1)) = false] (by kernel_rfl) rfl rfl (ap1 b_10) (by kernel_rfl) (by kernel_rfl) ?_
        have H_34 := Option.some.inj (show some false = some q_27 from H_32); subst H_34
        refine VL_nil ?_
        exact QP_end false rfl [(1, 1)] hn (by kernel_rfl) (by kernel_rfl) rfl rfl rfl
    · intro y_30 hy; subst hy
      skip
      skip
      refine VL_cond (y_30) (by kernel_rfl) ?_ ?_
      · intro b_14; have H_35 := of_t H_29 b_14
        refine V_run hN hn 2 2 [4] [0] ⟨[(4, .c (.val (.int .i64 (List.getD l_1 (Int.toNat t_4) ((0 : Int), ((0 : Int), (0 : Int)))).2.2)))], [(0, .row (.pair (.int .i64) (.pair (.int .i64) (.int .i64))) l_1)], 2⟩ [] (by kernel_rfl) rfl rfl ap0 ?_
        have H_37 := Option.some.inj (show some (List.getD l_1 (Int.toNat t_4) ((0 : Int), ((0 : Int), (0 : Int)))).2.2 = some r from H_35); subst H_37
        refine VL_ret ?_
        refine QB_ret ?_
        refine QL_ret ?_
        refine QB_ret ?_
        exact P_to [(4, .c (.val (.int .i64 (List.getD l_1 (Int.toNat t_4) ((0 : Int), ((0 : Int), (0 : Int)))).2.2)))] [(0, .row (.pair (.int .i64) (.pair (.int .i64) (.int .i64))) l_1)] [] hn (by kernel_rfl) (by kernel_rfl) rfl rfl rfl (QF_retS (by kernel_rfl) (by kernel_rfl) rfl)
      · intro b_14; have H_36 := of_f H_29 b_14
        refine V_run hN hn 1 2 [1, 6, 7, 8, 9, 22] [0, 1] ⟨[(1, .c (.val (.int .i64 at_2))), (6, .c (.h 1)), (7, .c (.h 0)), (8, .c (.val (.int .i64 (((List.length l_1) : Nat) : Int)))), (9, .c (.val (.int .i64 t_4))), (22, .c (.val (.bool y_30)))], [(0, .row (.pair (.int .i64) (.pair (.int .i64) (.int .i64))) l_1), (1, .box [.val (.int .i64 (List.getD l_1 (Int.toNat t_4) ((0 : Int), ((0 : Int), (0 : Int)))).1), .val (.int .i64 (List.getD l_1 (Int.toNat t_4) ((0 : Int), ((0 : Int), (0 : Int)))).2.1), .val (.int .i64 (List.getD l_1 (Int.toNat t_4) ((0 : Int), ((0 : Int), (0 : Int)))).2.2)])], 2⟩ [] (by kernel_rfl) rfl rfl ap0 ?_
        refine VL_nil (QB_end ?_)
        refine V_run hN hn 1 2 [1, 7, 8, 9] [0] ⟨[(1, .c (.val (.int .i64 at_2))), (7, .c (.h 0)), (8, .c (.val (.int .i64 (((List.length l_1) : Nat) : Int)))), (9, .c (.val (.int .i64 (IntKind.wrap .i64 (t_4 + (1 : Int))))))], [(0, .row (.pair (.int .i64) (.pair (.int .i64) (.int .i64))) l_1)], 2⟩ [] (by kernel_rfl) rfl rfl ap0 ?_
        refine VL_nil ?_
        exact V_roundEnd (IntKind.wrap .i64 (t_4 + (1 : Int))) H_36 [] hn (by kernel_rfl) (by kernel_rfl) rfl rfl rfl
  · intro b_7; have H_25 := of_f H_23 b_7
    refine VL_exit ?_
    refine QL_exit ?_
    refine QB_here ?_
    refine V_run hN hn 2 1 [4] [0] ⟨[(4, .c (.val (.int .i64 (0 : Int))))], [(0, .row (.pair (.int .i64) (.pair (.int .i64) (.int .i64))) l_1)], 1⟩ [] (by kernel_rfl) rfl rfl ap0 ?_
    have H_38 := Option.some.inj (show some (0 : Int) = some r from H_25); subst H_38
    refine VL_ret ?_
    exact P_to [(4, .c (.val (.int .i64 (0 : Int))))] [(0, .row (.pair (.int .i64) (.pair (.int .i64) (.int .i64))) l_1)] [] hn (by kernel_rfl) (by kernel_rfl) rfl rfl rfl (QF_retS (by kernel_rfl) (by kernel_rfl) rfl)

theorem palinodelaw15_known_spec (K : Nat) (r : Bool) (H : palinodelaw15_known K  = some r) : Spec Try.prog 9 0 [] [] (.c (.val (.bool r))) [] := by
  refine Spec_mk (fn := Try.f9) (c := (Try.f9.body).get!) Try.func9 (by kernel_rfl) rfl ?_
  intro C hN hn
  replace hN : C.N = 81 := hN
  unfold palinodelaw15_known at H
  refine V_run hN hn 3 0 [] [] ⟨[], [], 0⟩ [] (by kernel_rfl) rfl rfl ap0 ?_
  obtain ⟨r_2, h_3, H_48⟩ := of_bind H
  refine V_reg hN hn [(1, ⟨10, 0, [.c (.val (.slice none 0 0)), .agg [.val (.int .i64 (0 : Int)), .val (.int .i64 (9 : Int)), .val (.int .i64 (1 : Int))]], [], .tup [(false, [.h 9]), (false, [.val (.int .i64 r_2.2)])], [(9, .row (.pair (.int .i64) (.pair (.int .i64) (.int .i64))) r_2.1)], [(9, 0)], 1⟩)] [] (calls_cons (spans_Put_nsggg_spec K (0 : Int) (9 : Int) (1 : Int) r_2 h_3) (by kernel_rfl) calls_nil) 0 [1, 2] [0] ⟨[(1, .c (.h 0)), (2, .c (.val (.int .i64 r_2.2)))], [(0, .row (.pair (.int .i64) (.pair (.int .i64) (.int .i64))) r_2.1)], 1⟩ [] (by kernel_rfl) rfl rfl ap0 (by kernel_rfl) (by kernel_rfl) ?_
  refine V_run hN hn 1 1 [1, 2] [0] ⟨[(1, .c (.h 0)), (2, .c (.val (.int .i64 r_2.2)))], [(0, .row (.pair (.int .i64) (.pair (.int .i64) (.int .i64))) r_2.1)], 1⟩ [] (by kernel_rfl) rfl rfl ap0 ?_
  obtain ⟨r_6, h_7, H_49⟩ := of_bind H_48
  refine V_reg hN hn [(2, ⟨10, 1, [.c (.h 0), .agg [.val (.int .i64 (3 : Int)), .val (.int .i64 (5 : Int)), .val (.int .i64 (2 : Int))]], [(0, .row (.pair (.int .i64) (.pair (.int .i64) (.int .i64))) r_2.1)], .tup [(false, [.h 10]), (false, [.val (.int .i64 r_6.2)])], [(0, .row (.pair (.int .i64) (.pair (.int .i64) (.int .i64))) r_2.1), (10, .row (.pair (.int .i64) (.pair (.int .i64) (.int .i64))) r_6.1)], [(0, 0), (10, 1)], 2⟩)] [] (calls_cons (spans_Put_rsggg_spec K r_2.1 (3 : Int) (5 : Int) (2 : Int) r_6 h_7) (by kernel_rfl) calls_nil) 1 [2, 3, 4] [1] ⟨[(2, .c (.val (.int .i64 r_2.2))), (3, .c (.h 1)), (4, .c (.val (.int .i64 r_6.2)))], [(1, .row (.pair (.int .i64) (.pair (.int .i64) (.int .i64))) r_6.1)], 2⟩ [] (by kernel_rfl) rfl rfl ap0 (by kernel_rfl) (by kernel_rfl) ?_
  refine V_run hN hn 1 2 [2, 3, 4] [1] ⟨[(2, .c (.val (.int .i64 r_2.2))), (3, .c (.h 1)), (4, .c (.val (.int .i64 r_6.2)))], [(1, .row (.pair (.int .i64) (.pair (.int .i64) (.int .i64))) r_6.1)], 2⟩ [] (by kernel_rfl) rfl rfl ap0 ?_
  obtain ⟨r_10, h_11, H_50⟩ := of_bind H_49
  refine V_reg hN hn [(2, ⟨10, 1, [.c (.h 0), .agg [.val (.int .i64 (3 : Int)), .val (.int .i64 (5 : Int)), .val (.int .i64 (101 : Int))]], [(0, .row (.pair (.int .i64) (.pair (.int .i64) (.int .i64))) r_6.1)], .tup [(false, [.h 10]), (false, [.val (.int .i64 r_10.2)])], [(0, .row (.pair (.int .i64) (.pair (.int .i64) (.int .i64))) r_6.1), (10, .row (.pair (.int .i64) (.pair (.int .i64) (.int .i64))) r_10.1)], [(0, 1), (10, 2)], 3⟩)] [] (calls_cons (spans_Put_rsggg_spec K r_6.1 (3 : Int) (5 : Int) (101 : Int) r_10 h_11) (by kernel_rfl) calls_nil) 2 [2, 3, 4, 6] [1] ⟨[(2, .c (.val (.int .i64 r_2.2))), (3, .c (.h 1)), (4, .c (.val (.int .i64 r_6.2))), (6, .c (.val (.int .i64 r_10.2)))], [(1, .row (.pair (.int .i64) (.pair (.int .i64) (.int .i64))) r_6.1)], 3⟩ [] (by kernel_rfl) rfl rfl ap0 (by kernel_rfl) (by kernel_rfl) ?_
  refine V_run hN hn 1 3 [2, 3, 4, 6] [1] ⟨[(2, .c (.val (.int .i64 r_2.2))), (3, .c (.h 1)), (4, .c (.val (.int .i64 r_6.2))), (6, .c (.val (.int .i64 r_10.2)))], [(1, .row (.pair (.int .i64) (.pair (.int .i64) (.int .i64))) r_6.1)], 3⟩ [] (by kernel_rfl) rfl rfl ap0 ?_
  obtain ⟨r_14, h_15, H_51⟩ := of_bind H_50
  refine V_reg hN hn [(2, ⟨14, 1, [.c (.h 0), .agg [.val (.int .i64 (4 : Int)), .val (.int .i64 (6 : Int))]], [(0, .row (.pair (.int .i64) (.pair (.int .i64) (.int .i64))) r_6.1)], .c (.h 6), [(0, .row (.pair (.int .i64) (.pair (.int .i64) (.int .i64))) r_6.1), (6, .row (.pair (.int .i64) (.pair (.int .i64) (.int .i64))) r_14)], [(0, 1), (6, 3)], 4⟩)] [] (calls_cons (spans_In_rsgg_spec K r_6.1 (4 : Int) (6 : Int) r_14 h_15) (by kernel_rfl) calls_nil) 3 [2, 3, 4, 6, 7] [1, 3] ⟨[(2, .c (.val (.int .i64 r_2.2))), (3, .c (.h 1)), (4, .c (.val (.int .i64 r_6.2))), (6, .c (.val (.int .i64 r_10.2))), (7, .c (.h 3))], [(1, .row (.pair (.int .i64) (.pair (.int .i64) (.int .i64))) r_6.1), (3, .row (.pair (.int .i64) (.pair (.int .i64) (.int .i64))) r_14)], 4⟩ [] (by kernel_rfl) rfl rfl ap0 (by kernel_rfl) (by kernel_rfl) ?_
  refine V_run hN hn 1 4 [2, 3, 4, 6, 7] [1, 3] ⟨[(2, .c (.val (.int .i64 r_2.2))), (3, .c (.h 1)), (4, .c (.val (.int .i64 r_6.2))), (6, .c (.val (.int .i64 r_10.2))), (7, .c (.h 3))], [(1, .row (.pair (.int .i64) (.pair (.int .i64) (.int .i64))) r_6.1), (3, .row (.pair (.int .i64) (.pair (.int .i64) (.int .i64))) r_14)], 4⟩ [] (by kernel_rfl) rfl rfl ap0 ?_
  rcases Bool.eq_false_or_eq_true ((r_2.2 == (0 : Int))) with b_18 | b_18
  · have H_52 := of_t H_51 b_18
    rcases Bool.eq_false_or_eq_true ((r_6.2 == (0 : Int))) with b_19 | b_19
    · have H_54 := of_t H_52 b_19
      rcases Bool.eq_false_or_eq_true (((((List.length r_6.1) : Nat) : Int) == (3 : Int))) with b_20 | b_20
      · have H_56 := of_t H_54 b_20
        rcases Bool.eq_false_or_eq_true ((((List.getD r_6.1 2 ((0 : Int), ((0 : Int), (0 : Int)))).1 == (5 : Int)) && (((List.getD r_6.1 2 ((0 : Int), ((0 : Int), (0 : Int)))).2.1 == (9 : Int)) && ((List.getD r_6.1 2 ((0 : Int), ((0 : Int), (0 : Int)))).2.2 == (1 : Int))))) with b_21 | b_21
        · have H_58 := of_t H_56 b_21
          obtain ⟨r_22, h_23, H_60⟩ := of_bind H_58
          rcases Bool.eq_false_or_eq_true ((r_22 == (2 : Int))) with b_24 | b_24
          · have H_61 := of_t H_60 b_24
            obtain ⟨r_25, h_26, H_63⟩ := of_bind H_61
            rcases Bool.eq_false_or_eq_true ((r_25 == (0 : Int))) with b_27 | b_27
            · have H_64 := of_t H_63 b_27
              rcases Bool.eq_false_or_eq_true ((r_10.2 == (12 : Int))) with b_28 | b_28
              · have H_66 := of_t H_64 b_28
                obtain ⟨r_29, h_30, H_68⟩ := of_bind H_66
                rcases Bool.eq_false_or_eq_true (r_29) with b_31 | b_31
                · have H_69 := of_t H_68 b_31
                  obtain ⟨r_32, h_33, H_71⟩ := of_bind H_69
                  rcases Bool.eq_false_or_eq_true ((!r_32)) with b_34 | b_34
                  · have H_72 := of_t H_71 b_34
                    rcases Bool.eq_false_or_eq_true (((((List.length r_14) : Nat) : Int) == (2 : Int))) with b_35 | b_35
                    · have H_74 := of_t H_72 b_35
                      obtain ⟨c_36, H_76⟩ := of_if H_74
                      refine V_reg hN hn [(20, ⟨11, 1, [.c (.h 0), .c (.val (.int .i64 (3 : Int)))], [(0, .row (.pair (.int .i64) (.pair (.int .i64) (.int .i64))) r_6.1)], .c (.val (.int .i64 r_22)), [(0, .row (.pair (.int .i64) (.pair (.int .i64) (.int .i64))) r_6.1)], [(0, 1)], 4⟩), (25, ⟨11, 1, [.c (.h 0), .c (.val (.int .i64 (9 : Int)))], [(0, .row (.pair (.int .i64) (.pair (.int .i64) (.int .i64))) r_6.1)], .c (.val (.int .i64 r_25)), [(0, .row (.pair (.int .i64) (.pair (.int .i64) (.int .i64))) r_6.1)], [(0, 1)], 4⟩), (34, ⟨13, 1, [.c (.h 0), .c (.val (.int .i64 (9 : Int)))], [(0, .row (.pair (.int .i64) (.pair (.int .i64) (.int .i64))) r_6.1)], .c (.val (.bool r_29)), [(0, .row (.pair (.int .i64) (.pair (.int .i64) (.int .i64))) r_6.1)], [(0, 1)], 4⟩), (38, ⟨13, 1, [.c (.h 0), .c (.val (.int .i64 (8 : Int)))], [(0, .row (.pair (.int .i64) (.pair (.int .i64) (.int .i64))) r_6.1)], .c (.val (.bool r_32)), [(0, .row (.pair (.int .i64) (.pair (.int .i64) (.int .i64))) r_6.1)], [(0, 1)], 4⟩)] [(30, true), (34, true), (39, true), (46, true), (51, true), (56, true), (60, true), (64, true), (69, true), (74, true)] (calls_cons (spans_At_rg_spec K r_6.1 (3 : Int) r_22 h_23) (by kernel_rfl) (calls_cons (spans_At_rg_spec K r_6.1 (9 : Int) r_25 h_26) (by kernel_rfl) (calls_cons (spans_Is_rg_spec K r_6.1 (9 : Int) r_29 h_30) (by kernel_rfl) (calls_cons (spans_Is_rg_spec K r_6.1 (8 : Int) r_32 h_33) (by kernel_rfl) calls_nil)))) 4 [0] [] ⟨[(0, .c (.val (.bool (((List.getD r_14 0 ((0 : Int), ((0 : Int), (0 : Int)))).1 == (4 : Int)) && (((List.getD r_14 0 ((0 : Int), ((0 : Int), (0 : Int)))).2.1 == (5 : Int)) && ((List.getD r_14 0 ((0 : Int), ((0 : Int), (0 : Int)))).2.2 == (2 : Int)))))))], [], 4⟩ [(r_2.2 == (0 : Int)) = true, (r_6.2 == (0 : Int)) = true, ((((List.length r_6.1) : Nat) : Int) == (3 : Int)) = true, (0 : Int) ≤ (2 : Int), (2 : Int) < (((List.length r_6.1) : Nat) : Int), (((List.getD r_6.1 2 ((0 : Int), ((0 : Int), (0 : Int)))).1 == (5 : Int)) && (((List.getD r_6.1 2 ((0 : Int), ((0 : Int), (0 : Int)))).2.1 == (9 : Int)) && ((List.getD r_6.1 2 ((0 : Int), ((0 : Int), (0 : Int)))).2.2 == (1 : Int)))) = true, (r_22 == (2 : Int)) = true, (r_25 == (0 : Int)) = true, (r_10.2 == (12 : Int)) = true, r_29 = true, (!r_32) = true, ((((List.length r_14) : Nat) : Int) == (2 : Int)) = true, (0 : Int) ≤ (0 : Int), (0 : Int) < (((List.length r_14) : Nat) : Int)] (by kernel_rfl) rfl rfl (ap2 b_18 (ap2 b_19 (ap2 b_20 (ap2 (by decide) (ap2 c_36.1 (ap2 b_21 (ap2 b_24 (ap2 b_27 (ap2 b_28 (ap2 b_31 (ap2 b_34 (ap2 b_35 (ap2 (by decide) (ap1 c_36.2)))))))))))))) (by kernel_rfl) (by kernel_rfl) ?_
                      have H_77 := Option.some.inj (show some (((List.getD r_14 0 ((0 : Int), ((0 : Int), (0 : Int)))).1 == (4 : Int)) && (((List.getD r_14 0 ((0 : Int), ((0 : Int), (0 : Int)))).2.1 == (5 : Int)) && ((List.getD r_14 0 ((0 : Int), ((0 : Int), (0 : Int)))).2.2 == (2 : Int)))) = some r from H_76); subst H_77
                      refine VL_ret ?_
                      exact P_to [(0, .c (.val (.bool (((List.getD r_14 0 ((0 : Int), ((0 : Int), (0 : Int)))).1 == (4 : Int)) && (((List.getD r_14 0 ((0 : Int), ((0 : Int), (0 : Int)))).2.1 == (5 : Int)) && ((List.getD r_14 0 ((0 : Int), ((0 : Int), (0 : Int)))).2.2 == (2 : Int)))))))] [] [] hn (by kernel_rfl) (by kernel_rfl) rfl rfl rfl (QF_retS (by kernel_rfl) (by kernel_rfl) rfl)
                    · have H_75 := of_f H_72 b_35
                      obtain ⟨c_37, H_78⟩ := of_if H_75
                      refine V_reg hN hn [(20, ⟨11, 1, [.c (.h 0), .c (.val (.int .i64 (3 : Int)))], [(0, .row (.pair (.int .i64) (.pair (.int .i64) (.int .i64))) r_6.1)], .c (.val (.int .i64 r_22)), [(0, .row (.pair (.int .i64) (.pair (.int .i64) (.int .i64))) r_6.1)], [(0, 1)], 4⟩), (25, ⟨11, 1, [.c (.h 0), .c (.val (.int .i64 (9 : Int)))], [(0, .row (.pair (.int .i64) (.pair (.int .i64) (.int .i64))) r_6.1)], .c (.val (.int .i64 r_25)), [(0, .row (.pair (.int .i64) (.pair (.int .i64) (.int .i64))) r_6.1)], [(0, 1)], 4⟩), (34, ⟨13, 1, [.c (.h 0), .c (.val (.int .i64 (9 : Int)))], [(0, .row (.pair (.int .i64) (.pair (.int .i64) (.int .i64))) r_6.1)], .c (.val (.bool r_29)), [(0, .row (.pair (.int .i64) (.pair (.int .i64) (.int .i64))) r_6.1)], [(0, 1)], 4⟩), (38, ⟨13, 1, [.c (.h 0), .c (.val (.int .i64 (8 : Int)))], [(0, .row (.pair (.int .i64) (.pair (.int .i64) (.int .i64))) r_6.1)], .c (.val (.bool r_32)), [(0, .row (.pair (.int .i64) (.pair (.int .i64) (.int .i64))) r_6.1)], [(0, 1)], 4⟩)] [(30, true), (34, true), (39, true), (46, true), (51, true), (56, true), (60, true), (64, true), (69, true), (74, false)] (calls_cons (spans_At_rg_spec K r_6.1 (3 : Int) r_22 h_23) (by kernel_rfl) (calls_cons (spans_At_rg_spec K r_6.1 (9 : Int) r_25 h_26) (by kernel_rfl) (calls_cons (spans_Is_rg_spec K r_6.1 (9 : Int) r_29 h_30) (by kernel_rfl) (calls_cons (spans_Is_rg_spec K r_6.1 (8 : Int) r_32 h_33) (by kernel_rfl) calls_nil)))) 4 [0] [] ⟨[(0, .c (.val (.bool false)))], [], 4⟩ [(r_2.2 == (0 : Int)) = true, (r_6.2 == (0 : Int)) = true, ((((List.length r_6.1) : Nat) : Int) == (3 : Int)) = true, (0 : Int) ≤ (2 : Int), (2 : Int) < (((List.length r_6.1) : Nat) : Int), (((List.getD r_6.1 2 ((0 : Int), ((0 : Int), (0 : Int)))).1 == (5 : Int)) && (((List.getD r_6.1 2 ((0 : Int), ((0 : Int), (0 : Int)))).2.1 == (9 : Int)) && ((List.getD r_6.1 2 ((0 : Int), ((0 : Int), (0 : Int)))).2.2 == (1 : Int)))) = true, (r_22 == (2 : Int)) = true, (r_25 == (0 : Int)) = true, (r_10.2 == (12 : Int)) = true, r_29 = true, (!r_32) = true, ((((List.length r_14) : Nat) : Int) == (2 : Int)) = false] (by kernel_rfl) rfl rfl (ap2 b_18 (ap2 b_19 (ap2 b_20 (ap2 (by decide) (ap2 c_37 (ap2 b_21 (ap2 b_24 (ap2 b_27 (ap2 b_28 (ap2 b_31 (ap2 b_34 (ap1 b_35)))))))))))) (by kernel_rfl) (by kernel_rfl) ?_
                      have H_79 := Option.some.inj (show some false = some r from H_78); subst H_79
                      refine VL_ret ?_
                      exact P_to [(0, .c (.val (.bool false)))] [] [] hn (by kernel_rfl) (by kernel_rfl) rfl rfl rfl (QF_retS (by kernel_rfl) (by kernel_rfl) rfl)
                  · have H_73 := of_f H_71 b_34
                    obtain ⟨c_38, H_80⟩ := of_if H_73
                    refine V_reg hN hn [(20, ⟨11, 1, [.c (.h 0), .c (.val (.int .i64 (3 : Int)))], [(0, .row (.pair (.int .i64) (.pair (.int .i64) (.int .i64))) r_6.1)], .c (.val (.int .i64 r_22)), [(0, .row (.pair (.int .i64) (.pair (.int .i64) (.int .i64))) r_6.1)], [(0, 1)], 4⟩), (25, ⟨11, 1, [.c (.h 0), .c (.val (.int .i64 (9 : Int)))], [(0, .row (.pair (.int .i64) (.pair (.int .i64) (.int .i64))) r_6.1)], .c (.val (.int .i64 r_25)), [(0, .row (.pair (.int .i64) (.pair (.int .i64) (.int .i64))) r_6.1)], [(0, 1)], 4⟩), (34, ⟨13, 1, [.c (.h 0), .c (.val (.int .i64 (9 : Int)))], [(0, .row (.pair (.int .i64) (.pair (.int .i64) (.int .i64))) r_6.1)], .c (.val (.bool r_29)), [(0, .row (.pair (.int .i64) (.pair (.int .i64) (.int .i64))) r_6.1)], [(0, 1)], 4⟩), (38, ⟨13, 1, [.c (.h 0), .c (.val (.int .i64 (8 : Int)))], [(0, .row (.pair (.int .i64) (.pair (.int .i64) (.int .i64))) r_6.1)], .c (.val (.bool r_32)), [(0, .row (.pair (.int .i64) (.pair (.int .i64) (.int .i64))) r_6.1)], [(0, 1)], 4⟩)] [(30, true), (34, true), (39, true), (46, true), (51, true), (56, true), (60, true), (64, true), (69, false)] (calls_cons (spans_At_rg_spec K r_6.1 (3 : Int) r_22 h_23) (by kernel_rfl) (calls_cons (spans_At_rg_spec K r_6.1 (9 : Int) r_25 h_26) (by kernel_rfl) (calls_cons (spans_Is_rg_spec K r_6.1 (9 : Int) r_29 h_30) (by kernel_rfl) (calls_cons (spans_Is_rg_spec K r_6.1 (8 : Int) r_32 h_33) (by kernel_rfl) calls_nil)))) 4 [0] [] ⟨[(0, .c (.val (.bool false)))], [], 4⟩ [(r_2.2 == (0 : Int)) = true, (r_6.2 == (0 : Int)) = true, ((((List.length r_6.1) : Nat) : Int) == (3 : Int)) = true, (0 : Int) ≤ (2 : Int), (2 : Int) < (((List.length r_6.1) : Nat) : Int), (((List.getD r_6.1 2 ((0 : Int), ((0 : Int), (0 : Int)))).1 == (5 : Int)) && (((List.getD r_6.1 2 ((0 : Int), ((0 : Int), (0 : Int)))).2.1 == (9 : Int)) && ((List.getD r_6.1 2 ((0 : Int), ((0 : Int), (0 : Int)))).2.2 == (1 : Int)))) = true, (r_22 == (2 : Int)) = true, (r_25 == (0 : Int)) = true, (r_10.2 == (12 : Int)) = true, r_29 = true, (!r_32) = false] (by kernel_rfl) rfl rfl (ap2 b_18 (ap2 b_19 (ap2 b_20 (ap2 (by decide) (ap2 c_38 (ap2 b_21 (ap2 b_24 (ap2 b_27 (ap2 b_28 (ap2 b_31 (ap1 b_34))))))))))) (by kernel_rfl) (by kernel_rfl) ?_
                    have H_81 := Option.some.inj (show some false = some r from H_80); subst H_81
                    refine VL_ret ?_
                    exact P_to [(0, .c (.val (.bool false)))] [] [] hn (by kernel_rfl) (by kernel_rfl) rfl rfl rfl (QF_retS (by kernel_rfl) (by kernel_rfl) rfl)
                · have H_70 := of_f H_68 b_31
                  obtain ⟨c_39, H_82⟩ := of_if H_70
                  refine V_reg hN hn [(20, ⟨11, 1, [.c (.h 0), .c (.val (.int .i64 (3 : Int)))], [(0, .row (.pair (.int .i64) (.pair (.int .i64) (.int .i64))) r_6.1)], .c (.val (.int .i64 r_22)), [(0, .row (.pair (.int .i64) (.pair (.int .i64) (.int .i64))) r_6.1)], [(0, 1)], 4⟩), (25, ⟨11, 1, [.c (.h 0), .c (.val (.int .i64 (9 : Int)))], [(0, .row (.pair (.int .i64) (.pair (.int .i64) (.int .i64))) r_6.1)], .c (.val (.int .i64 r_25)), [(0, .row (.pair (.int .i64) (.pair (.int .i64) (.int .i64))) r_6.1)], [(0, 1)], 4⟩), (34, ⟨13, 1, [.c (.h 0), .c (.val (.int .i64 (9 : Int)))], [(0, .row (.pair (.int .i64) (.pair (.int .i64) (.int .i64))) r_6.1)], .c (.val (.bool r_29)), [(0, .row (.pair (.int .i64) (.pair (.int .i64) (.int .i64))) r_6.1)], [(0, 1)], 4⟩)] [(30, true), (34, true), (39, true), (46, true), (51, true), (56, true), (60, true), (64, false)] (calls_cons (spans_At_rg_spec K r_6.1 (3 : Int) r_22 h_23) (by kernel_rfl) (calls_cons (spans_At_rg_spec K r_6.1 (9 : Int) r_25 h_26) (by kernel_rfl) (calls_cons (spans_Is_rg_spec K r_6.1 (9 : Int) r_29 h_30) (by kernel_rfl) calls_nil))) 4 [0] [] ⟨[(0, .c (.val (.bool false)))], [], 4⟩ [(r_2.2 == (0 : Int)) = true, (r_6.2 == (0 : Int)) = true, ((((List.length r_6.1) : Nat) : Int) == (3 : Int)) = true, (0 : Int) ≤ (2 : Int), (2 : Int) < (((List.length r_6.1) : Nat) : Int), (((List.getD r_6.1 2 ((0 : Int), ((0 : Int), (0 : Int)))).1 == (5 : Int)) && (((List.getD r_6.1 2 ((0 : Int), ((0 : Int), (0 : Int)))).2.1 == (9 : Int)) && ((List.getD r_6.1 2 ((0 : Int), ((0 : Int), (0 : Int)))).2.2 == (1 : Int)))) = true, (r_22 == (2 : Int)) = true, (r_25 == (0 : Int)) = true, (r_10.2 == (12 : Int)) = true, r_29 = false] (by kernel_rfl) rfl rfl (ap2 b_18 (ap2 b_19 (ap2 b_20 (ap2 (by decide) (ap2 c_39 (ap2 b_21 (ap2 b_24 (ap2 b_27 (ap2 b_28 (ap1 b_31)))))))))) (by kernel_rfl) (by kernel_rfl) ?_
                  have H_83 := Option.some.inj (show some false = some r from H_82); subst H_83
                  refine VL_ret ?_
                  exact P_to [(0, .c (.val (.bool false)))] [] [] hn (by kernel_rfl) (by kernel_rfl) rfl rfl rfl (QF_retS (by kernel_rfl) (by kernel_rfl) rfl)
              · have H_67 := of_f H_64 b_28
                obtain ⟨c_40, H_84⟩ := of_if H_67
                refine V_reg hN hn [(20, ⟨11, 1, [.c (.h 0), .c (.val (.int .i64 (3 : Int)))], [(0, .row (.pair (.int .i64) (.pair (.int .i64) (.int .i64))) r_6.1)], .c (.val (.int .i64 r_22)), [(0, .row (.pair (.int .i64) (.pair (.int .i64) (.int .i64))) r_6.1)], [(0, 1)], 4⟩), (25, ⟨11, 1, [.c (.h 0), .c (.val (.int .i64 (9 : Int)))], [(0, .row (.pair (.int .i64) (.pair (.int .i64) (.int .i64))) r_6.1)], .c (.val (.int .i64 r_25)), [(0, .row (.pair (.int .i64) (.pair (.int .i64) (.int .i64))) r_6.1)], [(0, 1)], 4⟩)] [(30, true), (34, true), (39, true), (46, true), (51, true), (56, true), (60, false)] (calls_cons (spans_At_rg_spec K r_6.1 (3 : Int) r_22 h_23) (by kernel_rfl) (calls_cons (spans_At_rg_spec K r_6.1 (9 : Int) r_25 h_26) (by kernel_rfl) calls_nil)) 4 [0] [] ⟨[(0, .c (.val (.bool false)))], [], 4⟩ [(r_2.2 == (0 : Int)) = true, (r_6.2 == (0 : Int)) = true, ((((List.length r_6.1) : Nat) : Int) == (3 : Int)) = true, (0 : Int) ≤ (2 : Int), (2 : Int) < (((List.length r_6.1) : Nat) : Int), (((List.getD r_6.1 2 ((0 : Int), ((0 : Int), (0 : Int)))).1 == (5 : Int)) && (((List.getD r_6.1 2 ((0 : Int), ((0 : Int), (0 : Int)))).2.1 == (9 : Int)) && ((List.getD r_6.1 2 ((0 : Int), ((0 : Int), (0 : Int)))).2.2 == (1 : Int)))) = true, (r_22 == (2 : Int)) = true, (r_25 == (0 : Int)) = true, (r_10.2 == (12 : Int)) = false] (by kernel_rfl) rfl rfl (ap2 b_18 (ap2 b_19 (ap2 b_20 (ap2 (by decide) (ap2 c_40 (ap2 b_21 (ap2 b_24 (ap2 b_27 (ap1 b_28))))))))) (by kernel_rfl) (by kernel_rfl) ?_
                have H_85 := Option.some.inj (show some false = some r from H_84); subst H_85
                refine VL_ret ?_
                exact P_to [(0, .c (.val (.bool false)))] [] [] hn (by kernel_rfl) (by kernel_rfl) rfl rfl rfl (QF_retS (by kernel_rfl) (by kernel_rfl) rfl)
            · have H_65 := of_f H_63 b_27
              obtain ⟨c_41, H_86⟩ := of_if H_65
              refine V_reg hN hn [(20, ⟨11, 1, [.c (.h 0), .c (.val (.int .i64 (3 : Int)))], [(0, .row (.pair (.int .i64) (.pair (.int .i64) (.int .i64))) r_6.1)], .c (.val (.int .i64 r_22)), [(0, .row (.pair (.int .i64) (.pair (.int .i64) (.int .i64))) r_6.1)], [(0, 1)], 4⟩), (25, ⟨11, 1, [.c (.h 0), .c (.val (.int .i64 (9 : Int)))], [(0, .row (.pair (.int .i64) (.pair (.int .i64) (.int .i64))) r_6.1)], .c (.val (.int .i64 r_25)), [(0, .row (.pair (.int .i64) (.pair (.int .i64) (.int .i64))) r_6.1)], [(0, 1)], 4⟩)] [(30, true), (34, true), (39, true), (46, true), (51, true), (56, false)] (calls_cons (spans_At_rg_spec K r_6.1 (3 : Int) r_22 h_23) (by kernel_rfl) (calls_cons (spans_At_rg_spec K r_6.1 (9 : Int) r_25 h_26) (by kernel_rfl) calls_nil)) 4 [0] [] ⟨[(0, .c (.val (.bool false)))], [], 4⟩ [(r_2.2 == (0 : Int)) = true, (r_6.2 == (0 : Int)) = true, ((((List.length r_6.1) : Nat) : Int) == (3 : Int)) = true, (0 : Int) ≤ (2 : Int), (2 : Int) < (((List.length r_6.1) : Nat) : Int), (((List.getD r_6.1 2 ((0 : Int), ((0 : Int), (0 : Int)))).1 == (5 : Int)) && (((List.getD r_6.1 2 ((0 : Int), ((0 : Int), (0 : Int)))).2.1 == (9 : Int)) && ((List.getD r_6.1 2 ((0 : Int), ((0 : Int), (0 : Int)))).2.2 == (1 : Int)))) = true, (r_22 == (2 : Int)) = true, (r_25 == (0 : Int)) = false] (by kernel_rfl) rfl rfl (ap2 b_18 (ap2 b_19 (ap2 b_20 (ap2 (by decide) (ap2 c_41 (ap2 b_21 (ap2 b_24 (ap1 b_27)))))))) (by kernel_rfl) (by kernel_rfl) ?_
              have H_87 := Option.some.inj (show some false = some r from H_86); subst H_87
              refine VL_ret ?_
              exact P_to [(0, .c (.val (.bool false)))] [] [] hn (by kernel_rfl) (by kernel_rfl) rfl rfl rfl (QF_retS (by kernel_rfl) (by kernel_rfl) rfl)
          · have H_62 := of_f H_60 b_24
            obtain ⟨c_42, H_88⟩ := of_if H_62
            refine V_reg hN hn [(20, ⟨11, 1, [.c (.h 0), .c (.val (.int .i64 (3 : Int)))], [(0, .row (.pair (.int .i64) (.pair (.int .i64) (.int .i64))) r_6.1)], .c (.val (.int .i64 r_22)), [(0, .row (.pair (.int .i64) (.pair (.int .i64) (.int .i64))) r_6.1)], [(0, 1)], 4⟩)] [(30, true), (34, true), (39, true), (46, true), (51, false)] (calls_cons (spans_At_rg_spec K r_6.1 (3 : Int) r_22 h_23) (by kernel_rfl) calls_nil) 4 [0] [] ⟨[(0, .c (.val (.bool false)))], [], 4⟩ [(r_2.2 == (0 : Int)) = true, (r_6.2 == (0 : Int)) = true, ((((List.length r_6.1) : Nat) : Int) == (3 : Int)) = true, (0 : Int) ≤ (2 : Int), (2 : Int) < (((List.length r_6.1) : Nat) : Int), (((List.getD r_6.1 2 ((0 : Int), ((0 : Int), (0 : Int)))).1 == (5 : Int)) && (((List.getD r_6.1 2 ((0 : Int), ((0 : Int), (0 : Int)))).2.1 == (9 : Int)) && ((List.getD r_6.1 2 ((0 : Int), ((0 : Int), (0 : Int)))).2.2 == (1 : Int)))) = true, (r_22 == (2 : Int)) = false] (by kernel_rfl) rfl rfl (ap2 b_18 (ap2 b_19 (ap2 b_20 (ap2 (by decide) (ap2 c_42 (ap2 b_21 (ap1 b_24))))))) (by kernel_rfl) (by kernel_rfl) ?_
            have H_89 := Option.some.inj (show some false = some r from H_88); subst H_89
            refine VL_ret ?_
            exact P_to [(0, .c (.val (.bool false)))] [] [] hn (by kernel_rfl) (by kernel_rfl) rfl rfl rfl (QF_retS (by kernel_rfl) (by kernel_rfl) rfl)
        · have H_59 := of_f H_56 b_21
          obtain ⟨c_43, H_90⟩ := of_if H_59
          refine V_reg hN hn [] [(30, true), (34, true), (39, true), (46, false)] calls_nil 4 [0] [] ⟨[(0, .c (.val (.bool false)))], [], 4⟩ [(r_2.2 == (0 : Int)) = true, (r_6.2 == (0 : Int)) = true, ((((List.length r_6.1) : Nat) : Int) == (3 : Int)) = true, (0 : Int) ≤ (2 : Int), (2 : Int) < (((List.length r_6.1) : Nat) : Int), (((List.getD r_6.1 2 ((0 : Int), ((0 : Int), (0 : Int)))).1 == (5 : Int)) && (((List.getD r_6.1 2 ((0 : Int), ((0 : Int), (0 : Int)))).2.1 == (9 : Int)) && ((List.getD r_6.1 2 ((0 : Int), ((0 : Int), (0 : Int)))).2.2 == (1 : Int)))) = false] (by kernel_rfl) rfl rfl (ap2 b_18 (ap2 b_19 (ap2 b_20 (ap2 (by decide) (ap2 c_43 (ap1 b_21)))))) (by kernel_rfl) (by kernel_rfl) ?_
          have H_91 := Option.some.inj (show some false = some r from H_90); subst H_91
          refine VL_ret ?_
          exact P_to [(0, .c (.val (.bool false)))] [] [] hn (by kernel_rfl) (by kernel_rfl) rfl rfl rfl (QF_retS (by kernel_rfl) (by kernel_rfl) rfl)
      · have H_57 := of_f H_54 b_20
        refine V_reg hN hn [] [(30, true), (34, true), (39, false)] calls_nil 4 [0] [] ⟨[(0, .c (.val (.bool false)))], [], 4⟩ [(r_2.2 == (0 : Int)) = true, (r_6.2 == (0 : Int)) = true, ((((List.length r_6.1) : Nat) : Int) == (3 : Int)) = false] (by kernel_rfl) rfl rfl (ap2 b_18 (ap2 b_19 (ap1 b_20))) (by kernel_rfl) (by kernel_rfl) ?_
        have H_92 := Option.some.inj (show some false = some r from H_57); subst H_92
        refine VL_ret ?_
        exact P_to [(0, .c (.val (.bool false)))] [] [] hn (by kernel_rfl) (by kernel_rfl) rfl rfl rfl (QF_retS (by kernel_rfl) (by kernel_rfl) rfl)
    · have H_55 := of_f H_52 b_19
      refine V_reg hN hn [] [(30, true), (34, false)] calls_nil 4 [0] [] ⟨[(0, .c (.val (.bool false)))], [], 4⟩ [(r_2.2 == (0 : Int)) = true, (r_6.2 == (0 : Int)) = false] (by kernel_rfl) rfl rfl (ap2 b_18 (ap1 b_19)) (by kernel_rfl) (by kernel_rfl) ?_
      have H_93 := Option.some.inj (show some false = some r from H_55); subst H_93
      refine VL_ret ?_
      exact P_to [(0, .c (.val (.bool false)))] [] [] hn (by kernel_rfl) (by kernel_rfl) rfl rfl rfl (QF_retS (by kernel_rfl) (by kernel_rfl) rfl)
  · have H_53 := of_f H_51 b_18
    refine V_reg hN hn [] [(30, false)] calls_nil 4 [0] [] ⟨[(0, .c (.val (.bool false)))], [], 4⟩ [(r_2.2 == (0 : Int)) = false] (by kernel_rfl) rfl rfl (ap1 b_18) (by kernel_rfl) (by kernel_rfl) ?_
    have H_94 := Option.some.inj (show some false = some r from H_53); subst H_94
    refine VL_ret ?_
    exact P_to [(0, .c (.val (.bool false)))] [] [] hn (by kernel_rfl) (by kernel_rfl) rfl rfl rfl (QF_retS (by kernel_rfl) (by kernel_rfl) rfl)

theorem palinodelaw15_SpansMany_spec (K : Nat) (n_1 : Int) (r : Bool) (H : palinodelaw15_SpansMany K n_1 = some r) : Spec Try.prog 5 0 [.c (.val (.int .u8 n_1))] [] (.c (.val (.bool r))) [] := by
  refine Spec_mk (fn := Try.f5) (c := (Try.f5.body).get!) Try.func5 (by kernel_rfl) rfl ?_
  intro C hN hn
  replace hN : C.N = 87 := hN
  unfold palinodelaw15_SpansMany at H
  refine V_run hN hn 4 0 [0] [] ⟨[(0, .c (.val (.int .u8 n_1)))], [], 0⟩ [] (by kernel_rfl) rfl rfl ap0 ?_
  obtain ⟨r_3, h_4, H_67⟩ := of_bind H
  refine V_reg hN hn [(0, ⟨9, 0, [], [], .c (.val (.bool r_3)), [], [], 0⟩)] [] (calls_cons (palinodelaw15_known_spec K  r_3 h_4) (by kernel_rfl) calls_nil) 0 [0, 15] [] ⟨[(0, .c (.val (.int .u8 n_1))), (15, .c (.val (.bool (!r_3))))], [], 0⟩ [] (by kernel_rfl) rfl rfl ap0 (by kernel_rfl) (by kernel_rfl) ?_
  refine VL_cond ((!r_3)) (by kernel_rfl) ?_ ?_
  · intro b_6; have H_68 := of_t H_67 b_6
    refine V_run hN hn 2 0 [2] [] ⟨[(2, .c (.val (.bool false)))], [], 0⟩ [] (by kernel_rfl) rfl rfl ap0 ?_
    have H_70 := Option.some.inj (show some false = some r from H_68); subst H_70
    refine VL_ret ?_
    exact P_to [(2, .c (.val (.bool false)))] [] [] hn (by kernel_rfl) (by kernel_rfl) rfl rfl rfl (QF_retS (by kernel_rfl) (by kernel_rfl) rfl)
  · intro b_6; have H_69 := of_f H_67 b_6
    refine V_run hN hn 6 0 [0, 3, 4] [] ⟨[(0, .c (.val (.int .u8 n_1))), (3, .c (.val (.slice none 0 0))), (4, .c (.val (.int .i64 (0 : Int))))], [], 0⟩ [] (by kernel_rfl) rfl rfl ap0 ?_
    obtain ⟨q_71, H_72, H_73⟩ := of_bind H_69
    refine V_cut (Y := (List (Int × (Int × Int)))) (R := (Bool ⊕ (List (Int × (Int × Int))))) q_71 (fun y => (Sum.inr y)) (fun y => [(0, .c (.val (.int .u8 n_1))), (3, .c (.h 2))]) (fun y => [(2, .row (.pair (.int .i64) (.pair (.int .i64) (.int .i64))) y)]) ?_ ?_
    · skip
      refine VL_block ?_
      refine V_ghost [.nilSlot 3 (.pair (.int .i64) (.pair (.int .i64) (.int .i64)))] 0 hn [0, 3, 4] [0] ⟨[(0, .c (.val (.int .u8 n_1))), (3, .c (.h 0)), (4, .c (.val (.int .i64 (0 : Int))))], [(0, .row (.pair (.int .i64) (.pair (.int .i64) (.int .i64))) ([] : List (Int × (Int × Int))))], 1⟩ (by kernel_rfl) rfl rfl ?_
      refine V_to [(0, .c (.val (.int .u8 n_1))), (3, .c (.h 2)), (4, .c (.val (.int .i64 (0 : Int))))] [(2, .row (.pair (.int .i64) (.pair (.int .i64) (.int .i64))) ([] : List (Int × (Int × Int))))] [(2, 0)] hn (by kernel_rfl) (by kernel_rfl) rfl rfl rfl ?_
      refine VL_loop (X := ((List (Int × (Int × Int))) × Int)) (fun x => [(0, .c (.val (.int .u8 n_1))), (3, .c (.h 2)), (4, .c (.val (.int .i64 x.2)))]) (fun x => [(2, .row (.pair (.int .i64) (.pair (.int .i64) (.int .i64))) x.1)]) (fun k x => palinodelaw15_SpansMany.l0 K k x.1 x.2 = some q_71) K (([] : List (Int × (Int × Int))), (0 : Int)) H_72 (fun _ h => no_none h) ?_
      intro k_24 x_24 H_75
      obtain ⟨l_23, i_9⟩ := x_24
      have H_76 : palinodelaw15_SpansMany.l0 K (k_24 + 1) l_23 i_9 = some q_71 := H_75
      rw [palinodelaw15_SpansMany.l0] at H_76
      refine V_run hN hn 3 3 [0, 3, 4, 17] [2] ⟨[(0, .c (.val (.int .u8 n_1))), (3, .c (.h 2)), (4, .c (.val (.int .i64 i_9))), (17, .c (.val (.bool (decide (i_9 < (60 : Int))))))], [(2, .row (.pair (.int .i64) (.pair (.int .i64) (.int .i64))) l_23)], 3⟩ [] (by kernel_rfl) rfl rfl ap0 ?_
      refine VL_cond ((decide (i_9 < (60 : Int)))) (by kernel_rfl) ?_ ?_
      · intro b_26; have H_77 := of_t H_76 b_26
        refine V_run hN hn 2 3 [0, 3, 4, 17] [2] ⟨[(0, .c (.val (.int .u8 n_1))), (3, .c (.h 2)), (4, .c (.val (.int .i64 i_9))), (17, .c (.val (.bool (decide (i_9 < (60 : Int))))))], [(2, .row (.pair (.int .i64) (.pair (.int .i64) (.int .i64))) l_23)], 3⟩ [] (by kernel_rfl) rfl rfl ap0 ?_
        refine VL_block ?_
        refine V_run hN hn 1 3 [0, 3, 4, 17] [2] ⟨[(0, .c (.val (.int .u8 n_1))), (3, .c (.h 2)), (4, .c (.val (.int .i64 i_9))), (17, .c (.val (.bool (decide (i_9 < (60 : Int))))))], [(2, .row (.pair (.int .i64) (.pair (.int .i64) (.int .i64))) l_23)], 3⟩ [] (by kernel_rfl) rfl rfl ap0 ?_
        obtain ⟨r_29, h_30, H_79⟩ := of_bind H_77
        refine V_reg hN hn [(10, ⟨10, 1, [.c (.h 0), .agg [.val (.int .i64 (IntKind.wrap .i64 ((3 : Int) * i_9))), .val (.int .i64 (IntKind.wrap .i64 ((IntKind.wrap .i64 ((3 : Int) * i_9)) + (2 : Int)))), .val (.int .i64 (IntKind.wrap .i64 ((1 : Int) + (Int.tmod i_9 (2 : Int)))))]], [(0, .row (.pair (.int .i64) (.pair (.int .i64) (.int .i64))) l_23)], .tup [(false, [.h 10]), (false, [.val (.int .i64 r_29.2)])], [(0, .row (.pair (.int .i64) (.pair (.int .i64) (.int .i64))) l_23), (10, .row (.pair (.int .i64) (.pair (.int .i64) (.int .i64))) r_29.1)], [(0, 2), (10, 3)], 4⟩)] [] (calls_cons (spans_Put_rsggg_spec K l_23 (IntKind.wrap .i64 ((3 : Int) * i_9)) (IntKind.wrap .i64 ((IntKind.wrap .i64 ((3 : Int) * i_9)) + (2 : Int))) (IntKind.wrap .i64 ((1 : Int) + (Int.tmod i_9 (2 : Int)))) r_29 h_30) (by kernel_rfl) calls_nil) 3 [0, 4, 5, 6] [3] ⟨[(0, .c (.val (.int .u8 n_1))), (4, .c (.val (.int .i64 i_9))), (5, .c (.h 3)), (6, .c (.val (.int .i64 r_29.2)))], [(3, .row (.pair (.int .i64) (.pair (.int .i64) (.int .i64))) r_29.1)], 4⟩ [(2 : Int) ≠ (0 : Int)] (by kernel_rfl) rfl rfl (ap1 (by decide)) (by kernel_rfl) (by kernel_rfl) ?_
        refine V_run hN hn 3 4 [0, 4, 5, 35] [3] ⟨[(0, .c (.val (.int .u8 n_1))), (4, .c (.val (.int .i64 i_9))), (5, .c (.h 3)), (35, .c (.val (.bool (r_29.2 != (0 : Int)))))], [(3, .row (.pair (.int .i64) (.pair (.int .i64) (.int .i64))) r_29.1)], 4⟩ [] (by kernel_rfl) rfl rfl ap0 ?_
        refine VL_cond ((r_29.2 != (0 : Int))) (by kernel_rfl) ?_ ?_
        · intro b_33; have H_80 := of_t H_79 b_33
          refine V_run hN hn 2 4 [2] [] ⟨[(2, .c (.val (.bool false)))], [], 4⟩ [] (by kernel_rfl) rfl rfl ap0 ?_
          have H_82 := Option.some.inj (show some (Sum.inl false) = some q_71 from H_80); subst H_82
          have H_83 := Option.some.inj (show some false = some r from H_73); subst H_83
          refine VL_ret ?_
          refine QB_ret ?_
          refine QL_ret ?_
          refine QB_ret ?_
          refine QP_ret ?_
          exact P_to [(2, .c (.val (.bool false)))] [] [] hn (by kernel_rfl) (by kernel_rfl) rfl rfl rfl (QF_retS (by kernel_rfl) (by kernel_rfl) rfl)
        · intro b_33; have H_81 := of_f H_79 b_33
          refine V_run hN hn 2 4 [0, 3, 4] [3] ⟨[(0, .c (.val (.int .u8 n_1))), (3, .c (.h 3)), (4, .c (.val (.int .i64 i_9)))], [(3, .row (.pair (.int .i64) (.pair (.int .i64) (.int .i64))) r_29.1)], 4⟩ [] (by kernel_rfl) rfl rfl ap0 ?_
          refine VL_nil (QB_end ?_)
          refine V_run hN hn 1 4 [0, 3, 4] [3] ⟨[(0, .c (.val (.int .u8 n_1))), (3, .c (.h 3)), (4, .c (.val (.int .i64 (IntKind.wrap .i64 (i_9 + (1 : Int))))))], [(3, .row (.pair (.int .i64) (.pair (.int .i64) (.int .i64))) r_29.1)], 4⟩ [] (by kernel_rfl) rfl rfl ap0 ?_
          refine VL_nil ?_
          exact V_roundEnd (r_29.1, (IntKind.wrap .i64 (i_9 + (1 : Int)))) H_81 [(2, 3)] hn (by kernel_rfl) (by kernel_rfl) rfl rfl rfl
      · intro b_26; have H_78 := of_f H_76 b_26
        refine VL_exit ?_
        refine QL_exit ?_
        refine QB_here ?_
        have H_84 := Option.some.inj (show some (Sum.inr l_23) = some q_71 from H_78); subst H_84
        refine VL_nil ?_
        exact QP_end l_23 rfl [(2, 2)] hn (by kernel_rfl) (by kernel_rfl) rfl rfl rfl
    · intro y_74 hy; subst hy
      skip
      skip
      refine V_run hN hn 3 3 [3, 7] [2] ⟨[(3, .c (.h 2)), (7, .c (.val (.int .i64 (Int.tmod (IntKind.wrap .i64 n_1) (60 : Int)))))], [(2, .row (.pair (.int .i64) (.pair (.int .i64) (.int .i64))) y_74)], 3⟩ [(60 : Int) ≠ (0 : Int)] (by kernel_rfl) rfl rfl (ap1 (by decide)) ?_
      obtain ⟨r_39, h_40, H_85⟩ := of_bind H_73
      refine V_reg hN hn [(2, ⟨10, 1, [.c (.h 0), .agg [.val (.int .i64 (181 : Int)), .val (.int .i64 (182 : Int)), .val (.int .i64 (5 : Int))]], [(0, .row (.pair (.int .i64) (.pair (.int .i64) (.int .i64))) y_74)], .tup [(false, [.h 10]), (false, [.val (.int .i64 r_39.2)])], [(0, .row (.pair (.int .i64) (.pair (.int .i64) (.int .i64))) y_74), (10, .row (.pair (.int .i64) (.pair (.int .i64) (.int .i64))) r_39.1)], [(0, 2), (10, 3)], 4⟩)] [] (calls_cons (spans_Put_rsggg_spec K y_74 (181 : Int) (182 : Int) (5 : Int) r_39 h_40) (by kernel_rfl) calls_nil) 3 [3, 7, 9] [2] ⟨[(3, .c (.h 2)), (7, .c (.val (.int .i64 (Int.tmod (IntKind.wrap .i64 n_1) (60 : Int))))), (9, .c (.val (.int .i64 r_39.2)))], [(2, .row (.pair (.int .i64) (.pair (.int .i64) (.int .i64))) y_74)], 4⟩ [] (by kernel_rfl) rfl rfl ap0 (by kernel_rfl) (by kernel_rfl) ?_
      refine V_run hN hn 1 4 [3, 7, 9] [2] ⟨[(3, .c (.h 2)), (7, .c (.val (.int .i64 (Int.tmod (IntKind.wrap .i64 n_1) (60 : Int))))), (9, .c (.val (.int .i64 r_39.2)))], [(2, .row (.pair (.int .i64) (.pair (.int .i64) (.int .i64))) y_74)], 4⟩ [] (by kernel_rfl) rfl rfl ap0 ?_
      obtain ⟨r_43, h_44, H_86⟩ := of_bind H_85
      refine V_reg hN hn [(7, ⟨10, 1, [.c (.h 0), .agg [.val (.int .i64 (IntKind.wrap .i64 ((3 : Int) * (Int.tmod (IntKind.wrap .i64 n_1) (60 : Int))))), .val (.int .i64 (IntKind.wrap .i64 ((IntKind.wrap .i64 ((3 : Int) * (Int.tmod (IntKind.wrap .i64 n_1) (60 : Int)))) + (2 : Int)))), .val (.int .i64 (9 : Int))]], [(0, .row (.pair (.int .i64) (.pair (.int .i64) (.int .i64))) y_74)], .tup [(false, [.h 10]), (false, [.val (.int .i64 r_43.2)])], [(0, .row (.pair (.int .i64) (.pair (.int .i64) (.int .i64))) y_74), (10, .row (.pair (.int .i64) (.pair (.int .i64) (.int .i64))) r_43.1)], [(0, 2), (10, 4)], 5⟩)] [] (calls_cons (spans_Put_rsggg_spec K y_74 (IntKind.wrap .i64 ((3 : Int) * (Int.tmod (IntKind.wrap .i64 n_1) (60 : Int)))) (IntKind.wrap .i64 ((IntKind.wrap .i64 ((3 : Int) * (Int.tmod (IntKind.wrap .i64 n_1) (60 : Int)))) + (2 : Int))) (9 : Int) r_43 h_44) (by kernel_rfl) calls_nil) 4 [3, 9, 10, 11] [2, 4] ⟨[(3, .c (.h 2)), (9, .c (.val (.int .i64 r_39.2))), (10, .c (.h 4)), (11, .c (.val (.int .i64 r_43.2)))], [(2, .row (.pair (.int .i64) (.pair (.int .i64) (.int .i64))) y_74), (4, .row (.pair (.int .i64) (.pair (.int .i64) (.int .i64))) r_43.1)], 5⟩ [] (by kernel_rfl) rfl rfl ap0 (by kernel_rfl) (by kernel_rfl) ?_
      refine V_run hN hn 1 5 [3, 9, 10, 11] [2, 4] ⟨[(3, .c (.h 2)), (9, .c (.val (.int .i64 r_39.2))), (10, .c (.h 4)), (11, .c (.val (.int .i64 r_43.2)))], [(2, .row (.pair (.int .i64) (.pair (.int .i64) (.int .i64))) y_74), (4, .row (.pair (.int .i64) (.pair (.int .i64) (.int .i64))) r_43.1)], 5⟩ [] (by kernel_rfl) rfl rfl ap0 ?_
      obtain ⟨r_47, h_48, H_87⟩ := of_bind H_86
      refine V_reg hN hn [(2, ⟨10, 1, [.c (.h 0), .agg [.val (.int .i64 (0 : Int)), .val (.int .i64 (1000 : Int)), .val (.int .i64 (9 : Int))]], [(0, .row (.pair (.int .i64) (.pair (.int .i64) (.int .i64))) y_74)], .tup [(false, [.h 10]), (false, [.val (.int .i64 r_47.2)])], [(0, .row (.pair (.int .i64) (.pair (.int .i64) (.int .i64))) y_74), (10, .row (.pair (.int .i64) (.pair (.int .i64) (.int .i64))) r_47.1)], [(0, 2), (10, 5)], 6⟩)] [] (calls_cons (spans_Put_rsggg_spec K y_74 (0 : Int) (1000 : Int) (9 : Int) r_47 h_48) (by kernel_rfl) calls_nil) 5 [3, 9, 10, 11, 12, 13] [2, 4, 5] ⟨[(3, .c (.h 2)), (9, .c (.val (.int .i64 r_39.2))), (10, .c (.h 4)), (11, .c (.val (.int .i64 r_43.2))), (12, .c (.h 5)), (13, .c (.val (.int .i64 r_47.2)))], [(2, .row (.pair (.int .i64) (.pair (.int .i64) (.int .i64))) y_74), (4, .row (.pair (.int .i64) (.pair (.int .i64) (.int .i64))) r_43.1), (5, .row (.pair (.int .i64) (.pair (.int .i64) (.int .i64))) r_47.1)], 6⟩ [] (by kernel_rfl) rfl rfl ap0 (by kernel_rfl) (by kernel_rfl) ?_
      refine V_run hN hn 1 6 [3, 9, 10, 11, 12, 13] [2, 4, 5] ⟨[(3, .c (.h 2)), (9, .c (.val (.int .i64 r_39.2))), (10, .c (.h 4)), (11, .c (.val (.int .i64 r_43.2))), (12, .c (.h 5)), (13, .c (.val (.int .i64 r_47.2)))], [(2, .row (.pair (.int .i64) (.pair (.int .i64) (.int .i64))) y_74), (4, .row (.pair (.int .i64) (.pair (.int .i64) (.int .i64))) r_43.1), (5, .row (.pair (.int .i64) (.pair (.int .i64) (.int .i64))) r_47.1)], 6⟩ [] (by kernel_rfl) rfl rfl ap0 ?_
      rcases Bool.eq_false_or_eq_true ((r_39.2 == (70 : Int))) with b_51 | b_51
      · have H_88 := of_t H_87 b_51
        rcases Bool.eq_false_or_eq_true ((r_43.2 == (0 : Int))) with b_52 | b_52
        · have H_90 := of_t H_88 b_52
          rcases Bool.eq_false_or_eq_true (((((List.length r_43.1) : Nat) : Int) == (60 : Int))) with b_53 | b_53
          · have H_92 := of_t H_90 b_53
            rcases Bool.eq_false_or_eq_true ((r_47.2 == (0 : Int))) with b_54 | b_54
            · have H_94 := of_t H_92 b_54
              rcases Bool.eq_false_or_eq_true (((((List.length r_47.1) : Nat) : Int) == (1 : Int))) with b_55 | b_55
              · have H_96 := of_t H_94 b_55
                obtain ⟨r_56, h_57, H_98⟩ := of_bind H_96
                refine V_reg hN hn [(22, ⟨13, 1, [.c (.h 0), .c (.val (.int .i64 (1000 : Int)))], [(0, .row (.pair (.int .i64) (.pair (.int .i64) (.int .i64))) y_74)], .c (.val (.bool r_56)), [(0, .row (.pair (.int .i64) (.pair (.int .i64) (.int .i64))) y_74)], [(0, 2)], 6⟩)] [(65, true), (69, true), (74, true), (78, true), (83, true)] (calls_cons (spans_Is_rg_spec K y_74 (1000 : Int) r_56 h_57) (by kernel_rfl) calls_nil) 6 [2] [] ⟨[(2, .c (.val (.bool r_56)))], [], 6⟩ [(r_39.2 == (70 : Int)) = true, (r_43.2 == (0 : Int)) = true, ((((List.length r_43.1) : Nat) : Int) == (60 : Int)) = true, (r_47.2 == (0 : Int)) = true, ((((List.length r_47.1) : Nat) : Int) == (1 : Int)) = true] (by kernel_rfl) rfl rfl (ap2 b_51 (ap2 b_52 (ap2 b_53 (ap2 b_54 (ap1 b_55))))) (by kernel_rfl) (by kernel_rfl) ?_
                have H_99 := Option.some.inj (show some r_56 = some r from H_98); subst H_99
                refine VL_ret ?_
                exact P_to [(2, .c (.val (.bool r_56)))] [] [] hn (by kernel_rfl) (by kernel_rfl) rfl rfl rfl (QF_retS (by kernel_rfl) (by kernel_rfl) rfl)
              · have H_97 := of_f H_94 b_55
                refine V_reg hN hn [] [(65, true), (69, true), (74, true), (78, true), (83, false)] calls_nil 6 [2] [] ⟨[(2, .c (.val (.bool false)))], [], 6⟩ [(r_39.2 == (70 : Int)) = true, (r_43.2 == (0 : Int)) = true, ((((List.length r_43.1) : Nat) : Int) == (60 : Int)) = true, (r_47.2 == (0 : Int)) = true, ((((List.length r_47.1) : Nat) : Int) == (1 : Int)) = false] (by kernel_rfl) rfl rfl (ap2 b_51 (ap2 b_52 (ap2 b_53 (ap2 b_54 (ap1 b_55))))) (by kernel_rfl) (by kernel_rfl) ?_
                have H_100 := Option.some.inj (show some false = some r from H_97); subst H_100
                refine VL_ret ?_
                exact P_to [(2, .c (.val (.bool false)))] [] [] hn (by kernel_rfl) (by kernel_rfl) rfl rfl rfl (QF_retS (by kernel_rfl) (by kernel_rfl) rfl)
            · have H_95 := of_f H_92 b_54
              refine V_reg hN hn [] [(65, true), (69, true), (74, true), (78, false)] calls_nil 6 [2] [] ⟨[(2, .c (.val (.bool false)))], [], 6⟩ [(r_39.2 == (70 : Int)) = true, (r_43.2 == (0 : Int)) = true, ((((List.length r_43.1) : Nat) : Int) == (60 : Int)) = true, (r_47.2 == (0 : Int)) = false] (by kernel_rfl) rfl rfl (ap2 b_51 (ap2 b_52 (ap2 b_53 (ap1 b_54)))) (by kernel_rfl) (by kernel_rfl) ?_
              have H_101 := Option.some.inj (show some false = some r from H_95); subst H_101
              refine VL_ret ?_
              exact P_to [(2, .c (.val (.bool false)))] [] [] hn (by kernel_rfl) (by kernel_rfl) rfl rfl rfl (QF_retS (by kernel_rfl) (by kernel_rfl) rfl)
          · have H_93 := of_f H_90 b_53
            refine V_reg hN hn [] [(65, true), (69, true), (74, false)] calls_nil 6 [2] [] ⟨[(2, .c (.val (.bool false)))], [], 6⟩ [(r_39.2 == (70 : Int)) = true, (r_43.2 == (0 : Int)) = true, ((((List.length r_43.1) : Nat) : Int) == (60 : Int)) = false] (by kernel_rfl) rfl rfl (ap2 b_51 (ap2 b_52 (ap1 b_53))) (by kernel_rfl) (by kernel_rfl) ?_
            have H_102 := Option.some.inj (show some false = some r from H_93); subst H_102
            refine VL_ret ?_
            exact P_to [(2, .c (.val (.bool false)))] [] [] hn (by kernel_rfl) (by kernel_rfl) rfl rfl rfl (QF_retS (by kernel_rfl) (by kernel_rfl) rfl)
        · have H_91 := of_f H_88 b_52
          refine V_reg hN hn [] [(65, true), (69, false)] calls_nil 6 [2] [] ⟨[(2, .c (.val (.bool false)))], [], 6⟩ [(r_39.2 == (70 : Int)) = true, (r_43.2 == (0 : Int)) = false] (by kernel_rfl) rfl rfl (ap2 b_51 (ap1 b_52)) (by kernel_rfl) (by kernel_rfl) ?_
          have H_103 := Option.some.inj (show some false = some r from H_91); subst H_103
          refine VL_ret ?_
          exact P_to [(2, .c (.val (.bool false)))] [] [] hn (by kernel_rfl) (by kernel_rfl) rfl rfl rfl (QF_retS (by kernel_rfl) (by kernel_rfl) rfl)
      · have H_89 := of_f H_87 b_51
        refine V_reg hN hn [] [(65, false)] calls_nil 6 [2] [] ⟨[(2, .c (.val (.bool false)))], [], 6⟩ [(r_39.2 == (70 : Int)) = false] (by kernel_rfl) rfl rfl (ap1 b_51) (by kernel_rfl) (by kernel_rfl) ?_
        have H_104 := Option.some.inj (show some false = some r from H_89); subst H_104
        refine VL_ret ?_
        exact P_to [(2, .c (.val (.bool false)))] [] [] hn (by kernel_rfl) (by kernel_rfl) rfl rfl rfl (QF_retS (by kernel_rfl) (by kernel_rfl) rfl)

end Go.Pal
