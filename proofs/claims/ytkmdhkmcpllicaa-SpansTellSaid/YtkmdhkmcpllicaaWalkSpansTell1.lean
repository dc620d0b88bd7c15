/- The Go functions that SpansTell reaches compute what the plain functions say: part 1, printed by a program of this workplace. -/
import Derived.Test.YtkmdhkmcpllicaaChecked
import Derived.Test.YtkmdhkmcpllicaaWalkSpansTell0
namespace Go.Pal
open Go Go.Proofs
set_option maxRecDepth 100000
set_option linter.unusedVariables false

theorem spans_At_rg_spec (K : Nat) (l_1 : (List (Int × (Int × Int)))) (at_2 : Int) (r : Int) (H : spans_At_rg K l_1 at_2 = some r) : Spec Try.prog 11 1 [.c (.h 0), .c (.val (.int .i64 at_2))] [(0, .row (.pair (.int .i64) (.pair (.int .i64) (.int .i64))) l_1)] (.c (.val (.int .i64 r))) [(0, .row (.pair (.int .i64) (.pair (.int .i64) (.int .i64))) l_1)] := by
  refine Spec_mk (fn := Try.f11) (c := (Try.f11.body).get!) Try.func11 (by kernel_rfl) rfl ?_
  intro C hN hn
  replace hN : C.N = 26 := hN
  unfold spans_At_rg at H
  refine V_run hN hn 5 1 [1, 7, 8, 9] [0] ⟨[(1, .c (.val (.int .i64 at_2))), (7, .c (.h 0)), (8, .c (.val (.int .i64 (((List.length l_1) : Nat) : Int)))), (9, .c (.val (.int .i64 (0 : Int))))], [(0, .row (.pair (.int .i64) (.pair (.int .i64) (.int .i64))) l_1)], 1⟩ [] (by kernel_rfl) rfl rfl ap0 ?_
  refine VL_block ?_
  refine V_to [(1, .c (.val (.int .i64 at_2))), (7, .c (.h 0)), (8, .c (.val (.int .i64 (((List.length l_1) : Nat) : Int)))), (9, .c (.val (.int .i64 (0 : Int))))] [(0, .row (.pair (.int .i64) (.pair (.int .i64) (.int .i64))) l_1)] [] hn (by kernel_rfl) (by kernel_rfl) rfl rfl rfl ?_
  refine VL_loop (X := Int) (fun x => [(1, .c (.val (.int .i64 at_2))), (7, .c (.h 0)), (8, .c (.val (.int .i64 (((List.length l_1) : Nat) : Int)))), (9, .c (.val (.int .i64 x)))]) (fun x => [(0, .row (.pair (.int .i64) (.pair (.int .i64) (.int .i64))) l_1)]) (fun k x => spans_At_rg.l0 K l_1 at_2 k x = some r) K (0 : Int) H (fun _ h => no_none h) ?_
  intro k_5 t_4 H_22
  have H_23 : spans_At_rg.l0 K l_1 at_2 (k_5 + 1) t_4 = some r := H_22
  rw [spans_At_rg.l0] at H_23
  refine V_run hN hn 3 1 [1, 7, 8, 9, 10] [0] ⟨[(1, .c (.val (.int .i64 at_2))), (7, .c (.h 0)), (8, .c (.val (.int .i64 (((List.length l_1) : Nat) : Int)))), (9, .c (.val (.int .i64 t_4))), (10, .c (.val (.bool (decide (t_4 < (((List.length l_1) : Nat) : Int))))))], [(0, .row (.pair (.int .i64) (.pair (.int .i64) (.int .i64))) l_1)], 1⟩ [] (by kernel_rfl) rfl rfl ap0 ?_
  refine VL_cond ((decide (t_4 < (((List.length l_1) : Nat) : Int)))) (by kernel_rfl) ?_ ?_
  · intro b_7; have H_24 := of_t H_23 b_7
    refine V_run hN hn 2 1 [1, 7, 8, 9, 10] [0] ⟨[(1, .c (.val (.int .i64 at_2))), (7, .c (.h 0)), (8, .c (.val (.int .i64 (((List.length l_1) : Nat) : Int)))), (9, .c (.val (.int .i64 t_4))), (10, .c (.val (.bool (decide (t_4 < (((List.length l_1) : Nat) : Int))))))], [(0, .row (.pair (.int .i64) (.pair (.int .i64) (.int .i64))) l_1)], 1⟩ [] (by kernel_rfl) rfl rfl ap0 ?_
    refine VL_block ?_
    obtain ⟨c_9, H_26⟩ := of_if H_24
    refine V_run hN hn 3 1 [1, 6, 7, 8, 9] [0, 1] ⟨[(1, .c (.val (.int .i64 at_2))), (6, .c (.h 1)), (7, .c (.h 0)), (8, .c (.val (.int .i64 (((List.length l_1) : Nat) : Int)))), (9, .c (.val (.int .i64 t_4)))], [(0, .row (.pair (.int .i64) (.pair (.int .i64) (.int .i64))) l_1), (1, .box [.val (.int .i64 (List.getD l_1 (Int.toNat t_4) ((0 : Int), ((0 : Int), (0 : Int)))).1), .val (.int .i64 (List.getD l_1 (Int.toNat t_4) ((0 : Int), ((0 : Int), (0 : Int)))).2.1), .val (.int .i64 (List.getD l_1 (Int.toNat t_4) ((0 : Int), ((0 : Int), (0 : Int)))).2.2)])], 2⟩ [0 ≤ t_4, t_4 < (((List.length l_1) : Nat) : Int)] (by kernel_rfl) rfl rfl (ap2 c_9.1 (ap1 c_9.2)) ?_
    obtain ⟨q_27, H_28, H_29⟩ := of_bind H_26
    refine V_cut (Y := Bool) (R := Bool) q_27 (fun y => y) (fun y => [(1, .c (.val (.int .i64 at_2))), (6, .c (.h 1)), (7, .c (.h 0)), (8, .c (.val (.int .i64 (((List.length l_1) : Nat) : Int)))), (9, .c (.val (.int .i64 t_4))), (22, .c (.val (.bool y)))]) (fun y => [(0, .row (.pair (.int .i64) (.pair (.int .i64) (.int .i64))) l_1), (1, .box [.val (.int .i64 (List.getD l_1 (Int.toNat t_4) ((0 : Int), ((0 : Int), (0 : Int)))).1), .val (.int .i64 (List.getD l_1 (Int.toNat t_4) ((0 : Int), ((0 : Int), (0 : Int)))).2.1), .val (.int .i64 (List.getD l_1 (Int.toNat t_4) ((0 : Int), ((0 : Int), (0 : Int)))).2.2)])]) ?_ ?_
    · skip
      rcases Bool.eq_false_or_eq_true ((decide (at_2 ≥ (List.getD l_1 (Int.toNat t_4) ((0 : Int), ((0 : Int), (0 : Int)))).1))) with b_10 | b_10
      · have H_31 := of_t H_28 b_10
        refine V_reg hN hn [] [(17, true)] calls_nil 2 [1, 6, 7, 8, 9, 22] [0, 1] ⟨[(1, .c (.val (.int .i64 at_2))), (6, .c (.h 1)), (7, .c (.h 0)), (8, .c (.val (.int .i64 (((List.length l_1) : Nat) : Int)))), (9, .c (.val (.int .i64 t_4))), (22, .c (.val (.bool (decide (at_2 < (List.getD l_1 (Int.toNat t_4) ((0 : Int), ((0 : Int), (0 : Int)))).2.1)))))], [(0, .row (.pair (.int .i64) (.pair (.int .i64) (.int .i64))) l_1), (1, .box [.val (.int .i64 (List.getD l_1 (Int.toNat t_4) ((0 : Int), ((0 : Int), (0 : Int)))).1), .val (.int .i64 (List.getD l_1 (Int.toNat t_4) ((0 : Int), ((0 : Int), (0 : Int)))).2.1), .val (.int .i64 (List.getD l_1 (Int.toNat t_4) ((0 : Int), ((0 : Int), (0 : Int)))).2.2)])], 2⟩ [(decide (at_2 ≥ (List.getD l_1 (Int.toNat t_4) ((0 : Int), ((0 : Int), (0 : Int)))).1)) = true] (by kernel_rfl) rfl rfl (ap1 b_10) (by kernel_rfl) (by kernel_rfl) ?_
        have H_33 := Option.some.inj (show some (decide (at_2 < (List.getD l_1 (Int.toNat t_4) ((0 : Int), ((0 : Int), (0 : Int)))).2.1)) = some q_27 from H_31); subst H_33
        refine VL_nil ?_
        exact QP_end (decide (at_2 < (List.getD l_1 (Int.toNat t_4) ((0 : Int), ((0 : Int), (0 : Int)))).2.1)) rfl [(1, 1)] hn (by kernel_rfl) (by kernel_rfl) rfl rfl rfl
      · have H_32 := of_f H_28 b_10
        refine V_reg hN hn [] [(17, false)] calls_nil 2 [1, 6, 7, 8, 9, 22] [0, 1] ⟨[(1, .c (.val (.int .i64 at_2))), (6, .c (.h 1)), (7, .c (.h 0)), (8, .c (.val (.int .i64 (((List.length l_1) : Nat) : Int)))), (9, .c (.val (.int .i64 t_4))), (22, .c (.val (.bool false)))], [(0, .row (.pair (.int .i64) (.pair (.int .i64) (.int .i64))) l_1), (1, .box [.val (.int .i64 (List.getD l_1 (Int.toNat t_4) ((0 : Int), ((0 : Int), (0 : Int)))).1), .val (.int .i64 (List.getD l_1 (Int.toNat t_4) ((0 : Int), ((0 : Int), (0 : Int)))).2.1), .val (.int .i64 (List.getD l_1 (Int.toNat t_4) ((0 : Int), ((0 : Int), (0 : Int)))).2.2)])], 2⟩ [(decide (at_2 ≥ (List.getD l_1 (Int.toNat t_4) ((0 : Int), ((0 : Int), (0 : Int)))).1)) = false] (by kernel_rfl) rfl rfl (ap1 b_10) (by kernel_rfl) (by kernel_rfl) ?_
        have H_34 := Option.some.inj (show some false = some q_27 from H_32); subst H_34
        refine VL_nil ?_
        exact QP_end false rfl [(1, 1)] hn (by kernel_rfl) (by kernel_rfl) rfl rfl rfl
    · intro y_30 hy; subst hy
      skip
      skip
      refine VL_cond (y_30) (by kernel_rfl) ?_ ?_
      · intro b_14; have H_35 := of_t H_29 b_14
        refine V_run hN hn 2 2 [4] [0] ⟨[(4, .c (.val (.int .i64 (List.getD l_1 (Int.toNat t_4) ((0 : Int), ((0 : Int), (0 : Int)))).2.2)))], [(0, .row (.pair (.int .i64) (.pair (.int .i64) (.int .i64))) l_1)], 2⟩ [] (by kernel_rfl) rfl rfl ap0 ?_
        have H_37 := Option.some.inj (show some (List.getD l_1 (Int.toNat t_4) ((0 : Int), ((0 : Int), (0 : Int)))).2.2 = some r from H_35); subst H_37
        refine VL_ret ?_
        refine QB_ret ?_
        refine QL_ret ?_
        refine QB_ret ?_
        exact P_to [(4, .c (.val (.int .i64 (List.getD l_1 (Int.toNat t_4) ((0 : Int), ((0 : Int), (0 : Int)))).2.2)))] [(0, .row (.pair (.int .i64) (.pair (.int .i64) (.int .i64))) l_1)] [] hn (by kernel_rfl) (by kernel_rfl) rfl rfl rfl (QF_retS (by kernel_rfl) (by kernel_rfl) rfl)
      · intro b_14; have H_36 := of_f H_29 b_14
        refine V_run hN hn 1 2 [1, 6, 7, 8, 9, 22] [0, 1] ⟨[(1, .c (.val (.int .i64 at_2))), (6, .c (.h 1)), (7, .c (.h 0)), (8, .c (.val (.int .i64 (((List.length l_1) : Nat) : Int)))), (9, .c (.val (.int .i64 t_4))), (22, .c (.val (.bool y_30)))], [(0, .row (.pair (.int .i64) (.pair (.int .i64) (.int .i64))) l_1), (1, .box [.val (.int .i64 (List.getD l_1 (Int.toNat t_4) ((0 : Int), ((0 : Int), (0 : Int)))).1), .val (.int .i64 (List.getD l_1 (Int.toNat t_4) ((0 : Int), ((0 : Int), (0 : Int)))).2.1), .val (.int .i64 (List.getD l_1 (Int.toNat t_4) ((0 : Int), ((0 : Int), (0 : Int)))).2.2)])], 2⟩ [] (by kernel_rfl) rfl rfl ap0 ?_
        refine VL_nil (QB_end ?_)
        refine V_run hN hn 1 2 [1, 7, 8, 9] [0] ⟨[(1, .c (.val (.int .i64 at_2))), (7, .c (.h 0)), (8, .c (.val (.int .i64 (((List.length l_1) : Nat) : Int)))), (9, .c (.val (.int .i64 (IntKind.wrap .i64 (t_4 + (1 : Int))))))], [(0, .row (.pair (.int .i64) (.pair (.int .i64) (.int .i64))) l_1)], 2⟩ [] (by kernel_rfl) rfl rfl ap0 ?_
        refine VL_nil ?_
        exact V_roundEnd (IntKind.wrap .i64 (t_4 + (1 : Int))) H_36 [] hn (by kernel_rfl) (by kernel_rfl) rfl rfl rfl
  · intro b_7; have H_25 := of_f H_23 b_7
    refine VL_exit ?_
    refine QL_exit ?_
    refine QB_here ?_
    refine V_run hN hn 2 1 [4] [0] ⟨[(4, .c (.val (.int .i64 (0 : Int))))], [(0, .row (.pair (.int .i64) (.pair (.int .i64) (.int .i64))) l_1)], 1⟩ [] (by kernel_rfl) rfl rfl ap0 ?_
    have H_38 := Option.some.inj (show some (0 : Int) = some r from H_25); subst H_38
    refine VL_ret ?_
    exact P_to [(4, .c (.val (.int .i64 (0 : Int))))] [(0, .row (.pair (.int .i64) (.pair (.int .i64) (.int .i64))) l_1)] [] hn (by kernel_rfl) (by kernel_rfl) rfl rfl rfl (QF_retS (by kernel_rfl) (by kernel_rfl) rfl)

theorem palinodelaw15_known_spec (K : Nat) (r : Bool) (H : palinodelaw15_known K  = some r) : Spec Try.prog 9 0 [] [] (.c (.val (.bool r))) [] := by
  refine Spec_mk (fn := Try.f9) (c := (Try.f9.body).get!) Try.func9 (by kernel_rfl) rfl ?_
  intro C hN hn
  replace hN : C.N = 81 := hN
  unfold palinodelaw15_known at H
  refine V_run hN hn 3 0 [] [] ⟨[], [], 0⟩ [] (by kernel_rfl) rfl rfl ap0 ?_
  obtain ⟨r_2, h_3, H_48⟩ := of_bind H
  refine V_reg hN hn [(1, ⟨10, 0, [.c (.val (.slice none 0 0)), .agg [.val (.int .i64 (0 : Int)), .val (.int .i64 (9 : Int)), .val (.int .i64 (1 : Int))]], [], .tup [(false, [.h 9]), (false, [.val (.int .i64 r_2.2)])], [(9, .row (.pair (.int .i64) (.pair (.int .i64) (.int .i64))) r_2.1)], [(9, 0)], 1⟩)] [] (calls_cons (spans_Put_nsggg_spec K (0 : Int) (9 : Int) (1 : Int) r_2 h_3) (by kernel_rfl) calls_nil) 0 [1, 2] [0] ⟨[(1, .c (.h 0)), (2, .c (.val (.int .i64 r_2.2)))], [(0, .row (.pair (.int .i64) (.pair (.int .i64) (.int .i64))) r_2.1)], 1⟩ [] (by kernel_rfl) rfl rfl ap0 (by kernel_rfl) (by kernel_rfl) ?_
  refine V_run hN hn 1 1 [1, 2] [0] ⟨[(1, .c (.h 0)), (2, .c (.val (.int .i64 r_2.2)))], [(0, .row (.pair (.int .i64) (.pair (.int .i64) (.int .i64))) r_2.1)], 1⟩ [] (by kernel_rfl) rfl rfl ap0 ?_
  obtain ⟨r_6, h_7, H_49⟩ := of_bind H_48
  refine V_reg hN hn [(2, ⟨10, 1, [.c (.h 0), .agg [.val (.int .i64 (3 : Int)), .val (.int .i64 (5 : Int)), .val (.int .i64 (2 : Int))]], [(0, .row (.pair (.int .i64) (.pair (.int .i64) (.int .i64))) r_2.1)], .tup [(false, [.h 10]), (false, [.val (.int .i64 r_6.2)])], [(0, .row (.pair (.int .i64) (.pair (.int .i64) (.int .i64))) r_2.1), (10, .row (.pair (.int .i64) (.pair (.int .i64) (.int .i64))) r_6.1)], [(0, 0), (10, 1)], 2⟩)] [] (calls_cons (spans_Put_rsggg_spec K r_2.1 (3 : Int) (5 : Int) (2 : Int) r_6 h_7) (by kernel_rfl) calls_nil) 1 [2, 3, 4] [1] ⟨[(2, .c (.val (.int .i64 r_2.2))), (3, .c (.h 1)), (4, .c (.val (.int .i64 r_6.2)))], [(1, .row (.pair (.int .i64) (.pair (.int .i64) (.int .i64))) r_6.1)], 2⟩ [] (by kernel_rfl) rfl rfl ap0 (by kernel_rfl) (by kernel_rfl) ?_
  refine V_run hN hn 1 2 [2, 3, 4] [1] ⟨[(2, .c (.val (.int .i64 r_2.2))), (3, .c (.h 1)), (4, .c (.val (.int .i64 r_6.2)))], [(1, .row (.pair (.int .i64) (.pair (.int .i64) (.int .i64))) r_6.1)], 2⟩ [] (by kernel_rfl) rfl rfl ap0 ?_
  obtain ⟨r_10, h_11, H_50⟩ := of_bind H_49
  refine V_reg hN hn [(2, ⟨10, 1, [.c (.h 0), .agg [.val (.int .i64 (3 : Int)), .val (.int .i64 (5 : Int)), .val (.int .i64 (101 : Int))]], [(0, .row (.pair (.int .i64) (.pair (.int .i64) (.int .i64))) r_6.1)], .tup [(false, [.h 10]), (false, [.val (.int .i64 r_10.2)])], [(0, .row (.pair (.int .i64) (.pair (.int .i64) (.int .i64))) r_6.1), (10, .row (.pair (.int .i64) (.pair (.int .i64) (.int .i64))) r_10.1)], [(0, 1), (10, 2)], 3⟩)] [] (calls_cons (spans_Put_rsggg_spec K r_6.1 (3 : Int) (5 : Int) (101 : Int) r_10 h_11) (by kernel_rfl) calls_nil) 2 [2, 3, 4, 6] [1] ⟨[(2, .c (.val (.int .i64 r_2.2))), (3, .c (.h 1)), (4, .c (.val (.int .i64 r_6.2))), (6, .c (.val (.int .i64 r_10.2)))], [(1, .row (.pair (.int .i64) (.pair (.int .i64) (.int .i64))) r_6.1)], 3⟩ [] (by kernel_rfl) rfl rfl ap0 (by kernel_rfl) (by kernel_rfl) ?_
  refine V_run hN hn 1 3 [2, 3, 4, 6] [1] ⟨[(2, .c (.val (.int .i64 r_2.2))), (3, .c (.h 1)), (4, .c (.val (.int .i64 r_6.2))), (6, .c (.val (.int .i64 r_10.2)))], [(1, .row (.pair (.int .i64) (.pair (.int .i64) (.int .i64))) r_6.1)], 3⟩ [] (by kernel_rfl) rfl rfl ap0 ?_
  obtain ⟨r_14, h_15, H_51⟩ := of_bind H_50
  refine V_reg hN hn [(2, ⟨14, 1, [.c (.h 0), .agg [.val (.int .i64 (4 : Int)), .val (.int .i64 (6 : Int))]], [(0, .row (.pair (.int .i64) (.pair (.int .i64) (.int .i64))) r_6.1)], .c (.h 6), [(0, .row (.pair (.int .i64) (.pair (.int .i64) (.int .i64))) r_6.1), (6, .row (.pair (.int .i64) (.pair (.int .i64) (.int .i64))) r_14)], [(0, 1), (6, 3)], 4⟩)] [] (calls_cons (spans_In_rsgg_spec K r_6.1 (4 : Int) (6 : Int) r_14 h_15) (by kernel_rfl) calls_nil) 3 [2, 3, 4, 6, 7] [1, 3] ⟨[(2, .c (.val (.int .i64 r_2.2))), (3, .c (.h 1)), (4, .c (.val (.int .i64 r_6.2))), (6, .c (.val (.int .i64 r_10.2))), (7, .c (.h 3))], [(1, .row (.pair (.int .i64) (.pair (.int .i64) (.int .i64))) r_6.1), (3, .row (.pair (.int .i64) (.pair (.int .i64) (.int .i64))) r_14)], 4⟩ [] (by kernel_rfl) rfl rfl ap0 (by kernel_rfl) (by kernel_rfl) ?_
  refine V_run hN hn 1 4 [2, 3, 4, 6, 7] [1, 3] ⟨[(2, .c (.val (.int .i64 r_2.2))), (3, .c (.h 1)), (4, .c (.val (.int .i64 r_6.2))), (6, .c (.val (.int .i64 r_10.2))), (7, .c (.h 3))], [(1, .row (.pair (.int .i64) (.pair (.int .i64) (.int .i64))) r_6.1), (3, .row (.pair (.int .i64) (.pair (.int .i64) (.int .i64))) r_14)], 4⟩ [] (by kernel_rfl) rfl rfl ap0 ?_
  rcases Bool.eq_false_or_eq_true ((r_2.2 == (0 : Int))) with b_18 | b_18
  · have H_52 := of_t H_51 b_18
    rcases Bool.eq_false_or_eq_true ((r_6.2 == (0 : Int))) with b_19 | b_19
    · have H_54 := of_t H_52 b_19
      rcases Bool.eq_false_or_eq_true (((((List.length r_6.1) : Nat) : Int) == (3 : Int))) with b_20 | b_20
      · have H_56 := of_t H_54 b_20
        rcases Bool.eq_false_or_eq_true ((((List.getD r_6.1 2 ((0 : Int), ((0 : Int), (0 : Int)))).1 == (5 : Int)) && (((List.getD r_6.1 2 ((0 : Int), ((0 : Int), (0 : Int)))).2.1 == (9 : Int)) && ((List.getD r_6.1 2 ((0 : Int), ((0 : Int), (0 : Int)))).2.2 == (1 : Int))))) with b_21 | b_21
        · have H_58 := of_t H_56 b_21
          obtain ⟨r_22, h_23, H_60⟩ := of_bind H_58
          rcases Bool.eq_false_or_eq_true ((r_22 == (2 : Int))) with b_24 | b_24
          · have H_61 := of_t H_60 b_24
            obtain ⟨r_25, h_26, H_63⟩ := of_bind H_61
            rcases Bool.eq_false_or_eq_true ((r_25 == (0 : Int))) with b_27 | b_27
            · have H_64 := of_t H_63 b_27
              rcases Bool.eq_false_or_eq_true ((r_10.2 == (12 : Int))) with b_28 | b_28
              · have H_66 := of_t H_64 b_28
                obtain ⟨r_29, h_30, H_68⟩ := of_bind H_66
                rcases Bool.eq_false_or_eq_true (r_29) with b_31 | b_31
                · have H_69 := of_t H_68 b_31
                  obtain ⟨r_32, h_33, H_71⟩ := of_bind H_69
                  rcases Bool.eq_false_or_eq_true ((!r_32)) with b_34 | b_34
                  · have H_72 := of_t H_71 b_34
                    rcases Bool.eq_false_or_eq_true (((((List.length r_14) : Nat) : Int) == (2 : Int))) with b_35 | b_35
                    · have H_74 := of_t H_72 b_35
                      obtain ⟨c_36, H_76⟩ := of_if H_74
                      refine V_reg hN hn [(20, ⟨11, 1, [.c (.h 0), .c (.val (.int .i64 (3 : Int)))], [(0, .row (.pair (.int .i64) (.pair (.int .i64) (.int .i64))) r_6.1)], .c (.val (.int .i64 r_22)), [(0, .row (.pair (.int .i64) (.pair (.int .i64) (.int .i64))) r_6.1)], [(0, 1)], 4⟩), (25, ⟨11, 1, [.c (.h 0), .c (.val (.int .i64 (9 : Int)))], [(0, .row (.pair (.int .i64) (.pair (.int .i64) (.int .i64))) r_6.1)], .c (.val (.int .i64 r_25)), [(0, .row (.pair (.int .i64) (.pair (.int .i64) (.int .i64))) r_6.1)], [(0, 1)], 4⟩), (34, ⟨13, 1, [.c (.h 0), .c (.val (.int .i64 (9 : Int)))], [(0, .row (.pair (.int .i64) (.pair (.int .i64) (.int .i64))) r_6.1)], .c (.val (.bool r_29)), [(0, .row (.pair (.int .i64) (.pair (.int .i64) (.int .i64))) r_6.1)], [(0, 1)], 4⟩), (38, ⟨13, 1, [.c (.h 0), .c (.val (.int .i64 (8 : Int)))], [(0, .row (.pair (.int .i64) (.pair (.int .i64) (.int .i64))) r_6.1)], .c (.val (.bool r_32)), [(0, .row (.pair (.int .i64) (.pair (.int .i64) (.int .i64))) r_6.1)], [(0, 1)], 4⟩)] [(30, true), (34, true), (39, true), (46, true), (51, true), (56, true), (60, true), (64, true), (69, true), (74, true)] (calls_cons (spans_At_rg_spec K r_6.1 (3 : Int) r_22 h_23) (by kernel_rfl) (calls_cons (spans_At_rg_spec K r_6.1 (9 : Int) r_25 h_26) (by kernel_rfl) (calls_cons (spans_Is_rg_spec K r_6.1 (9 : Int) r_29 h_30) (by kernel_rfl) (calls_cons (spans_Is_rg_spec K r_6.1 (8 : Int) r_32 h_33) (by kernel_rfl) calls_nil)))) 4 [0] [] ⟨[(0, .c (.val (.bool (((List.getD r_14 0 ((0 : Int), ((0 : Int), (0 : Int)))).1 == (4 : Int)) && (((List.getD r_14 0 ((0 : Int), ((0 : Int), (0 : Int)))).2.1 == (5 : Int)) && ((List.getD r_14 0 ((0 : Int), ((0 : Int), (0 : Int)))).2.2 == (2 : Int)))))))], [], 4⟩ [(r_2.2 == (0 : Int)) = true, (r_6.2 == (0 : Int)) = true, ((((List.length r_6.1) : Nat) : Int) == (3 : Int)) = true, (0 : Int) ≤ (2 : Int), (2 : Int) < (((List.length r_6.1) : Nat) : Int), (((List.getD r_6.1 2 ((0 : Int), ((0 : Int), (0 : Int)))).1 == (5 : Int)) && (((List.getD r_6.1 2 ((0 : Int), ((0 : Int), (0 : Int)))).2.1 == (9 : Int)) && ((List.getD r_6.1 2 ((0 : Int), ((0 : Int), (0 : Int)))).2.2 == (1 : Int)))) = true, (r_22 == (2 : Int)) = true, (r_25 == (0 : Int)) = true, (r_10.2 == (12 : Int)) = true, r_29 = true, (!r_32) = true, ((((List.length r_14) : Nat) : Int) == (2 : Int)) = true, (0 : Int) ≤ (0 : Int), (0 : Int) < (((List.length r_14) : Nat) : Int)] (by kernel_rfl) rfl rfl (ap2 b_18 (ap2 b_19 (ap2 b_20 (ap2 (by decide) (ap2 c_36.1 (ap2 b_21 (ap2 b_24 (ap2 b_27 (ap2 b_28 (ap2 b_31 (ap2 b_34 (ap2 b_35 (ap2 (by decide) (ap1 c_36.2)))))))))))))) (by kernel_rfl) (by kernel_rfl) ?_
                      have H_77 := Option.some.inj (show some (((List.getD r_14 0 ((0 : Int), ((0 : Int), (0 : Int)))).1 == (4 : Int)) && (((List.getD r_14 0 ((0 : Int), ((0 : Int), (0 : Int)))).2.1 == (5 : Int)) && ((List.getD r_14 0 ((0 : Int), ((0 : Int), (0 : Int)))).2.2 == (2 : Int)))) = some r from H_76); subst H_77
                      refine VL_ret ?_
                      exact P_to [(0, .c (.val (.bool (((List.getD r_14 0 ((0 : Int), ((0 : Int), (0 : Int)))).1 == (4 : Int)) && (((List.getD r_14 0 ((0 : Int), ((0 : Int), (0 : Int)))).2.1 == (5 : Int)) && ((List.getD r_14 0 ((0 : Int), ((0 : Int), (0 : Int)))).2.2 == (2 : Int)))))))] [] [] hn (by kernel_rfl) (by kernel_rfl) rfl rfl rfl (QF_retS (by kernel_rfl) (by kernel_rfl) rfl)
                    · have H_75 := of_f H_72 b_35
                      obtain ⟨c_37, H_78⟩ := of_if H_75
                      refine V_reg hN hn [(20, ⟨11, 1, [.c (.h 0), .c (.val (.int .i64 (3 : Int)))], [(0, .row (.pair (.int .i64) (.pair (.int .i64) (.int .i64))) r_6.1)], .c (.val (.int .i64 r_22)), [(0, .row (.pair (.int .i64) (.pair (.int .i64) (.int .i64))) r_6.1)], [(0, 1)], 4⟩), (25, ⟨11, 1, [.c (.h 0), .c (.val (.int .i64 (9 : Int)))], [(0, .row (.pair (.int .i64) (.pair (.int .i64) (.int .i64))) r_6.1)], .c (.val (.int .i64 r_25)), [(0, .row (.pair (.int .i64) (.pair (.int .i64) (.int .i64))) r_6.1)], [(0, 1)], 4⟩), (34, ⟨13, 1, [.c (.h 0), .c (.val (.int .i64 (9 : Int)))], [(0, .row (.pair (.int .i64) (.pair (.int .i64) (.int .i64))) r_6.1)], .c (.val (.bool r_29)), [(0, .row (.pair (.int .i64) (.pair (.int .i64) (.int .i64))) r_6.1)], [(0, 1)], 4⟩), (38, ⟨13, 1, [.c (.h 0), .c (.val (.int .i64 (8 : Int)))], [(0, .row (.pair (.int .i64) (.pair (.int .i64) (.int .i64))) r_6.1)], .c (.val (.bool r_32)), [(0, .row (.pair (.int .i64) (.pair (.int .i64) (.int .i64))) r_6.1)], [(0, 1)], 4⟩)] [(30, true), (34, true), (39, true), (46, true), (51, true), (56, true), (60, true), (64, true), (69, true), (74, false)] (calls_cons (spans_At_rg_spec K r_6.1 (3 : Int) r_22 h_23) (by kernel_rfl) (calls_cons (spans_At_rg_spec K r_6.1 (9 : Int) r_25 h_26) (by kernel_rfl) (calls_cons (spans_Is_rg_spec K r_6.1 (9 : Int) r_29 h_30) (by kernel_rfl) (calls_cons (spans_Is_rg_spec K r_6.1 (8 : Int) r_32 h_33) (by kernel_rfl) calls_nil)))) 4 [0] [] ⟨[(0, .c (.val (.bool false)))], [], 4⟩ [(r_2.2 == (0 : Int)) = true, (r_6.2 == (0 : Int)) = true, ((((List.length r_6.1) : Nat) : Int) == (3 : Int)) = true, (0 : Int) ≤ (2 : Int), (2 : Int) < (((List.length r_6.1) : Nat) : Int), (((List.getD r_6.1 2 ((0 : Int), ((0 : Int), (0 : Int)))).1 == (5 : Int)) && (((List.getD r_6.1 2 ((0 : Int), ((0 : Int), (0 : Int)))).2.1 == (9 : Int)) && ((List.getD r_6.1 2 ((0 : Int), ((0 : Int), (0 : Int)))).2.2 == (1 : Int)))) = true, (r_22 == (2 : Int)) = true, (r_25 == (0 : Int)) = true, (r_10.2 == (12 : Int)) = true, r_29 = true, (!r_32) = true, ((((List.length r_14) : Nat) : Int) == (2 : Int)) = false] (by kernel_rfl) rfl rfl (ap2 b_18 (ap2 b_19 (ap2 b_20 (ap2 (by decide) (ap2 c_37 (ap2 b_21 (ap2 b_24 (ap2 b_27 (ap2 b_28 (ap2 b_31 (ap2 b_34 (ap1 b_35)))))))))))) (by kernel_rfl) (by kernel_rfl) ?_
                      have H_79 := Option.some.inj (show some false = some r from H_78); subst H_79
                      refine VL_ret ?_
                      exact P_to [(0, .c (.val (.bool false)))] [] [] hn (by kernel_rfl) (by kernel_rfl) rfl rfl rfl (QF_retS (by kernel_rfl) (by kernel_rfl) rfl)
                  · have H_73 := of_f H_71 b_34
                    obtain ⟨c_38, H_80⟩ := of_if H_73
                    refine V_reg hN hn [(20, ⟨11, 1, [.c (.h 0), .c (.val (.int .i64 (3 : Int)))], [(0, .row (.pair (.int .i64) (.pair (.int .i64) (.int .i64))) r_6.1)], .c (.val (.int .i64 r_22)), [(0, .row (.pair (.int .i64) (.pair (.int .i64) (.int .i64))) r_6.1)], [(0, 1)], 4⟩), (25, ⟨11, 1, [.c (.h 0), .c (.val (.int .i64 (9 : Int)))], [(0, .row (.pair (.int .i64) (.pair (.int .i64) (.int .i64))) r_6.1)], .c (.val (.int .i64 r_25)), [(0, .row (.pair (.int .i64) (.pair (.int .i64) (.int .i64))) r_6.1)], [(0, 1)], 4⟩), (34, ⟨13, 1, [.c (.h 0), .c (.val (.int .i64 (9 : Int)))], [(0, .row (.pair (.int .i64) (.pair (.int .i64) (.int .i64))) r_6.1)], .c (.val (.bool r_29)), [(0, .row (.pair (.int .i64) (.pair (.int .i64) (.int .i64))) r_6.1)], [(0, 1)], 4⟩), (38, ⟨13, 1, [.c (.h 0), .c (.val (.int .i64 (8 : Int)))], [(0, .row (.pair (.int .i64) (.pair (.int .i64) (.int .i64))) r_6.1)], .c (.val (.bool r_32)), [(0, .row (.pair (.int .i64) (.pair (.int .i64) (.int .i64))) r_6.1)], [(0, 1)], 4⟩)] [(30, true), (34, true), (39, true), (46, true), (51, true), (56, true), (60, true), (64, true), (69, false)] (calls_cons (spans_At_rg_spec K r_6.1 (3 : Int) r_22 h_23) (by kernel_rfl) (calls_cons (spans_At_rg_spec K r_6.1 (9 : Int) r_25 h_26) (by kernel_rfl) (calls_cons (spans_Is_rg_spec K r_6.1 (9 : Int) r_29 h_30) (by kernel_rfl) (calls_cons (spans_Is_rg_spec K r_6.1 (8 : Int) r_32 h_33) (by kernel_rfl) calls_nil)))) 4 [0] [] ⟨[(0, .c (.val (.bool false)))], [], 4⟩ [(r_2.2 == (0 : Int)) = true, (r_6.2 == (0 : Int)) = true, ((((List.length r_6.1) : Nat) : Int) == (3 : Int)) = true, (0 : Int) ≤ (2 : Int), (2 : Int) < (((List.length r_6.1) : Nat) : Int), (((List.getD r_6.1 2 ((0 : Int), ((0 : Int), (0 : Int)))).1 == (5 : Int)) && (((List.getD r_6.1 2 ((0 : Int), ((0 : Int), (0 : Int)))).2.1 == (9 : Int)) && ((List.getD r_6.1 2 ((0 : Int), ((0 : Int), (0 : Int)))).2.2 == (1 : Int)))) = true, (r_22 == (2 : Int)) = true, (r_25 == (0 : Int)) = true, (r_10.2 == (12 : Int)) = true, r_29 = true, (!r_32) = false] (by kernel_rfl) rfl rfl (ap2 b_18 (ap2 b_19 (ap2 b_20 (ap2 (by decide) (ap2 c_38 (ap2 b_21 (ap2 b_24 (ap2 b_27 (ap2 b_28 (ap2 b_31 (ap1 b_34))))))))))) (by kernel_rfl) (by kernel_rfl) ?_
                    have H_81 := Option.some.inj (show some false = some r from H_80); subst H_81
                    refine VL_ret ?_
                    exact P_to [(0, .c (.val (.bool false)))] [] [] hn (by kernel_rfl) (by kernel_rfl) rfl rfl rfl (QF_retS (by kernel_rfl) (by kernel_rfl) rfl)
                · have H_70 := of_f H_68 b_31
                  obtain ⟨c_39, H_82⟩ := of_if H_70
                  refine V_reg hN hn [(20, ⟨11, 1, [.c (.h 0), .c (.val (.int .i64 (3 : Int)))], [(0, .row (.pair (.int .i64) (.pair (.int .i64) (.int .i64))) r_6.1)], .c (.val (.int .i64 r_22)), [(0, .row (.pair (.int .i64) (.pair (.int .i64) (.int .i64))) r_6.1)], [(0, 1)], 4⟩), (25, ⟨11, 1, [.c (.h 0), .c (.val (.int .i64 (9 : Int)))], [(0, .row (.pair (.int .i64) (.pair (.int .i64) (.int .i64))) r_6.1)], .c (.val (.int .i64 r_25)), [(0, .row (.pair (.int .i64) (.pair (.int .i64) (.int .i64))) r_6.1)], [(0, 1)], 4⟩), (34, ⟨13, 1, [.c (.h 0), .c (.val (.int .i64 (9 : Int)))], [(0, .row (.pair (.int .i64) (.pair (.int .i64) (.int .i64))) r_6.1)], .c (.val (.bool r_29)), [(0, .row (.pair (.int .i64) (.pair (.int .i64) (.int .i64))) r_6.1)], [(0, 1)], 4⟩)] [(30, true), (34, true), (39, true), (46, true), (51, true), (56, true), (60, true), (64, false)] (calls_cons (spans_At_rg_spec K r_6.1 (3 : Int) r_22 h_23) (by kernel_rfl) (calls_cons (spans_At_rg_spec K r_6.1 (9 : Int) r_25 h_26) (by kernel_rfl) (calls_cons (spans_Is_rg_spec K r_6.1 (9 : Int) r_29 h_30) (by kernel_rfl) calls_nil))) 4 [0] [] ⟨[(0, .c (.val (.bool false)))], [], 4⟩ [(r_2.2 == (0 : Int)) = true, (r_6.2 == (0 : Int)) = true, ((((List.length r_6.1) : Nat) : Int) == (3 : Int)) = true, (0 : Int) ≤ (2 : Int), (2 : Int) < (((List.length r_6.1) : Nat) : Int), (((List.getD r_6.1 2 ((0 : Int), ((0 : Int), (0 : Int)))).1 == (5 : Int)) && (((List.getD r_6.1 2 ((0 : Int), ((0 : Int), (0 : Int)))).2.1 == (9 : Int)) && ((List.getD r_6.1 2 ((0 : Int), ((0 : Int), (0 : Int)))).2.2 == (1 : Int)))) = true, (r_22 == (2 : Int)) = true, (r_25 == (0 : Int)) = true, (r_10.2 == (12 : Int)) = true, r_29 = false] (by kernel_rfl) rfl rfl (ap2 b_18 (ap2 b_19 (ap2 b_20 (ap2 (by decide) (ap2 c_39 (ap2 b_21 (ap2 b_24 (ap2 b_27 (ap2 b_28 (ap1 b_31)))))))))) (by kernel_rfl) (by kernel_rfl) ?_
                  have H_83 := Option.some.inj (show some false = some r from H_82); subst H_83
                  refine VL_ret ?_
                  exact P_to [(0, .c (.val (.bool false)))] [] [] hn (by kernel_rfl) (by kernel_rfl) rfl rfl rfl (QF_retS (by kernel_rfl) (by kernel_rfl) rfl)
              · have H_67 := of_f H_64 b_28
                obtain ⟨c_40, H_84⟩ := of_if H_67
                refine V_reg hN hn [(20, ⟨11, 1, [.c (.h 0), .c (.val (.int .i64 (3 : Int)))], [(0, .row (.pair (.int .i64) (.pair (.int .i64) (.int .i64))) r_6.1)], .c (.val (.int .i64 r_22)), [(0, .row (.pair (.int .i64) (.pair (.int .i64) (.int .i64))) r_6.1)], [(0, 1)], 4⟩), (25, ⟨11, 1, [.c (.h 0), .c (.val (.int .i64 (9 : Int)))], [(0, .row (.pair (.int .i64) (.pair (.int .i64) (.int .i64))) r_6.1)], .c (.val (.int .i64 r_25)), [(0, .row (.pair (.int .i64) (.pair (.int .i64) (.int .i64))) r_6.1)], [(0, 1)], 4⟩)] [(30, true), (34, true), (39, true), (46, true), (51, true), (56, true), (60, false)] (calls_cons (spans_At_rg_spec K r_6.1 (3 : Int) r_22 h_23) (by kernel_rfl) (calls_cons (spans_At_rg_spec K r_6.1 (9 : Int) r_25 h_26) (by kernel_rfl) calls_nil)) 4 [0] [] ⟨[(0, .c (.val (.bool false)))], [], 4⟩ [(r_2.2 == (0 : Int)) = true, (r_6.2 == (0 : Int)) = true, ((((List.length r_6.1) : Nat) : Int) == (3 : Int)) = true, (0 : Int) ≤ (2 : Int), (2 : Int) < (((List.length r_6.1) : Nat) : Int), (((List.getD r_6.1 2 ((0 : Int), ((0 : Int), (0 : Int)))).1 == (5 : Int)) && (((List.getD r_6.1 2 ((0 : Int), ((0 : Int), (0 : Int)))).2.1 == (9 : Int)) && ((List.getD r_6.1 2 ((0 : Int), ((0 : Int), (0 : Int)))).2.2 == (1 : Int)))) = true, (r_22 == (2 : Int)) = true, (r_25 == (0 : Int)) = true, (r_10.2 == (12 : Int)) = false] (by kernel_rfl) rfl rfl (ap2 b_18 (ap2 b_19 (ap2 b_20 (ap2 (by decide) (ap2 c_40 (ap2 b_21 (ap2 b_24 (ap2 b_27 (ap1 b_28))))))))) (by kernel_rfl) (by kernel_rfl) ?_
                have H_85 := Option.some.inj (show some false = some r from H_84); subst H_85
                refine VL_ret ?_
                exact P_to [(0, .c (.val (.bool false)))] [] [] hn (by kernel_rfl) (by kernel_rfl) rfl rfl rfl (QF_retS (by kernel_rfl) (by kernel_rfl) rfl)
            · have H_65 := of_f H_63 b_27
              obtain ⟨c_41, H_86⟩ := of_if H_65
              refine V_reg hN hn [(20, ⟨11, 1, [.c (.h 0), .c (.val (.int .i64 (3 : Int)))], [(0, .row (.pair (.int .i64) (.pair (.int .i64) (.int .i64))) r_6.1)], .c (.val (.int .i64 r_22)), [(0, .row (.pair (.int .i64) (.pair (.int .i64) (.int .i64))) r_6.1)], [(0, 1)], 4⟩), (25, ⟨11, 1, [.c (.h 0), .c (.val (.int .i64 (9 : Int)))], [(0, .row (.pair (.int .i64) (.pair (.int .i64) (.int .i64))) r_6.1)], .c (.val (.int .i64 r_25)), [(0, .row (.pair (.int .i64) (.pair (.int .i64) (.int .i64))) r_6.1)], [(0, 1)], 4⟩)] [(30, true), (34, true), (39, true), (46, true), (51, true), (56, false)] (calls_cons (spans_At_rg_spec K r_6.1 (3 : Int) r_22 h_23) (by kernel_rfl) (calls_cons (spans_At_rg_spec K r_6.1 (9 : Int) r_25 h_26) (by kernel_rfl) calls_nil)) 4 [0] [] ⟨[(0, .c (.val (.bool false)))], [], 4⟩ [(r_2.2 == (0 : Int)) = true, (r_6.2 == (0 : Int)) = true, ((((List.length r_6.1) : Nat) : Int) == (3 : Int)) = true, (0 : Int) ≤ (2 : Int), (2 : Int) < (((List.length r_6.1) : Nat) : Int), (((List.getD r_6.1 2 ((0 : Int), ((0 : Int), (0 : Int)))).1 == (5 : Int)) && (((List.getD r_6.1 2 ((0 : Int), ((0 : Int), (0 : Int)))).2.1 == (9 : Int)) && ((List.getD r_6.1 2 ((0 : Int), ((0 : Int), (0 : Int)))).2.2 == (1 : Int)))) = true, (r_22 == (2 : Int)) = true, (r_25 == (0 : Int)) = false] (by kernel_rfl) rfl rfl (ap2 b_18 (ap2 b_19 (ap2 b_20 (ap2 (by decide) (ap2 c_41 (ap2 b_21 (ap2 b_24 (ap1 b_27)))))))) (by kernel_rfl) (by kernel_rfl) ?_
              have H_87 := Option.some.inj (show some false = some r from H_86); subst H_87
              refine VL_ret ?_
              exact P_to [(0, .c (.val (.bool false)))] [] [] hn (by kernel_rfl) (by kernel_rfl) rfl rfl rfl (QF_retS (by kernel_rfl) (by kernel_rfl) rfl)
          · have H_62 := of_f H_60 b_24
            obtain ⟨c_42, H_88⟩ := of_if H_62
            refine V_reg hN hn [(20, ⟨11, 1, [.c (.h 0), .c (.val (.int .i64 (3 : Int)))], [(0, .row (.pair (.int .i64) (.pair (.int .i64) (.int .i64))) r_6.1)], .c (.val (.int .i64 r_22)), [(0, .row (.pair (.int .i64) (.pair (.int .i64) (.int .i64))) r_6.1)], [(0, 1)], 4⟩)] [(30, true), (34, true), (39, true), (46, true), (51, false)] (calls_cons (spans_At_rg_spec K r_6.1 (3 : Int) r_22 h_23) (by kernel_rfl) calls_nil) 4 [0] [] ⟨[(0, .c (.val (.bool false)))], [], 4⟩ [(r_2.2 == (0 : Int)) = true, (r_6.2 == (0 : Int)) = true, ((((List.length r_6.1) : Nat) : Int) == (3 : Int)) = true, (0 : Int) ≤ (2 : Int), (2 : Int) < (((List.length r_6.1) : Nat) : Int), (((List.getD r_6.1 2 ((0 : Int), ((0 : Int), (0 : Int)))).1 == (5 : Int)) && (((List.getD r_6.1 2 ((0 : Int), ((0 : Int), (0 : Int)))).2.1 == (9 : Int)) && ((List.getD r_6.1 2 ((0 : Int), ((0 : Int), (0 : Int)))).2.2 == (1 : Int)))) = true, (r_22 == (2 : Int)) = false] (by kernel_rfl) rfl rfl (ap2 b_18 (ap2 b_19 (ap2 b_20 (ap2 (by decide) (ap2 c_42 (ap2 b_21 (ap1 b_24))))))) (by kernel_rfl) (by kernel_rfl) ?_
            have H_89 := Option.some.inj (show some false = some r from H_88); subst H_89
            refine VL_ret ?_
            exact P_to [(0, .c (.val (.bool false)))] [] [] hn (by kernel_rfl) (by kernel_rfl) rfl rfl rfl (QF_retS (by kernel_rfl) (by kernel_rfl) rfl)
        · have H_59 := of_f H_56 b_21
          obtain ⟨c_43, H_90⟩ := of_if H_59
          refine V_reg hN hn [] [(30, true), (34, true), (39, true), (46, false)] calls_nil 4 [0] [] ⟨[(0, .c (.val (.bool false)))], [], 4⟩ [(r_2.2 == (0 : Int)) = true, (r_6.2 == (0 : Int)) = true, ((((List.length r_6.1) : Nat) : Int) == (3 : Int)) = true, (0 : Int) ≤ (2 : Int), (2 : Int) < (((List.length r_6.1) : Nat) : Int), (((List.getD r_6.1 2 ((0 : Int), ((0 : Int), (0 : Int)))).1 == (5 : Int)) && (((List.getD r_6.1 2 ((0 : Int), ((0 : Int), (0 : Int)))).2.1 == (9 : Int)) && ((List.getD r_6.1 2 ((0 : Int), ((0 : Int), (0 : Int)))).2.2 == (1 : Int)))) = false] (by kernel_rfl) rfl rfl (ap2 b_18 (ap2 b_19 (ap2 b_20 (ap2 (by decide) (ap2 c_43 (ap1 b_21)))))) (by kernel_rfl) (by kernel_rfl) ?_
          have H_91 := Option.some.inj (show some false = some r from H_90); subst H_91
          refine VL_ret ?_
          exact P_to [(0, .c (.val (.bool false)))] [] [] hn (by kernel_rfl) (by kernel_rfl) rfl rfl rfl (QF_retS (by kernel_rfl) (by kernel_rfl) rfl)
      · have H_57 := of_f H_54 b_20
        refine V_reg hN hn [] [(30, true), (34, true), (39, false)] calls_nil 4 [0] [] ⟨[(0, .c (.val (.bool false)))], [], 4⟩ [(r_2.2 == (0 : Int)) = true, (r_6.2 == (0 : Int)) = true, ((((List.length r_6.1) : Nat) : Int) == (3 : Int)) = false] (by kernel_rfl) rfl rfl (ap2 b_18 (ap2 b_19 (ap1 b_20))) (by kernel_rfl) (by kernel_rfl) ?_
        have H_92 := Option.some.inj (show some false = some r from H_57); subst H_92
        refine VL_ret ?_
        exact P_to [(0, .c (.val (.bool false)))] [] [] hn (by kernel_rfl) (by kernel_rfl) rfl rfl rfl (QF_retS (by kernel_rfl) (by kernel_rfl) rfl)
    · have H_55 := of_f H_52 b_19
      refine V_reg hN hn [] [(30, true), (34, false)] calls_nil 4 [0] [] ⟨[(0, .c (.val (.bool false)))], [], 4⟩ [(r_2.2 == (0 : Int)) = true, (r_6.2 == (0 : Int)) = false] (by kernel_rfl) rfl rfl (ap2 b_18 (ap1 b_19)) (by kernel_rfl) (by kernel_rfl) ?_
      have H_93 := Option.some.inj (show some false = some r from H_55); subst H_93
      refine VL_ret ?_
      exact P_to [(0, .c (.val (.bool false)))] [] [] hn (by kernel_rfl) (by kernel_rfl) rfl rfl rfl (QF_retS (by kernel_rfl) (by kernel_rfl) rfl)
  · have H_53 := of_f H_51 b_18
    refine V_reg hN hn [] [(30, false)] calls_nil 4 [0] [] ⟨[(0, .c (.val (.bool false)))], [], 4⟩ [(r_2.2 == (0 : Int)) = false] (by kernel_rfl) rfl rfl (ap1 b_18) (by kernel_rfl) (by kernel_rfl) ?_
    have H_94 := Option.some.inj (show some false = some r from H_53); subst H_94
    refine VL_ret ?_
    exact P_to [(0, .c (.val (.bool false)))] [] [] hn (by kernel_rfl) (by kernel_rfl) rfl rfl rfl (QF_retS (by kernel_rfl) (by kernel_rfl) rfl)

theorem palinodelaw15_same_rr_spec (K : Nat) (a_1 : (List (Int × (Int × Int)))) (b_2 : (List (Int × (Int × Int)))) (r : Bool) (H : palinodelaw15_same_rr K a_1 b_2 = some r) : Spec Try.prog 12 2 [.c (.h 0), .c (.h 1)] [(0, .row (.pair (.int .i64) (.pair (.int .i64) (.int .i64))) a_1), (1, .row (.pair (.int .i64) (.pair (.int .i64) (.int .i64))) b_2)] (.c (.val (.bool r))) [(0, .row (.pair (.int .i64) (.pair (.int .i64) (.int .i64))) a_1), (1, .row (.pair (.int .i64) (.pair (.int .i64) (.int .i64))) b_2)] := by
  refine Spec_mk (fn := Try.f12) (c := (Try.f12.body).get!) Try.func12 (by kernel_rfl) rfl ?_
  intro C hN hn
  replace hN : C.N = 26 := hN
  unfold palinodelaw15_same_rr at H
  refine V_run hN hn 5 2 [0, 1, 10] [0, 1] ⟨[(0, .c (.h 0)), (1, .c (.h 1)), (10, .c (.val (.bool ((((List.length a_1) : Nat) : Int) != (((List.length b_2) : Nat) : Int)))))], [(0, .row (.pair (.int .i64) (.pair (.int .i64) (.int .i64))) a_1), (1, .row (.pair (.int .i64) (.pair (.int .i64) (.int .i64))) b_2)], 2⟩ [] (by kernel_rfl) rfl rfl ap0 ?_
  refine VL_cond (((((List.length a_1) : Nat) : Int) != (((List.length b_2) : Nat) : Int))) (by kernel_rfl) ?_ ?_
  · intro b_4; have H_20 := of_t H b_4
    refine V_run hN hn 2 2 [4] [0, 1] ⟨[(4, .c (.val (.bool false)))], [(0, .row (.pair (.int .i64) (.pair (.int .i64) (.int .i64))) a_1), (1, .row (.pair (.int .i64) (.pair (.int .i64) (.int .i64))) b_2)], 2⟩ [] (by kernel_rfl) rfl rfl ap0 ?_
    have H_22 := Option.some.inj (show some false = some r from H_20); subst H_22
    refine VL_ret ?_
    exact P_to [(4, .c (.val (.bool false)))] [(0, .row (.pair (.int .i64) (.pair (.int .i64) (.int .i64))) a_1), (1, .row (.pair (.int .i64) (.pair (.int .i64) (.int .i64))) b_2)] [] hn (by kernel_rfl) (by kernel_rfl) rfl rfl rfl (QF_retS (by kernel_rfl) (by kernel_rfl) rfl)
  · intro b_4; have H_21 := of_f H b_4
    refine V_run hN hn 4 2 [0, 1, 5] [0, 1] ⟨[(0, .c (.h 0)), (1, .c (.h 1)), (5, .c (.val (.int .i64 (0 : Int))))], [(0, .row (.pair (.int .i64) (.pair (.int .i64) (.int .i64))) a_1), (1, .row (.pair (.int .i64) (.pair (.int .i64) (.int .i64))) b_2)], 2⟩ [] (by kernel_rfl) rfl rfl ap0 ?_
    refine VL_block ?_
    refine V_to [(0, .c (.h 0)), (1, .c (.h 1)), (5, .c (.val (.int .i64 (0 : Int))))] [(0, .row (.pair (.int .i64) (.pair (.int .i64) (.int .i64))) a_1), (1, .row (.pair (.int .i64) (.pair (.int .i64) (.int .i64))) b_2)] [] hn (by kernel_rfl) (by kernel_rfl) rfl rfl rfl ?_
    refine VL_loop (X := Int) (fun x => [(0, .c (.h 0)), (1, .c (.h 1)), (5, .c (.val (.int .i64 x)))]) (fun x => [(0, .row (.pair (.int .i64) (.pair (.int .i64) (.int .i64))) a_1), (1, .row (.pair (.int .i64) (.pair (.int .i64) (.int .i64))) b_2)]) (fun k x => palinodelaw15_same_rr.l0 K a_1 b_2 k x = some r) K (0 : Int) H_21 (fun _ h => no_none h) ?_
    intro k_8 i_7 H_23
    have H_24 : palinodelaw15_same_rr.l0 K a_1 b_2 (k_8 + 1) i_7 = some r := H_23
    rw [palinodelaw15_same_rr.l0] at H_24
    refine V_run hN hn 3 2 [0, 1, 5, 14] [0, 1] ⟨[(0, .c (.h 0)), (1, .c (.h 1)), (5, .c (.val (.int .i64 i_7))), (14, .c (.val (.bool (decide (i_7 < (((List.length a_1) : Nat) : Int))))))], [(0, .row (.pair (.int .i64) (.pair (.int .i64) (.int .i64))) a_1), (1, .row (.pair (.int .i64) (.pair (.int .i64) (.int .i64))) b_2)], 2⟩ [] (by kernel_rfl) rfl rfl ap0 ?_
    refine VL_cond ((decide (i_7 < (((List.length a_1) : Nat) : Int)))) (by kernel_rfl) ?_ ?_
    · intro b_10; have H_25 := of_t H_24 b_10
      refine V_run hN hn 2 2 [0, 1, 5, 14] [0, 1] ⟨[(0, .c (.h 0)), (1, .c (.h 1)), (5, .c (.val (.int .i64 i_7))), (14, .c (.val (.bool (decide (i_7 < (((List.length a_1) : Nat) : Int))))))], [(0, .row (.pair (.int .i64) (.pair (.int .i64) (.int .i64))) a_1), (1, .row (.pair (.int .i64) (.pair (.int .i64) (.int .i64))) b_2)], 2⟩ [] (by kernel_rfl) rfl rfl ap0 ?_
      refine VL_block ?_
      refine V_run hN hn 1 2 [0, 1, 5, 14] [0, 1] ⟨[(0, .c (.h 0)), (1, .c (.h 1)), (5, .c (.val (.int .i64 i_7))), (14, .c (.val (.bool (decide (i_7 < (((List.length a_1) : Nat) : Int))))))], [(0, .row (.pair (.int .i64) (.pair (.int .i64) (.int .i64))) a_1), (1, .row (.pair (.int .i64) (.pair (.int .i64) (.int .i64))) b_2)], 2⟩ [] (by kernel_rfl) rfl rfl ap0 ?_
      obtain ⟨c_13, H_27⟩ := of_if H_25
      refine V_draw hN hn (by kernel_rfl) [] [] calls_nil 2 [0, 1, 5, 25] [0, 1] ⟨[(0, .c (.h 0)), (1, .c (.h 1)), (5, .c (.val (.int .i64 i_7))), (25, .c (.val (.bool (!(((List.getD a_1 (Int.toNat i_7) ((0 : Int), ((0 : Int), (0 : Int)))).1 == (List.getD b_2 (Int.toNat i_7) ((0 : Int), ((0 : Int), (0 : Int)))).1) && (((List.getD a_1 (Int.toNat i_7) ((0 : Int), ((0 : Int), (0 : Int)))).2.1 == (List.getD b_2 (Int.toNat i_7) ((0 : Int), ((0 : Int), (0 : Int)))).2.1) && ((List.getD a_1 (Int.toNat i_7) ((0 : Int), ((0 : Int), (0 : Int)))).2.2 == (List.getD b_2 (Int.toNat i_7) ((0 : Int), ((0 : Int), (0 : Int)))).2.2)))))))], [(0, .row (.pair (.int .i64) (.pair (.int .i64) (.int .i64))) a_1), (1, .row (.pair (.int .i64) (.pair (.int .i64) (.int .i64))) b_2)], 2⟩ [0 ≤ i_7, i_7 < (((List.length a_1) : Nat) : Int), 0 ≤ i_7, i_7 < (((List.length b_2) : Nat) : Int)] (by kernel_rfl) rfl rfl (ap2 c_13.1 (ap2 c_13.2.1 (ap2 c_13.1 (ap1 c_13.2.2)))) (by kernel_rfl) (by kernel_rfl) ?_
      refine VL_cond ((!(((List.getD a_1 (Int.toNat i_7) ((0 : Int), ((0 : Int), (0 : Int)))).1 == (List.getD b_2 (Int.toNat i_7) ((0 : Int), ((0 : Int), (0 : Int)))).1) && (((List.getD a_1 (Int.toNat i_7) ((0 : Int), ((0 : Int), (0 : Int)))).2.1 == (List.getD b_2 (Int.toNat i_7) ((0 : Int), ((0 : Int), (0 : Int)))).2.1) && ((List.getD a_1 (Int.toNat i_7) ((0 : Int), ((0 : Int), (0 : Int)))).2.2 == (List.getD b_2 (Int.toNat i_7) ((0 : Int), ((0 : Int), (0 : Int)))).2.2))))) (by kernel_rfl) ?_ ?_
      · intro b_14; have H_28 := of_t H_27 b_14
        refine V_run hN hn 2 2 [4] [0, 1] ⟨[(4, .c (.val (.bool false)))], [(0, .row (.pair (.int .i64) (.pair (.int .i64) (.int .i64))) a_1), (1, .row (.pair (.int .i64) (.pair (.int .i64) (.int .i64))) b_2)], 2⟩ [] (by kernel_rfl) rfl rfl ap0 ?_
        have H_30 := Option.some.inj (show some false = some r from H_28); subst H_30
        refine VL_ret ?_
        refine QB_ret ?_
        refine QL_ret ?_
        refine QB_ret ?_
        exact P_to [(4, .c (.val (.bool false)))] [(0, .row (.pair (.int .i64) (.pair (.int .i64) (.int .i64))) a_1), (1, .row (.pair (.int .i64) (.pair (.int .i64) (.int .i64))) b_2)] [] hn (by kernel_rfl) (by kernel_rfl) rfl rfl rfl (QF_retS (by kernel_rfl) (by kernel_rfl) rfl)
      · intro b_14; have H_29 := of_f H_27 b_14
        refine V_run hN hn 1 2 [0, 1, 5, 25] [0, 1] ⟨[(0, .c (.h 0)), (1, .c (.h 1)), (5, .c (.val (.int .i64 i_7))), (25, .c (.val (.bool (!(((List.getD a_1 (Int.toNat i_7) ((0 : Int), ((0 : Int), (0 : Int)))).1 == (List.getD b_2 (Int.toNat i_7) ((0 : Int), ((0 : Int), (0 : Int)))).1) && (((List.getD a_1 (Int.toNat i_7) ((0 : Int), ((0 : Int), (0 : Int)))).2.1 == (List.getD b_2 (Int.toNat i_7) ((0 : Int), ((0 : Int), (0 : Int)))).2.1) && ((List.getD a_1 (Int.toNat i_7) ((0 : Int), ((0 : Int), (0 : Int)))).2.2 == (List.getD b_2 (Int.toNat i_7) ((0 : Int), ((0 : Int), (0 : Int)))).2.2)))))))], [(0, .row (.pair (.int .i64) (.pair (.int .i64) (.int .i64))) a_1), (1, .row (.pair (.int .i64) (.pair (.int .i64) (.int .i64))) b_2)], 2⟩ [] (by kernel_rfl) rfl rfl ap0 ?_
        refine VL_nil (QB_end ?_)
        refine V_run hN hn 1 2 [0, 1, 5] [0, 1] ⟨[(0, .c (.h 0)), (1, .c (.h 1)), (5, .c (.val (.int .i64 (IntKind.wrap .i64 (i_7 + (1 : Int))))))], [(0, .row (.pair (.int .i64) (.pair (.int .i64) (.int .i64))) a_1), (1, .row (.pair (.int .i64) (.pair (.int .i64) (.int .i64))) b_2)], 2⟩ [] (by kernel_rfl) rfl rfl ap0 ?_
        refine VL_nil ?_
        exact V_roundEnd (IntKind.wrap .i64 (i_7 + (1 : Int))) H_29 [] hn (by kernel_rfl) (by kernel_rfl) rfl rfl rfl
    · intro b_10; have H_26 := of_f H_24 b_10
      refine VL_exit ?_
      refine QL_exit ?_
      refine QB_here ?_
      refine V_run hN hn 2 2 [4] [0, 1] ⟨[(4, .c (.val (.bool true)))], [(0, .row (.pair (.int .i64) (.pair (.int .i64) (.int .i64))) a_1), (1, .row (.pair (.int .i64) (.pair (.int .i64) (.int .i64))) b_2)], 2⟩ [] (by kernel_rfl) rfl rfl ap0 ?_
      have H_31 := Option.some.inj (show some true = some r from H_26); subst H_31
      refine VL_ret ?_
      exact P_to [(4, .c (.val (.bool true)))] [(0, .row (.pair (.int .i64) (.pair (.int .i64) (.int .i64))) a_1), (1, .row (.pair (.int .i64) (.pair (.int .i64) (.int .i64))) b_2)] [] hn (by kernel_rfl) (by kernel_rfl) rfl rfl rfl (QF_retS (by kernel_rfl) (by kernel_rfl) rfl)

theorem spans_Is_spec (K : Nat) (l_1 : (List (Int × (Int × Int)))) (n_2 : Int) (r : Bool) (H : spans_Is_ng K l_1 n_2 = some r) : Spec Try.prog 13 0 [.c (.imm (.slice (.pair (.int .i64) (.pair (.int .i64) (.int .i64)))) l_1), .c (.val (.int .i64 n_2))] [] (.c (.val (.bool r))) [] := by
  refine Spec_mk (fn := Try.f13) (c := (Try.f13.body).get!) Try.func13 (by kernel_rfl) rfl ?_
  intro C hN hn
  replace hN : C.N = 77 := hN
  unfold spans_Is_ng at H
  refine V_run hN hn 7 0 [0, 1, 11] [] ⟨[(0, .c (.imm (.slice (.pair (.int .i64) (.pair (.int .i64) (.int .i64)))) l_1)), (1, .c (.val (.int .i64 (mn2 n_2 (20000 : Int))))), (11, .c (.val (.bool (decide ((((List.length l_1) : Nat) : Int) > (60 : Int))))))], [], 0⟩ [] (by kernel_rfl) rfl rfl ap0 ?_
  refine VL_cond ((decide ((((List.length l_1) : Nat) : Int) > (60 : Int)))) (by kernel_rfl) ?_ ?_
  · intro b_4; have H_44 := of_t H b_4
    refine V_run hN hn 2 0 [4] [] ⟨[(4, .c (.val (.bool false)))], [], 0⟩ [] (by kernel_rfl) rfl rfl ap0 ?_
    have H_46 := Option.some.inj (show some false = some r from H_44); subst H_46
    refine VL_ret ?_
    exact P_to [(4, .c (.val (.bool false)))] [] [] hn (by kernel_rfl) (by kernel_rfl) rfl rfl rfl (QF_retS (by kernel_rfl) (by kernel_rfl) rfl)
  · intro b_4; have H_45 := of_f H b_4
    refine V_run hN hn 4 0 [0, 1, 12, 13, 14] [] ⟨[(0, .c (.imm (.slice (.pair (.int .i64) (.pair (.int .i64) (.int .i64)))) l_1)), (1, .c (.val (.int .i64 (mn2 n_2 (20000 : Int))))), (12, .c (.imm (.slice (.pair (.int .i64) (.pair (.int .i64) (.int .i64)))) l_1)), (13, .c (.val (.int .i64 (((List.length l_1) : Nat) : Int)))), (14, .c (.val (.int .i64 (0 : Int))))], [], 0⟩ [] (by kernel_rfl) rfl rfl ap0 ?_
    refine VL_block ?_
    refine V_to [(0, .c (.imm (.slice (.pair (.int .i64) (.pair (.int .i64) (.int .i64)))) l_1)), (1, .c (.val (.int .i64 (mn2 n_2 (20000 : Int))))), (12, .c (.imm (.slice (.pair (.int .i64) (.pair (.int .i64) (.int .i64)))) l_1)), (13, .c (.val (.int .i64 (((List.length l_1) : Nat) : Int)))), (14, .c (.val (.int .i64 (0 : Int))))] [] [] hn (by kernel_rfl) (by kernel_rfl) rfl rfl rfl ?_
    refine VL_loop (X := Int) (fun x => [(0, .c (.imm (.slice (.pair (.int .i64) (.pair (.int .i64) (.int .i64)))) l_1)), (1, .c (.val (.int .i64 (mn2 n_2 (20000 : Int))))), (12, .c (.imm (.slice (.pair (.int .i64) (.pair (.int .i64) (.int .i64)))) l_1)), (13, .c (.val (.int .i64 (((List.length l_1) : Nat) : Int)))), (14, .c (.val (.int .i64 x)))]) (fun x => []) (fun k x => spans_Is_ng.l0 K l_1 n_2 k x = some r) K (0 : Int) H_45 (fun _ h => no_none h) ?_
    intro k_8 t_7 H_47
    have H_48 : spans_Is_ng.l0 K l_1 n_2 (k_8 + 1) t_7 = some r := H_47
    rw [spans_Is_ng.l0] at H_48
    refine V_run hN hn 3 0 [0, 1, 12, 13, 14, 15] [] ⟨[(0, .c (.imm (.slice (.pair (.int .i64) (.pair (.int .i64) (.int .i64)))) l_1)), (1, .c (.val (.int .i64 (mn2 n_2 (20000 : Int))))), (12, .c (.imm (.slice (.pair (.int .i64) (.pair (.int .i64) (.int .i64)))) l_1)), (13, .c (.val (.int .i64 (((List.length l_1) : Nat) : Int)))), (14, .c (.val (.int .i64 t_7))), (15, .c (.val (.bool (decide (t_7 < (((List.length l_1) : Nat) : Int))))))], [], 0⟩ [] (by kernel_rfl) rfl rfl ap0 ?_
    refine VL_cond ((decide (t_7 < (((List.length l_1) : Nat) : Int)))) (by kernel_rfl) ?_ ?_
    · intro b_10; have H_49 := of_t H_48 b_10
      refine V_run hN hn 2 0 [0, 1, 12, 13, 14, 15] [] ⟨[(0, .c (.imm (.slice (.pair (.int .i64) (.pair (.int .i64) (.int .i64)))) l_1)), (1, .c (.val (.int .i64 (mn2 n_2 (20000 : Int))))), (12, .c (.imm (.slice (.pair (.int .i64) (.pair (.int .i64) (.int .i64)))) l_1)), (13, .c (.val (.int .i64 (((List.length l_1) : Nat) : Int)))), (14, .c (.val (.int .i64 t_7))), (15, .c (.val (.bool (decide (t_7 < (((List.length l_1) : Nat) : Int))))))], [], 0⟩ [] (by kernel_rfl) rfl rfl ap0 ?_
      refine VL_block ?_
      obtain ⟨c_12, H_51⟩ := of_if H_49
      refine V_run hN hn 4 0 [0, 1, 5, 6, 12, 13, 14] [0] ⟨[(0, .c (.imm (.slice (.pair (.int .i64) (.pair (.int .i64) (.int .i64)))) l_1)), (1, .c (.val (.int .i64 (mn2 n_2 (20000 : Int))))), (5, .c (.val (.int .i64 t_7))), (6, .c (.h 0)), (12, .c (.imm (.slice (.pair (.int .i64) (.pair (.int .i64) (.int .i64)))) l_1)), (13, .c (.val (.int .i64 (((List.length l_1) : Nat) : Int)))), (14, .c (.val (.int .i64 t_7)))], [(0, .box [.val (.int .i64 (List.getD l_1 (Int.toNat t_7) ((0 : Int), ((0 : Int), (0 : Int)))).1), .val (.int .i64 (List.getD l_1 (Int.toNat t_7) ((0 : Int), ((0 : Int), (0 : Int)))).2.1), .val (.int .i64 (List.getD l_1 (Int.toNat t_7) ((0 : Int), ((0 : Int), (0 : Int)))).2.2)])], 1⟩ [0 ≤ t_7, t_7 < (((List.length l_1) : Nat) : Int)] (by kernel_rfl) rfl rfl (ap2 c_12.1 (ap1 c_12.2)) ?_
      obtain ⟨q_52, H_53, H_54⟩ := of_bind H_51
      refine V_cut (Y := Bool) (R := Bool) q_52 (fun y => y) (fun y => [(0, .c (.imm (.slice (.pair (.int .i64) (.pair (.int .i64) (.int .i64)))) l_1)), (1, .c (.val (.int .i64 (mn2 n_2 (20000 : Int))))), (5, .c (.val (.int .i64 t_7))), (6, .c (.h 0)), (12, .c (.imm (.slice (.pair (.int .i64) (.pair (.int .i64) (.int .i64)))) l_1)), (13, .c (.val (.int .i64 (((List.length l_1) : Nat) : Int)))), (14, .c (.val (.int .i64 t_7))), (40, .c (.val (.bool y)))]) (fun y => [(0, .box [.val (.int .i64 (List.getD l_1 (Int.toNat t_7) ((0 : Int), ((0 : Int), (0 : Int)))).1), .val (.int .i64 (List.getD l_1 (Int.toNat t_7) ((0 : Int), ((0 : Int), (0 : Int)))).2.1), .val (.int .i64 (List.getD l_1 (Int.toNat t_7) ((0 : Int), ((0 : Int), (0 : Int)))).2.2)])]) ?_ ?_
      · skip
        obtain ⟨r_13, h_14, H_56⟩ := of_bind H_53
        rcases Bool.eq_false_or_eq_true ((!r_13)) with b_15 | b_15
        · have H_57 := of_t H_56 b_15
          refine V_reg hN hn [(2, ⟨24, 0, [.c (.val (.int .i64 (List.getD l_1 (Int.toNat t_7) ((0 : Int), ((0 : Int), (0 : Int)))).2.2)), .c (.val (.int .i64 (1 : Int))), .c (.val (.int .i64 (100 : Int)))], [], .c (.val (.bool r_13)), [], [], 1⟩)] [(23, true)] (calls_cons (spans_within_spec K (List.getD l_1 (Int.toNat t_7) ((0 : Int), ((0 : Int), (0 : Int)))).2.2 (1 : Int) (100 : Int) r_13 h_14) (by kernel_rfl) calls_nil) 1 [0, 1, 5, 6, 12, 13, 14, 40] [0] ⟨[(0, .c (.imm (.slice (.pair (.int .i64) (.pair (.int .i64) (.int .i64)))) l_1)), (1, .c (.val (.int .i64 (mn2 n_2 (20000 : Int))))), (5, .c (.val (.int .i64 t_7))), (6, .c (.h 0)), (12, .c (.imm (.slice (.pair (.int .i64) (.pair (.int .i64) (.int .i64)))) l_1)), (13, .c (.val (.int .i64 (((List.length l_1) : Nat) : Int)))), (14, .c (.val (.int .i64 t_7))), (40, .c (.val (.bool true)))], [(0, .box [.val (.int .i64 (List.getD l_1 (Int.toNat t_7) ((0 : Int), ((0 : Int), (0 : Int)))).1), .val (.int .i64 (List.getD l_1 (Int.toNat t_7) ((0 : Int), ((0 : Int), (0 : Int)))).2.1), .val (.int .i64 (List.getD l_1 (Int.toNat t_7) ((0 : Int), ((0 : Int), (0 : Int)))).2.2)])], 1⟩ [(!r_13) = true] (by kernel_rfl) rfl rfl (ap1 b_15) (by kernel_rfl) (by kernel_rfl) ?_
          have H_59 := Option.some.inj (show some true = some q_52 from H_57); subst H_59
          refine VL_nil ?_
          exact QP_end true rfl [(0, 0)] hn (by kernel_rfl) (by kernel_rfl) rfl rfl rfl
        · have H_58 := of_f H_56 b_15
          rcases Bool.eq_false_or_eq_true ((decide ((List.getD l_1 (Int.toNat t_7) ((0 : Int), ((0 : Int), (0 : Int)))).1 < (0 : Int)))) with b_17 | b_17
          · have H_60 := of_t H_58 b_17
            refine V_reg hN hn [(2, ⟨24, 0, [.c (.val (.int .i64 (List.getD l_1 (Int.toNat t_7) ((0 : Int), ((0 : Int), (0 : Int)))).2.2)), .c (.val (.int .i64 (1 : Int))), .c (.val (.int .i64 (100 : Int)))], [], .c (.val (.bool r_13)), [], [], 1⟩)] [(23, false), (28, true)] (calls_cons (spans_within_spec K (List.getD l_1 (Int.toNat t_7) ((0 : Int), ((0 : Int), (0 : Int)))).2.2 (1 : Int) (100 : Int) r_13 h_14) (by kernel_rfl) calls_nil) 1 [0, 1, 5, 6, 12, 13, 14, 40] [0] ⟨[(0, .c (.imm (.slice (.pair (.int .i64) (.pair (.int .i64) (.int .i64)))) l_1)), (1, .c (.val (.int .i64 (mn2 n_2 (20000 : Int))))), (5, .c (.val (.int .i64 t_7))), (6, .c (.h 0)), (12, .c (.imm (.slice (.pair (.int .i64) (.pair (.int .i64) (.int .i64)))) l_1)), (13, .c (.val (.int .i64 (((List.length l_1) : Nat) : Int)))), (14, .c (.val (.int .i64 t_7))), (40, .c (.val (.bool true)))], [(0, .box [.val (.int .i64 (List.getD l_1 (Int.toNat t_7) ((0 : Int), ((0 : Int), (0 : Int)))).1), .val (.int .i64 (List.getD l_1 (Int.toNat t_7) ((0 : Int), ((0 : Int), (0 : Int)))).2.1), .val (.int .i64 (List.getD l_1 (Int.toNat t_7) ((0 : Int), ((0 : Int), (0 : Int)))).2.2)])], 1⟩ [(!r_13) = false, (decide ((List.getD l_1 (Int.toNat t_7) ((0 : Int), ((0 : Int), (0 : Int)))).1 < (0 : Int))) = true] (by kernel_rfl) rfl rfl (ap2 b_15 (ap1 b_17)) (by kernel_rfl) (by kernel_rfl) ?_
            have H_62 := Option.some.inj (show some true = some q_52 from H_60); subst H_62
            refine VL_nil ?_
            exact QP_end true rfl [(0, 0)] hn (by kernel_rfl) (by kernel_rfl) rfl rfl rfl
          · have H_61 := of_f H_58 b_17
            rcases Bool.eq_false_or_eq_true ((decide ((List.getD l_1 (Int.toNat t_7) ((0 : Int), ((0 : Int), (0 : Int)))).1 ≥ (List.getD l_1 (Int.toNat t_7) ((0 : Int), ((0 : Int), (0 : Int)))).2.1))) with b_19 | b_19
            · have H_63 := of_t H_61 b_19
              refine V_reg hN hn [(2, ⟨24, 0, [.c (.val (.int .i64 (List.getD l_1 (Int.toNat t_7) ((0 : Int), ((0 : Int), (0 : Int)))).2.2)), .c (.val (.int .i64 (1 : Int))), .c (.val (.int .i64 (100 : Int)))], [], .c (.val (.bool r_13)), [], [], 1⟩)] [(23, false), (28, false), (35, true)] (calls_cons (spans_within_spec K (List.getD l_1 (Int.toNat t_7) ((0 : Int), ((0 : Int), (0 : Int)))).2.2 (1 : Int) (100 : Int) r_13 h_14) (by kernel_rfl) calls_nil) 1 [0, 1, 5, 6, 12, 13, 14, 40] [0] ⟨[(0, .c (.imm (.slice (.pair (.int .i64) (.pair (.int .i64) (.int .i64)))) l_1)), (1, .c (.val (.int .i64 (mn2 n_2 (20000 : Int))))), (5, .c (.val (.int .i64 t_7))), (6, .c (.h 0)), (12, .c (.imm (.slice (.pair (.int .i64) (.pair (.int .i64) (.int .i64)))) l_1)), (13, .c (.val (.int .i64 (((List.length l_1) : Nat) : Int)))), (14, .c (.val (.int .i64 t_7))), (40, .c (.val (.bool true)))], [(0, .box [.val (.int .i64 (List.getD l_1 (Int.toNat t_7) ((0 : Int), ((0 : Int), (0 : Int)))).1), .val (.int .i64 (List.getD l_1 (Int.toNat t_7) ((0 : Int), ((0 : Int), (0 : Int)))).2.1), .val (.int .i64 (List.getD l_1 (Int.toNat t_7) ((0 : Int), ((0 : Int), (0 : Int)))).2.2)])], 1⟩ [(!r_13) = false, (decide ((List.getD l_1 (Int.toNat t_7) ((0 : Int), ((0 : Int), (0 : Int)))).1 < (0 : Int))) = false, (decide ((List.getD l_1 (Int.toNat t_7) ((0 : Int), ((0 : Int), (0 : Int)))).1 ≥ (List.getD l_1 (Int.toNat t_7) ((0 : Int), ((0 : Int), (0 : Int)))).2.1)) = true] (by kernel_rfl) rfl rfl (ap2 b_15 (ap2 b_17 (ap1 b_19))) (by kernel_rfl) (by kernel_rfl) ?_
              have H_65 := Option.some.inj (show some true = some q_52 from H_63); subst H_65
              refine VL_nil ?_
              exact QP_end true rfl [(0, 0)] hn (by kernel_rfl) (by kernel_rfl) rfl rfl rfl
            · have H_64 := of_f H_61 b_19
              refine V_reg hN hn [(2, ⟨24, 0, [.c (.val (.int .i64 (List.getD l_1 (Int.toNat t_7) ((0 : Int), ((0 : Int), (0 : Int)))).2.2)), .c (.val (.int .i64 (1 : Int))), .c (.val (.int .i64 (100 : Int)))], [], .c (.val (.bool r_13)), [], [], 1⟩)] [(23, false), (28, false), (35, false)] (calls_cons (spans_within_spec K (List.getD l_1 (Int.toNat t_7) ((0 : Int), ((0 : Int), (0 : Int)))).2.2 (1 : Int) (100 : Int) r_13 h_14) (by kernel_rfl) calls_nil) 1 [0, 1, 5, 6, 12, 13, 14, 40] [0] ⟨[(0, .c (.imm (.slice (.pair (.int .i64) (.pair (.int .i64) (.int .i64)))) l_1)), (1, .c (.val (.int .i64 (mn2 n_2 (20000 : Int))))), (5, .c (.val (.int .i64 t_7))), (6, .c (.h 0)), (12, .c (.imm (.slice (.pair (.int .i64) (.pair (.int .i64) (.int .i64)))) l_1)), (13, .c (.val (.int .i64 (((List.length l_1) : Nat) : Int)))), (14, .c (.val (.int .i64 t_7))), (40, .c (.val (.bool (decide ((List.getD l_1 (Int.toNat t_7) ((0 : Int), ((0 : Int), (0 : Int)))).2.1 > (mn2 n_2 (20000 : Int)))))))], [(0, .box [.val (.int .i64 (List.getD l_1 (Int.toNat t_7) ((0 : Int), ((0 : Int), (0 : Int)))).1), .val (.int .i64 (List.getD l_1 (Int.toNat t_7) ((0 : Int), ((0 : Int), (0 : Int)))).2.1), .val (.int .i64 (List.getD l_1 (Int.toNat t_7) ((0 : Int), ((0 : Int), (0 : Int)))).2.2)])], 1⟩ [(!r_13) = false, (decide ((List.getD l_1 (Int.toNat t_7) ((0 : Int), ((0 : Int), (0 : Int)))).1 < (0 : Int))) = false, (decide ((List.getD l_1 (Int.toNat t_7) ((0 : Int), ((0 : Int), (0 : Int)))).1 ≥ (List.getD l_1 (Int.toNat t_7) ((0 : Int), ((0 : Int), (0 : Int)))).2.1)) = false] (by kernel_rfl) rfl rfl (ap2 b_15 (ap2 b_17 (ap1 b_19))) (by kernel_rfl) (by kernel_rfl) ?_
              have H_66 := Option.some.inj (show some (decide ((List.getD l_1 (Int.toNat t_7) ((0 : Int), ((0 : Int), (0 : Int)))).2.1 > (mn2 n_2 (20000 : Int)))) = some q_52 from H_64); subst H_66
              refine VL_nil ?_
              exact QP_end (decide ((List.getD l_1 (Int.toNat t_7) ((0 : Int), ((0 : Int), (0 : Int)))).2.1 > (mn2 n_2 (20000 : Int)))) rfl [(0, 0)] hn (by kernel_rfl) (by kernel_rfl) rfl rfl rfl
      · intro y_55 hy; subst hy
        skip
        skip
        refine VL_cond (y_55) (by kernel_rfl) ?_ ?_
        · intro b_23; have H_67 := of_t H_54 b_23
          refine V_run hN hn 2 1 [4] [] ⟨[(4, .c (.val (.bool false)))], [], 1⟩ [] (by kernel_rfl) rfl rfl ap0 ?_
          have H_69 := Option.some.inj (show some false = some r from H_67); subst H_69
          refine VL_ret ?_
          refine QB_ret ?_
          refine QL_ret ?_
          refine QB_ret ?_
          exact P_to [(4, .c (.val (.bool false)))] [] [] hn (by kernel_rfl) (by kernel_rfl) rfl rfl rfl (QF_retS (by kernel_rfl) (by kernel_rfl) rfl)
        · intro b_23; have H_68 := of_f H_54 b_23
          refine V_run hN hn 2 1 [0, 1, 5, 6, 12, 13, 14, 40] [0] ⟨[(0, .c (.imm (.slice (.pair (.int .i64) (.pair (.int .i64) (.int .i64)))) l_1)), (1, .c (.val (.int .i64 (mn2 n_2 (20000 : Int))))), (5, .c (.val (.int .i64 t_7))), (6, .c (.h 0)), (12, .c (.imm (.slice (.pair (.int .i64) (.pair (.int .i64) (.int .i64)))) l_1)), (13, .c (.val (.int .i64 (((List.length l_1) : Nat) : Int)))), (14, .c (.val (.int .i64 t_7))), (40, .c (.val (.bool y_55)))], [(0, .box [.val (.int .i64 (List.getD l_1 (Int.toNat t_7) ((0 : Int), ((0 : Int), (0 : Int)))).1), .val (.int .i64 (List.getD l_1 (Int.toNat t_7) ((0 : Int), ((0 : Int), (0 : Int)))).2.1), .val (.int .i64 (List.getD l_1 (Int.toNat t_7) ((0 : Int), ((0 : Int), (0 : Int)))).2.2)])], 1⟩ [] (by kernel_rfl) rfl rfl ap0 ?_
          obtain ⟨q_70, H_71, H_72⟩ := of_bind H_68
          refine V_cut (Y := Bool) (R := Bool) q_70 (fun y => y) (fun y => [(0, .c (.imm (.slice (.pair (.int .i64) (.pair (.int .i64) (.int .i64)))) l_1)), (1, .c (.val (.int .i64 (mn2 n_2 (20000 : Int))))), (12, .c (.imm (.slice (.pair (.int .i64) (.pair (.int .i64) (.int .i64)))) l_1)), (13, .c (.val (.int .i64 (((List.length l_1) : Nat) : Int)))), (14, .c (.val (.int .i64 t_7))), (75, .c (.val (.bool y)))]) (fun y => []) ?_ ?_
          · skip
            rcases Bool.eq_false_or_eq_true ((decide (t_7 > (0 : Int)))) with b_26 | b_26
            · have H_74 := of_t H_71 b_26
              rcases Bool.eq_false_or_eq_true ((decide ((List.getD l_1 (Int.toNat t_7) ((0 : Int), ((0 : Int), (0 : Int)))).1 < (List.getD l_1 (Int.toNat (IntKind.wrap .i64 (t_7 - (1 : Int)))) ((0 : Int), ((0 : Int), (0 : Int)))).2.1))) with b_27 | b_27
              · have H_76 := of_t H_74 b_27
                obtain ⟨c_28, H_78⟩ := of_if H_76
                refine V_draw hN hn (by kernel_rfl) [] [(43, true), (53, true)] calls_nil 1 [0, 1, 12, 13, 14, 75] [] ⟨[(0, .c (.imm (.slice (.pair (.int .i64) (.pair (.int .i64) (.int .i64)))) l_1)), (1, .c (.val (.int .i64 (mn2 n_2 (20000 : Int))))), (12, .c (.imm (.slice (.pair (.int .i64) (.pair (.int .i64) (.int .i64)))) l_1)), (13, .c (.val (.int .i64 (((List.length l_1) : Nat) : Int)))), (14, .c (.val (.int .i64 t_7))), (75, .c (.val (.bool true)))], [], 1⟩ [(decide (t_7 > (0 : Int))) = true, 0 ≤ (IntKind.wrap .i64 (t_7 - (1 : Int))), (IntKind.wrap .i64 (t_7 - (1 : Int))) < (((List.length l_1) : Nat) : Int), (decide ((List.getD l_1 (Int.toNat t_7) ((0 : Int), ((0 : Int), (0 : Int)))).1 < (List.getD l_1 (Int.toNat (IntKind.wrap .i64 (t_7 - (1 : Int)))) ((0 : Int), ((0 : Int), (0 : Int)))).2.1)) = true] (by kernel_rfl) rfl rfl (ap2 b_26 (ap2 c_28.1 (ap2 c_28.2 (ap1 b_27)))) (by kernel_rfl) (by kernel_rfl) ?_
                have H_79 := Option.some.inj (show some true = some q_70 from H_78); subst H_79
                refine VL_nil ?_
                exact QP_end true rfl [] hn (by kernel_rfl) (by kernel_rfl) rfl rfl rfl
              · have H_77 := of_f H_74 b_27
                rcases Bool.eq_false_or_eq_true (((List.getD l_1 (Int.toNat t_7) ((0 : Int), ((0 : Int), (0 : Int)))).1 == (List.getD l_1 (Int.toNat (IntKind.wrap .i64 (t_7 - (1 : Int)))) ((0 : Int), ((0 : Int), (0 : Int)))).2.1)) with b_29 | b_29
                · have H_80 := of_t H_77 b_29
                  obtain ⟨c_30, H_82⟩ := of_if H_80
                  refine V_draw hN hn (by kernel_rfl) [] [(43, true), (53, false), (63, true)] calls_nil 1 [0, 1, 12, 13, 14, 75] [] ⟨[(0, .c (.imm (.slice (.pair (.int .i64) (.pair (.int .i64) (.int .i64)))) l_1)), (1, .c (.val (.int .i64 (mn2 n_2 (20000 : Int))))), (12, .c (.imm (.slice (.pair (.int .i64) (.pair (.int .i64) (.int .i64)))) l_1)), (13, .c (.val (.int .i64 (((List.length l_1) : Nat) : Int)))), (14, .c (.val (.int .i64 t_7))), (75, .c (.val (.bool ((List.getD l_1 (Int.toNat t_7) ((0 : Int), ((0 : Int), (0 : Int)))).2.2 == (List.getD l_1 (Int.toNat (IntKind.wrap .i64 (t_7 - (1 : Int)))) ((0 : Int), ((0 : Int), (0 : Int)))).2.2))))], [], 1⟩ [(decide (t_7 > (0 : Int))) = true, 0 ≤ (IntKind.wrap .i64 (t_7 - (1 : Int))), (IntKind.wrap .i64 (t_7 - (1 : Int))) < (((List.length l_1) : Nat) : Int), (decide ((List.getD l_1 (Int.toNat t_7) ((0 : Int), ((0 : Int), (0 : Int)))).1 < (List.getD l_1 (Int.toNat (IntKind.wrap .i64 (t_7 - (1 : Int)))) ((0 : Int), ((0 : Int), (0 : Int)))).2.1)) = false, 0 ≤ (IntKind.wrap .i64 (t_7 - (1 : Int))), (IntKind.wrap .i64 (t_7 - (1 : Int))) < (((List.length l_1) : Nat) : Int), ((List.getD l_1 (Int.toNat t_7) ((0 : Int), ((0 : Int), (0 : Int)))).1 == (List.getD l_1 (Int.toNat (IntKind.wrap .i64 (t_7 - (1 : Int)))) ((0 : Int), ((0 : Int), (0 : Int)))).2.1) = true, 0 ≤ (IntKind.wrap .i64 (t_7 - (1 : Int))), (IntKind.wrap .i64 (t_7 - (1 : Int))) < (((List.length l_1) : Nat) : Int)] (by kernel_rfl) rfl rfl (ap2 b_26 (ap2 c_30.1 (ap2 c_30.2 (ap2 b_27 (ap2 c_30.1 (ap2 c_30.2 (ap2 b_29 (ap2 c_30.1 (ap1 c_30.2))))))))) (by kernel_rfl) (by kernel_rfl) ?_
                  have H_83 := Option.some.inj (show some ((List.getD l_1 (Int.toNat t_7) ((0 : Int), ((0 : Int), (0 : Int)))).2.2 == (List.getD l_1 (Int.toNat (IntKind.wrap .i64 (t_7 - (1 : Int)))) ((0 : Int), ((0 : Int), (0 : Int)))).2.2) = some q_70 from H_82); subst H_83
                  refine VL_nil ?_
                  exact QP_end ((List.getD l_1 (Int.toNat t_7) ((0 : Int), ((0 : Int), (0 : Int)))).2.2 == (List.getD l_1 (Int.toNat (IntKind.wrap .i64 (t_7 - (1 : Int)))) ((0 : Int), ((0 : Int), (0 : Int)))).2.2) rfl [] hn (by kernel_rfl) (by kernel_rfl) rfl rfl rfl
                · have H_81 := of_f H_77 b_29
                  obtain ⟨c_31, H_84⟩ := of_if H_81
                  refine V_draw hN hn (by kernel_rfl) [] [(43, true), (53, false), (63, false)] calls_nil 1 [0, 1, 12, 13, 14, 75] [] ⟨[(0, .c (.imm (.slice (.pair (.int .i64) (.pair (.int .i64) (.int .i64)))) l_1)), (1, .c (.val (.int .i64 (mn2 n_2 (20000 : Int))))), (12, .c (.imm (.slice (.pair (.int .i64) (.pair (.int .i64) (.int .i64)))) l_1)), (13, .c (.val (.int .i64 (((List.length l_1) : Nat) : Int)))), (14, .c (.val (.int .i64 t_7))), (75, .c (.val (.bool false)))], [], 1⟩ [(decide (t_7 > (0 : Int))) = true, 0 ≤ (IntKind.wrap .i64 (t_7 - (1 : Int))), (IntKind.wrap .i64 (t_7 - (1 : Int))) < (((List.length l_1) : Nat) : Int), (decide ((List.getD l_1 (Int.toNat t_7) ((0 : Int), ((0 : Int), (0 : Int)))).1 < (List.getD l_1 (Int.toNat (IntKind.wrap .i64 (t_7 - (1 : Int)))) ((0 : Int), ((0 : Int), (0 : Int)))).2.1)) = false, 0 ≤ (IntKind.wrap .i64 (t_7 - (1 : Int))), (IntKind.wrap .i64 (t_7 - (1 : Int))) < (((List.length l_1) : Nat) : Int), ((List.getD l_1 (Int.toNat t_7) ((0 : Int), ((0 : Int), (0 : Int)))).1 == (List.getD l_1 (Int.toNat (IntKind.wrap .i64 (t_7 - (1 : Int)))) ((0 : Int), ((0 : Int), (0 : Int)))).2.1) = false] (by kernel_rfl) rfl rfl (ap2 b_26 (ap2 c_31.1 (ap2 c_31.2 (ap2 b_27 (ap2 c_31.1 (ap2 c_31.2 (ap1 b_29))))))) (by kernel_rfl) (by kernel_rfl) ?_
                  have H_85 := Option.some.inj (show some false = some q_70 from H_84); subst H_85
                  refine VL_nil ?_
                  exact QP_end false rfl [] hn (by kernel_rfl) (by kernel_rfl) rfl rfl rfl
            · have H_75 := of_f H_71 b_26
              refine V_draw hN hn (by kernel_rfl) [] [(43, false)] calls_nil 1 [0, 1, 12, 13, 14, 75] [] ⟨[(0, .c (.imm (.slice (.pair (.int .i64) (.pair (.int .i64) (.int .i64)))) l_1)), (1, .c (.val (.int .i64 (mn2 n_2 (20000 : Int))))), (12, .c (.imm (.slice (.pair (.int .i64) (.pair (.int .i64) (.int .i64)))) l_1)), (13, .c (.val (.int .i64 (((List.length l_1) : Nat) : Int)))), (14, .c (.val (.int .i64 t_7))), (75, .c (.val (.bool false)))], [], 1⟩ [(decide (t_7 > (0 : Int))) = false] (by kernel_rfl) rfl rfl (ap1 b_26) (by kernel_rfl) (by kernel_rfl) ?_
              have H_86 := Option.some.inj (show some false = some q_70 from H_75); subst H_86
              refine VL_nil ?_
              exact QP_end false rfl [] hn (by kernel_rfl) (by kernel_rfl) rfl rfl rfl
          · intro y_73 hy; subst hy
            skip
            skip
            refine VL_cond (y_73) (by kernel_rfl) ?_ ?_
            · intro b_34; have H_87 := of_t H_72 b_34
              refine V_run hN hn 2 1 [4] [] ⟨[(4, .c (.val (.bool false)))], [], 1⟩ [] (by kernel_rfl) rfl rfl ap0 ?_
              have H_89 := Option.some.inj (show some false = some r from H_87); subst H_89
              refine VL_ret ?_
              refine QB_ret ?_
              refine QL_ret ?_
              refine QB_ret ?_
              exact P_to [(4, .c (.val (.bool false)))] [] [] hn (by kernel_rfl) (by kernel_rfl) rfl rfl rfl (QF_retS (by kernel_rfl) (by kernel_rfl) rfl)
            · intro b_34; have H_88 := of_f H_72 b_34
              refine V_run hN hn 1 1 [0, 1, 12, 13, 14, 75] [] ⟨[(0, .c (.imm (.slice (.pair (.int .i64) (.pair (.int .i64) (.int .i64)))) l_1)), (1, .c (.val (.int .i64 (mn2 n_2 (20000 : Int))))), (12, .c (.imm (.slice (.pair (.int .i64) (.pair (.int .i64) (.int .i64)))) l_1)), (13, .c (.val (.int .i64 (((List.length l_1) : Nat) : Int)))), (14, .c (.val (.int .i64 t_7))), (75, .c (.val (.bool y_73)))], [], 1⟩ [] (by kernel_rfl) rfl rfl ap0 ?_
              refine VL_nil (QB_end ?_)
              refine V_run hN hn 1 1 [0, 1, 12, 13, 14] [] ⟨[(0, .c (.imm (.slice (.pair (.int .i64) (.pair (.int .i64) (.int .i64)))) l_1)), (1, .c (.val (.int .i64 (mn2 n_2 (20000 : Int))))), (12, .c (.imm (.slice (.pair (.int .i64) (.pair (.int .i64) (.int .i64)))) l_1)), (13, .c (.val (.int .i64 (((List.length l_1) : Nat) : Int)))), (14, .c (.val (.int .i64 (IntKind.wrap .i64 (t_7 + (1 : Int))))))], [], 1⟩ [] (by kernel_rfl) rfl rfl ap0 ?_
              refine VL_nil ?_
              exact V_roundEnd (IntKind.wrap .i64 (t_7 + (1 : Int))) H_88 [] hn (by kernel_rfl) (by kernel_rfl) rfl rfl rfl
    · intro b_10; have H_50 := of_f H_48 b_10
      refine VL_exit ?_
      refine QL_exit ?_
      refine QB_here ?_
      refine V_run hN hn 2 0 [4] [] ⟨[(4, .c (.val (.bool true)))], [], 0⟩ [] (by kernel_rfl) rfl rfl ap0 ?_
      have H_90 := Option.some.inj (show some true = some r from H_50); subst H_90
      refine VL_ret ?_
      exact P_to [(4, .c (.val (.bool true)))] [] [] hn (by kernel_rfl) (by kernel_rfl) rfl rfl rfl (QF_retS (by kernel_rfl) (by kernel_rfl) rfl)

theorem spans_In_spec (K : Nat) (l_1 : (List (Int × (Int × Int)))) (i_2 : Int) (i_3 : Int) (r : (List (Int × (Int × Int)))) (H : spans_In_rsgg K l_1 i_2 i_3 = some r) : Spec Try.prog 14 0 [.c (.imm (.slice (.pair (.int .i64) (.pair (.int .i64) (.int .i64)))) l_1), .agg [.val (.int .i64 i_2), .val (.int .i64 i_3)]] [] (.c (.h 5)) [(5, .row (.pair (.int .i64) (.pair (.int .i64) (.int .i64))) r)] := by
  refine Spec_mk (fn := Try.f14) (c := (Try.f14.body).get!) Try.func14 (by kernel_rfl) rfl ?_
  intro C hN hn
  replace hN : C.N = 39 := hN
  unfold spans_In_rsgg at H
  refine V_run hN hn 7 0 [3, 5, 10, 11, 12] [0] ⟨[(3, .c (.h 0)), (5, .c (.val (.slice none 0 0))), (10, .c (.imm (.slice (.pair (.int .i64) (.pair (.int .i64) (.int .i64)))) l_1)), (11, .c (.val (.int .i64 (((List.length l_1) : Nat) : Int)))), (12, .c (.val (.int .i64 (0 : Int))))], [(0, .box [.val (.int .i64 i_2), .val (.int .i64 i_3)])], 1⟩ [] (by kernel_rfl) rfl rfl ap0 ?_
  refine VL_block ?_
  refine V_ghost [.nilSlot 5 (.pair (.int .i64) (.pair (.int .i64) (.int .i64)))] 1 hn [3, 5, 10, 11, 12] [0, 1] ⟨[(3, .c (.h 0)), (5, .c (.h 1)), (10, .c (.imm (.slice (.pair (.int .i64) (.pair (.int .i64) (.int .i64)))) l_1)), (11, .c (.val (.int .i64 (((List.length l_1) : Nat) : Int)))), (12, .c (.val (.int .i64 (0 : Int))))], [(0, .box [.val (.int .i64 i_2), .val (.int .i64 i_3)]), (1, .row (.pair (.int .i64) (.pair (.int .i64) (.int .i64))) ([] : List (Int × (Int × Int))))], 2⟩ (by kernel_rfl) rfl rfl ?_
  refine V_to [(3, .c (.h 0)), (5, .c (.h 5)), (10, .c (.imm (.slice (.pair (.int .i64) (.pair (.int .i64) (.int .i64)))) l_1)), (11, .c (.val (.int .i64 (((List.length l_1) : Nat) : Int)))), (12, .c (.val (.int .i64 (0 : Int))))] [(0, .box [.val (.int .i64 i_2), .val (.int .i64 i_3)]), (5, .row (.pair (.int .i64) (.pair (.int .i64) (.int .i64))) ([] : List (Int × (Int × Int))))] [(0, 0), (5, 1)] hn (by kernel_rfl) (by kernel_rfl) rfl rfl rfl ?_
  refine VL_loop (X := ((List (Int × (Int × Int))) × Int)) (fun x => [(3, .c (.h 0)), (5, .c (.h 5)), (10, .c (.imm (.slice (.pair (.int .i64) (.pair (.int .i64) (.int .i64)))) l_1)), (11, .c (.val (.int .i64 (((List.length l_1) : Nat) : Int)))), (12, .c (.val (.int .i64 x.2)))]) (fun x => [(0, .box [.val (.int .i64 i_2), .val (.int .i64 i_3)]), (5, .row (.pair (.int .i64) (.pair (.int .i64) (.int .i64))) x.1)]) (fun k x => spans_In_rsgg.l0 K l_1 i_2 i_3 k x.1 x.2 = some r) K (([] : List (Int × (Int × Int))), (0 : Int)) H (fun _ h => no_none h) ?_
  intro k_20 x_20 H_34
  obtain ⟨out_19, t_5⟩ := x_20
  have H_35 : spans_In_rsgg.l0 K l_1 i_2 i_3 (k_20 + 1) out_19 t_5 = some r := H_34
  rw [spans_In_rsgg.l0] at H_35
  refine V_run hN hn 3 6 [3, 5, 10, 11, 12, 13] [0, 5] ⟨[(3, .c (.h 0)), (5, .c (.h 5)), (10, .c (.imm (.slice (.pair (.int .i64) (.pair (.int .i64) (.int .i64)))) l_1)), (11, .c (.val (.int .i64 (((List.length l_1) : Nat) : Int)))), (12, .c (.val (.int .i64 t_5))), (13, .c (.val (.bool (decide (t_5 < (((List.length l_1) : Nat) : Int))))))], [(0, .box [.val (.int .i64 i_2), .val (.int .i64 i_3)]), (5, .row (.pair (.int .i64) (.pair (.int .i64) (.int .i64))) out_19)], 6⟩ [] (by kernel_rfl) rfl rfl ap0 ?_
  refine VL_cond ((decide (t_5 < (((List.length l_1) : Nat) : Int)))) (by kernel_rfl) ?_ ?_
  · intro b_22; have H_36 := of_t H_35 b_22
    refine V_run hN hn 2 6 [3, 5, 10, 11, 12, 13] [0, 5] ⟨[(3, .c (.h 0)), (5, .c (.h 5)), (10, .c (.imm (.slice (.pair (.int .i64) (.pair (.int .i64) (.int .i64)))) l_1)), (11, .c (.val (.int .i64 (((List.length l_1) : Nat) : Int)))), (12, .c (.val (.int .i64 t_5))), (13, .c (.val (.bool (decide (t_5 < (((List.length l_1) : Nat) : Int))))))], [(0, .box [.val (.int .i64 i_2), .val (.int .i64 i_3)]), (5, .row (.pair (.int .i64) (.pair (.int .i64) (.int .i64))) out_19)], 6⟩ [] (by kernel_rfl) rfl rfl ap0 ?_
    refine VL_block ?_
    obtain ⟨c_24, H_38⟩ := of_if H_36
    refine V_run hN hn 3 6 [3, 5, 7, 10, 11, 12] [0, 5, 6] ⟨[(3, .c (.h 0)), (5, .c (.h 5)), (7, .c (.h 6)), (10, .c (.imm (.slice (.pair (.int .i64) (.pair (.int .i64) (.int .i64)))) l_1)), (11, .c (.val (.int .i64 (((List.length l_1) : Nat) : Int)))), (12, .c (.val (.int .i64 t_5)))], [(0, .box [.val (.int .i64 i_2), .val (.int .i64 i_3)]), (5, .row (.pair (.int .i64) (.pair (.int .i64) (.int .i64))) out_19), (6, .box [.val (.int .i64 (List.getD l_1 (Int.toNat t_5) ((0 : Int), ((0 : Int), (0 : Int)))).1), .val (.int .i64 (List.getD l_1 (Int.toNat t_5) ((0 : Int), ((0 : Int), (0 : Int)))).2.1), .val (.int .i64 (List.getD l_1 (Int.toNat t_5) ((0 : Int), ((0 : Int), (0 : Int)))).2.2)])], 7⟩ [0 ≤ t_5, t_5 < (((List.length l_1) : Nat) : Int)] (by kernel_rfl) rfl rfl (ap2 c_24.1 (ap1 c_24.2)) ?_
    refine V_draw hN hn (by kernel_rfl) [] [] calls_nil 7 [3, 5, 7, 8, 9, 10, 11, 12] [0, 5, 6] ⟨[(3, .c (.h 0)), (5, .c (.h 5)), (7, .c (.h 6)), (8, .c (.val (.int .i64 (mx2 (List.getD l_1 (Int.toNat t_5) ((0 : Int), ((0 : Int), (0 : Int)))).1 i_2)))), (9, .c (.val (.int .i64 (mn2 (List.getD l_1 (Int.toNat t_5) ((0 : Int), ((0 : Int), (0 : Int)))).2.1 i_3)))), (10, .c (.imm (.slice (.pair (.int .i64) (.pair (.int .i64) (.int .i64)))) l_1)), (11, .c (.val (.int .i64 (((List.length l_1) : Nat) : Int)))), (12, .c (.val (.int .i64 t_5)))], [(0, .box [.val (.int .i64 i_2), .val (.int .i64 i_3)]), (5, .row (.pair (.int .i64) (.pair (.int .i64) (.int .i64))) out_19), (6, .box [.val (.int .i64 (List.getD l_1 (Int.toNat t_5) ((0 : Int), ((0 : Int), (0 : Int)))).1), .val (.int .i64 (List.getD l_1 (Int.toNat t_5) ((0 : Int), ((0 : Int), (0 : Int)))).2.1), .val (.int .i64 (List.getD l_1 (Int.toNat t_5) ((0 : Int), ((0 : Int), (0 : Int)))).2.2)])], 7⟩ [] (by kernel_rfl) rfl rfl ap0 (by kernel_rfl) (by kernel_rfl) ?_
    refine V_run hN hn 2 7 [3, 5, 7, 8, 9, 10, 11, 12, 28] [0, 5, 6] ⟨[(3, .c (.h 0)), (5, .c (.h 5)), (7, .c (.h 6)), (8, .c (.val (.int .i64 (mx2 (List.getD l_1 (Int.toNat t_5) ((0 : Int), ((0 : Int), (0 : Int)))).1 i_2)))), (9, .c (.val (.int .i64 (mn2 (List.getD l_1 (Int.toNat t_5) ((0 : Int), ((0 : Int), (0 : Int)))).2.1 i_3)))), (10, .c (.imm (.slice (.pair (.int .i64) (.pair (.int .i64) (.int .i64)))) l_1)), (11, .c (.val (.int .i64 (((List.length l_1) : Nat) : Int)))), (12, .c (.val (.int .i64 t_5))), (28, .c (.val (.bool (decide ((mx2 (List.getD l_1 (Int.toNat t_5) ((0 : Int), ((0 : Int), (0 : Int)))).1 i_2) < (mn2 (List.getD l_1 (Int.toNat t_5) ((0 : Int), ((0 : Int), (0 : Int)))).2.1 i_3))))))], [(0, .box [.val (.int .i64 i_2), .val (.int .i64 i_3)]), (5, .row (.pair (.int .i64) (.pair (.int .i64) (.int .i64))) out_19), (6, .box [.val (.int .i64 (List.getD l_1 (Int.toNat t_5) ((0 : Int), ((0 : Int), (0 : Int)))).1), .val (.int .i64 (List.getD l_1 (Int.toNat t_5) ((0 : Int), ((0 : Int), (0 : Int)))).2.1), .val (.int .i64 (List.getD l_1 (Int.toNat t_5) ((0 : Int), ((0 : Int), (0 : Int)))).2.2)])], 7⟩ [] (by kernel_rfl) rfl rfl ap0 ?_
    refine VL_cond ((decide ((mx2 (List.getD l_1 (Int.toNat t_5) ((0 : Int), ((0 : Int), (0 : Int)))).1 i_2) < (mn2 (List.getD l_1 (Int.toNat t_5) ((0 : Int), ((0 : Int), (0 : Int)))).2.1 i_3)))) (by kernel_rfl) ?_ ?_
    · intro b_27; have H_39 := of_t H_38 b_27
      obtain ⟨c_28, H_41⟩ := of_if H_39
      refine V_run hN hn 1 7 [3, 5, 10, 11, 12] [0, 8] ⟨[(3, .c (.h 0)), (5, .c (.h 8)), (10, .c (.imm (.slice (.pair (.int .i64) (.pair (.int .i64) (.int .i64)))) l_1)), (11, .c (.val (.int .i64 (((List.length l_1) : Nat) : Int)))), (12, .c (.val (.int .i64 t_5)))], [(0, .box [.val (.int .i64 i_2), .val (.int .i64 i_3)]), (8, .row (.pair (.int .i64) (.pair (.int .i64) (.int .i64))) (out_19 ++ ([((mx2 (List.getD l_1 (Int.toNat t_5) ((0 : Int), ((0 : Int), (0 : Int)))).1 i_2), ((mn2 (List.getD l_1 (Int.toNat t_5) ((0 : Int), ((0 : Int), (0 : Int)))).2.1 i_3), (List.getD l_1 (Int.toNat t_5) ((0 : Int), ((0 : Int), (0 : Int)))).2.2))] : List (Int × (Int × Int)))))], 9⟩ [(List.length out_19 + List.length ([((mx2 (List.getD l_1 (Int.toNat t_5) ((0 : Int), ((0 : Int), (0 : Int)))).1 i_2), ((mn2 (List.getD l_1 (Int.toNat t_5) ((0 : Int), ((0 : Int), (0 : Int)))).2.1 i_3), (List.getD l_1 (Int.toNat t_5) ((0 : Int), ((0 : Int), (0 : Int)))).2.2))] : List (Int × (Int × Int)))) * 24 ≤ 140737488355328] (by kernel_rfl) rfl rfl (ap1 c_28) ?_
      refine VL_nil (QB_end ?_)
      refine V_run hN hn 1 9 [3, 5, 10, 11, 12] [0, 8] ⟨[(3, .c (.h 0)), (5, .c (.h 8)), (10, .c (.imm (.slice (.pair (.int .i64) (.pair (.int .i64) (.int .i64)))) l_1)), (11, .c (.val (.int .i64 (((List.length l_1) : Nat) : Int)))), (12, .c (.val (.int .i64 (IntKind.wrap .i64 (t_5 + (1 : Int))))))], [(0, .box [.val (.int .i64 i_2), .val (.int .i64 i_3)]), (8, .row (.pair (.int .i64) (.pair (.int .i64) (.int .i64))) (out_19 ++ ([((mx2 (List.getD l_1 (Int.toNat t_5) ((0 : Int), ((0 : Int), (0 : Int)))).1 i_2), ((mn2 (List.getD l_1 (Int.toNat t_5) ((0 : Int), ((0 : Int), (0 : Int)))).2.1 i_3), (List.getD l_1 (Int.toNat t_5) ((0 : Int), ((0 : Int), (0 : Int)))).2.2))] : List (Int × (Int × Int)))))], 9⟩ [] (by kernel_rfl) rfl rfl ap0 ?_
      refine VL_nil ?_
      exact V_roundEnd ((out_19 ++ ([((mx2 (List.getD l_1 (Int.toNat t_5) ((0 : Int), ((0 : Int), (0 : Int)))).1 i_2), ((mn2 (List.getD l_1 (Int.toNat t_5) ((0 : Int), ((0 : Int), (0 : Int)))).2.1 i_3), (List.getD l_1 (Int.toNat t_5) ((0 : Int), ((0 : Int), (0 : Int)))).2.2))] : List (Int × (Int × Int)))), (IntKind.wrap .i64 (t_5 + (1 : Int)))) H_41 [(0, 0), (5, 8)] hn (by kernel_rfl) (by kernel_rfl) rfl rfl rfl
    · intro b_27; have H_40 := of_f H_38 b_27
      refine V_run hN hn 1 7 [3, 5, 7, 8, 9, 10, 11, 12, 28] [0, 5, 6] ⟨[(3, .c (.h 0)), (5, .c (.h 5)), (7, .c (.h 6)), (8, .c (.val (.int .i64 (mx2 (List.getD l_1 (Int.toNat t_5) ((0 : Int), ((0 : Int), (0 : Int)))).1 i_2)))), (9, .c (.val (.int .i64 (mn2 (List.getD l_1 (Int.toNat t_5) ((0 : Int), ((0 : Int), (0 : Int)))).2.1 i_3)))), (10, .c (.imm (.slice (.pair (.int .i64) (.pair (.int .i64) (.int .i64)))) l_1)), (11, .c (.val (.int .i64 (((List.length l_1) : Nat) : Int)))), (12, .c (.val (.int .i64 t_5))), (28, .c (.val (.bool (decide ((mx2 (List.getD l_1 (Int.toNat t_5) ((0 : Int), ((0 : Int), (0 : Int)))).1 i_2) < (mn2 (List.getD l_1 (Int.toNat t_5) ((0 : Int), ((0 : Int), (0 : Int)))).2.1 i_3))))))], [(0, .box [.val (.int .i64 i_2), .val (.int .i64 i_3)]), (5, .row (.pair (.int .i64) (.pair (.int .i64) (.int .i64))) out_19), (6, .box [.val (.int .i64 (List.getD l_1 (Int.toNat t_5) ((0 : Int), ((0 : Int), (0 : Int)))).1), .val (.int .i64 (List.getD l_1 (Int.toNat t_5) ((0 : Int), ((0 : Int), (0 : Int)))).2.1), .val (.int .i64 (List.getD l_1 (Int.toNat t_5) ((0 : Int), ((0 : Int), (0 : Int)))).2.2)])], 7⟩ [] (by kernel_rfl) rfl rfl ap0 ?_
      refine VL_nil (QB_end ?_)
      refine V_run hN hn 1 7 [3, 5, 10, 11, 12] [0, 5] ⟨[(3, .c (.h 0)), (5, .c (.h 5)), (10, .c (.imm (.slice (.pair (.int .i64) (.pair (.int .i64) (.int .i64)))) l_1)), (11, .c (.val (.int .i64 (((List.length l_1) : Nat) : Int)))), (12, .c (.val (.int .i64 (IntKind.wrap .i64 (t_5 + (1 : Int))))))], [(0, .box [.val (.int .i64 i_2), .val (.int .i64 i_3)]), (5, .row (.pair (.int .i64) (.pair (.int .i64) (.int .i64))) out_19)], 7⟩ [] (by kernel_rfl) rfl rfl ap0 ?_
      refine VL_nil ?_
      exact V_roundEnd (out_19, (IntKind.wrap .i64 (t_5 + (1 : Int)))) H_40 [(0, 0), (5, 5)] hn (by kernel_rfl) (by kernel_rfl) rfl rfl rfl
  · intro b_22; have H_37 := of_f H_35 b_22
    refine VL_exit ?_
    refine QL_exit ?_
    refine QB_here ?_
    refine V_run hN hn 2 6 [4] [5] ⟨[(4, .c (.h 5))], [(5, .row (.pair (.int .i64) (.pair (.int .i64) (.int .i64))) out_19)], 6⟩ [] (by kernel_rfl) rfl rfl ap0 ?_
    have H_42 := Option.some.inj (show some out_19 = some r from H_37); subst H_42
    refine VL_ret ?_
    exact P_to [(4, .c (.h 5))] [(5, .row (.pair (.int .i64) (.pair (.int .i64) (.int .i64))) out_19)] [(5, 5)] hn (by kernel_rfl) (by kernel_rfl) rfl rfl rfl (QF_retS (by kernel_rfl) (by kernel_rfl) rfl)

theorem spans_At_spec (K : Nat) (l_1 : (List (Int × (Int × Int)))) (at_2 : Int) (r : Int) (H : spans_At_rg K l_1 at_2 = some r) : Spec Try.prog 11 0 [.c (.imm (.slice (.pair (.int .i64) (.pair (.int .i64) (.int .i64)))) l_1), .c (.val (.int .i64 at_2))] [] (.c (.val (.int .i64 r))) [] := by
  refine Spec_mk (fn := Try.f11) (c := (Try.f11.body).get!) Try.func11 (by kernel_rfl) rfl ?_
  intro C hN hn
  replace hN : C.N = 26 := hN
  unfold spans_At_rg at H
  refine V_run hN hn 5 0 [1, 7, 8, 9] [] ⟨[(1, .c (.val (.int .i64 at_2))), (7, .c (.imm (.slice (.pair (.int .i64) (.pair (.int .i64) (.int .i64)))) l_1)), (8, .c (.val (.int .i64 (((List.length l_1) : Nat) : Int)))), (9, .c (.val (.int .i64 (0 : Int))))], [], 0⟩ [] (by kernel_rfl) rfl rfl ap0 ?_
  refine VL_block ?_
  refine V_to [(1, .c (.val (.int .i64 at_2))), (7, .c (.imm (.slice (.pair (.int .i64) (.pair (.int .i64) (.int .i64)))) l_1)), (8, .c (.val (.int .i64 (((List.length l_1) : Nat) : Int)))), (9, .c (.val (.int .i64 (0 : Int))))] [] [] hn (by kernel_rfl) (by kernel_rfl) rfl rfl rfl ?_
  refine VL_loop (X := Int) (fun x => [(1, .c (.val (.int .i64 at_2))), (7, .c (.imm (.slice (.pair (.int .i64) (.pair (.int .i64) (.int .i64)))) l_1)), (8, .c (.val (.int .i64 (((List.length l_1) : Nat) : Int)))), (9, .c (.val (.int .i64 x)))]) (fun x => []) (fun k x => spans_At_rg.l0 K l_1 at_2 k x = some r) K (0 : Int) H (fun _ h => no_none h) ?_
  intro k_5 t_4 H_22
  have H_23 : spans_At_rg.l0 K l_1 at_2 (k_5 + 1) t_4 = some r := H_22
  rw [spans_At_rg.l0] at H_23
  refine V_run hN hn 3 0 [1, 7, 8, 9, 10] [] ⟨[(1, .c (.val (.int .i64 at_2))), (7, .c (.imm (.slice (.pair (.int .i64) (.pair (.int .i64) (.int .i64)))) l_1)), (8, .c (.val (.int .i64 (((List.length l_1) : Nat) : Int)))), (9, .c (.val (.int .i64 t_4))), (10, .c (.val (.bool (decide (t_4 < (((List.length l_1) : Nat) : Int))))))], [], 0⟩ [] (by kernel_rfl) rfl rfl ap0 ?_
  refine VL_cond ((decide (t_4 < (((List.length l_1) : Nat) : Int)))) (by kernel_rfl) ?_ ?_
  · intro b_7; have H_24 := of_t H_23 b_7
    refine V_run hN hn 2 0 [1, 7, 8, 9, 10] [] ⟨[(1, .c (.val (.int .i64 at_2))), (7, .c (.imm (.slice (.pair (.int .i64) (.pair (.int .i64) (.int .i64)))) l_1)), (8, .c (.val (.int .i64 (((List.length l_1) : Nat) : Int)))), (9, .c (.val (.int .i64 t_4))), (10, .c (.val (.bool (decide (t_4 < (((List.length l_1) : Nat) : Int))))))], [], 0⟩ [] (by kernel_rfl) rfl rfl ap0 ?_
    refine VL_block ?_
    obtain ⟨c_9, H_26⟩ := of_if H_24
    refine V_run hN hn 3 0 [1, 6, 7, 8, 9] [0] ⟨[(1, .c (.val (.int .i64 at_2))), (6, .c (.h 0)), (7, .c (.imm (.slice (.pair (.int .i64) (.pair (.int .i64) (.int .i64)))) l_1)), (8, .c (.val (.int .i64 (((List.length l_1) : Nat) : Int)))), (9, .c (.val (.int .i64 t_4)))], [(0, .box [.val (.int .i64 (List.getD l_1 (Int.toNat t_4) ((0 : Int), ((0 : Int), (0 : Int)))).1), .val (.int .i64 (List.getD l_1 (Int.toNat t_4) ((0 : Int), ((0 : Int), (0 : Int)))).2.1), .val (.int .i64 (List.getD l_1 (Int.toNat t_4) ((0 : Int), ((0 : Int), (0 : Int)))).2.2)])], 1⟩ [0 ≤ t_4, t_4 < (((List.length l_1) : Nat) : Int)] (by kernel_rfl) rfl rfl (ap2 c_9.1 (ap1 c_9.2)) ?_
    obtain ⟨q_27, H_28, H_29⟩ := of_bind H_26
    refine V_cut (Y := Bool) (R := Bool) q_27 (fun y => y) (fun y => [(1, .c (.val (.int .i64 at_2))), (6, .c (.h 0)), (7, .c (.imm (.slice (.pair (.int .i64) (.pair (.int .i64) (.int .i64)))) l_1)), (8, .c (.val (.int .i64 (((List.length l_1) : Nat) : Int)))), (9, .c (.val (.int .i64 t_4))), (22, .c (.val (.bool y)))]) (fun y => [(0, .box [.val (.int .i64 (List.getD l_1 (Int.toNat t_4) ((0 : Int), ((0 : Int), (0 : Int)))).1), .val (.int .i64 (List.getD l_1 (Int.toNat t_4) ((0 : Int), ((0 : Int), (0 : Int)))).2.1), .val (.int .i64 (List.getD l_1 (Int.toNat t_4) ((0 : Int), ((0 : Int), (0 : Int)))).2.2)])]) ?_ ?_
    · skip
      rcases Bool.eq_false_or_eq_true ((decide (at_2 ≥ (List.getD l_1 (Int.toNat t_4) ((0 : Int), ((0 : Int), (0 : Int)))).1))) with b_10 | b_10
      · have H_31 := of_t H_28 b_10
        refine V_reg hN hn [] [(17, true)] calls_nil 1 [1, 6, 7, 8, 9, 22] [0] ⟨[(1, .c (.val (.int .i64 at_2))), (6, .c (.h 0)), (7, .c (.imm (.slice (.pair (.int .i64) (.pair (.int .i64) (.int .i64)))) l_1)), (8, .c (.val (.int .i64 (((List.length l_1) : Nat) : Int)))), (9, .c (.val (.int .i64 t_4))), (22, .c (.val (.bool (decide (at_2 < (List.getD l_1 (Int.toNat t_4) ((0 : Int), ((0 : Int), (0 : Int)))).2.1)))))], [(0, .box [.val (.int .i64 (List.getD l_1 (Int.toNat t_4) ((0 : Int), ((0 : Int), (0 : Int)))).1), .val (.int .i64 (List.getD l_1 (Int.toNat t_4) ((0 : Int), ((0 : Int), (0 : Int)))).2.1), .val (.int .i64 (List.getD l_1 (Int.toNat t_4) ((0 : Int), ((0 : Int), (0 : Int)))).2.2)])], 1⟩ [(decide (at_2 ≥ (List.getD l_1 (Int.toNat t_4) ((0 : Int), ((0 : Int), (0 : Int)))).1)) = true] (by kernel_rfl) rfl rfl (ap1 b_10) (by kernel_rfl) (by kernel_rfl) ?_
        have H_33 := Option.some.inj (show some (decide (at_2 < (List.getD l_1 (Int.toNat t_4) ((0 : Int), ((0 : Int), (0 : Int)))).2.1)) = some q_27 from H_31); subst H_33
        refine VL_nil ?_
        exact QP_end (decide (at_2 < (List.getD l_1 (Int.toNat t_4) ((0 : Int), ((0 : Int), (0 : Int)))).2.1)) rfl [(0, 0)] hn (by kernel_rfl) (by kernel_rfl) rfl rfl rfl
      · have H_32 := of_f H_28 b_10
        refine V_reg hN hn [] [(17, false)] calls_nil 1 [1, 6, 7, 8, 9, 22] [0] ⟨[(1, .c (.val (.int .i64 at_2))), (6, .c (.h 0)), (7, .c (.imm (.slice (.pair (.int .i64) (.pair (.int .i64) (.int .i64)))) l_1)), (8, .c (.val (.int .i64 (((List.length l_1) : Nat) : Int)))), (9, .c (.val (.int .i64 t_4))), (22, .c (.val (.bool false)))], [(0, .box [.val (.int .i64 (List.getD l_1 (Int.toNat t_4) ((0 : Int), ((0 : Int), (0 : Int)))).1), .val (.int .i64 (List.getD l_1 (Int.toNat t_4) ((0 : Int), ((0 : Int), (0 : Int)))).2.1), .val (.int .i64 (List.getD l_1 (Int.toNat t_4) ((0 : Int), ((0 : Int), (0 : Int)))).2.2)])], 1⟩ [(decide (at_2 ≥ (List.getD l_1 (Int.toNat t_4) ((0 : Int), ((0 : Int), (0 : Int)))).1)) = false] (by kernel_rfl) rfl rfl (ap1 b_10) (by kernel_rfl) (by kernel_rfl) ?_
        have H_34 := Option.some.inj (show some false = some q_27 from H_32); subst H_34
        refine VL_nil ?_
        exact QP_end false rfl [(0, 0)] hn (by kernel_rfl) (by kernel_rfl) rfl rfl rfl
    · intro y_30 hy; subst hy
      skip
      skip
      refine VL_cond (y_30) (by kernel_rfl) ?_ ?_
      · intro b_14; have H_35 := of_t H_29 b_14
        refine V_run hN hn 2 1 [4] [] ⟨[(4, .c (.val (.int .i64 (List.getD l_1 (Int.toNat t_4) ((0 : Int), ((0 : Int), (0 : Int)))).2.2)))], [], 1⟩ [] (by kernel_rfl) rfl rfl ap0 ?_
        have H_37 := Option.some.inj (show some (List.getD l_1 (Int.toNat t_4) ((0 : Int), ((0 : Int), (0 : Int)))).2.2 = some r from H_35); subst H_37
        refine VL_ret ?_
        refine QB_ret ?_
        refine QL_ret ?_
        refine QB_ret ?_
        exact P_to [(4, .c (.val (.int .i64 (List.getD l_1 (Int.toNat t_4) ((0 : Int), ((0 : Int), (0 : Int)))).2.2)))] [] [] hn (by kernel_rfl) (by kernel_rfl) rfl rfl rfl (QF_retS (by kernel_rfl) (by kernel_rfl) rfl)
      · intro b_14; have H_36 := of_f H_29 b_14
        refine V_run hN hn 1 1 [1, 6, 7, 8, 9, 22] [0] ⟨[(1, .c (.val (.int .i64 at_2))), (6, .c (.h 0)), (7, .c (.imm (.slice (.pair (.int .i64) (.pair (.int .i64) (.int .i64)))) l_1)), (8, .c (.val (.int .i64 (((List.length l_1) : Nat) : Int)))), (9, .c (.val (.int .i64 t_4))), (22, .c (.val (.bool y_30)))], [(0, .box [.val (.int .i64 (List.getD l_1 (Int.toNat t_4) ((0 : Int), ((0 : Int), (0 : Int)))).1), .val (.int .i64 (List.getD l_1 (Int.toNat t_4) ((0 : Int), ((0 : Int), (0 : Int)))).2.1), .val (.int .i64 (List.getD l_1 (Int.toNat t_4) ((0 : Int), ((0 : Int), (0 : Int)))).2.2)])], 1⟩ [] (by kernel_rfl) rfl rfl ap0 ?_
        refine VL_nil (QB_end ?_)
        refine V_run hN hn 1 1 [1, 7, 8, 9] [] ⟨[(1, .c (.val (.int .i64 at_2))), (7, .c (.imm (.slice (.pair (.int .i64) (.pair (.int .i64) (.int .i64)))) l_1)), (8, .c (.val (.int .i64 (((List.length l_1) : Nat) : Int)))), (9, .c (.val (.int .i64 (IntKind.wrap .i64 (t_4 + (1 : Int))))))], [], 1⟩ [] (by kernel_rfl) rfl rfl ap0 ?_
        refine VL_nil ?_
        exact V_roundEnd (IntKind.wrap .i64 (t_4 + (1 : Int))) H_36 [] hn (by kernel_rfl) (by kernel_rfl) rfl rfl rfl
  · intro b_7; have H_25 := of_f H_23 b_7
    refine VL_exit ?_
    refine QL_exit ?_
    refine QB_here ?_
    refine V_run hN hn 2 0 [4] [] ⟨[(4, .c (.val (.int .i64 (0 : Int))))], [], 0⟩ [] (by kernel_rfl) rfl rfl ap0 ?_
    have H_38 := Option.some.inj (show some (0 : Int) = some r from H_25); subst H_38
    refine VL_ret ?_
    exact P_to [(4, .c (.val (.int .i64 (0 : Int))))] [] [] hn (by kernel_rfl) (by kernel_rfl) rfl rfl rfl (QF_retS (by kernel_rfl) (by kernel_rfl) rfl)

theorem palinodelaw15_same_rg_spec (K : Nat) (a_1 : (List (Int × (Int × Int)))) (b_2 : (List (Int × (Int × Int)))) (r : Bool) (H : palinodelaw15_same_rr K a_1 b_2 = some r) : Spec Try.prog 12 1 [.c (.h 0), .c (.imm (.slice (.pair (.int .i64) (.pair (.int .i64) (.int .i64)))) b_2)] [(0, .row (.pair (.int .i64) (.pair (.int .i64) (.int .i64))) a_1)] (.c (.val (.bool r))) [(0, .row (.pair (.int .i64) (.pair (.int .i64) (.int .i64))) a_1)] := by
  refine Spec_mk (fn := Try.f12) (c := (Try.f12.body).get!) Try.func12 (by kernel_rfl) rfl ?_
  intro C hN hn
  replace hN : C.N = 26 := hN
  unfold palinodelaw15_same_rr at H
  refine V_run hN hn 5 1 [0, 1, 10] [0] ⟨[(0, .c (.h 0)), (1, .c (.imm (.slice (.pair (.int .i64) (.pair (.int .i64) (.int .i64)))) b_2)), (10, .c (.val (.bool ((((List.length a_1) : Nat) : Int) != (((List.length b_2) : Nat) : Int)))))], [(0, .row (.pair (.int .i64) (.pair (.int .i64) (.int .i64))) a_1)], 1⟩ [] (by kernel_rfl) rfl rfl ap0 ?_
  refine VL_cond (((((List.length a_1) : Nat) : Int) != (((List.length b_2) : Nat) : Int))) (by kernel_rfl) ?_ ?_
  · intro b_4; have H_20 := of_t H b_4
    refine V_run hN hn 2 1 [4] [0] ⟨[(4, .c (.val (.bool false)))], [(0, .row (.pair (.int .i64) (.pair (.int .i64) (.int .i64))) a_1)], 1⟩ [] (by kernel_rfl) rfl rfl ap0 ?_
    have H_22 := Option.some.inj (show some false = some r from H_20); subst H_22
    refine VL_ret ?_
    exact P_to [(4, .c (.val (.bool false)))] [(0, .row (.pair (.int .i64) (.pair (.int .i64) (.int .i64))) a_1)] [] hn (by kernel_rfl) (by kernel_rfl) rfl rfl rfl (QF_retS (by kernel_rfl) (by kernel_rfl) rfl)
  · intro b_4; have H_21 := of_f H b_4
    refine V_run hN hn 4 1 [0, 1, 5] [0] ⟨[(0, .c (.h 0)), (1, .c (.imm (.slice (.pair (.int .i64) (.pair (.int .i64) (.int .i64)))) b_2)), (5, .c (.val (.int .i64 (0 : Int))))], [(0, .row (.pair (.int .i64) (.pair (.int .i64) (.int .i64))) a_1)], 1⟩ [] (by kernel_rfl) rfl rfl ap0 ?_
    refine VL_block ?_
    refine V_to [(0, .c (.h 0)), (1, .c (.imm (.slice (.pair (.int .i64) (.pair (.int .i64) (.int .i64)))) b_2)), (5, .c (.val (.int .i64 (0 : Int))))] [(0, .row (.pair (.int .i64) (.pair (.int .i64) (.int .i64))) a_1)] [] hn (by kernel_rfl) (by kernel_rfl) rfl rfl rfl ?_
    refine VL_loop (X := Int) (fun x => [(0, .c (.h 0)), (1, .c (.imm (.slice (.pair (.int .i64) (.pair (.int .i64) (.int .i64)))) b_2)), (5, .c (.val (.int .i64 x)))]) (fun x => [(0, .row (.pair (.int .i64) (.pair (.int .i64) (.int .i64))) a_1)]) (fun k x => palinodelaw15_same_rr.l0 K a_1 b_2 k x = some r) K (0 : Int) H_21 (fun _ h => no_none h) ?_
    intro k_8 i_7 H_23
    have H_24 : palinodelaw15_same_rr.l0 K a_1 b_2 (k_8 + 1) i_7 = some r := H_23
    rw [palinodelaw15_same_rr.l0] at H_24
    refine V_run hN hn 3 1 [0, 1, 5, 14] [0] ⟨[(0, .c (.h 0)), (1, .c (.imm (.slice (.pair (.int .i64) (.pair (.int .i64) (.int .i64)))) b_2)), (5, .c (.val (.int .i64 i_7))), (14, .c (.val (.bool (decide (i_7 < (((List.length a_1) : Nat) : Int))))))], [(0, .row (.pair (.int .i64) (.pair (.int .i64) (.int .i64))) a_1)], 1⟩ [] (by kernel_rfl) rfl rfl ap0 ?_
    refine VL_cond ((decide (i_7 < (((List.length a_1) : Nat) : Int)))) (by kernel_rfl) ?_ ?_
    · intro b_10; have H_25 := of_t H_24 b_10
      refine V_run hN hn 2 1 [0, 1, 5, 14] [0] ⟨[(0, .c (.h 0)), (1, .c (.imm (.slice (.pair (.int .i64) (.pair (.int .i64) (.int .i64)))) b_2)), (5, .c (.val (.int .i64 i_7))), (14, .c (.val (.bool (decide (i_7 < (((List.length a_1) : Nat) : Int))))))], [(0, .row (.pair (.int .i64) (.pair (.int .i64) (.int .i64))) a_1)], 1⟩ [] (by kernel_rfl) rfl rfl ap0 ?_
      refine VL_block ?_
      refine V_run hN hn 1 1 [0, 1, 5, 14] [0] ⟨[(0, .c (.h 0)), (1, .c (.imm (.slice (.pair (.int .i64) (.pair (.int .i64) (.int .i64)))) b_2)), (5, .c (.val (.int .i64 i_7))), (14, .c (.val (.bool (decide (i_7 < (((List.length a_1) : Nat) : Int))))))], [(0, .row (.pair (.int .i64) (.pair (.int .i64) (.int .i64))) a_1)], 1⟩ [] (by kernel_rfl) rfl rfl ap0 ?_
      obtain ⟨c_13, H_27⟩ := of_if H_25
      refine V_draw hN hn (by kernel_rfl) [] [] calls_nil 1 [0, 1, 5, 25] [0] ⟨[(0, .c (.h 0)), (1, .c (.imm (.slice (.pair (.int .i64) (.pair (.int .i64) (.int .i64)))) b_2)), (5, .c (.val (.int .i64 i_7))), (25, .c (.val (.bool (!(((List.getD a_1 (Int.toNat i_7) ((0 : Int), ((0 : Int), (0 : Int)))).1 == (List.getD b_2 (Int.toNat i_7) ((0 : Int), ((0 : Int), (0 : Int)))).1) && (((List.getD a_1 (Int.toNat i_7) ((0 : Int), ((0 : Int), (0 : Int)))).2.1 == (List.getD b_2 (Int.toNat i_7) ((0 : Int), ((0 : Int), (0 : Int)))).2.1) && ((List.getD a_1 (Int.toNat i_7) ((0 : Int), ((0 : Int), (0 : Int)))).2.2 == (List.getD b_2 (Int.toNat i_7) ((0 : Int), ((0 : Int), (0 : Int)))).2.2)))))))], [(0, .row (.pair (.int .i64) (.pair (.int .i64) (.int .i64))) a_1)], 1⟩ [0 ≤ i_7, i_7 < (((List.length a_1) : Nat) : Int), 0 ≤ i_7, i_7 < (((List.length b_2) : Nat) : Int)] (by kernel_rfl) rfl rfl (ap2 c_13.1 (ap2 c_13.2.1 (ap2 c_13.1 (ap1 c_13.2.2)))) (by kernel_rfl) (by kernel_rfl) ?_
      refine VL_cond ((!(((List.getD a_1 (Int.toNat i_7) ((0 : Int), ((0 : Int), (0 : Int)))).1 == (List.getD b_2 (Int.toNat i_7) ((0 : Int), ((0 : Int), (0 : Int)))).1) && (((List.getD a_1 (Int.toNat i_7) ((0 : Int), ((0 : Int), (0 : Int)))).2.1 == (List.getD b_2 (Int.toNat i_7) ((0 : Int), ((0 : Int), (0 : Int)))).2.1) && ((List.getD a_1 (Int.toNat i_7) ((0 : Int), ((0 : Int), (0 : Int)))).2.2 == (List.getD b_2 (Int.toNat i_7) ((0 : Int), ((0 : Int), (0 : Int)))).2.2))))) (by kernel_rfl) ?_ ?_
      · intro b_14; have H_28 := of_t H_27 b_14
        refine V_run hN hn 2 1 [4] [0] ⟨[(4, .c (.val (.bool false)))], [(0, .row (.pair (.int .i64) (.pair (.int .i64) (.int .i64))) a_1)], 1⟩ [] (by kernel_rfl) rfl rfl ap0 ?_
        have H_30 := Option.some.inj (show some false = some r from H_28); subst H_30
        refine VL_ret ?_
        refine QB_ret ?_
        refine QL_ret ?_
        refine QB_ret ?_
        exact P_to [(4, .c (.val (.bool false)))] [(0, .row (.pair (.int .i64) (.pair (.int .i64) (.int .i64))) a_1)] [] hn (by kernel_rfl) (by kernel_rfl) rfl rfl rfl (QF_retS (by kernel_rfl) (by kernel_rfl) rfl)
      · intro b_14; have H_29 := of_f H_27 b_14
        refine V_run hN hn 1 1 [0, 1, 5, 25] [0] ⟨[(0, .c (.h 0)), (1, .c (.imm (.slice (.pair (.int .i64) (.pair (.int .i64) (.int .i64)))) b_2)), (5, .c (.val (.int .i64 i_7))), (25, .c (.val (.bool (!(((List.getD a_1 (Int.toNat i_7) ((0 : Int), ((0 : Int), (0 : Int)))).1 == (List.getD b_2 (Int.toNat i_7) ((0 : Int), ((0 : Int), (0 : Int)))).1) && (((List.getD a_1 (Int.toNat i_7) ((0 : Int), ((0 : Int), (0 : Int)))).2.1 == (List.getD b_2 (Int.toNat i_7) ((0 : Int), ((0 : Int), (0 : Int)))).2.1) && ((List.getD a_1 (Int.toNat i_7) ((0 : Int), ((0 : Int), (0 : Int)))).2.2 == (List.getD b_2 (Int.toNat i_7) ((0 : Int), ((0 : Int), (0 : Int)))).2.2)))))))], [(0, .row (.pair (.int .i64) (.pair (.int .i64) (.int .i64))) a_1)], 1⟩ [] (by kernel_rfl) rfl rfl ap0 ?_
        refine VL_nil (QB_end ?_)
        refine V_run hN hn 1 1 [0, 1, 5] [0] ⟨[(0, .c (.h 0)), (1, .c (.imm (.slice (.pair (.int .i64) (.pair (.int .i64) (.int .i64)))) b_2)), (5, .c (.val (.int .i64 (IntKind.wrap .i64 (i_7 + (1 : Int))))))], [(0, .row (.pair (.int .i64) (.pair (.int .i64) (.int .i64))) a_1)], 1⟩ [] (by kernel_rfl) rfl rfl ap0 ?_
        refine VL_nil ?_
        exact V_roundEnd (IntKind.wrap .i64 (i_7 + (1 : Int))) H_29 [] hn (by kernel_rfl) (by kernel_rfl) rfl rfl rfl
    · intro b_10; have H_26 := of_f H_24 b_10
      refine VL_exit ?_
      refine QL_exit ?_
      refine QB_here ?_
      refine V_run hN hn 2 1 [4] [0] ⟨[(4, .c (.val (.bool true)))], [(0, .row (.pair (.int .i64) (.pair (.int .i64) (.int .i64))) a_1)], 1⟩ [] (by kernel_rfl) rfl rfl ap0 ?_
      have H_31 := Option.some.inj (show some true = some r from H_26); subst H_31
      refine VL_ret ?_
      exact P_to [(4, .c (.val (.bool true)))] [(0, .row (.pair (.int .i64) (.pair (.int .i64) (.int .i64))) a_1)] [] hn (by kernel_rfl) (by kernel_rfl) rfl rfl rfl (QF_retS (by kernel_rfl) (by kernel_rfl) rfl)

theorem palinodelaw15_few_spec (K : Nat) (d_1 : Int) (d_2 : (List (Int × (Int × ByteArray)))) (r : Bool) (H : palinodelaw15_few K d_1 d_2 = some r) : Spec Try.prog 16 0 [.agg [.val (.int .i64 d_1), .imm (.slice (.pair (.int .i64) (.pair (.int .i64) .str))) d_2]] [] (.c (.val (.bool r))) [] := by
  refine Spec_mk (fn := Try.f16) (c := (Try.f16.body).get!) Try.func16 (by kernel_rfl) rfl ?_
  intro C hN hn
  replace hN : C.N = 28 := hN
  unfold palinodelaw15_few at H
  refine V_run hN hn 5 0 [1, 3] [0] ⟨[(1, .c (.h 0)), (3, .c (.val (.int .i64 (0 : Int))))], [(0, .box [.val (.int .i64 d_1), .imm (.slice (.pair (.int .i64) (.pair (.int .i64) .str))) d_2])], 1⟩ [] (by kernel_rfl) rfl rfl ap0 ?_
  obtain ⟨q_21, H_22, H_23⟩ := of_bind H
  refine V_cut (Y := Unit) (R := (Bool ⊕ Unit)) q_21 (fun y => (Sum.inr y)) (fun y => [(1, .c (.h 0))]) (fun y => [(0, .box [.val (.int .i64 d_1), .imm (.slice (.pair (.int .i64) (.pair (.int .i64) .str))) d_2])]) ?_ ?_
  · skip
    refine VL_block ?_
    refine V_to [(1, .c (.h 0)), (3, .c (.val (.int .i64 (0 : Int))))] [(0, .box [.val (.int .i64 d_1), .imm (.slice (.pair (.int .i64) (.pair (.int .i64) .str))) d_2])] [(0, 0)] hn (by kernel_rfl) (by kernel_rfl) rfl rfl rfl ?_
    refine VL_loop (X := Int) (fun x => [(1, .c (.h 0)), (3, .c (.val (.int .i64 x)))]) (fun x => [(0, .box [.val (.int .i64 d_1), .imm (.slice (.pair (.int .i64) (.pair (.int .i64) .str))) d_2])]) (fun k x => palinodelaw15_few.l0 K d_2 k x = some q_21) K (0 : Int) H_22 (fun _ h => no_none h) ?_
    intro k_5 i_4 H_25
    have H_26 : palinodelaw15_few.l0 K d_2 (k_5 + 1) i_4 = some q_21 := H_25
    rw [palinodelaw15_few.l0] at H_26
    refine V_run hN hn 3 1 [1, 3, 8] [0] ⟨[(1, .c (.h 0)), (3, .c (.val (.int .i64 i_4))), (8, .c (.val (.bool (decide (i_4 < (((List.length d_2) : Nat) : Int))))))], [(0, .box [.val (.int .i64 d_1), .imm (.slice (.pair (.int .i64) (.pair (.int .i64) .str))) d_2])], 1⟩ [] (by kernel_rfl) rfl rfl ap0 ?_
    refine VL_cond ((decide (i_4 < (((List.length d_2) : Nat) : Int)))) (by kernel_rfl) ?_ ?_
    · intro b_7; have H_27 := of_t H_26 b_7
      refine V_run hN hn 2 1 [1, 3, 8] [0] ⟨[(1, .c (.h 0)), (3, .c (.val (.int .i64 i_4))), (8, .c (.val (.bool (decide (i_4 < (((List.length d_2) : Nat) : Int))))))], [(0, .box [.val (.int .i64 d_1), .imm (.slice (.pair (.int .i64) (.pair (.int .i64) .str))) d_2])], 1⟩ [] (by kernel_rfl) rfl rfl ap0 ?_
      refine VL_block ?_
      obtain ⟨c_9, H_29⟩ := of_if H_27
      refine V_run hN hn 2 1 [1, 3, 18] [0] ⟨[(1, .c (.h 0)), (3, .c (.val (.int .i64 i_4))), (18, .c (.val (.bool (decide ((((ByteArray.size (List.getD d_2 (Int.toNat i_4) ((0 : Int), ((0 : Int), ByteArray.empty))).2.2) : Nat) : Int) > (200 : Int))))))], [(0, .box [.val (.int .i64 d_1), .imm (.slice (.pair (.int .i64) (.pair (.int .i64) .str))) d_2])], 1⟩ [0 ≤ i_4, i_4 < (((List.length d_2) : Nat) : Int)] (by kernel_rfl) rfl rfl (ap2 c_9.1 (ap1 c_9.2)) ?_
      refine VL_cond ((decide ((((ByteArray.size (List.getD d_2 (Int.toNat i_4) ((0 : Int), ((0 : Int), ByteArray.empty))).2.2) : Nat) : Int) > (200 : Int)))) (by kernel_rfl) ?_ ?_
      · intro b_10; have H_30 := of_t H_29 b_10
        refine V_run hN hn 2 1 [2] [] ⟨[(2, .c (.val (.bool false)))], [], 1⟩ [] (by kernel_rfl) rfl rfl ap0 ?_
        have H_32 := Option.some.inj (show some (Sum.inl false) = some q_21 from H_30); subst H_32
        have H_33 := Option.some.inj (show some false = some r from H_23); subst H_33
        refine VL_ret ?_
        refine QB_ret ?_
        refine QL_ret ?_
        refine QB_ret ?_
        refine QP_ret ?_
        exact P_to [(2, .c (.val (.bool false)))] [] [] hn (by kernel_rfl) (by kernel_rfl) rfl rfl rfl (QF_retS (by kernel_rfl) (by kernel_rfl) rfl)
      · intro b_10; have H_31 := of_f H_29 b_10
        refine V_run hN hn 1 1 [1, 3, 18] [0] ⟨[(1, .c (.h 0)), (3, .c (.val (.int .i64 i_4))), (18, .c (.val (.bool (decide ((((ByteArray.size (List.getD d_2 (Int.toNat i_4) ((0 : Int), ((0 : Int), ByteArray.empty))).2.2) : Nat) : Int) > (200 : Int))))))], [(0, .box [.val (.int .i64 d_1), .imm (.slice (.pair (.int .i64) (.pair (.int .i64) .str))) d_2])], 1⟩ [] (by kernel_rfl) rfl rfl ap0 ?_
        refine VL_nil (QB_end ?_)
        refine V_run hN hn 1 1 [1, 3] [0] ⟨[(1, .c (.h 0)), (3, .c (.val (.int .i64 (IntKind.wrap .i64 (i_4 + (1 : Int))))))], [(0, .box [.val (.int .i64 d_1), .imm (.slice (.pair (.int .i64) (.pair (.int .i64) .str))) d_2])], 1⟩ [] (by kernel_rfl) rfl rfl ap0 ?_
        refine VL_nil ?_
        exact V_roundEnd (IntKind.wrap .i64 (i_4 + (1 : Int))) H_31 [(0, 0)] hn (by kernel_rfl) (by kernel_rfl) rfl rfl rfl
    · intro b_7; have H_28 := of_f H_26 b_7
      refine VL_exit ?_
      refine QL_exit ?_
      refine QB_here ?_
      have H_34 := Option.some.inj (show some (Sum.inr ()) = some q_21 from H_28); subst H_34
      refine VL_nil ?_
      exact QP_end () rfl [(0, 0)] hn (by kernel_rfl) (by kernel_rfl) rfl rfl rfl
  · intro y_24 hy; subst hy
    skip
    refine V_run hN hn 1 1 [1] [0] ⟨[(1, .c (.h 0))], [(0, .box [.val (.int .i64 d_1), .imm (.slice (.pair (.int .i64) (.pair (.int .i64) .str))) d_2])], 1⟩ [] (by kernel_rfl) rfl rfl ap0 ?_
    rcases Bool.eq_false_or_eq_true ((decide (d_1 ≤ (400 : Int)))) with b_15 | b_15
    · have H_35 := of_t H_23 b_15
      refine V_reg hN hn [] [(22, true)] calls_nil 1 [2] [] ⟨[(2, .c (.val (.bool (decide ((((List.length d_2) : Nat) : Int) ≤ (70 : Int))))))], [], 1⟩ [(decide (d_1 ≤ (400 : Int))) = true] (by kernel_rfl) rfl rfl (ap1 b_15) (by kernel_rfl) (by kernel_rfl) ?_
      have H_37 := Option.some.inj (show some (decide ((((List.length d_2) : Nat) : Int) ≤ (70 : Int))) = some r from H_35); subst H_37
      refine VL_ret ?_
      exact P_to [(2, .c (.val (.bool (decide ((((List.length d_2) : Nat) : Int) ≤ (70 : Int))))))] [] [] hn (by kernel_rfl) (by kernel_rfl) rfl rfl rfl (QF_retS (by kernel_rfl) (by kernel_rfl) rfl)
    · have H_36 := of_f H_23 b_15
      refine V_reg hN hn [] [(22, false)] calls_nil 1 [2] [] ⟨[(2, .c (.val (.bool false)))], [], 1⟩ [(decide (d_1 ≤ (400 : Int))) = false] (by kernel_rfl) rfl rfl (ap1 b_15) (by kernel_rfl) (by kernel_rfl) ?_
      have H_38 := Option.some.inj (show some false = some r from H_36); subst H_38
      refine VL_ret ?_
      exact P_to [(2, .c (.val (.bool false)))] [] [] hn (by kernel_rfl) (by kernel_rfl) rfl rfl rfl (QF_retS (by kernel_rfl) (by kernel_rfl) rfl)

theorem spans_Put_spec (K : Nat) (l_1 : (List (Int × (Int × Int)))) (s_2 : Int) (s_3 : Int) (s_4 : Int) (r : ((List (Int × (Int × Int))) × Int)) (H : spans_Put_nsggg K l_1 s_2 s_3 s_4 = some r) : Spec Try.prog 10 0 [.c (.imm (.slice (.pair (.int .i64) (.pair (.int .i64) (.int .i64)))) l_1), .agg [.val (.int .i64 s_2), .val (.int .i64 s_3), .val (.int .i64 s_4)]] [] (.tup [(false, [.h 9]), (false, [.val (.int .i64 r.2)])]) [(9, .row (.pair (.int .i64) (.pair (.int .i64) (.int .i64))) r.1)] := by
  refine Spec_mk (fn := Try.f10) (c := (Try.f10.body).get!) Try.func10 (by kernel_rfl) rfl ?_
  intro C hN hn
  replace hN : C.N = 88 := hN
  unfold spans_Put_nsggg at H
  refine V_run hN hn 4 0 [0, 3] [0] ⟨[(0, .c (.imm (.slice (.pair (.int .i64) (.pair (.int .i64) (.int .i64)))) l_1)), (3, .c (.h 0))], [(0, .box [.val (.int .i64 s_2), .val (.int .i64 s_3), .val (.int .i64 s_4)])], 1⟩ [] (by kernel_rfl) rfl rfl ap0 ?_
  obtain ⟨q_80, H_81, H_82⟩ := of_bind H
  refine V_cut (Y := Bool) (R := Bool) q_80 (fun y => y) (fun y => [(0, .c (.imm (.slice (.pair (.int .i64) (.pair (.int .i64) (.int .i64)))) l_1)), (3, .c (.h 0)), (34, .c (.val (.bool y)))]) (fun y => [(0, .box [.val (.int .i64 s_2), .val (.int .i64 s_3), .val (.int .i64 s_4)])]) ?_ ?_
  · skip
    obtain ⟨r_6, h_7, H_84⟩ := of_bind H_81
    rcases Bool.eq_false_or_eq_true ((!r_6)) with b_8 | b_8
    · have H_85 := of_t H_84 b_8
      refine V_reg hN hn [(1, ⟨13, 0, [.c (.imm (.slice (.pair (.int .i64) (.pair (.int .i64) (.int .i64)))) l_1), .c (.val (.int .i64 (20000 : Int)))], [], .c (.val (.bool r_6)), [], [], 1⟩)] [(12, true)] (calls_cons (spans_Is_spec K l_1 (20000 : Int) r_6 h_7) (by kernel_rfl) calls_nil) 1 [0, 3, 34] [0] ⟨[(0, .c (.imm (.slice (.pair (.int .i64) (.pair (.int .i64) (.int .i64)))) l_1)), (3, .c (.h 0)), (34, .c (.val (.bool true)))], [(0, .box [.val (.int .i64 s_2), .val (.int .i64 s_3), .val (.int .i64 s_4)])], 1⟩ [(!r_6) = true] (by kernel_rfl) rfl rfl (ap1 b_8) (by kernel_rfl) (by kernel_rfl) ?_
      have H_87 := Option.some.inj (show some true = some q_80 from H_85); subst H_87
      refine VL_nil ?_
      exact QP_end true rfl [(0, 0)] hn (by kernel_rfl) (by kernel_rfl) rfl rfl rfl
    · have H_86 := of_f H_84 b_8
      obtain ⟨r_10, h_11, H_88⟩ := of_bind H_86
      rcases Bool.eq_false_or_eq_true ((!r_10)) with b_12 | b_12
      · have H_89 := of_t H_88 b_12
        refine V_reg hN hn [(1, ⟨13, 0, [.c (.imm (.slice (.pair (.int .i64) (.pair (.int .i64) (.int .i64)))) l_1), .c (.val (.int .i64 (20000 : Int)))], [], .c (.val (.bool r_6)), [], [], 1⟩), (6, ⟨24, 0, [.c (.val (.int .i64 s_4)), .c (.val (.int .i64 (0 : Int))), .c (.val (.int .i64 (100 : Int)))], [], .c (.val (.bool r_10)), [], [], 1⟩)] [(12, false), (18, true)] (calls_cons (spans_Is_spec K l_1 (20000 : Int) r_6 h_7) (by kernel_rfl) (calls_cons (spans_within_spec K s_4 (0 : Int) (100 : Int) r_10 h_11) (by kernel_rfl) calls_nil)) 1 [0, 3, 34] [0] ⟨[(0, .c (.imm (.slice (.pair (.int .i64) (.pair (.int .i64) (.int .i64)))) l_1)), (3, .c (.h 0)), (34, .c (.val (.bool true)))], [(0, .box [.val (.int .i64 s_2), .val (.int .i64 s_3), .val (.int .i64 s_4)])], 1⟩ [(!r_6) = false, (!r_10) = true] (by kernel_rfl) rfl rfl (ap2 b_8 (ap1 b_12)) (by kernel_rfl) (by kernel_rfl) ?_
        have H_91 := Option.some.inj (show some true = some q_80 from H_89); subst H_91
        refine VL_nil ?_
        exact QP_end true rfl [(0, 0)] hn (by kernel_rfl) (by kernel_rfl) rfl rfl rfl
      · have H_90 := of_f H_88 b_12
        rcases Bool.eq_false_or_eq_true ((decide (s_2 < (0 : Int)))) with b_14 | b_14
        · have H_92 := of_t H_90 b_14
          refine V_reg hN hn [(1, ⟨13, 0, [.c (.imm (.slice (.pair (.int .i64) (.pair (.int .i64) (.int .i64)))) l_1), .c (.val (.int .i64 (20000 : Int)))], [], .c (.val (.bool r_6)), [], [], 1⟩), (6, ⟨24, 0, [.c (.val (.int .i64 s_4)), .c (.val (.int .i64 (0 : Int))), .c (.val (.int .i64 (100 : Int)))], [], .c (.val (.bool r_10)), [], [], 1⟩)] [(12, false), (18, false), (23, true)] (calls_cons (spans_Is_spec K l_1 (20000 : Int) r_6 h_7) (by kernel_rfl) (calls_cons (spans_within_spec K s_4 (0 : Int) (100 : Int) r_10 h_11) (by kernel_rfl) calls_nil)) 1 [0, 3, 34] [0] ⟨[(0, .c (.imm (.slice (.pair (.int .i64) (.pair (.int .i64) (.int .i64)))) l_1)), (3, .c (.h 0)), (34, .c (.val (.bool true)))], [(0, .box [.val (.int .i64 s_2), .val (.int .i64 s_3), .val (.int .i64 s_4)])], 1⟩ [(!r_6) = false, (!r_10) = false, (decide (s_2 < (0 : Int))) = true] (by kernel_rfl) rfl rfl (ap2 b_8 (ap2 b_12 (ap1 b_14))) (by kernel_rfl) (by kernel_rfl) ?_
          have H_94 := Option.some.inj (show some true = some q_80 from H_92); subst H_94
          refine VL_nil ?_
          exact QP_end true rfl [(0, 0)] hn (by kernel_rfl) (by kernel_rfl) rfl rfl rfl
        · have H_93 := of_f H_90 b_14
          rcases Bool.eq_false_or_eq_true ((decide (s_2 > s_3))) with b_16 | b_16
          · have H_95 := of_t H_93 b_16
            refine V_reg hN hn [(1, ⟨13, 0, [.c (.imm (.slice (.pair (.int .i64) (.pair (.int .i64) (.int .i64)))) l_1), .c (.val (.int .i64 (20000 : Int)))], [], .c (.val (.bool r_6)), [], [], 1⟩), (6, ⟨24, 0, [.c (.val (.int .i64 s_4)), .c (.val (.int .i64 (0 : Int))), .c (.val (.int .i64 (100 : Int)))], [], .c (.val (.bool r_10)), [], [], 1⟩)] [(12, false), (18, false), (23, false), (30, true)] (calls_cons (spans_Is_spec K l_1 (20000 : Int) r_6 h_7) (by kernel_rfl) (calls_cons (spans_within_spec K s_4 (0 : Int) (100 : Int) r_10 h_11) (by kernel_rfl) calls_nil)) 1 [0, 3, 34] [0] ⟨[(0, .c (.imm (.slice (.pair (.int .i64) (.pair (.int .i64) (.int .i64)))) l_1)), (3, .c (.h 0)), (34, .c (.val (.bool true)))], [(0, .box [.val (.int .i64 s_2), .val (.int .i64 s_3), .val (.int .i64 s_4)])], 1⟩ [(!r_6) = false, (!r_10) = false, (decide (s_2 < (0 : Int))) = false, (decide (s_2 > s_3)) = true] (by kernel_rfl) rfl rfl (ap2 b_8 (ap2 b_12 (ap2 b_14 (ap1 b_16)))) (by kernel_rfl) (by kernel_rfl) ?_
            have H_97 := Option.some.inj (show some true = some q_80 from H_95); subst H_97
            refine VL_nil ?_
            exact QP_end true rfl [(0, 0)] hn (by kernel_rfl) (by kernel_rfl) rfl rfl rfl
          · have H_96 := of_f H_93 b_16
            refine V_reg hN hn [(1, ⟨13, 0, [.c (.imm (.slice (.pair (.int .i64) (.pair (.int .i64) (.int .i64)))) l_1), .c (.val (.int .i64 (20000 : Int)))], [], .c (.val (.bool r_6)), [], [], 1⟩), (6, ⟨24, 0, [.c (.val (.int .i64 s_4)), .c (.val (.int .i64 (0 : Int))), .c (.val (.int .i64 (100 : Int)))], [], .c (.val (.bool r_10)), [], [], 1⟩)] [(12, false), (18, false), (23, false), (30, false)] (calls_cons (spans_Is_spec K l_1 (20000 : Int) r_6 h_7) (by kernel_rfl) (calls_cons (spans_within_spec K s_4 (0 : Int) (100 : Int) r_10 h_11) (by kernel_rfl) calls_nil)) 1 [0, 3, 34] [0] ⟨[(0, .c (.imm (.slice (.pair (.int .i64) (.pair (.int .i64) (.int .i64)))) l_1)), (3, .c (.h 0)), (34, .c (.val (.bool (decide (s_3 > (20000 : Int))))))], [(0, .box [.val (.int .i64 s_2), .val (.int .i64 s_3), .val (.int .i64 s_4)])], 1⟩ [(!r_6) = false, (!r_10) = false, (decide (s_2 < (0 : Int))) = false, (decide (s_2 > s_3)) = false] (by kernel_rfl) rfl rfl (ap2 b_8 (ap2 b_12 (ap2 b_14 (ap1 b_16)))) (by kernel_rfl) (by kernel_rfl) ?_
            have H_98 := Option.some.inj (show some (decide (s_3 > (20000 : Int))) = some q_80 from H_96); subst H_98
            refine VL_nil ?_
            exact QP_end (decide (s_3 > (20000 : Int))) rfl [(0, 0)] hn (by kernel_rfl) (by kernel_rfl) rfl rfl rfl
  · intro y_83 hy; subst hy
    skip
    skip
    refine VL_cond (y_83) (by kernel_rfl) ?_ ?_
    · intro b_20; have H_99 := of_t H_82 b_20
      refine V_run hN hn 2 1 [4, 5] [] ⟨[(4, .c (.val (.slice none 0 0))), (5, .c (.val (.int .i64 (12 : Int))))], [], 1⟩ [] (by kernel_rfl) rfl rfl ap0 ?_
      have H_101 := Option.some.inj (show some (([] : List (Int × (Int × Int))), (12 : Int)) = some r from H_99); subst H_101
      refine VL_ret ?_
      refine P_ghost [.nilSlot 4 (.pair (.int .i64) (.pair (.int .i64) (.int .i64)))] 1 hn [4, 5] [1] ⟨[(4, .c (.h 1)), (5, .c (.val (.int .i64 (12 : Int))))], [(1, .row (.pair (.int .i64) (.pair (.int .i64) (.int .i64))) ([] : List (Int × (Int × Int))))], 2⟩ (by kernel_rfl) rfl rfl ?_
      exact P_to [(4, .c (.h 9)), (5, .c (.val (.int .i64 (12 : Int))))] [(9, .row (.pair (.int .i64) (.pair (.int .i64) (.int .i64))) ([] : List (Int × (Int × Int))))] [(9, 1)] hn (by kernel_rfl) (by kernel_rfl) rfl rfl rfl (QF_retS (by kernel_rfl) (by kernel_rfl) rfl)
    · intro b_20; have H_100 := of_f H_82 b_20
      refine V_run hN hn 6 1 [3, 6, 35, 36, 37] [0, 1] ⟨[(3, .c (.h 0)), (6, .c (.h 1)), (35, .c (.imm (.slice (.pair (.int .i64) (.pair (.int .i64) (.int .i64)))) l_1)), (36, .c (.val (.int .i64 (((List.length l_1) : Nat) : Int)))), (37, .c (.val (.int .i64 (0 : Int))))], [(0, .box [.val (.int .i64 s_2), .val (.int .i64 s_3), .val (.int .i64 s_4)]), (1, .box [.val (.slice none 0 0)])], 2⟩ [] (by kernel_rfl) rfl rfl ap0 ?_
      obtain ⟨q_102, H_103, H_104⟩ := of_bind H_100
      refine V_cut (Y := (List (Int × (Int × Int)))) (R := (List (Int × (Int × Int)))) q_102 (fun y => y) (fun y => [(3, .c (.h 0)), (6, .c (.h 1))]) (fun y => [(0, .box [.val (.int .i64 s_2), .val (.int .i64 s_3), .val (.int .i64 s_4)]), (1, .box [.h 5]), (5, .row (.pair (.int .i64) (.pair (.int .i64) (.int .i64))) y)]) ?_ ?_
      · skip
        refine VL_block ?_
        refine V_ghost [.nilCell 1 0 (.pair (.int .i64) (.pair (.int .i64) (.int .i64)))] 2 hn [3, 6, 35, 36, 37] [0, 1, 2] ⟨[(3, .c (.h 0)), (6, .c (.h 1)), (35, .c (.imm (.slice (.pair (.int .i64) (.pair (.int .i64) (.int .i64)))) l_1)), (36, .c (.val (.int .i64 (((List.length l_1) : Nat) : Int)))), (37, .c (.val (.int .i64 (0 : Int))))], [(0, .box [.val (.int .i64 s_2), .val (.int .i64 s_3), .val (.int .i64 s_4)]), (1, .box [.h 2]), (2, .row (.pair (.int .i64) (.pair (.int .i64) (.int .i64))) ([] : List (Int × (Int × Int))))], 3⟩ (by kernel_rfl) rfl rfl ?_
        refine V_to [(3, .c (.h 0)), (6, .c (.h 1)), (35, .c (.imm (.slice (.pair (.int .i64) (.pair (.int .i64) (.int .i64)))) l_1)), (36, .c (.val (.int .i64 (((List.length l_1) : Nat) : Int)))), (37, .c (.val (.int .i64 (0 : Int))))] [(0, .box [.val (.int .i64 s_2), .val (.int .i64 s_3), .val (.int .i64 s_4)]), (1, .box [.h 5]), (5, .row (.pair (.int .i64) (.pair (.int .i64) (.int .i64))) ([] : List (Int × (Int × Int))))] [(0, 0), (1, 1), (5, 2)] hn (by kernel_rfl) (by kernel_rfl) rfl rfl rfl ?_
        refine VL_loop (X := ((List (Int × (Int × Int))) × Int)) (fun x => [(3, .c (.h 0)), (6, .c (.h 1)), (35, .c (.imm (.slice (.pair (.int .i64) (.pair (.int .i64) (.int .i64)))) l_1)), (36, .c (.val (.int .i64 (((List.length l_1) : Nat) : Int)))), (37, .c (.val (.int .i64 x.2)))]) (fun x => [(0, .box [.val (.int .i64 s_2), .val (.int .i64 s_3), .val (.int .i64 s_4)]), (1, .box [.h 5]), (5, .row (.pair (.int .i64) (.pair (.int .i64) (.int .i64))) x.1)]) (fun k x => spans_Put_nsggg.l0 K l_1 s_2 s_3 k x.1 x.2 = some q_102) K (([] : List (Int × (Int × Int))), (0 : Int)) H_103 (fun _ h => no_none h) ?_
        intro k_44 x_44 H_106
        obtain ⟨x_43, t_23⟩ := x_44
        have H_107 : spans_Put_nsggg.l0 K l_1 s_2 s_3 (k_44 + 1) x_43 t_23 = some q_102 := H_106
        rw [spans_Put_nsggg.l0] at H_107
        refine V_run hN hn 3 6 [3, 6, 35, 36, 37, 38] [0, 1, 5] ⟨[(3, .c (.h 0)), (6, .c (.h 1)), (35, .c (.imm (.slice (.pair (.int .i64) (.pair (.int .i64) (.int .i64)))) l_1)), (36, .c (.val (.int .i64 (((List.length l_1) : Nat) : Int)))), (37, .c (.val (.int .i64 t_23))), (38, .c (.val (.bool (decide (t_23 < (((List.length l_1) : Nat) : Int))))))], [(0, .box [.val (.int .i64 s_2), .val (.int .i64 s_3), .val (.int .i64 s_4)]), (1, .box [.h 5]), (5, .row (.pair (.int .i64) (.pair (.int .i64) (.int .i64))) x_43)], 6⟩ [] (by kernel_rfl) rfl rfl ap0 ?_
        refine VL_cond ((decide (t_23 < (((List.length l_1) : Nat) : Int)))) (by kernel_rfl) ?_ ?_
        · intro b_46; have H_108 := of_t H_107 b_46
          refine V_run hN hn 2 6 [3, 6, 35, 36, 37, 38] [0, 1, 5] ⟨[(3, .c (.h 0)), (6, .c (.h 1)), (35, .c (.imm (.slice (.pair (.int .i64) (.pair (.int .i64) (.int .i64)))) l_1)), (36, .c (.val (.int .i64 (((List.length l_1) : Nat) : Int)))), (37, .c (.val (.int .i64 t_23))), (38, .c (.val (.bool (decide (t_23 < (((List.length l_1) : Nat) : Int))))))], [(0, .box [.val (.int .i64 s_2), .val (.int .i64 s_3), .val (.int .i64 s_4)]), (1, .box [.h 5]), (5, .row (.pair (.int .i64) (.pair (.int .i64) (.int .i64))) x_43)], 6⟩ [] (by kernel_rfl) rfl rfl ap0 ?_
          refine VL_block ?_
          obtain ⟨c_48, H_110⟩ := of_if H_108
          refine V_run hN hn 5 6 [3, 6, 8, 35, 36, 37, 45] [0, 1, 5, 6] ⟨[(3, .c (.h 0)), (6, .c (.h 1)), (8, .c (.h 6)), (35, .c (.imm (.slice (.pair (.int .i64) (.pair (.int .i64) (.int .i64)))) l_1)), (36, .c (.val (.int .i64 (((List.length l_1) : Nat) : Int)))), (37, .c (.val (.int .i64 t_23))), (45, .c (.val (.bool (s_2 == s_3))))], [(0, .box [.val (.int .i64 s_2), .val (.int .i64 s_3), .val (.int .i64 s_4)]), (1, .box [.h 5]), (5, .row (.pair (.int .i64) (.pair (.int .i64) (.int .i64))) x_43), (6, .box [.val (.int .i64 (List.getD l_1 (Int.toNat t_23) ((0 : Int), ((0 : Int), (0 : Int)))).1), .val (.int .i64 (List.getD l_1 (Int.toNat t_23) ((0 : Int), ((0 : Int), (0 : Int)))).2.1), .val (.int .i64 (List.getD l_1 (Int.toNat t_23) ((0 : Int), ((0 : Int), (0 : Int)))).2.2)])], 7⟩ [0 ≤ t_23, t_23 < (((List.length l_1) : Nat) : Int)] (by kernel_rfl) rfl rfl (ap2 c_48.1 (ap1 c_48.2)) ?_
          refine VL_cond ((s_2 == s_3)) (by kernel_rfl) ?_ ?_
          · intro b_49; have H_111 := of_t H_110 b_49
            refine V_run hN hn 1 7 [3, 6, 8, 35, 36, 37, 45] [0, 1, 5, 6] ⟨[(3, .c (.h 0)), (6, .c (.h 1)), (8, .c (.h 6)), (35, .c (.imm (.slice (.pair (.int .i64) (.pair (.int .i64) (.int .i64)))) l_1)), (36, .c (.val (.int .i64 (((List.length l_1) : Nat) : Int)))), (37, .c (.val (.int .i64 t_23))), (45, .c (.val (.bool (s_2 == s_3))))], [(0, .box [.val (.int .i64 s_2), .val (.int .i64 s_3), .val (.int .i64 s_4)]), (1, .box [.h 5]), (5, .row (.pair (.int .i64) (.pair (.int .i64) (.int .i64))) x_43), (6, .box [.val (.int .i64 (List.getD l_1 (Int.toNat t_23) ((0 : Int), ((0 : Int), (0 : Int)))).1), .val (.int .i64 (List.getD l_1 (Int.toNat t_23) ((0 : Int), ((0 : Int), (0 : Int)))).2.1), .val (.int .i64 (List.getD l_1 (Int.toNat t_23) ((0 : Int), ((0 : Int), (0 : Int)))).2.2)])], 7⟩ [] (by kernel_rfl) rfl rfl ap0 ?_
            obtain ⟨r_51, h_52, H_113⟩ := of_bind H_111
            refine V_reg hN hn [(6, ⟨25, 2, [.c (.h 0), .c (.val (.int .i64 (List.getD l_1 (Int.toNat t_23) ((0 : Int), ((0 : Int), (0 : Int)))).1)), .c (.val (.int .i64 (List.getD l_1 (Int.toNat t_23) ((0 : Int), ((0 : Int), (0 : Int)))).2.1)), .c (.val (.int .i64 (List.getD l_1 (Int.toNat t_23) ((0 : Int), ((0 : Int), (0 : Int)))).2.2))], [(0, .box [.h 1]), (1, .row (.pair (.int .i64) (.pair (.int .i64) (.int .i64))) x_43)], .tup [], [(0, .box [.h 4]), (4, .row (.pair (.int .i64) (.pair (.int .i64) (.int .i64))) r_51)], [(0, 1), (1, 5), (4, 7)], 8⟩)] [] (calls_cons (spans_row_add_bggg_b0cf7_spec K x_43 (List.getD l_1 (Int.toNat t_23) ((0 : Int), ((0 : Int), (0 : Int)))).1 (List.getD l_1 (Int.toNat t_23) ((0 : Int), ((0 : Int), (0 : Int)))).2.1 (List.getD l_1 (Int.toNat t_23) ((0 : Int), ((0 : Int), (0 : Int)))).2.2 r_51 h_52) (by kernel_rfl) calls_nil) 7 [3, 6, 35, 36, 37] [0, 1, 7] ⟨[(3, .c (.h 0)), (6, .c (.h 1)), (35, .c (.imm (.slice (.pair (.int .i64) (.pair (.int .i64) (.int .i64)))) l_1)), (36, .c (.val (.int .i64 (((List.length l_1) : Nat) : Int)))), (37, .c (.val (.int .i64 t_23)))], [(0, .box [.val (.int .i64 s_2), .val (.int .i64 s_3), .val (.int .i64 s_4)]), (1, .box [.h 7]), (7, .row (.pair (.int .i64) (.pair (.int .i64) (.int .i64))) r_51)], 8⟩ [] (by kernel_rfl) rfl rfl ap0 (by kernel_rfl) (by kernel_rfl) ?_
            refine VL_exit ?_
            refine QB_here ?_
            refine V_run hN hn 1 8 [3, 6, 35, 36, 37] [0, 1, 7] ⟨[(3, .c (.h 0)), (6, .c (.h 1)), (35, .c (.imm (.slice (.pair (.int .i64) (.pair (.int .i64) (.int .i64)))) l_1)), (36, .c (.val (.int .i64 (((List.length l_1) : Nat) : Int)))), (37, .c (.val (.int .i64 (IntKind.wrap .i64 (t_23 + (1 : Int))))))], [(0, .box [.val (.int .i64 s_2), .val (.int .i64 s_3), .val (.int .i64 s_4)]), (1, .box [.h 7]), (7, .row (.pair (.int .i64) (.pair (.int .i64) (.int .i64))) r_51)], 8⟩ [] (by kernel_rfl) rfl rfl ap0 ?_
            refine VL_nil ?_
            exact V_roundEnd (r_51, (IntKind.wrap .i64 (t_23 + (1 : Int)))) H_113 [(0, 0), (1, 1), (5, 7)] hn (by kernel_rfl) (by kernel_rfl) rfl rfl rfl
          · intro b_49; have H_112 := of_f H_110 b_49
            refine V_run hN hn 2 7 [3, 6, 8, 35, 36, 37, 45] [0, 1, 5, 6] ⟨[(3, .c (.h 0)), (6, .c (.h 1)), (8, .c (.h 6)), (35, .c (.imm (.slice (.pair (.int .i64) (.pair (.int .i64) (.int .i64)))) l_1)), (36, .c (.val (.int .i64 (((List.length l_1) : Nat) : Int)))), (37, .c (.val (.int .i64 t_23))), (45, .c (.val (.bool (s_2 == s_3))))], [(0, .box [.val (.int .i64 s_2), .val (.int .i64 s_3), .val (.int .i64 s_4)]), (1, .box [.h 5]), (5, .row (.pair (.int .i64) (.pair (.int .i64) (.int .i64))) x_43), (6, .box [.val (.int .i64 (List.getD l_1 (Int.toNat t_23) ((0 : Int), ((0 : Int), (0 : Int)))).1), .val (.int .i64 (List.getD l_1 (Int.toNat t_23) ((0 : Int), ((0 : Int), (0 : Int)))).2.1), .val (.int .i64 (List.getD l_1 (Int.toNat t_23) ((0 : Int), ((0 : Int), (0 : Int)))).2.2)])], 7⟩ [] (by kernel_rfl) rfl rfl ap0 ?_
            obtain ⟨r_56, h_57, H_114⟩ := of_bind H_112
            refine V_reg hN hn [(9, ⟨25, 2, [.c (.h 0), .c (.val (.int .i64 (List.getD l_1 (Int.toNat t_23) ((0 : Int), ((0 : Int), (0 : Int)))).1)), .c (.val (.int .i64 (mn2 (List.getD l_1 (Int.toNat t_23) ((0 : Int), ((0 : Int), (0 : Int)))).2.1 s_2))), .c (.val (.int .i64 (List.getD l_1 (Int.toNat t_23) ((0 : Int), ((0 : Int), (0 : Int)))).2.2))], [(0, .box [.h 1]), (1, .row (.pair (.int .i64) (.pair (.int .i64) (.int .i64))) x_43)], .tup [], [(0, .box [.h 4]), (4, .row (.pair (.int .i64) (.pair (.int .i64) (.int .i64))) r_56)], [(0, 1), (1, 5), (4, 7)], 8⟩)] [] (calls_cons (spans_row_add_bggg_b0cf7_spec K x_43 (List.getD l_1 (Int.toNat t_23) ((0 : Int), ((0 : Int), (0 : Int)))).1 (mn2 (List.getD l_1 (Int.toNat t_23) ((0 : Int), ((0 : Int), (0 : Int)))).2.1 s_2) (List.getD l_1 (Int.toNat t_23) ((0 : Int), ((0 : Int), (0 : Int)))).2.2 r_56 h_57) (by kernel_rfl) calls_nil) 7 [3, 6, 8, 35, 36, 37] [0, 1, 6, 7] ⟨[(3, .c (.h 0)), (6, .c (.h 1)), (8, .c (.h 6)), (35, .c (.imm (.slice (.pair (.int .i64) (.pair (.int .i64) (.int .i64)))) l_1)), (36, .c (.val (.int .i64 (((List.length l_1) : Nat) : Int)))), (37, .c (.val (.int .i64 t_23)))], [(0, .box [.val (.int .i64 s_2), .val (.int .i64 s_3), .val (.int .i64 s_4)]), (1, .box [.h 7]), (6, .box [.val (.int .i64 (List.getD l_1 (Int.toNat t_23) ((0 : Int), ((0 : Int), (0 : Int)))).1), .val (.int .i64 (List.getD l_1 (Int.toNat t_23) ((0 : Int), ((0 : Int), (0 : Int)))).2.1), .val (.int .i64 (List.getD l_1 (Int.toNat t_23) ((0 : Int), ((0 : Int), (0 : Int)))).2.2)]), (7, .row (.pair (.int .i64) (.pair (.int .i64) (.int .i64))) r_56)], 8⟩ [] (by kernel_rfl) rfl rfl ap0 (by kernel_rfl) (by kernel_rfl) ?_
            obtain ⟨r_59, h_60, H_115⟩ := of_bind H_114
            refine V_reg hN hn [(9, ⟨25, 2, [.c (.h 0), .c (.val (.int .i64 (mx2 (List.getD l_1 (Int.toNat t_23) ((0 : Int), ((0 : Int), (0 : Int)))).1 s_3))), .c (.val (.int .i64 (List.getD l_1 (Int.toNat t_23) ((0 : Int), ((0 : Int), (0 : Int)))).2.1)), .c (.val (.int .i64 (List.getD l_1 (Int.toNat t_23) ((0 : Int), ((0 : Int), (0 : Int)))).2.2))], [(0, .box [.h 1]), (1, .row (.pair (.int .i64) (.pair (.int .i64) (.int .i64))) r_56)], .tup [], [(0, .box [.h 4]), (4, .row (.pair (.int .i64) (.pair (.int .i64) (.int .i64))) r_59)], [(0, 1), (1, 7), (4, 8)], 9⟩)] [] (calls_cons (spans_row_add_bggg_b0cf7_spec K r_56 (mx2 (List.getD l_1 (Int.toNat t_23) ((0 : Int), ((0 : Int), (0 : Int)))).1 s_3) (List.getD l_1 (Int.toNat t_23) ((0 : Int), ((0 : Int), (0 : Int)))).2.1 (List.getD l_1 (Int.toNat t_23) ((0 : Int), ((0 : Int), (0 : Int)))).2.2 r_59 h_60) (by kernel_rfl) calls_nil) 8 [3, 6, 35, 36, 37] [0, 1, 8] ⟨[(3, .c (.h 0)), (6, .c (.h 1)), (35, .c (.imm (.slice (.pair (.int .i64) (.pair (.int .i64) (.int .i64)))) l_1)), (36, .c (.val (.int .i64 (((List.length l_1) : Nat) : Int)))), (37, .c (.val (.int .i64 t_23)))], [(0, .box [.val (.int .i64 s_2), .val (.int .i64 s_3), .val (.int .i64 s_4)]), (1, .box [.h 8]), (8, .row (.pair (.int .i64) (.pair (.int .i64) (.int .i64))) r_59)], 9⟩ [] (by kernel_rfl) rfl rfl ap0 (by kernel_rfl) (by kernel_rfl) ?_
            refine VL_nil (QB_end ?_)
            refine V_run hN hn 1 9 [3, 6, 35, 36, 37] [0, 1, 8] ⟨[(3, .c (.h 0)), (6, .c (.h 1)), (35, .c (.imm (.slice (.pair (.int .i64) (.pair (.int .i64) (.int .i64)))) l_1)), (36, .c (.val (.int .i64 (((List.length l_1) : Nat) : Int)))), (37, .c (.val (.int .i64 (IntKind.wrap .i64 (t_23 + (1 : Int))))))], [(0, .box [.val (.int .i64 s_2), .val (.int .i64 s_3), .val (.int .i64 s_4)]), (1, .box [.h 8]), (8, .row (.pair (.int .i64) (.pair (.int .i64) (.int .i64))) r_59)], 9⟩ [] (by kernel_rfl) rfl rfl ap0 ?_
            refine VL_nil ?_
            exact V_roundEnd (r_59, (IntKind.wrap .i64 (t_23 + (1 : Int)))) H_115 [(0, 0), (1, 1), (5, 8)] hn (by kernel_rfl) (by kernel_rfl) rfl rfl rfl
        · intro b_46; have H_109 := of_f H_107 b_46
          refine VL_exit ?_
          refine QL_exit ?_
          refine QB_here ?_
          have H_116 := Option.some.inj (show some x_43 = some q_102 from H_109); subst H_116
          refine VL_nil ?_
          exact QP_end x_43 rfl [(0, 0), (1, 1), (5, 5)] hn (by kernel_rfl) (by kernel_rfl) rfl rfl rfl
      · intro y_105 hy; subst hy
        skip
        skip
        refine V_run hN hn 3 6 [3, 6, 76] [0, 1, 5] ⟨[(3, .c (.h 0)), (6, .c (.h 1)), (76, .c (.val (.bool (decide (s_4 > (0 : Int))))))], [(0, .box [.val (.int .i64 s_2), .val (.int .i64 s_3), .val (.int .i64 s_4)]), (1, .box [.h 5]), (5, .row (.pair (.int .i64) (.pair (.int .i64) (.int .i64))) y_105)], 6⟩ [] (by kernel_rfl) rfl rfl ap0 ?_
        obtain ⟨q_117, H_118, H_119⟩ := of_bind H_104
        refine V_cut (Y := (List (Int × (Int × Int)))) (R := (List (Int × (Int × Int)))) q_117 (fun y => y) (fun y => [(6, .c (.h 1))]) (fun y => [(1, .box [.h 7]), (7, .row (.pair (.int .i64) (.pair (.int .i64) (.int .i64))) y)]) ?_ ?_
        · skip
          refine VL_cond ((decide (s_4 > (0 : Int)))) (by kernel_rfl) ?_ ?_
          · intro b_65; have H_121 := of_t H_118 b_65
            obtain ⟨r_66, h_67, H_123⟩ := of_bind H_121
            refine V_reg hN hn [(6, ⟨25, 2, [.c (.h 0), .c (.val (.int .i64 s_2)), .c (.val (.int .i64 s_3)), .c (.val (.int .i64 s_4))], [(0, .box [.h 1]), (1, .row (.pair (.int .i64) (.pair (.int .i64) (.int .i64))) y_105)], .tup [], [(0, .box [.h 4]), (4, .row (.pair (.int .i64) (.pair (.int .i64) (.int .i64))) r_66)], [(0, 1), (1, 5), (4, 6)], 7⟩)] [] (calls_cons (spans_row_add_bggg_b0cf7_spec K y_105 s_2 s_3 s_4 r_66 h_67) (by kernel_rfl) calls_nil) 6 [6] [1, 6] ⟨[(6, .c (.h 1))], [(1, .box [.h 6]), (6, .row (.pair (.int .i64) (.pair (.int .i64) (.int .i64))) r_66)], 7⟩ [] (by kernel_rfl) rfl rfl ap0 (by kernel_rfl) (by kernel_rfl) ?_
            have H_124 := Option.some.inj (show some r_66 = some q_117 from H_123); subst H_124
            refine VL_nil ?_
            exact QP_end r_66 rfl [(1, 1), (7, 6)] hn (by kernel_rfl) (by kernel_rfl) rfl rfl rfl
          · intro b_65; have H_122 := of_f H_118 b_65
            refine V_run hN hn 1 6 [3, 6, 76] [0, 1, 5] ⟨[(3, .c (.h 0)), (6, .c (.h 1)), (76, .c (.val (.bool (decide (s_4 > (0 : Int))))))], [(0, .box [.val (.int .i64 s_2), .val (.int .i64 s_3), .val (.int .i64 s_4)]), (1, .box [.h 5]), (5, .row (.pair (.int .i64) (.pair (.int .i64) (.int .i64))) y_105)], 6⟩ [] (by kernel_rfl) rfl rfl ap0 ?_
            have H_125 := Option.some.inj (show some y_105 = some q_117 from H_122); subst H_125
            refine VL_nil ?_
            exact QP_end y_105 rfl [(1, 1), (7, 5)] hn (by kernel_rfl) (by kernel_rfl) rfl rfl rfl
        · intro y_120 hy; subst hy
          skip
          skip
          refine V_run hN hn 1 8 [6] [1, 7] ⟨[(6, .c (.h 1))], [(1, .box [.h 7]), (7, .row (.pair (.int .i64) (.pair (.int .i64) (.int .i64))) y_120)], 8⟩ [] (by kernel_rfl) rfl rfl ap0 ?_
          obtain ⟨r_72, h_73, H_126⟩ := of_bind H_119
          refine V_reg hN hn [(1, ⟨26, 1, [.c (.h 0)], [(0, .row (.pair (.int .i64) (.pair (.int .i64) (.int .i64))) y_120)], .tup [(false, [.h 7]), (false, [.val (.int .i64 r_72.2.1)])], [(0, .row (.pair (.int .i64) (.pair (.int .i64) (.int .i64))) r_72.2.2), (7, .row (.pair (.int .i64) (.pair (.int .i64) (.int .i64))) r_72.1)], [(0, 7), (7, 8)], 9⟩)] [] (calls_cons (spans_told_r_spec K y_120 r_72 h_73) (by kernel_rfl) calls_nil) 8 [4, 5] [8] ⟨[(4, .c (.h 8)), (5, .c (.val (.int .i64 r_72.2.1)))], [(8, .row (.pair (.int .i64) (.pair (.int .i64) (.int .i64))) r_72.1)], 9⟩ [] (by kernel_rfl) rfl rfl ap0 (by kernel_rfl) (by kernel_rfl) ?_
          have H_127 := Option.some.inj (show some (r_72.1, r_72.2.1) = some r from H_126); subst H_127
          refine VL_ret ?_
          exact P_to [(4, .c (.h 9)), (5, .c (.val (.int .i64 r_72.2.1)))] [(9, .row (.pair (.int .i64) (.pair (.int .i64) (.int .i64))) r_72.1)] [(9, 8)] hn (by kernel_rfl) (by kernel_rfl) rfl rfl rfl (QF_retS (by kernel_rfl) (by kernel_rfl) rfl)

theorem palinoderef15_Is_spec (K : Nat) (l_1 : (List (Int × (Int × Int)))) (n_2 : Int) (r : Bool) (H : palinoderef15_Is K l_1 n_2 = some r) : Spec Try.prog 20 0 [.c (.imm (.slice (.pair (.int .i64) (.pair (.int .i64) (.int .i64)))) l_1), .c (.val (.int .i64 n_2))] [] (.c (.val (.bool r))) [] := by
  refine Spec_mk (fn := Try.f20) (c := (Try.f20.body).get!) Try.func20 (by kernel_rfl) rfl ?_
  intro C hN hn
  replace hN : C.N = 70 := hN
  unfold palinoderef15_Is at H
  refine V_run hN hn 5 0 [0, 1, 11] [] ⟨[(0, .c (.imm (.slice (.pair (.int .i64) (.pair (.int .i64) (.int .i64)))) l_1)), (1, .c (.val (.int .i64 n_2))), (11, .c (.val (.bool (decide ((((List.length l_1) : Nat) : Int) > (60 : Int))))))], [], 0⟩ [] (by kernel_rfl) rfl rfl ap0 ?_
  refine VL_cond ((decide ((((List.length l_1) : Nat) : Int) > (60 : Int)))) (by kernel_rfl) ?_ ?_
  · intro b_4; have H_40 := of_t H b_4
    refine V_run hN hn 2 0 [4] [] ⟨[(4, .c (.val (.bool false)))], [], 0⟩ [] (by kernel_rfl) rfl rfl ap0 ?_
    have H_42 := Option.some.inj (show some false = some r from H_40); subst H_42
    refine VL_ret ?_
    exact P_to [(4, .c (.val (.bool false)))] [] [] hn (by kernel_rfl) (by kernel_rfl) rfl rfl rfl (QF_retS (by kernel_rfl) (by kernel_rfl) rfl)
  · intro b_4; have H_41 := of_f H b_4
    refine V_run hN hn 6 0 [0, 1, 5, 6, 7] [] ⟨[(0, .c (.imm (.slice (.pair (.int .i64) (.pair (.int .i64) (.int .i64)))) l_1)), (1, .c (.val (.int .i64 n_2))), (5, .c (.val (.int .i64 (0 : Int)))), (6, .c (.val (.int .i64 (0 : Int)))), (7, .c (.val (.int .i64 (0 : Int))))], [], 0⟩ [] (by kernel_rfl) rfl rfl ap0 ?_
    refine VL_block ?_
    refine V_to [(0, .c (.imm (.slice (.pair (.int .i64) (.pair (.int .i64) (.int .i64)))) l_1)), (1, .c (.val (.int .i64 n_2))), (5, .c (.val (.int .i64 (0 : Int)))), (6, .c (.val (.int .i64 (0 : Int)))), (7, .c (.val (.int .i64 (0 : Int))))] [] [] hn (by kernel_rfl) (by kernel_rfl) rfl rfl rfl ?_
    refine VL_loop (X := (Int × Int × Int)) (fun x => [(0, .c (.imm (.slice (.pair (.int .i64) (.pair (.int .i64) (.int .i64)))) l_1)), (1, .c (.val (.int .i64 n_2))), (5, .c (.val (.int .i64 x.1))), (6, .c (.val (.int .i64 x.2.1))), (7, .c (.val (.int .i64 x.2.2)))]) (fun x => []) (fun k x => palinoderef15_Is.l0 K l_1 n_2 k x.1 x.2.1 x.2.2 = some r) K ((0 : Int), (0 : Int), (0 : Int)) H_41 (fun _ h => no_none h) ?_
    intro k_10 x_10 H_43
    obtain ⟨last_7, style_8, i_9⟩ := x_10
    have H_44 : palinoderef15_Is.l0 K l_1 n_2 (k_10 + 1) last_7 style_8 i_9 = some r := H_43
    rw [palinoderef15_Is.l0] at H_44
    refine V_run hN hn 3 0 [0, 1, 5, 6, 7, 15] [] ⟨[(0, .c (.imm (.slice (.pair (.int .i64) (.pair (.int .i64) (.int .i64)))) l_1)), (1, .c (.val (.int .i64 n_2))), (5, .c (.val (.int .i64 last_7))), (6, .c (.val (.int .i64 style_8))), (7, .c (.val (.int .i64 i_9))), (15, .c (.val (.bool (decide (i_9 < (((List.length l_1) : Nat) : Int))))))], [], 0⟩ [] (by kernel_rfl) rfl rfl ap0 ?_
    refine VL_cond ((decide (i_9 < (((List.length l_1) : Nat) : Int)))) (by kernel_rfl) ?_ ?_
    · intro b_12; have H_45 := of_t H_44 b_12
      refine V_run hN hn 2 0 [0, 1, 5, 6, 7, 15] [] ⟨[(0, .c (.imm (.slice (.pair (.int .i64) (.pair (.int .i64) (.int .i64)))) l_1)), (1, .c (.val (.int .i64 n_2))), (5, .c (.val (.int .i64 last_7))), (6, .c (.val (.int .i64 style_8))), (7, .c (.val (.int .i64 i_9))), (15, .c (.val (.bool (decide (i_9 < (((List.length l_1) : Nat) : Int))))))], [], 0⟩ [] (by kernel_rfl) rfl rfl ap0 ?_
      refine VL_block ?_
      obtain ⟨c_14, H_47⟩ := of_if H_45
      refine V_run hN hn 4 0 [0, 1, 5, 6, 7, 8] [0] ⟨[(0, .c (.imm (.slice (.pair (.int .i64) (.pair (.int .i64) (.int .i64)))) l_1)), (1, .c (.val (.int .i64 n_2))), (5, .c (.val (.int .i64 last_7))), (6, .c (.val (.int .i64 style_8))), (7, .c (.val (.int .i64 i_9))), (8, .c (.h 0))], [(0, .box [.val (.int .i64 (List.getD l_1 (Int.toNat i_9) ((0 : Int), ((0 : Int), (0 : Int)))).1), .val (.int .i64 (List.getD l_1 (Int.toNat i_9) ((0 : Int), ((0 : Int), (0 : Int)))).2.1), .val (.int .i64 (List.getD l_1 (Int.toNat i_9) ((0 : Int), ((0 : Int), (0 : Int)))).2.2)])], 1⟩ [0 ≤ i_9, i_9 < (((List.length l_1) : Nat) : Int)] (by kernel_rfl) rfl rfl (ap2 c_14.1 (ap1 c_14.2)) ?_
      obtain ⟨q_48, H_49, H_50⟩ := of_bind H_47
      refine V_cut (Y := Bool) (R := Bool) q_48 (fun y => y) (fun y => [(0, .c (.imm (.slice (.pair (.int .i64) (.pair (.int .i64) (.int .i64)))) l_1)), (1, .c (.val (.int .i64 n_2))), (7, .c (.val (.int .i64 i_9))), (8, .c (.h 0)), (65, .c (.val (.bool y)))]) (fun y => [(0, .box [.val (.int .i64 (List.getD l_1 (Int.toNat i_9) ((0 : Int), ((0 : Int), (0 : Int)))).1), .val (.int .i64 (List.getD l_1 (Int.toNat i_9) ((0 : Int), ((0 : Int), (0 : Int)))).2.1), .val (.int .i64 (List.getD l_1 (Int.toNat i_9) ((0 : Int), ((0 : Int), (0 : Int)))).2.2)])]) ?_ ?_
      · skip
        rcases Bool.eq_false_or_eq_true ((decide ((List.getD l_1 (Int.toNat i_9) ((0 : Int), ((0 : Int), (0 : Int)))).2.2 < (1 : Int)))) with b_15 | b_15
        · have H_52 := of_t H_49 b_15
          refine V_reg hN hn [] [(25, true)] calls_nil 1 [0, 1, 7, 8, 65] [0] ⟨[(0, .c (.imm (.slice (.pair (.int .i64) (.pair (.int .i64) (.int .i64)))) l_1)), (1, .c (.val (.int .i64 n_2))), (7, .c (.val (.int .i64 i_9))), (8, .c (.h 0)), (65, .c (.val (.bool true)))], [(0, .box [.val (.int .i64 (List.getD l_1 (Int.toNat i_9) ((0 : Int), ((0 : Int), (0 : Int)))).1), .val (.int .i64 (List.getD l_1 (Int.toNat i_9) ((0 : Int), ((0 : Int), (0 : Int)))).2.1), .val (.int .i64 (List.getD l_1 (Int.toNat i_9) ((0 : Int), ((0 : Int), (0 : Int)))).2.2)])], 1⟩ [(decide ((List.getD l_1 (Int.toNat i_9) ((0 : Int), ((0 : Int), (0 : Int)))).2.2 < (1 : Int))) = true] (by kernel_rfl) rfl rfl (ap1 b_15) (by kernel_rfl) (by kernel_rfl) ?_
          have H_54 := Option.some.inj (show some true = some q_48 from H_52); subst H_54
          refine VL_nil ?_
          exact QP_end true rfl [(0, 0)] hn (by kernel_rfl) (by kernel_rfl) rfl rfl rfl
        · have H_53 := of_f H_49 b_15
          rcases Bool.eq_false_or_eq_true ((decide ((List.getD l_1 (Int.toNat i_9) ((0 : Int), ((0 : Int), (0 : Int)))).2.2 > (100 : Int)))) with b_17 | b_17
          · have H_55 := of_t H_53 b_17
            refine V_reg hN hn [] [(25, false), (30, true)] calls_nil 1 [0, 1, 7, 8, 65] [0] ⟨[(0, .c (.imm (.slice (.pair (.int .i64) (.pair (.int .i64) (.int .i64)))) l_1)), (1, .c (.val (.int .i64 n_2))), (7, .c (.val (.int .i64 i_9))), (8, .c (.h 0)), (65, .c (.val (.bool true)))], [(0, .box [.val (.int .i64 (List.getD l_1 (Int.toNat i_9) ((0 : Int), ((0 : Int), (0 : Int)))).1), .val (.int .i64 (List.getD l_1 (Int.toNat i_9) ((0 : Int), ((0 : Int), (0 : Int)))).2.1), .val (.int .i64 (List.getD l_1 (Int.toNat i_9) ((0 : Int), ((0 : Int), (0 : Int)))).2.2)])], 1⟩ [(decide ((List.getD l_1 (Int.toNat i_9) ((0 : Int), ((0 : Int), (0 : Int)))).2.2 < (1 : Int))) = false, (decide ((List.getD l_1 (Int.toNat i_9) ((0 : Int), ((0 : Int), (0 : Int)))).2.2 > (100 : Int))) = true] (by kernel_rfl) rfl rfl (ap2 b_15 (ap1 b_17)) (by kernel_rfl) (by kernel_rfl) ?_
            have H_57 := Option.some.inj (show some true = some q_48 from H_55); subst H_57
            refine VL_nil ?_
            exact QP_end true rfl [(0, 0)] hn (by kernel_rfl) (by kernel_rfl) rfl rfl rfl
          · have H_56 := of_f H_53 b_17
            rcases Bool.eq_false_or_eq_true ((decide ((List.getD l_1 (Int.toNat i_9) ((0 : Int), ((0 : Int), (0 : Int)))).1 < last_7))) with b_19 | b_19
            · have H_58 := of_t H_56 b_19
              refine V_reg hN hn [] [(25, false), (30, false), (36, true)] calls_nil 1 [0, 1, 7, 8, 65] [0] ⟨[(0, .c (.imm (.slice (.pair (.int .i64) (.pair (.int .i64) (.int .i64)))) l_1)), (1, .c (.val (.int .i64 n_2))), (7, .c (.val (.int .i64 i_9))), (8, .c (.h 0)), (65, .c (.val (.bool true)))], [(0, .box [.val (.int .i64 (List.getD l_1 (Int.toNat i_9) ((0 : Int), ((0 : Int), (0 : Int)))).1), .val (.int .i64 (List.getD l_1 (Int.toNat i_9) ((0 : Int), ((0 : Int), (0 : Int)))).2.1), .val (.int .i64 (List.getD l_1 (Int.toNat i_9) ((0 : Int), ((0 : Int), (0 : Int)))).2.2)])], 1⟩ [(decide ((List.getD l_1 (Int.toNat i_9) ((0 : Int), ((0 : Int), (0 : Int)))).2.2 < (1 : Int))) = false, (decide ((List.getD l_1 (Int.toNat i_9) ((0 : Int), ((0 : Int), (0 : Int)))).2.2 > (100 : Int))) = false, (decide ((List.getD l_1 (Int.toNat i_9) ((0 : Int), ((0 : Int), (0 : Int)))).1 < last_7)) = true] (by kernel_rfl) rfl rfl (ap2 b_15 (ap2 b_17 (ap1 b_19))) (by kernel_rfl) (by kernel_rfl) ?_
              have H_60 := Option.some.inj (show some true = some q_48 from H_58); subst H_60
              refine VL_nil ?_
              exact QP_end true rfl [(0, 0)] hn (by kernel_rfl) (by kernel_rfl) rfl rfl rfl
            · have H_59 := of_f H_56 b_19
              rcases Bool.eq_false_or_eq_true ((decide ((List.getD l_1 (Int.toNat i_9) ((0 : Int), ((0 : Int), (0 : Int)))).2.1 ≤ (List.getD l_1 (Int.toNat i_9) ((0 : Int), ((0 : Int), (0 : Int)))).1))) with b_21 | b_21
              · have H_61 := of_t H_59 b_21
                refine V_reg hN hn [] [(25, false), (30, false), (36, false), (43, true)] calls_nil 1 [0, 1, 7, 8, 65] [0] ⟨[(0, .c (.imm (.slice (.pair (.int .i64) (.pair (.int .i64) (.int .i64)))) l_1)), (1, .c (.val (.int .i64 n_2))), (7, .c (.val (.int .i64 i_9))), (8, .c (.h 0)), (65, .c (.val (.bool true)))], [(0, .box [.val (.int .i64 (List.getD l_1 (Int.toNat i_9) ((0 : Int), ((0 : Int), (0 : Int)))).1), .val (.int .i64 (List.getD l_1 (Int.toNat i_9) ((0 : Int), ((0 : Int), (0 : Int)))).2.1), .val (.int .i64 (List.getD l_1 (Int.toNat i_9) ((0 : Int), ((0 : Int), (0 : Int)))).2.2)])], 1⟩ [(decide ((List.getD l_1 (Int.toNat i_9) ((0 : Int), ((0 : Int), (0 : Int)))).2.2 < (1 : Int))) = false, (decide ((List.getD l_1 (Int.toNat i_9) ((0 : Int), ((0 : Int), (0 : Int)))).2.2 > (100 : Int))) = false, (decide ((List.getD l_1 (Int.toNat i_9) ((0 : Int), ((0 : Int), (0 : Int)))).1 < last_7)) = false, (decide ((List.getD l_1 (Int.toNat i_9) ((0 : Int), ((0 : Int), (0 : Int)))).2.1 ≤ (List.getD l_1 (Int.toNat i_9) ((0 : Int), ((0 : Int), (0 : Int)))).1)) = true] (by kernel_rfl) rfl rfl (ap2 b_15 (ap2 b_17 (ap2 b_19 (ap1 b_21)))) (by kernel_rfl) (by kernel_rfl) ?_
                have H_63 := Option.some.inj (show some true = some q_48 from H_61); subst H_63
                refine VL_nil ?_
                exact QP_end true rfl [(0, 0)] hn (by kernel_rfl) (by kernel_rfl) rfl rfl rfl
              · have H_62 := of_f H_59 b_21
                rcases Bool.eq_false_or_eq_true ((decide ((List.getD l_1 (Int.toNat i_9) ((0 : Int), ((0 : Int), (0 : Int)))).2.1 > (mn2 n_2 (20000 : Int))))) with b_23 | b_23
                · have H_64 := of_t H_62 b_23
                  refine V_reg hN hn [] [(25, false), (30, false), (36, false), (43, false), (50, true)] calls_nil 1 [0, 1, 7, 8, 65] [0] ⟨[(0, .c (.imm (.slice (.pair (.int .i64) (.pair (.int .i64) (.int .i64)))) l_1)), (1, .c (.val (.int .i64 n_2))), (7, .c (.val (.int .i64 i_9))), (8, .c (.h 0)), (65, .c (.val (.bool true)))], [(0, .box [.val (.int .i64 (List.getD l_1 (Int.toNat i_9) ((0 : Int), ((0 : Int), (0 : Int)))).1), .val (.int .i64 (List.getD l_1 (Int.toNat i_9) ((0 : Int), ((0 : Int), (0 : Int)))).2.1), .val (.int .i64 (List.getD l_1 (Int.toNat i_9) ((0 : Int), ((0 : Int), (0 : Int)))).2.2)])], 1⟩ [(decide ((List.getD l_1 (Int.toNat i_9) ((0 : Int), ((0 : Int), (0 : Int)))).2.2 < (1 : Int))) = false, (decide ((List.getD l_1 (Int.toNat i_9) ((0 : Int), ((0 : Int), (0 : Int)))).2.2 > (100 : Int))) = false, (decide ((List.getD l_1 (Int.toNat i_9) ((0 : Int), ((0 : Int), (0 : Int)))).1 < last_7)) = false, (decide ((List.getD l_1 (Int.toNat i_9) ((0 : Int), ((0 : Int), (0 : Int)))).2.1 ≤ (List.getD l_1 (Int.toNat i_9) ((0 : Int), ((0 : Int), (0 : Int)))).1)) = false, (decide ((List.getD l_1 (Int.toNat i_9) ((0 : Int), ((0 : Int), (0 : Int)))).2.1 > (mn2 n_2 (20000 : Int)))) = true] (by kernel_rfl) rfl rfl (ap2 b_15 (ap2 b_17 (ap2 b_19 (ap2 b_21 (ap1 b_23))))) (by kernel_rfl) (by kernel_rfl) ?_
                  have H_66 := Option.some.inj (show some true = some q_48 from H_64); subst H_66
                  refine VL_nil ?_
                  exact QP_end true rfl [(0, 0)] hn (by kernel_rfl) (by kernel_rfl) rfl rfl rfl
                · have H_65 := of_f H_62 b_23
                  rcases Bool.eq_false_or_eq_true ((decide (i_9 > (0 : Int)))) with b_25 | b_25
                  · have H_67 := of_t H_65 b_25
                    rcases Bool.eq_false_or_eq_true (((List.getD l_1 (Int.toNat i_9) ((0 : Int), ((0 : Int), (0 : Int)))).1 == last_7)) with b_26 | b_26
                    · have H_69 := of_t H_67 b_26
                      refine V_reg hN hn [] [(25, false), (30, false), (36, false), (43, false), (50, false), (53, true), (59, true)] calls_nil 1 [0, 1, 7, 8, 65] [0] ⟨[(0, .c (.imm (.slice (.pair (.int .i64) (.pair (.int .i64) (.int .i64)))) l_1)), (1, .c (.val (.int .i64 n_2))), (7, .c (.val (.int .i64 i_9))), (8, .c (.h 0)), (65, .c (.val (.bool ((List.getD l_1 (Int.toNat i_9) ((0 : Int), ((0 : Int), (0 : Int)))).2.2 == style_8))))], [(0, .box [.val (.int .i64 (List.getD l_1 (Int.toNat i_9) ((0 : Int), ((0 : Int), (0 : Int)))).1), .val (.int .i64 (List.getD l_1 (Int.toNat i_9) ((0 : Int), ((0 : Int), (0 : Int)))).2.1), .val (.int .i64 (List.getD l_1 (Int.toNat i_9) ((0 : Int), ((0 : Int), (0 : Int)))).2.2)])], 1⟩ [(decide ((List.getD l_1 (Int.toNat i_9) ((0 : Int), ((0 : Int), (0 : Int)))).2.2 < (1 : Int))) = false, (decide ((List.getD l_1 (Int.toNat i_9) ((0 : Int), ((0 : Int), (0 : Int)))).2.2 > (100 : Int))) = false, (decide ((List.getD l_1 (Int.toNat i_9) ((0 : Int), ((0 : Int), (0 : Int)))).1 < last_7)) = false, (decide ((List.getD l_1 (Int.toNat i_9) ((0 : Int), ((0 : Int), (0 : Int)))).2.1 ≤ (List.getD l_1 (Int.toNat i_9) ((0 : Int), ((0 : Int), (0 : Int)))).1)) = false, (decide ((List.getD l_1 (Int.toNat i_9) ((0 : Int), ((0 : Int), (0 : Int)))).2.1 > (mn2 n_2 (20000 : Int)))) = false, (decide (i_9 > (0 : Int))) = true, ((List.getD l_1 (Int.toNat i_9) ((0 : Int), ((0 : Int), (0 : Int)))).1 == last_7) = true] (by kernel_rfl) rfl rfl (ap2 b_15 (ap2 b_17 (ap2 b_19 (ap2 b_21 (ap2 b_23 (ap2 b_25 (ap1 b_26))))))) (by kernel_rfl) (by kernel_rfl) ?_
                      have H_71 := Option.some.inj (show some ((List.getD l_1 (Int.toNat i_9) ((0 : Int), ((0 : Int), (0 : Int)))).2.2 == style_8) = some q_48 from H_69); subst H_71
                      refine VL_nil ?_
                      exact QP_end ((List.getD l_1 (Int.toNat i_9) ((0 : Int), ((0 : Int), (0 : Int)))).2.2 == style_8) rfl [(0, 0)] hn (by kernel_rfl) (by kernel_rfl) rfl rfl rfl
                    · have H_70 := of_f H_67 b_26
                      refine V_reg hN hn [] [(25, false), (30, false), (36, false), (43, false), (50, false), (53, true), (59, false)] calls_nil 1 [0, 1, 7, 8, 65] [0] ⟨[(0, .c (.imm (.slice (.pair (.int .i64) (.pair (.int .i64) (.int .i64)))) l_1)), (1, .c (.val (.int .i64 n_2))), (7, .c (.val (.int .i64 i_9))), (8, .c (.h 0)), (65, .c (.val (.bool false)))], [(0, .box [.val (.int .i64 (List.getD l_1 (Int.toNat i_9) ((0 : Int), ((0 : Int), (0 : Int)))).1), .val (.int .i64 (List.getD l_1 (Int.toNat i_9) ((0 : Int), ((0 : Int), (0 : Int)))).2.1), .val (.int .i64 (List.getD l_1 (Int.toNat i_9) ((0 : Int), ((0 : Int), (0 : Int)))).2.2)])], 1⟩ [(decide ((List.getD l_1 (Int.toNat i_9) ((0 : Int), ((0 : Int), (0 : Int)))).2.2 < (1 : Int))) = false, (decide ((List.getD l_1 (Int.toNat i_9) ((0 : Int), ((0 : Int), (0 : Int)))).2.2 > (100 : Int))) = false, (decide ((List.getD l_1 (Int.toNat i_9) ((0 : Int), ((0 : Int), (0 : Int)))).1 < last_7)) = false, (decide ((List.getD l_1 (Int.toNat i_9) ((0 : Int), ((0 : Int), (0 : Int)))).2.1 ≤ (List.getD l_1 (Int.toNat i_9) ((0 : Int), ((0 : Int), (0 : Int)))).1)) = false, (decide ((List.getD l_1 (Int.toNat i_9) ((0 : Int), ((0 : Int), (0 : Int)))).2.1 > (mn2 n_2 (20000 : Int)))) = false, (decide (i_9 > (0 : Int))) = true, ((List.getD l_1 (Int.toNat i_9) ((0 : Int), ((0 : Int), (0 : Int)))).1 == last_7) = false] (by kernel_rfl) rfl rfl (ap2 b_15 (ap2 b_17 (ap2 b_19 (ap2 b_21 (ap2 b_23 (ap2 b_25 (ap1 b_26))))))) (by kernel_rfl) (by kernel_rfl) ?_
                      have H_72 := Option.some.inj (show some false = some q_48 from H_70); subst H_72
                      refine VL_nil ?_
                      exact QP_end false rfl [(0, 0)] hn (by kernel_rfl) (by kernel_rfl) rfl rfl rfl
                  · have H_68 := of_f H_65 b_25
                    refine V_reg hN hn [] [(25, false), (30, false), (36, false), (43, false), (50, false), (53, false)] calls_nil 1 [0, 1, 7, 8, 65] [0] ⟨[(0, .c (.imm (.slice (.pair (.int .i64) (.pair (.int .i64) (.int .i64)))) l_1)), (1, .c (.val (.int .i64 n_2))), (7, .c (.val (.int .i64 i_9))), (8, .c (.h 0)), (65, .c (.val (.bool false)))], [(0, .box [.val (.int .i64 (List.getD l_1 (Int.toNat i_9) ((0 : Int), ((0 : Int), (0 : Int)))).1), .val (.int .i64 (List.getD l_1 (Int.toNat i_9) ((0 : Int), ((0 : Int), (0 : Int)))).2.1), .val (.int .i64 (List.getD l_1 (Int.toNat i_9) ((0 : Int), ((0 : Int), (0 : Int)))).2.2)])], 1⟩ [(decide ((List.getD l_1 (Int.toNat i_9) ((0 : Int), ((0 : Int), (0 : Int)))).2.2 < (1 : Int))) = false, (decide ((List.getD l_1 (Int.toNat i_9) ((0 : Int), ((0 : Int), (0 : Int)))).2.2 > (100 : Int))) = false, (decide ((List.getD l_1 (Int.toNat i_9) ((0 : Int), ((0 : Int), (0 : Int)))).1 < last_7)) = false, (decide ((List.getD l_1 (Int.toNat i_9) ((0 : Int), ((0 : Int), (0 : Int)))).2.1 ≤ (List.getD l_1 (Int.toNat i_9) ((0 : Int), ((0 : Int), (0 : Int)))).1)) = false, (decide ((List.getD l_1 (Int.toNat i_9) ((0 : Int), ((0 : Int), (0 : Int)))).2.1 > (mn2 n_2 (20000 : Int)))) = false, (decide (i_9 > (0 : Int))) = false] (by kernel_rfl) rfl rfl (ap2 b_15 (ap2 b_17 (ap2 b_19 (ap2 b_21 (ap2 b_23 (ap1 b_25)))))) (by kernel_rfl) (by kernel_rfl) ?_
                    have H_73 := Option.some.inj (show some false = some q_48 from H_68); subst H_73
                    refine VL_nil ?_
                    exact QP_end false rfl [(0, 0)] hn (by kernel_rfl) (by kernel_rfl) rfl rfl rfl
      · intro y_51 hy; subst hy
        skip
        skip
        refine VL_cond (y_51) (by kernel_rfl) ?_ ?_
        · intro b_31; have H_74 := of_t H_50 b_31
          refine V_run hN hn 2 1 [4] [] ⟨[(4, .c (.val (.bool false)))], [], 1⟩ [] (by kernel_rfl) rfl rfl ap0 ?_
          have H_76 := Option.some.inj (show some false = some r from H_74); subst H_76
          refine VL_ret ?_
          refine QB_ret ?_
          refine QL_ret ?_
          refine QB_ret ?_
          exact P_to [(4, .c (.val (.bool false)))] [] [] hn (by kernel_rfl) (by kernel_rfl) rfl rfl rfl (QF_retS (by kernel_rfl) (by kernel_rfl) rfl)
        · intro b_31; have H_75 := of_f H_50 b_31
          refine V_run hN hn 1 1 [0, 1, 7, 8, 65] [0] ⟨[(0, .c (.imm (.slice (.pair (.int .i64) (.pair (.int .i64) (.int .i64)))) l_1)), (1, .c (.val (.int .i64 n_2))), (7, .c (.val (.int .i64 i_9))), (8, .c (.h 0)), (65, .c (.val (.bool y_51)))], [(0, .box [.val (.int .i64 (List.getD l_1 (Int.toNat i_9) ((0 : Int), ((0 : Int), (0 : Int)))).1), .val (.int .i64 (List.getD l_1 (Int.toNat i_9) ((0 : Int), ((0 : Int), (0 : Int)))).2.1), .val (.int .i64 (List.getD l_1 (Int.toNat i_9) ((0 : Int), ((0 : Int), (0 : Int)))).2.2)])], 1⟩ [] (by kernel_rfl) rfl rfl ap0 ?_
          refine V_draw hN hn (by kernel_rfl) [] [] calls_nil 1 [0, 1, 5, 6, 7] [] ⟨[(0, .c (.imm (.slice (.pair (.int .i64) (.pair (.int .i64) (.int .i64)))) l_1)), (1, .c (.val (.int .i64 n_2))), (5, .c (.val (.int .i64 (List.getD l_1 (Int.toNat i_9) ((0 : Int), ((0 : Int), (0 : Int)))).2.1))), (6, .c (.val (.int .i64 (List.getD l_1 (Int.toNat i_9) ((0 : Int), ((0 : Int), (0 : Int)))).2.2))), (7, .c (.val (.int .i64 i_9)))], [], 1⟩ [] (by kernel_rfl) rfl rfl ap0 (by kernel_rfl) (by kernel_rfl) ?_
          refine VL_nil (QB_end ?_)
          refine V_run hN hn 1 1 [0, 1, 5, 6, 7] [] ⟨[(0, .c (.imm (.slice (.pair (.int .i64) (.pair (.int .i64) (.int .i64)))) l_1)), (1, .c (.val (.int .i64 n_2))), (5, .c (.val (.int .i64 (List.getD l_1 (Int.toNat i_9) ((0 : Int), ((0 : Int), (0 : Int)))).2.1))), (6, .c (.val (.int .i64 (List.getD l_1 (Int.toNat i_9) ((0 : Int), ((0 : Int), (0 : Int)))).2.2))), (7, .c (.val (.int .i64 (IntKind.wrap .i64 (i_9 + (1 : Int))))))], [], 1⟩ [] (by kernel_rfl) rfl rfl ap0 ?_
          refine VL_nil ?_
          exact V_roundEnd ((List.getD l_1 (Int.toNat i_9) ((0 : Int), ((0 : Int), (0 : Int)))).2.1, (List.getD l_1 (Int.toNat i_9) ((0 : Int), ((0 : Int), (0 : Int)))).2.2, (IntKind.wrap .i64 (i_9 + (1 : Int)))) H_75 [] hn (by kernel_rfl) (by kernel_rfl) rfl rfl rfl
    · intro b_12; have H_46 := of_f H_44 b_12
      refine VL_exit ?_
      refine QL_exit ?_
      refine QB_here ?_
      refine V_run hN hn 2 0 [4] [] ⟨[(4, .c (.val (.bool true)))], [], 0⟩ [] (by kernel_rfl) rfl rfl ap0 ?_
      have H_77 := Option.some.inj (show some true = some r from H_46); subst H_77
      refine VL_ret ?_
      exact P_to [(4, .c (.val (.bool true)))] [] [] hn (by kernel_rfl) (by kernel_rfl) rfl rfl rfl (QF_retS (by kernel_rfl) (by kernel_rfl) rfl)

theorem palinoderef15_fewest_r_spec (K : Nat) (l_1 : (List (Int × (Int × Int)))) (r : (List (Int × (Int × Int)))) (H : palinoderef15_fewest_r K l_1 = some r) : Spec Try.prog 27 1 [.c (.h 0)] [(0, .row (.pair (.int .i64) (.pair (.int .i64) (.int .i64))) l_1)] (.c (.h 4)) [(0, .row (.pair (.int .i64) (.pair (.int .i64) (.int .i64))) l_1), (4, .row (.pair (.int .i64) (.pair (.int .i64) (.int .i64))) r)] := by
  refine Spec_mk (fn := Try.f27) (c := (Try.f27.body).get!) Try.func27 (by kernel_rfl) rfl ?_
  intro C hN hn
  replace hN : C.N = 83 := hN
  unfold palinoderef15_fewest_r at H
  refine V_run hN hn 7 1 [0, 3, 4] [0] ⟨[(0, .c (.h 0)), (3, .c (.val (.slice none 0 0))), (4, .c (.val (.int .i64 (0 : Int))))], [(0, .row (.pair (.int .i64) (.pair (.int .i64) (.int .i64))) l_1)], 1⟩ [] (by kernel_rfl) rfl rfl ap0 ?_
  refine VL_block ?_
  refine V_ghost [.nilSlot 3 (.pair (.int .i64) (.pair (.int .i64) (.int .i64)))] 1 hn [0, 3, 4] [0, 1] ⟨[(0, .c (.h 0)), (3, .c (.h 1)), (4, .c (.val (.int .i64 (0 : Int))))], [(0, .row (.pair (.int .i64) (.pair (.int .i64) (.int .i64))) l_1), (1, .row (.pair (.int .i64) (.pair (.int .i64) (.int .i64))) ([] : List (Int × (Int × Int))))], 2⟩ (by kernel_rfl) rfl rfl ?_
  refine V_to [(0, .c (.h 0)), (3, .c (.h 4)), (4, .c (.val (.int .i64 (0 : Int))))] [(0, .row (.pair (.int .i64) (.pair (.int .i64) (.int .i64))) l_1), (4, .row (.pair (.int .i64) (.pair (.int .i64) (.int .i64))) ([] : List (Int × (Int × Int))))] [(4, 1)] hn (by kernel_rfl) (by kernel_rfl) rfl rfl rfl ?_
  refine VL_loop (X := ((List (Int × (Int × Int))) × Int)) (fun x => [(0, .c (.h 0)), (3, .c (.h 4)), (4, .c (.val (.int .i64 x.2)))]) (fun x => [(0, .row (.pair (.int .i64) (.pair (.int .i64) (.int .i64))) l_1), (4, .row (.pair (.int .i64) (.pair (.int .i64) (.int .i64))) x.1)]) (fun k x => palinoderef15_fewest_r.l0 K l_1 k x.1 x.2 = some r) K (([] : List (Int × (Int × Int))), (0 : Int)) H (fun _ h => no_none h) ?_
  intro k_31 x_31 H_62
  obtain ⟨out_30, i_3⟩ := x_31
  have H_63 : palinoderef15_fewest_r.l0 K l_1 (k_31 + 1) out_30 i_3 = some r := H_62
  rw [palinoderef15_fewest_r.l0] at H_63
  refine V_run hN hn 3 5 [0, 3, 4, 9] [0, 4] ⟨[(0, .c (.h 0)), (3, .c (.h 4)), (4, .c (.val (.int .i64 i_3))), (9, .c (.val (.bool (decide (i_3 < (((List.length l_1) : Nat) : Int))))))], [(0, .row (.pair (.int .i64) (.pair (.int .i64) (.int .i64))) l_1), (4, .row (.pair (.int .i64) (.pair (.int .i64) (.int .i64))) out_30)], 5⟩ [] (by kernel_rfl) rfl rfl ap0 ?_
  refine VL_cond ((decide (i_3 < (((List.length l_1) : Nat) : Int)))) (by kernel_rfl) ?_ ?_
  · intro b_33; have H_64 := of_t H_63 b_33
    refine V_run hN hn 2 5 [0, 3, 4, 9] [0, 4] ⟨[(0, .c (.h 0)), (3, .c (.h 4)), (4, .c (.val (.int .i64 i_3))), (9, .c (.val (.bool (decide (i_3 < (((List.length l_1) : Nat) : Int))))))], [(0, .row (.pair (.int .i64) (.pair (.int .i64) (.int .i64))) l_1), (4, .row (.pair (.int .i64) (.pair (.int .i64) (.int .i64))) out_30)], 5⟩ [] (by kernel_rfl) rfl rfl ap0 ?_
    refine VL_block ?_
    refine V_run hN hn 2 5 [0, 3, 4, 5] [0, 4] ⟨[(0, .c (.h 0)), (3, .c (.h 4)), (4, .c (.val (.int .i64 i_3))), (5, .c (.val (.int .i64 (((List.length out_30) : Nat) : Int))))], [(0, .row (.pair (.int .i64) (.pair (.int .i64) (.int .i64))) l_1), (4, .row (.pair (.int .i64) (.pair (.int .i64) (.int .i64))) out_30)], 5⟩ [] (by kernel_rfl) rfl rfl ap0 ?_
    refine VL_block ?_
    refine V_run hN hn 1 5 [0, 3, 4, 5] [0, 4] ⟨[(0, .c (.h 0)), (3, .c (.h 4)), (4, .c (.val (.int .i64 i_3))), (5, .c (.val (.int .i64 (((List.length out_30) : Nat) : Int))))], [(0, .row (.pair (.int .i64) (.pair (.int .i64) (.int .i64))) l_1), (4, .row (.pair (.int .i64) (.pair (.int .i64) (.int .i64))) out_30)], 5⟩ [] (by kernel_rfl) rfl rfl ap0 ?_
    obtain ⟨q_66, H_67, H_68⟩ := of_bind H_64
    refine V_cut (Y := Bool) (R := Bool) q_66 (fun y => y) (fun y => [(0, .c (.h 0)), (3, .c (.h 4)), (4, .c (.val (.int .i64 i_3))), (5, .c (.val (.int .i64 (((List.length out_30) : Nat) : Int)))), (21, .c (.val (.bool y)))]) (fun y => [(0, .row (.pair (.int .i64) (.pair (.int .i64) (.int .i64))) l_1), (4, .row (.pair (.int .i64) (.pair (.int .i64) (.int .i64))) out_30)]) ?_ ?_
    · skip
      rcases Bool.eq_false_or_eq_true ((decide ((List.getD l_1 (Int.toNat i_3) ((0 : Int), ((0 : Int), (0 : Int)))).2.1 ≤ (List.getD l_1 (Int.toNat i_3) ((0 : Int), ((0 : Int), (0 : Int)))).1))) with b_37 | b_37
      · have H_70 := of_t H_67 b_37
        obtain ⟨c_38, H_72⟩ := of_if H_70
        refine V_draw hN hn (by kernel_rfl) [] [(33, true)] calls_nil 5 [0, 3, 4, 5, 21] [0, 4] ⟨[(0, .c (.h 0)), (3, .c (.h 4)), (4, .c (.val (.int .i64 i_3))), (5, .c (.val (.int .i64 (((List.length out_30) : Nat) : Int)))), (21, .c (.val (.bool true)))], [(0, .row (.pair (.int .i64) (.pair (.int .i64) (.int .i64))) l_1), (4, .row (.pair (.int .i64) (.pair (.int .i64) (.int .i64))) out_30)], 5⟩ [0 ≤ i_3, i_3 < (((List.length l_1) : Nat) : Int), 0 ≤ i_3, i_3 < (((List.length l_1) : Nat) : Int), (decide ((List.getD l_1 (Int.toNat i_3) ((0 : Int), ((0 : Int), (0 : Int)))).2.1 ≤ (List.getD l_1 (Int.toNat i_3) ((0 : Int), ((0 : Int), (0 : Int)))).1)) = true] (by kernel_rfl) rfl rfl (ap2 c_38.1 (ap2 c_38.2 (ap2 c_38.1 (ap2 c_38.2 (ap1 b_37))))) (by kernel_rfl) (by kernel_rfl) ?_
        have H_73 := Option.some.inj (show some true = some q_66 from H_72); subst H_73
        refine VL_nil ?_
        exact QP_end true rfl [(4, 4)] hn (by kernel_rfl) (by kernel_rfl) rfl rfl rfl
      · have H_71 := of_f H_67 b_37
        obtain ⟨c_39, H_74⟩ := of_if H_71
        refine V_draw hN hn (by kernel_rfl) [] [(33, false)] calls_nil 5 [0, 3, 4, 5, 21] [0, 4] ⟨[(0, .c (.h 0)), (3, .c (.h 4)), (4, .c (.val (.int .i64 i_3))), (5, .c (.val (.int .i64 (((List.length out_30) : Nat) : Int)))), (21, .c (.val (.bool ((List.getD l_1 (Int.toNat i_3) ((0 : Int), ((0 : Int), (0 : Int)))).2.2 == (0 : Int)))))], [(0, .row (.pair (.int .i64) (.pair (.int .i64) (.int .i64))) l_1), (4, .row (.pair (.int .i64) (.pair (.int .i64) (.int .i64))) out_30)], 5⟩ [0 ≤ i_3, i_3 < (((List.length l_1) : Nat) : Int), 0 ≤ i_3, i_3 < (((List.length l_1) : Nat) : Int), (decide ((List.getD l_1 (Int.toNat i_3) ((0 : Int), ((0 : Int), (0 : Int)))).2.1 ≤ (List.getD l_1 (Int.toNat i_3) ((0 : Int), ((0 : Int), (0 : Int)))).1)) = false, 0 ≤ i_3, i_3 < (((List.length l_1) : Nat) : Int)] (by kernel_rfl) rfl rfl (ap2 c_39.1 (ap2 c_39.2 (ap2 c_39.1 (ap2 c_39.2 (ap2 b_37 (ap2 c_39.1 (ap1 c_39.2))))))) (by kernel_rfl) (by kernel_rfl) ?_
        have H_75 := Option.some.inj (show some ((List.getD l_1 (Int.toNat i_3) ((0 : Int), ((0 : Int), (0 : Int)))).2.2 == (0 : Int)) = some q_66 from H_74); subst H_75
        refine VL_nil ?_
        exact QP_end ((List.getD l_1 (Int.toNat i_3) ((0 : Int), ((0 : Int), (0 : Int)))).2.2 == (0 : Int)) rfl [(4, 4)] hn (by kernel_rfl) (by kernel_rfl) rfl rfl rfl
    · intro y_69 hy; subst hy
      skip
      skip
      refine VL_cond (y_69) (by kernel_rfl) ?_ ?_
      · intro b_41; have H_76 := of_t H_68 b_41
        refine V_run hN hn 1 5 [0, 3, 4, 5, 21] [0, 4] ⟨[(0, .c (.h 0)), (3, .c (.h 4)), (4, .c (.val (.int .i64 i_3))), (5, .c (.val (.int .i64 (((List.length out_30) : Nat) : Int)))), (21, .c (.val (.bool y_69)))], [(0, .row (.pair (.int .i64) (.pair (.int .i64) (.int .i64))) l_1), (4, .row (.pair (.int .i64) (.pair (.int .i64) (.int .i64))) out_30)], 5⟩ [] (by kernel_rfl) rfl rfl ap0 ?_
        refine VL_nil (QB_end ?_)
        refine VL_nil (QB_end ?_)
        refine V_run hN hn 1 5 [0, 3, 4] [0, 4] ⟨[(0, .c (.h 0)), (3, .c (.h 4)), (4, .c (.val (.int .i64 (IntKind.wrap .i64 (i_3 + (1 : Int))))))], [(0, .row (.pair (.int .i64) (.pair (.int .i64) (.int .i64))) l_1), (4, .row (.pair (.int .i64) (.pair (.int .i64) (.int .i64))) out_30)], 5⟩ [] (by kernel_rfl) rfl rfl ap0 ?_
        refine VL_nil ?_
        exact V_roundEnd (out_30, (IntKind.wrap .i64 (i_3 + (1 : Int)))) H_76 [(4, 4)] hn (by kernel_rfl) (by kernel_rfl) rfl rfl rfl
      · intro b_41; have H_77 := of_f H_68 b_41
        refine V_run hN hn 1 5 [0, 3, 4, 5, 21] [0, 4] ⟨[(0, .c (.h 0)), (3, .c (.h 4)), (4, .c (.val (.int .i64 i_3))), (5, .c (.val (.int .i64 (((List.length out_30) : Nat) : Int)))), (21, .c (.val (.bool y_69)))], [(0, .row (.pair (.int .i64) (.pair (.int .i64) (.int .i64))) l_1), (4, .row (.pair (.int .i64) (.pair (.int .i64) (.int .i64))) out_30)], 5⟩ [] (by kernel_rfl) rfl rfl ap0 ?_
        obtain ⟨q_78, H_79, H_80⟩ := of_bind H_77
        refine V_cut (Y := Bool) (R := Bool) q_78 (fun y => y) (fun y => [(0, .c (.h 0)), (3, .c (.h 4)), (4, .c (.val (.int .i64 i_3))), (5, .c (.val (.int .i64 (((List.length out_30) : Nat) : Int)))), (41, .c (.val (.bool y)))]) (fun y => [(0, .row (.pair (.int .i64) (.pair (.int .i64) (.int .i64))) l_1), (4, .row (.pair (.int .i64) (.pair (.int .i64) (.int .i64))) out_30)]) ?_ ?_
        · skip
          rcases Bool.eq_false_or_eq_true ((decide ((((List.length out_30) : Nat) : Int) > (0 : Int)))) with b_45 | b_45
          · have H_82 := of_t H_79 b_45
            rcases Bool.eq_false_or_eq_true (((List.getD out_30 (Int.toNat (IntKind.wrap .i64 ((((List.length out_30) : Nat) : Int) - (1 : Int)))) ((0 : Int), ((0 : Int), (0 : Int)))).2.1 == (List.getD l_1 (Int.toNat i_3) ((0 : Int), ((0 : Int), (0 : Int)))).1)) with b_46 | b_46
            · have H_84 := of_t H_82 b_46
              obtain ⟨c_47, H_86⟩ := of_if H_84
              refine V_draw hN hn (by kernel_rfl) [] [(44, true), (58, true)] calls_nil 5 [0, 3, 4, 5, 41] [0, 4] ⟨[(0, .c (.h 0)), (3, .c (.h 4)), (4, .c (.val (.int .i64 i_3))), (5, .c (.val (.int .i64 (((List.length out_30) : Nat) : Int)))), (41, .c (.val (.bool ((List.getD out_30 (Int.toNat (IntKind.wrap .i64 ((((List.length out_30) : Nat) : Int) - (1 : Int)))) ((0 : Int), ((0 : Int), (0 : Int)))).2.2 == (List.getD l_1 (Int.toNat i_3) ((0 : Int), ((0 : Int), (0 : Int)))).2.2))))], [(0, .row (.pair (.int .i64) (.pair (.int .i64) (.int .i64))) l_1), (4, .row (.pair (.int .i64) (.pair (.int .i64) (.int .i64))) out_30)], 5⟩ [(decide ((((List.length out_30) : Nat) : Int) > (0 : Int))) = true, 0 ≤ (IntKind.wrap .i64 ((((List.length out_30) : Nat) : Int) - (1 : Int))), (IntKind.wrap .i64 ((((List.length out_30) : Nat) : Int) - (1 : Int))) < (((List.length out_30) : Nat) : Int), 0 ≤ i_3, i_3 < (((List.length l_1) : Nat) : Int), ((List.getD out_30 (Int.toNat (IntKind.wrap .i64 ((((List.length out_30) : Nat) : Int) - (1 : Int)))) ((0 : Int), ((0 : Int), (0 : Int)))).2.1 == (List.getD l_1 (Int.toNat i_3) ((0 : Int), ((0 : Int), (0 : Int)))).1) = true, 0 ≤ (IntKind.wrap .i64 ((((List.length out_30) : Nat) : Int) - (1 : Int))), (IntKind.wrap .i64 ((((List.length out_30) : Nat) : Int) - (1 : Int))) < (((List.length out_30) : Nat) : Int), 0 ≤ i_3, i_3 < (((List.length l_1) : Nat) : Int)] (by kernel_rfl) rfl rfl (ap2 b_45 (ap2 c_47.1 (ap2 c_47.2.1 (ap2 c_47.2.2.1 (ap2 c_47.2.2.2 (ap2 b_46 (ap2 c_47.1 (ap2 c_47.2.1 (ap2 c_47.2.2.1 (ap1 c_47.2.2.2)))))))))) (by kernel_rfl) (by kernel_rfl) ?_
              have H_87 := Option.some.inj (show some ((List.getD out_30 (Int.toNat (IntKind.wrap .i64 ((((List.length out_30) : Nat) : Int) - (1 : Int)))) ((0 : Int), ((0 : Int), (0 : Int)))).2.2 == (List.getD l_1 (Int.toNat i_3) ((0 : Int), ((0 : Int), (0 : Int)))).2.2) = some q_78 from H_86); subst H_87
              refine VL_nil ?_
              exact QP_end ((List.getD out_30 (Int.toNat (IntKind.wrap .i64 ((((List.length out_30) : Nat) : Int) - (1 : Int)))) ((0 : Int), ((0 : Int), (0 : Int)))).2.2 == (List.getD l_1 (Int.toNat i_3) ((0 : Int), ((0 : Int), (0 : Int)))).2.2) rfl [(4, 4)] hn (by kernel_rfl) (by kernel_rfl) rfl rfl rfl
            · have H_85 := of_f H_82 b_46
              obtain ⟨c_48, H_88⟩ := of_if H_85
              refine V_draw hN hn (by kernel_rfl) [] [(44, true), (58, false)] calls_nil 5 [0, 3, 4, 5, 41] [0, 4] ⟨[(0, .c (.h 0)), (3, .c (.h 4)), (4, .c (.val (.int .i64 i_3))), (5, .c (.val (.int .i64 (((List.length out_30) : Nat) : Int)))), (41, .c (.val (.bool false)))], [(0, .row (.pair (.int .i64) (.pair (.int .i64) (.int .i64))) l_1), (4, .row (.pair (.int .i64) (.pair (.int .i64) (.int .i64))) out_30)], 5⟩ [(decide ((((List.length out_30) : Nat) : Int) > (0 : Int))) = true, 0 ≤ (IntKind.wrap .i64 ((((List.length out_30) : Nat) : Int) - (1 : Int))), (IntKind.wrap .i64 ((((List.length out_30) : Nat) : Int) - (1 : Int))) < (((List.length out_30) : Nat) : Int), 0 ≤ i_3, i_3 < (((List.length l_1) : Nat) : Int), ((List.getD out_30 (Int.toNat (IntKind.wrap .i64 ((((List.length out_30) : Nat) : Int) - (1 : Int)))) ((0 : Int), ((0 : Int), (0 : Int)))).2.1 == (List.getD l_1 (Int.toNat i_3) ((0 : Int), ((0 : Int), (0 : Int)))).1) = false] (by kernel_rfl) rfl rfl (ap2 b_45 (ap2 c_48.1 (ap2 c_48.2.1 (ap2 c_48.2.2.1 (ap2 c_48.2.2.2 (ap1 b_46)))))) (by kernel_rfl) (by kernel_rfl) ?_
              have H_89 := Option.some.inj (show some false = some q_78 from H_88); subst H_89
              refine VL_nil ?_
              exact QP_end false rfl [(4, 4)] hn (by kernel_rfl) (by kernel_rfl) rfl rfl rfl
          · have H_83 := of_f H_79 b_45
            refine V_draw hN hn (by kernel_rfl) [] [(44, false)] calls_nil 5 [0, 3, 4, 5, 41] [0, 4] ⟨[(0, .c (.h 0)), (3, .c (.h 4)), (4, .c (.val (.int .i64 i_3))), (5, .c (.val (.int .i64 (((List.length out_30) : Nat) : Int)))), (41, .c (.val (.bool false)))], [(0, .row (.pair (.int .i64) (.pair (.int .i64) (.int .i64))) l_1), (4, .row (.pair (.int .i64) (.pair (.int .i64) (.int .i64))) out_30)], 5⟩ [(decide ((((List.length out_30) : Nat) : Int) > (0 : Int))) = false] (by kernel_rfl) rfl rfl (ap1 b_45) (by kernel_rfl) (by kernel_rfl) ?_
            have H_90 := Option.some.inj (show some false = some q_78 from H_83); subst H_90
            refine VL_nil ?_
            exact QP_end false rfl [(4, 4)] hn (by kernel_rfl) (by kernel_rfl) rfl rfl rfl
        · intro y_81 hy; subst hy
          skip
          skip
          refine VL_cond (y_81) (by kernel_rfl) ?_ ?_
          · intro b_51; have H_91 := of_t H_80 b_51
            obtain ⟨c_52, H_93⟩ := of_if H_91
            refine V_run hN hn 1 5 [0, 3, 4] [0, 4] ⟨[(0, .c (.h 0)), (3, .c (.h 4)), (4, .c (.val (.int .i64 i_3)))], [(0, .row (.pair (.int .i64) (.pair (.int .i64) (.int .i64))) l_1), (4, .row (.pair (.int .i64) (.pair (.int .i64) (.int .i64))) (List.set out_30 (Int.toNat (IntKind.wrap .i64 ((((List.length out_30) : Nat) : Int) - (1 : Int)))) ((List.getD out_30 (Int.toNat (IntKind.wrap .i64 ((((List.length out_30) : Nat) : Int) - (1 : Int)))) ((0 : Int), ((0 : Int), (0 : Int)))).1, ((List.getD l_1 (Int.toNat i_3) ((0 : Int), ((0 : Int), (0 : Int)))).2.1, (List.getD out_30 (Int.toNat (IntKind.wrap .i64 ((((List.length out_30) : Nat) : Int) - (1 : Int)))) ((0 : Int), ((0 : Int), (0 : Int)))).2.2))))], 5⟩ [0 ≤ i_3, i_3 < (((List.length l_1) : Nat) : Int), 0 ≤ (IntKind.wrap .i64 ((((List.length out_30) : Nat) : Int) - (1 : Int))), (IntKind.wrap .i64 ((((List.length out_30) : Nat) : Int) - (1 : Int))) < (((List.length out_30) : Nat) : Int)] (by kernel_rfl) rfl rfl (ap2 c_52.1 (ap2 c_52.2.1 (ap2 c_52.2.2.1 (ap1 c_52.2.2.2)))) ?_
            refine VL_nil (QB_end ?_)
            refine VL_nil (QB_end ?_)
            refine V_run hN hn 1 5 [0, 3, 4] [0, 4] ⟨[(0, .c (.h 0)), (3, .c (.h 4)), (4, .c (.val (.int .i64 (IntKind.wrap .i64 (i_3 + (1 : Int))))))], [(0, .row (.pair (.int .i64) (.pair (.int .i64) (.int .i64))) l_1), (4, .row (.pair (.int .i64) (.pair (.int .i64) (.int .i64))) (List.set out_30 (Int.toNat (IntKind.wrap .i64 ((((List.length out_30) : Nat) : Int) - (1 : Int)))) ((List.getD out_30 (Int.toNat (IntKind.wrap .i64 ((((List.length out_30) : Nat) : Int) - (1 : Int)))) ((0 : Int), ((0 : Int), (0 : Int)))).1, ((List.getD l_1 (Int.toNat i_3) ((0 : Int), ((0 : Int), (0 : Int)))).2.1, (List.getD out_30 (Int.toNat (IntKind.wrap .i64 ((((List.length out_30) : Nat) : Int) - (1 : Int)))) ((0 : Int), ((0 : Int), (0 : Int)))).2.2))))], 5⟩ [] (by kernel_rfl) rfl rfl ap0 ?_
            refine VL_nil ?_
            exact V_roundEnd ((List.set out_30 (Int.toNat (IntKind.wrap .i64 ((((List.length out_30) : Nat) : Int) - (1 : Int)))) ((List.getD out_30 (Int.toNat (IntKind.wrap .i64 ((((List.length out_30) : Nat) : Int) - (1 : Int)))) ((0 : Int), ((0 : Int), (0 : Int)))).1, ((List.getD l_1 (Int.toNat i_3) ((0 : Int), ((0 : Int), (0 : Int)))).2.1, (List.getD out_30 (Int.toNat (IntKind.wrap .i64 ((((List.length out_30) : Nat) : Int) - (1 : Int)))) ((0 : Int), ((0 : Int), (0 : Int)))).2.2))), (IntKind.wrap .i64 (i_3 + (1 : Int)))) H_93 [(4, 4)] hn (by kernel_rfl) (by kernel_rfl) rfl rfl rfl
          · intro b_51; have H_92 := of_f H_80 b_51
            obtain ⟨c_54, H_94⟩ := of_if H_92
            refine V_run hN hn 1 5 [0, 3, 4] [0, 6] ⟨[(0, .c (.h 0)), (3, .c (.h 6)), (4, .c (.val (.int .i64 i_3)))], [(0, .row (.pair (.int .i64) (.pair (.int .i64) (.int .i64))) l_1), (6, .row (.pair (.int .i64) (.pair (.int .i64) (.int .i64))) (out_30 ++ ([((List.getD l_1 (Int.toNat i_3) ((0 : Int), ((0 : Int), (0 : Int)))).1, ((List.getD l_1 (Int.toNat i_3) ((0 : Int), ((0 : Int), (0 : Int)))).2.1, (List.getD l_1 (Int.toNat i_3) ((0 : Int), ((0 : Int), (0 : Int)))).2.2))] : List (Int × (Int × Int)))))], 7⟩ [0 ≤ i_3, i_3 < (((List.length l_1) : Nat) : Int), (List.length out_30 + List.length ([((List.getD l_1 (Int.toNat i_3) ((0 : Int), ((0 : Int), (0 : Int)))).1, ((List.getD l_1 (Int.toNat i_3) ((0 : Int), ((0 : Int), (0 : Int)))).2.1, (List.getD l_1 (Int.toNat i_3) ((0 : Int), ((0 : Int), (0 : Int)))).2.2))] : List (Int × (Int × Int)))) * 24 ≤ 140737488355328] (by kernel_rfl) rfl rfl (ap2 c_54.1 (ap2 c_54.2.1 (ap1 c_54.2.2))) ?_
            refine VL_nil (QB_end ?_)
            refine VL_nil (QB_end ?_)
            refine V_run hN hn 1 7 [0, 3, 4] [0, 6] ⟨[(0, .c (.h 0)), (3, .c (.h 6)), (4, .c (.val (.int .i64 (IntKind.wrap .i64 (i_3 + (1 : Int))))))], [(0, .row (.pair (.int .i64) (.pair (.int .i64) (.int .i64))) l_1), (6, .row (.pair (.int .i64) (.pair (.int .i64) (.int .i64))) (out_30 ++ ([((List.getD l_1 (Int.toNat i_3) ((0 : Int), ((0 : Int), (0 : Int)))).1, ((List.getD l_1 (Int.toNat i_3) ((0 : Int), ((0 : Int), (0 : Int)))).2.1, (List.getD l_1 (Int.toNat i_3) ((0 : Int), ((0 : Int), (0 : Int)))).2.2))] : List (Int × (Int × Int)))))], 7⟩ [] (by kernel_rfl) rfl rfl ap0 ?_
            refine VL_nil ?_
            exact V_roundEnd ((out_30 ++ ([((List.getD l_1 (Int.toNat i_3) ((0 : Int), ((0 : Int), (0 : Int)))).1, ((List.getD l_1 (Int.toNat i_3) ((0 : Int), ((0 : Int), (0 : Int)))).2.1, (List.getD l_1 (Int.toNat i_3) ((0 : Int), ((0 : Int), (0 : Int)))).2.2))] : List (Int × (Int × Int)))), (IntKind.wrap .i64 (i_3 + (1 : Int)))) H_94 [(4, 6)] hn (by kernel_rfl) (by kernel_rfl) rfl rfl rfl
  · intro b_33; have H_65 := of_f H_63 b_33
    refine VL_exit ?_
    refine QL_exit ?_
    refine QB_here ?_
    refine V_run hN hn 2 5 [2] [0, 4] ⟨[(2, .c (.h 4))], [(0, .row (.pair (.int .i64) (.pair (.int .i64) (.int .i64))) l_1), (4, .row (.pair (.int .i64) (.pair (.int .i64) (.int .i64))) out_30)], 5⟩ [] (by kernel_rfl) rfl rfl ap0 ?_
    have H_95 := Option.some.inj (show some out_30 = some r from H_65); subst H_95
    refine VL_ret ?_
    exact P_to [(2, .c (.h 4))] [(0, .row (.pair (.int .i64) (.pair (.int .i64) (.int .i64))) l_1), (4, .row (.pair (.int .i64) (.pair (.int .i64) (.int .i64))) out_30)] [(4, 4)] hn (by kernel_rfl) (by kernel_rfl) rfl rfl rfl (QF_retS (by kernel_rfl) (by kernel_rfl) rfl)

theorem palinoderef15_Put_spec (K : Nat) (l_1 : (List (Int × (Int × Int)))) (s_2 : Int) (s_3 : Int) (s_4 : Int) (r : ((List (Int × (Int × Int))) × Int)) (H : palinoderef15_Put K l_1 s_2 s_3 s_4 = some r) : Spec Try.prog 17 0 [.c (.imm (.slice (.pair (.int .i64) (.pair (.int .i64) (.int .i64)))) l_1), .agg [.val (.int .i64 s_2), .val (.int .i64 s_3), .val (.int .i64 s_4)]] [] (.tup [(false, [.imm (.slice (.pair (.int .i64) (.pair (.int .i64) (.int .i64)))) r.1]), (false, [.val (.int .i64 r.2)])]) [] := by
  refine Spec_mk (fn := Try.f17) (c := (Try.f17.body).get!) Try.func17 (by kernel_rfl) rfl ?_
  intro C hN hn
  replace hN : C.N = 104 := hN
  unfold palinoderef15_Put at H
  refine V_run hN hn 4 0 [0, 3] [0] ⟨[(0, .c (.imm (.slice (.pair (.int .i64) (.pair (.int .i64) (.int .i64)))) l_1)), (3, .c (.h 0))], [(0, .box [.val (.int .i64 s_2), .val (.int .i64 s_3), .val (.int .i64 s_4)])], 1⟩ [] (by kernel_rfl) rfl rfl ap0 ?_
  obtain ⟨q_70, H_71, H_72⟩ := of_bind H
  refine V_cut (Y := Bool) (R := Bool) q_70 (fun y => y) (fun y => [(0, .c (.imm (.slice (.pair (.int .i64) (.pair (.int .i64) (.int .i64)))) l_1)), (3, .c (.h 0)), (41, .c (.val (.bool y)))]) (fun y => [(0, .box [.val (.int .i64 s_2), .val (.int .i64 s_3), .val (.int .i64 s_4)])]) ?_ ?_
  · skip
    obtain ⟨r_6, h_7, H_74⟩ := of_bind H_71
    rcases Bool.eq_false_or_eq_true ((!r_6)) with b_8 | b_8
    · have H_75 := of_t H_74 b_8
      refine V_reg hN hn [(1, ⟨20, 0, [.c (.imm (.slice (.pair (.int .i64) (.pair (.int .i64) (.int .i64)))) l_1), .c (.val (.int .i64 (20000 : Int)))], [], .c (.val (.bool r_6)), [], [], 1⟩)] [(15, true)] (calls_cons (palinoderef15_Is_spec K l_1 (20000 : Int) r_6 h_7) (by kernel_rfl) calls_nil) 1 [0, 3, 41] [0] ⟨[(0, .c (.imm (.slice (.pair (.int .i64) (.pair (.int .i64) (.int .i64)))) l_1)), (3, .c (.h 0)), (41, .c (.val (.bool true)))], [(0, .box [.val (.int .i64 s_2), .val (.int .i64 s_3), .val (.int .i64 s_4)])], 1⟩ [(!r_6) = true] (by kernel_rfl) rfl rfl (ap1 b_8) (by kernel_rfl) (by kernel_rfl) ?_
      have H_77 := Option.some.inj (show some true = some q_70 from H_75); subst H_77
      refine VL_nil ?_
      exact QP_end true rfl [(0, 0)] hn (by kernel_rfl) (by kernel_rfl) rfl rfl rfl
    · have H_76 := of_f H_74 b_8
      rcases Bool.eq_false_or_eq_true ((decide (s_4 < (0 : Int)))) with b_10 | b_10
      · have H_78 := of_t H_76 b_10
        refine V_reg hN hn [(1, ⟨20, 0, [.c (.imm (.slice (.pair (.int .i64) (.pair (.int .i64) (.int .i64)))) l_1), .c (.val (.int .i64 (20000 : Int)))], [], .c (.val (.bool r_6)), [], [], 1⟩)] [(15, false), (20, true)] (calls_cons (palinoderef15_Is_spec K l_1 (20000 : Int) r_6 h_7) (by kernel_rfl) calls_nil) 1 [0, 3, 41] [0] ⟨[(0, .c (.imm (.slice (.pair (.int .i64) (.pair (.int .i64) (.int .i64)))) l_1)), (3, .c (.h 0)), (41, .c (.val (.bool true)))], [(0, .box [.val (.int .i64 s_2), .val (.int .i64 s_3), .val (.int .i64 s_4)])], 1⟩ [(!r_6) = false, (decide (s_4 < (0 : Int))) = true] (by kernel_rfl) rfl rfl (ap2 b_8 (ap1 b_10)) (by kernel_rfl) (by kernel_rfl) ?_
        have H_80 := Option.some.inj (show some true = some q_70 from H_78); subst H_80
        refine VL_nil ?_
        exact QP_end true rfl [(0, 0)] hn (by kernel_rfl) (by kernel_rfl) rfl rfl rfl
      · have H_79 := of_f H_76 b_10
        rcases Bool.eq_false_or_eq_true ((decide (s_4 > (100 : Int)))) with b_12 | b_12
        · have H_81 := of_t H_79 b_12
          refine V_reg hN hn [(1, ⟨20, 0, [.c (.imm (.slice (.pair (.int .i64) (.pair (.int .i64) (.int .i64)))) l_1), .c (.val (.int .i64 (20000 : Int)))], [], .c (.val (.bool r_6)), [], [], 1⟩)] [(15, false), (20, false), (25, true)] (calls_cons (palinoderef15_Is_spec K l_1 (20000 : Int) r_6 h_7) (by kernel_rfl) calls_nil) 1 [0, 3, 41] [0] ⟨[(0, .c (.imm (.slice (.pair (.int .i64) (.pair (.int .i64) (.int .i64)))) l_1)), (3, .c (.h 0)), (41, .c (.val (.bool true)))], [(0, .box [.val (.int .i64 s_2), .val (.int .i64 s_3), .val (.int .i64 s_4)])], 1⟩ [(!r_6) = false, (decide (s_4 < (0 : Int))) = false, (decide (s_4 > (100 : Int))) = true] (by kernel_rfl) rfl rfl (ap2 b_8 (ap2 b_10 (ap1 b_12))) (by kernel_rfl) (by kernel_rfl) ?_
          have H_83 := Option.some.inj (show some true = some q_70 from H_81); subst H_83
          refine VL_nil ?_
          exact QP_end true rfl [(0, 0)] hn (by kernel_rfl) (by kernel_rfl) rfl rfl rfl
        · have H_82 := of_f H_79 b_12
          rcases Bool.eq_false_or_eq_true ((decide (s_2 < (0 : Int)))) with b_14 | b_14
          · have H_84 := of_t H_82 b_14
            refine V_reg hN hn [(1, ⟨20, 0, [.c (.imm (.slice (.pair (.int .i64) (.pair (.int .i64) (.int .i64)))) l_1), .c (.val (.int .i64 (20000 : Int)))], [], .c (.val (.bool r_6)), [], [], 1⟩)] [(15, false), (20, false), (25, false), (30, true)] (calls_cons (palinoderef15_Is_spec K l_1 (20000 : Int) r_6 h_7) (by kernel_rfl) calls_nil) 1 [0, 3, 41] [0] ⟨[(0, .c (.imm (.slice (.pair (.int .i64) (.pair (.int .i64) (.int .i64)))) l_1)), (3, .c (.h 0)), (41, .c (.val (.bool true)))], [(0, .box [.val (.int .i64 s_2), .val (.int .i64 s_3), .val (.int .i64 s_4)])], 1⟩ [(!r_6) = false, (decide (s_4 < (0 : Int))) = false, (decide (s_4 > (100 : Int))) = false, (decide (s_2 < (0 : Int))) = true] (by kernel_rfl) rfl rfl (ap2 b_8 (ap2 b_10 (ap2 b_12 (ap1 b_14)))) (by kernel_rfl) (by kernel_rfl) ?_
            have H_86 := Option.some.inj (show some true = some q_70 from H_84); subst H_86
            refine VL_nil ?_
            exact QP_end true rfl [(0, 0)] hn (by kernel_rfl) (by kernel_rfl) rfl rfl rfl
          · have H_85 := of_f H_82 b_14
            rcases Bool.eq_false_or_eq_true ((decide (s_3 < s_2))) with b_16 | b_16
            · have H_87 := of_t H_85 b_16
              refine V_reg hN hn [(1, ⟨20, 0, [.c (.imm (.slice (.pair (.int .i64) (.pair (.int .i64) (.int .i64)))) l_1), .c (.val (.int .i64 (20000 : Int)))], [], .c (.val (.bool r_6)), [], [], 1⟩)] [(15, false), (20, false), (25, false), (30, false), (37, true)] (calls_cons (palinoderef15_Is_spec K l_1 (20000 : Int) r_6 h_7) (by kernel_rfl) calls_nil) 1 [0, 3, 41] [0] ⟨[(0, .c (.imm (.slice (.pair (.int .i64) (.pair (.int .i64) (.int .i64)))) l_1)), (3, .c (.h 0)), (41, .c (.val (.bool true)))], [(0, .box [.val (.int .i64 s_2), .val (.int .i64 s_3), .val (.int .i64 s_4)])], 1⟩ [(!r_6) = false, (decide (s_4 < (0 : Int))) = false, (decide (s_4 > (100 : Int))) = false, (decide (s_2 < (0 : Int))) = false, (decide (s_3 < s_2)) = true] (by kernel_rfl) rfl rfl (ap2 b_8 (ap2 b_10 (ap2 b_12 (ap2 b_14 (ap1 b_16))))) (by kernel_rfl) (by kernel_rfl) ?_
              have H_89 := Option.some.inj (show some true = some q_70 from H_87); subst H_89
              refine VL_nil ?_
              exact QP_end true rfl [(0, 0)] hn (by kernel_rfl) (by kernel_rfl) rfl rfl rfl
            · have H_88 := of_f H_85 b_16
              refine V_reg hN hn [(1, ⟨20, 0, [.c (.imm (.slice (.pair (.int .i64) (.pair (.int .i64) (.int .i64)))) l_1), .c (.val (.int .i64 (20000 : Int)))], [], .c (.val (.bool r_6)), [], [], 1⟩)] [(15, false), (20, false), (25, false), (30, false), (37, false)] (calls_cons (palinoderef15_Is_spec K l_1 (20000 : Int) r_6 h_7) (by kernel_rfl) calls_nil) 1 [0, 3, 41] [0] ⟨[(0, .c (.imm (.slice (.pair (.int .i64) (.pair (.int .i64) (.int .i64)))) l_1)), (3, .c (.h 0)), (41, .c (.val (.bool (decide (s_3 > (20000 : Int))))))], [(0, .box [.val (.int .i64 s_2), .val (.int .i64 s_3), .val (.int .i64 s_4)])], 1⟩ [(!r_6) = false, (decide (s_4 < (0 : Int))) = false, (decide (s_4 > (100 : Int))) = false, (decide (s_2 < (0 : Int))) = false, (decide (s_3 < s_2)) = false] (by kernel_rfl) rfl rfl (ap2 b_8 (ap2 b_10 (ap2 b_12 (ap2 b_14 (ap1 b_16))))) (by kernel_rfl) (by kernel_rfl) ?_
              have H_90 := Option.some.inj (show some (decide (s_3 > (20000 : Int))) = some q_70 from H_88); subst H_90
              refine VL_nil ?_
              exact QP_end (decide (s_3 > (20000 : Int))) rfl [(0, 0)] hn (by kernel_rfl) (by kernel_rfl) rfl rfl rfl
  · intro y_73 hy; subst hy
    skip
    skip
    refine VL_cond (y_73) (by kernel_rfl) ?_ ?_
    · intro b_20; have H_91 := of_t H_72 b_20
      refine V_run hN hn 2 1 [4, 5] [] ⟨[(4, .c (.val (.slice none 0 0))), (5, .c (.val (.int .i64 (12 : Int))))], [], 1⟩ [] (by kernel_rfl) rfl rfl ap0 ?_
      have H_93 := Option.some.inj (show some (([] : List (Int × (Int × Int))), (12 : Int)) = some r from H_91); subst H_93
      refine VL_ret ?_
      refine P_ghost [.read 4 (.slice (.pair (.int .i64) (.pair (.int .i64) (.int .i64))))] 1 hn [4, 5] [] ⟨[(4, .c (.imm (.slice (.pair (.int .i64) (.pair (.int .i64) (.int .i64)))) ([] : List (Int × (Int × Int))))), (5, .c (.val (.int .i64 (12 : Int))))], [], 1⟩ (by kernel_rfl) rfl rfl ?_
      exact P_to [(4, .c (.imm (.slice (.pair (.int .i64) (.pair (.int .i64) (.int .i64)))) ([] : List (Int × (Int × Int))))), (5, .c (.val (.int .i64 (12 : Int))))] [] [] hn (by kernel_rfl) (by kernel_rfl) rfl rfl rfl (QF_retS (by kernel_rfl) (by kernel_rfl) rfl)
    · intro b_20; have H_92 := of_f H_72 b_20
      refine V_run hN hn 4 1 [0, 3, 46] [0] ⟨[(0, .c (.imm (.slice (.pair (.int .i64) (.pair (.int .i64) (.int .i64)))) l_1)), (3, .c (.h 0)), (46, .c (.val (.bool (s_2 == s_3))))], [(0, .box [.val (.int .i64 s_2), .val (.int .i64 s_3), .val (.int .i64 s_4)])], 1⟩ [] (by kernel_rfl) rfl rfl ap0 ?_
      refine VL_cond ((s_2 == s_3)) (by kernel_rfl) ?_ ?_
      · intro b_23; have H_94 := of_t H_92 b_23
        refine V_run hN hn 2 1 [4, 5] [] ⟨[(4, .c (.imm (.slice (.pair (.int .i64) (.pair (.int .i64) (.int .i64)))) l_1)), (5, .c (.val (.int .i64 (0 : Int))))], [], 1⟩ [] (by kernel_rfl) rfl rfl ap0 ?_
        have H_96 := Option.some.inj (show some (l_1, (0 : Int)) = some r from H_94); subst H_96
        refine VL_ret ?_
        exact P_to [(4, .c (.imm (.slice (.pair (.int .i64) (.pair (.int .i64) (.int .i64)))) l_1)), (5, .c (.val (.int .i64 (0 : Int))))] [] [] hn (by kernel_rfl) (by kernel_rfl) rfl rfl rfl (QF_retS (by kernel_rfl) (by kernel_rfl) rfl)
      · intro b_23; have H_95 := of_f H_92 b_23
        refine V_run hN hn 6 1 [0, 3, 6, 7] [0] ⟨[(0, .c (.imm (.slice (.pair (.int .i64) (.pair (.int .i64) (.int .i64)))) l_1)), (3, .c (.h 0)), (6, .c (.val (.slice none 0 0))), (7, .c (.val (.int .i64 (0 : Int))))], [(0, .box [.val (.int .i64 s_2), .val (.int .i64 s_3), .val (.int .i64 s_4)])], 1⟩ [] (by kernel_rfl) rfl rfl ap0 ?_
        obtain ⟨q_97, H_98, H_99⟩ := of_bind H_95
        refine V_cut (Y := (List (Int × (Int × Int)))) (R := (List (Int × (Int × Int)))) q_97 (fun y => y) (fun y => [(0, .c (.imm (.slice (.pair (.int .i64) (.pair (.int .i64) (.int .i64)))) l_1)), (3, .c (.h 0)), (6, .c (.h 5))]) (fun y => [(0, .box [.val (.int .i64 s_2), .val (.int .i64 s_3), .val (.int .i64 s_4)]), (5, .row (.pair (.int .i64) (.pair (.int .i64) (.int .i64))) y)]) ?_ ?_
        · skip
          refine VL_block ?_
          refine V_ghost [.nilSlot 6 (.pair (.int .i64) (.pair (.int .i64) (.int .i64)))] 1 hn [0, 3, 6, 7] [0, 1] ⟨[(0, .c (.imm (.slice (.pair (.int .i64) (.pair (.int .i64) (.int .i64)))) l_1)), (3, .c (.h 0)), (6, .c (.h 1)), (7, .c (.val (.int .i64 (0 : Int))))], [(0, .box [.val (.int .i64 s_2), .val (.int .i64 s_3), .val (.int .i64 s_4)]), (1, .row (.pair (.int .i64) (.pair (.int .i64) (.int .i64))) ([] : List (Int × (Int × Int))))], 2⟩ (by kernel_rfl) rfl rfl ?_
          refine V_to [(0, .c (.imm (.slice (.pair (.int .i64) (.pair (.int .i64) (.int .i64)))) l_1)), (3, .c (.h 0)), (6, .c (.h 5)), (7, .c (.val (.int .i64 (0 : Int))))] [(0, .box [.val (.int .i64 s_2), .val (.int .i64 s_3), .val (.int .i64 s_4)]), (5, .row (.pair (.int .i64) (.pair (.int .i64) (.int .i64))) ([] : List (Int × (Int × Int))))] [(0, 0), (5, 1)] hn (by kernel_rfl) (by kernel_rfl) rfl rfl rfl ?_
          refine VL_loop (X := ((List (Int × (Int × Int))) × Int)) (fun x => [(0, .c (.imm (.slice (.pair (.int .i64) (.pair (.int .i64) (.int .i64)))) l_1)), (3, .c (.h 0)), (6, .c (.h 5)), (7, .c (.val (.int .i64 x.2)))]) (fun x => [(0, .box [.val (.int .i64 s_2), .val (.int .i64 s_3), .val (.int .i64 s_4)]), (5, .row (.pair (.int .i64) (.pair (.int .i64) (.int .i64))) x.1)]) (fun k x => palinoderef15_Put.l0 K l_1 s_2 k x.1 x.2 = some q_97) K (([] : List (Int × (Int × Int))), (0 : Int)) H_98 (fun _ h => no_none h) ?_
          intro k_34 x_34 H_101
          obtain ⟨cut_33, i_26⟩ := x_34
          have H_102 : palinoderef15_Put.l0 K l_1 s_2 (k_34 + 1) cut_33 i_26 = some q_97 := H_101
          rw [palinoderef15_Put.l0] at H_102
          refine V_run hN hn 3 6 [0, 3, 6, 7, 51] [0, 5] ⟨[(0, .c (.imm (.slice (.pair (.int .i64) (.pair (.int .i64) (.int .i64)))) l_1)), (3, .c (.h 0)), (6, .c (.h 5)), (7, .c (.val (.int .i64 i_26))), (51, .c (.val (.bool (decide (i_26 < (((List.length l_1) : Nat) : Int))))))], [(0, .box [.val (.int .i64 s_2), .val (.int .i64 s_3), .val (.int .i64 s_4)]), (5, .row (.pair (.int .i64) (.pair (.int .i64) (.int .i64))) cut_33)], 6⟩ [] (by kernel_rfl) rfl rfl ap0 ?_
          refine VL_cond ((decide (i_26 < (((List.length l_1) : Nat) : Int)))) (by kernel_rfl) ?_ ?_
          · intro b_36; have H_103 := of_t H_102 b_36
            refine V_run hN hn 2 6 [0, 3, 6, 7, 51] [0, 5] ⟨[(0, .c (.imm (.slice (.pair (.int .i64) (.pair (.int .i64) (.int .i64)))) l_1)), (3, .c (.h 0)), (6, .c (.h 5)), (7, .c (.val (.int .i64 i_26))), (51, .c (.val (.bool (decide (i_26 < (((List.length l_1) : Nat) : Int))))))], [(0, .box [.val (.int .i64 s_2), .val (.int .i64 s_3), .val (.int .i64 s_4)]), (5, .row (.pair (.int .i64) (.pair (.int .i64) (.int .i64))) cut_33)], 6⟩ [] (by kernel_rfl) rfl rfl ap0 ?_
            refine VL_block ?_
            obtain ⟨c_38, H_105⟩ := of_if H_103
            refine V_run hN hn 3 6 [0, 3, 6, 7] [0, 8] ⟨[(0, .c (.imm (.slice (.pair (.int .i64) (.pair (.int .i64) (.int .i64)))) l_1)), (3, .c (.h 0)), (6, .c (.h 8)), (7, .c (.val (.int .i64 i_26)))], [(0, .box [.val (.int .i64 s_2), .val (.int .i64 s_3), .val (.int .i64 s_4)]), (8, .row (.pair (.int .i64) (.pair (.int .i64) (.int .i64))) (cut_33 ++ ([((List.getD l_1 (Int.toNat i_26) ((0 : Int), ((0 : Int), (0 : Int)))).1, ((mn2 (List.getD l_1 (Int.toNat i_26) ((0 : Int), ((0 : Int), (0 : Int)))).2.1 s_2), (List.getD l_1 (Int.toNat i_26) ((0 : Int), ((0 : Int), (0 : Int)))).2.2))] : List (Int × (Int × Int)))))], 9⟩ [0 ≤ i_26, i_26 < (((List.length l_1) : Nat) : Int), (List.length cut_33 + List.length ([((List.getD l_1 (Int.toNat i_26) ((0 : Int), ((0 : Int), (0 : Int)))).1, ((mn2 (List.getD l_1 (Int.toNat i_26) ((0 : Int), ((0 : Int), (0 : Int)))).2.1 s_2), (List.getD l_1 (Int.toNat i_26) ((0 : Int), ((0 : Int), (0 : Int)))).2.2))] : List (Int × (Int × Int)))) * 24 ≤ 140737488355328] (by kernel_rfl) rfl rfl (ap2 c_38.1 (ap2 c_38.2.1 (ap1 c_38.2.2))) ?_
            refine VL_nil (QB_end ?_)
            refine V_run hN hn 1 9 [0, 3, 6, 7] [0, 8] ⟨[(0, .c (.imm (.slice (.pair (.int .i64) (.pair (.int .i64) (.int .i64)))) l_1)), (3, .c (.h 0)), (6, .c (.h 8)), (7, .c (.val (.int .i64 (IntKind.wrap .i64 (i_26 + (1 : Int))))))], [(0, .box [.val (.int .i64 s_2), .val (.int .i64 s_3), .val (.int .i64 s_4)]), (8, .row (.pair (.int .i64) (.pair (.int .i64) (.int .i64))) (cut_33 ++ ([((List.getD l_1 (Int.toNat i_26) ((0 : Int), ((0 : Int), (0 : Int)))).1, ((mn2 (List.getD l_1 (Int.toNat i_26) ((0 : Int), ((0 : Int), (0 : Int)))).2.1 s_2), (List.getD l_1 (Int.toNat i_26) ((0 : Int), ((0 : Int), (0 : Int)))).2.2))] : List (Int × (Int × Int)))))], 9⟩ [] (by kernel_rfl) rfl rfl ap0 ?_
            refine VL_nil ?_
            exact V_roundEnd ((cut_33 ++ ([((List.getD l_1 (Int.toNat i_26) ((0 : Int), ((0 : Int), (0 : Int)))).1, ((mn2 (List.getD l_1 (Int.toNat i_26) ((0 : Int), ((0 : Int), (0 : Int)))).2.1 s_2), (List.getD l_1 (Int.toNat i_26) ((0 : Int), ((0 : Int), (0 : Int)))).2.2))] : List (Int × (Int × Int)))), (IntKind.wrap .i64 (i_26 + (1 : Int)))) H_105 [(0, 0), (5, 8)] hn (by kernel_rfl) (by kernel_rfl) rfl rfl rfl
          · intro b_36; have H_104 := of_f H_102 b_36
            refine VL_exit ?_
            refine QL_exit ?_
            refine QB_here ?_
            have H_106 := Option.some.inj (show some cut_33 = some q_97 from H_104); subst H_106
            refine VL_nil ?_
            exact QP_end cut_33 rfl [(0, 0), (5, 5)] hn (by kernel_rfl) (by kernel_rfl) rfl rfl rfl
        · intro y_100 hy; subst hy
          skip
          skip
          obtain ⟨c_41, H_107⟩ := of_if H_99
          refine V_run hN hn 5 6 [0, 3, 6, 9] [0, 7] ⟨[(0, .c (.imm (.slice (.pair (.int .i64) (.pair (.int .i64) (.int .i64)))) l_1)), (3, .c (.h 0)), (6, .c (.h 7)), (9, .c (.val (.int .i64 (0 : Int))))], [(0, .box [.val (.int .i64 s_2), .val (.int .i64 s_3), .val (.int .i64 s_4)]), (7, .row (.pair (.int .i64) (.pair (.int .i64) (.int .i64))) (y_100 ++ ([(s_2, (s_3, s_4))] : List (Int × (Int × Int)))))], 8⟩ [(List.length y_100 + List.length ([(s_2, (s_3, s_4))] : List (Int × (Int × Int)))) * 24 ≤ 140737488355328] (by kernel_rfl) rfl rfl (ap1 c_41) ?_
          obtain ⟨q_108, H_109, H_110⟩ := of_bind H_107
          refine V_cut (Y := (List (Int × (Int × Int)))) (R := (List (Int × (Int × Int)))) q_108 (fun y => y) (fun y => [(6, .c (.h 11))]) (fun y => [(11, .row (.pair (.int .i64) (.pair (.int .i64) (.int .i64))) y)]) ?_ ?_
          · skip
            refine VL_block ?_
            refine V_to [(0, .c (.imm (.slice (.pair (.int .i64) (.pair (.int .i64) (.int .i64)))) l_1)), (3, .c (.h 0)), (6, .c (.h 11)), (9, .c (.val (.int .i64 (0 : Int))))] [(0, .box [.val (.int .i64 s_2), .val (.int .i64 s_3), .val (.int .i64 s_4)]), (11, .row (.pair (.int .i64) (.pair (.int .i64) (.int .i64))) (y_100 ++ ([(s_2, (s_3, s_4))] : List (Int × (Int × Int)))))] [(0, 0), (11, 7)] hn (by kernel_rfl) (by kernel_rfl) rfl rfl rfl ?_
            refine VL_loop (X := ((List (Int × (Int × Int))) × Int)) (fun x => [(0, .c (.imm (.slice (.pair (.int .i64) (.pair (.int .i64) (.int .i64)))) l_1)), (3, .c (.h 0)), (6, .c (.h 11)), (9, .c (.val (.int .i64 x.2)))]) (fun x => [(0, .box [.val (.int .i64 s_2), .val (.int .i64 s_3), .val (.int .i64 s_4)]), (11, .row (.pair (.int .i64) (.pair (.int .i64) (.int .i64))) x.1)]) (fun k x => palinoderef15_Put.l1 K l_1 s_3 k x.1 x.2 = some q_108) K ((y_100 ++ ([(s_2, (s_3, s_4))] : List (Int × (Int × Int)))), (0 : Int)) H_109 (fun _ h => no_none h) ?_
            intro k_50 x_50 H_112
            obtain ⟨cut_49, i_42⟩ := x_50
            have H_113 : palinoderef15_Put.l1 K l_1 s_3 (k_50 + 1) cut_49 i_42 = some q_108 := H_112
            rw [palinoderef15_Put.l1] at H_113
            refine V_run hN hn 3 12 [0, 3, 6, 9, 78] [0, 11] ⟨[(0, .c (.imm (.slice (.pair (.int .i64) (.pair (.int .i64) (.int .i64)))) l_1)), (3, .c (.h 0)), (6, .c (.h 11)), (9, .c (.val (.int .i64 i_42))), (78, .c (.val (.bool (decide (i_42 < (((List.length l_1) : Nat) : Int))))))], [(0, .box [.val (.int .i64 s_2), .val (.int .i64 s_3), .val (.int .i64 s_4)]), (11, .row (.pair (.int .i64) (.pair (.int .i64) (.int .i64))) cut_49)], 12⟩ [] (by kernel_rfl) rfl rfl ap0 ?_
            refine VL_cond ((decide (i_42 < (((List.length l_1) : Nat) : Int)))) (by kernel_rfl) ?_ ?_
            · intro b_52; have H_114 := of_t H_113 b_52
              refine V_run hN hn 2 12 [0, 3, 6, 9, 78] [0, 11] ⟨[(0, .c (.imm (.slice (.pair (.int .i64) (.pair (.int .i64) (.int .i64)))) l_1)), (3, .c (.h 0)), (6, .c (.h 11)), (9, .c (.val (.int .i64 i_42))), (78, .c (.val (.bool (decide (i_42 < (((List.length l_1) : Nat) : Int))))))], [(0, .box [.val (.int .i64 s_2), .val (.int .i64 s_3), .val (.int .i64 s_4)]), (11, .row (.pair (.int .i64) (.pair (.int .i64) (.int .i64))) cut_49)], 12⟩ [] (by kernel_rfl) rfl rfl ap0 ?_
              refine VL_block ?_
              obtain ⟨c_54, H_116⟩ := of_if H_114
              refine V_run hN hn 3 12 [0, 3, 6, 9] [0, 14] ⟨[(0, .c (.imm (.slice (.pair (.int .i64) (.pair (.int .i64) (.int .i64)))) l_1)), (3, .c (.h 0)), (6, .c (.h 14)), (9, .c (.val (.int .i64 i_42)))], [(0, .box [.val (.int .i64 s_2), .val (.int .i64 s_3), .val (.int .i64 s_4)]), (14, .row (.pair (.int .i64) (.pair (.int .i64) (.int .i64))) (cut_49 ++ ([((mx2 (List.getD l_1 (Int.toNat i_42) ((0 : Int), ((0 : Int), (0 : Int)))).1 s_3), ((List.getD l_1 (Int.toNat i_42) ((0 : Int), ((0 : Int), (0 : Int)))).2.1, (List.getD l_1 (Int.toNat i_42) ((0 : Int), ((0 : Int), (0 : Int)))).2.2))] : List (Int × (Int × Int)))))], 15⟩ [0 ≤ i_42, i_42 < (((List.length l_1) : Nat) : Int), (List.length cut_49 + List.length ([((mx2 (List.getD l_1 (Int.toNat i_42) ((0 : Int), ((0 : Int), (0 : Int)))).1 s_3), ((List.getD l_1 (Int.toNat i_42) ((0 : Int), ((0 : Int), (0 : Int)))).2.1, (List.getD l_1 (Int.toNat i_42) ((0 : Int), ((0 : Int), (0 : Int)))).2.2))] : List (Int × (Int × Int)))) * 24 ≤ 140737488355328] (by kernel_rfl) rfl rfl (ap2 c_54.1 (ap2 c_54.2.1 (ap1 c_54.2.2))) ?_
              refine VL_nil (QB_end ?_)
              refine V_run hN hn 1 15 [0, 3, 6, 9] [0, 14] ⟨[(0, .c (.imm (.slice (.pair (.int .i64) (.pair (.int .i64) (.int .i64)))) l_1)), (3, .c (.h 0)), (6, .c (.h 14)), (9, .c (.val (.int .i64 (IntKind.wrap .i64 (i_42 + (1 : Int))))))], [(0, .box [.val (.int .i64 s_2), .val (.int .i64 s_3), .val (.int .i64 s_4)]), (14, .row (.pair (.int .i64) (.pair (.int .i64) (.int .i64))) (cut_49 ++ ([((mx2 (List.getD l_1 (Int.toNat i_42) ((0 : Int), ((0 : Int), (0 : Int)))).1 s_3), ((List.getD l_1 (Int.toNat i_42) ((0 : Int), ((0 : Int), (0 : Int)))).2.1, (List.getD l_1 (Int.toNat i_42) ((0 : Int), ((0 : Int), (0 : Int)))).2.2))] : List (Int × (Int × Int)))))], 15⟩ [] (by kernel_rfl) rfl rfl ap0 ?_
              refine VL_nil ?_
              exact V_roundEnd ((cut_49 ++ ([((mx2 (List.getD l_1 (Int.toNat i_42) ((0 : Int), ((0 : Int), (0 : Int)))).1 s_3), ((List.getD l_1 (Int.toNat i_42) ((0 : Int), ((0 : Int), (0 : Int)))).2.1, (List.getD l_1 (Int.toNat i_42) ((0 : Int), ((0 : Int), (0 : Int)))).2.2))] : List (Int × (Int × Int)))), (IntKind.wrap .i64 (i_42 + (1 : Int)))) H_116 [(0, 0), (11, 14)] hn (by kernel_rfl) (by kernel_rfl) rfl rfl rfl
            · intro b_52; have H_115 := of_f H_113 b_52
              refine VL_exit ?_
              refine QL_exit ?_
              refine QB_here ?_
              have H_117 := Option.some.inj (show some cut_49 = some q_108 from H_115); subst H_117
              refine VL_nil ?_
              exact QP_end cut_49 rfl [(11, 11)] hn (by kernel_rfl) (by kernel_rfl) rfl rfl rfl
          · intro y_111 hy; subst hy
            skip
            skip
            refine V_run hN hn 1 12 [6] [11] ⟨[(6, .c (.h 11))], [(11, .row (.pair (.int .i64) (.pair (.int .i64) (.int .i64))) y_111)], 12⟩ [] (by kernel_rfl) rfl rfl ap0 ?_
            obtain ⟨r_58, h_59, H_118⟩ := of_bind H_110
            refine V_reg hN hn [(1, ⟨27, 1, [.c (.h 0)], [(0, .row (.pair (.int .i64) (.pair (.int .i64) (.int .i64))) y_111)], .c (.h 4), [(0, .row (.pair (.int .i64) (.pair (.int .i64) (.int .i64))) y_111), (4, .row (.pair (.int .i64) (.pair (.int .i64) (.int .i64))) r_58)], [(0, 11), (4, 12)], 13⟩)] [] (calls_cons (palinoderef15_fewest_r_spec K y_111 r_58 h_59) (by kernel_rfl) calls_nil) 12 [11] [12] ⟨[(11, .c (.h 12))], [(12, .row (.pair (.int .i64) (.pair (.int .i64) (.int .i64))) r_58)], 13⟩ [] (by kernel_rfl) rfl rfl ap0 (by kernel_rfl) (by kernel_rfl) ?_
            refine V_run hN hn 3 13 [11, 102] [12] ⟨[(11, .c (.h 12)), (102, .c (.val (.bool (decide ((((List.length r_58) : Nat) : Int) > (60 : Int))))))], [(12, .row (.pair (.int .i64) (.pair (.int .i64) (.int .i64))) r_58)], 13⟩ [] (by kernel_rfl) rfl rfl ap0 ?_
            refine VL_cond ((decide ((((List.length r_58) : Nat) : Int) > (60 : Int)))) (by kernel_rfl) ?_ ?_
            · intro b_62; have H_119 := of_t H_118 b_62
              refine V_run hN hn 2 13 [4, 5] [] ⟨[(4, .c (.val (.slice none 0 0))), (5, .c (.val (.int .i64 (70 : Int))))], [], 13⟩ [] (by kernel_rfl) rfl rfl ap0 ?_
              have H_121 := Option.some.inj (show some (([] : List (Int × (Int × Int))), (70 : Int)) = some r from H_119); subst H_121
              refine VL_ret ?_
              refine P_ghost [.read 4 (.slice (.pair (.int .i64) (.pair (.int .i64) (.int .i64))))] 13 hn [4, 5] [] ⟨[(4, .c (.imm (.slice (.pair (.int .i64) (.pair (.int .i64) (.int .i64)))) ([] : List (Int × (Int × Int))))), (5, .c (.val (.int .i64 (70 : Int))))], [], 13⟩ (by kernel_rfl) rfl rfl ?_
              exact P_to [(4, .c (.imm (.slice (.pair (.int .i64) (.pair (.int .i64) (.int .i64)))) ([] : List (Int × (Int × Int))))), (5, .c (.val (.int .i64 (70 : Int))))] [] [] hn (by kernel_rfl) (by kernel_rfl) rfl rfl rfl (QF_retS (by kernel_rfl) (by kernel_rfl) rfl)
            · intro b_62; have H_120 := of_f H_118 b_62
              refine V_run hN hn 3 13 [4, 5] [12] ⟨[(4, .c (.h 12)), (5, .c (.val (.int .i64 (0 : Int))))], [(12, .row (.pair (.int .i64) (.pair (.int .i64) (.int .i64))) r_58)], 13⟩ [] (by kernel_rfl) rfl rfl ap0 ?_
              have H_122 := Option.some.inj (show some (r_58, (0 : Int)) = some r from H_120); subst H_122
              refine VL_ret ?_
              refine P_ghost [.shut 12] 13 hn [4, 5] [] ⟨[(4, .c (.imm (.slice (.pair (.int .i64) (.pair (.int .i64) (.int .i64)))) r_58)), (5, .c (.val (.int .i64 (0 : Int))))], [], 13⟩ (by kernel_rfl) rfl rfl ?_
              exact P_to [(4, .c (.imm (.slice (.pair (.int .i64) (.pair (.int .i64) (.int .i64)))) r_58)), (5, .c (.val (.int .i64 (0 : Int))))] [] [] hn (by kernel_rfl) (by kernel_rfl) rfl rfl rfl (QF_retS (by kernel_rfl) (by kernel_rfl) rfl)

theorem delta_IsCopy_spec (K : Nat) (x_1 : Int) (x_2 : Int) (x_3 : ByteArray) (r : Bool) (H : delta_IsCopy K x_1 x_2 x_3 = some r) : Spec Try.prog 38 0 [.agg [.val (.int .i64 x_1), .val (.int .i64 x_2), .val (.string x_3)]] [] (.c (.val (.bool r))) [] := by
  refine Spec_mk (fn := Try.f38) (c := (Try.f38.body).get!) Try.func38 (by kernel_rfl) rfl ?_
  intro C hN hn
  replace hN : C.N = 6 := hN
  unfold delta_IsCopy at H
  refine V_run hN hn 4 0 [2] [] ⟨[(2, .c (.val (.bool (ByteArray.toList x_3 == ByteArray.toList (ByteArray.mk #[])))))], [], 1⟩ [] (by kernel_rfl) rfl rfl ap0 ?_
  have H_6 := Option.some.inj (show some (ByteArray.toList x_3 == ByteArray.toList (ByteArray.mk #[])) = some r from H); subst H_6
  refine VL_ret ?_
  exact P_to [(2, .c (.val (.bool (ByteArray.toList x_3 == ByteArray.toList (ByteArray.mk #[])))))] [] [] hn (by kernel_rfl) (by kernel_rfl) rfl rfl rfl (QF_retS (by kernel_rfl) (by kernel_rfl) rfl)

theorem utf_forms_spec (K : Nat) (r : (Int × Int × Int × Int × Int × Int × Int × Int × Int × Int × Int × Int)) (H : utf_forms K  = some r) : Spec Try.prog 57 0 [] [] (.agg [.val (.int .u8 r.1), .val (.int .u8 r.2.1), .val (.int .i32 r.2.2.1), .val (.int .u8 r.2.2.2.1), .val (.int .u8 r.2.2.2.2.1), .val (.int .i32 r.2.2.2.2.2.1), .val (.int .u8 r.2.2.2.2.2.2.1), .val (.int .u8 r.2.2.2.2.2.2.2.1), .val (.int .i32 r.2.2.2.2.2.2.2.2.1), .val (.int .u8 r.2.2.2.2.2.2.2.2.2.1), .val (.int .u8 r.2.2.2.2.2.2.2.2.2.2.1), .val (.int .i32 r.2.2.2.2.2.2.2.2.2.2.2)]) [] := by
  refine Spec_mk (fn := Try.f57) (c := (Try.f57.body).get!) Try.func57 (by kernel_rfl) rfl ?_
  intro C hN hn
  replace hN : C.N = 6 := hN
  unfold utf_forms at H
  refine V_run hN hn 4 0 [0] [0] ⟨[(0, .c (.h 0))], [(0, .box [.val (.int .u8 (128 : Int)), .val (.int .u8 (0 : Int)), .val (.int .i32 (0 : Int)), .val (.int .u8 (224 : Int)), .val (.int .u8 (192 : Int)), .val (.int .i32 (128 : Int)), .val (.int .u8 (240 : Int)), .val (.int .u8 (224 : Int)), .val (.int .i32 (2048 : Int)), .val (.int .u8 (248 : Int)), .val (.int .u8 (240 : Int)), .val (.int .i32 (65536 : Int))])], 1⟩ [] (by kernel_rfl) rfl rfl ap0 ?_
  have H_14 := Option.some.inj (show some ((128 : Int), (0 : Int), (0 : Int), (224 : Int), (192 : Int), (128 : Int), (240 : Int), (224 : Int), (2048 : Int), (248 : Int), (240 : Int), (65536 : Int)) = some r from H); subst H_14
  refine VL_ret ?_
  exact P_to [(0, .c (.h 0))] [(0, .box [.val (.int .u8 (128 : Int)), .val (.int .u8 (0 : Int)), .val (.int .i32 (0 : Int)), .val (.int .u8 (224 : Int)), .val (.int .u8 (192 : Int)), .val (.int .i32 (128 : Int)), .val (.int .u8 (240 : Int)), .val (.int .u8 (224 : Int)), .val (.int .i32 (2048 : Int)), .val (.int .u8 (248 : Int)), .val (.int .u8 (240 : Int)), .val (.int .i32 (65536 : Int))])] [(0, 0)] hn (by kernel_rfl) (by kernel_rfl) rfl rfl rfl (QF_retS (by kernel_rfl) (by kernel_rfl) rfl)

theorem utf_isPoint_spec (K : Nat) (r_1 : Int) (r : Bool) (H : utf_isPoint K r_1 = some r) : Spec Try.prog 60 0 [.c (.val (.int .i32 r_1))] [] (.c (.val (.bool r))) [] := by
  refine Spec_mk (fn := Try.f60) (c := (Try.f60.body).get!) Try.func60 (by kernel_rfl) rfl ?_
  intro C hN hn
  replace hN : C.N = 17 := hN
  unfold utf_isPoint at H
  refine V_run hN hn 3 0 [0] [] ⟨[(0, .c (.val (.int .i32 r_1)))], [], 0⟩ [] (by kernel_rfl) rfl rfl ap0 ?_
  rcases Bool.eq_false_or_eq_true ((decide (r_1 ≥ (0 : Int)))) with b_3 | b_3
  · have H_11 := of_t H b_3
    rcases Bool.eq_false_or_eq_true ((decide (r_1 ≤ (1114111 : Int)))) with b_4 | b_4
    · have H_13 := of_t H_11 b_4
      rcases Bool.eq_false_or_eq_true ((decide (r_1 < (55296 : Int)))) with b_5 | b_5
      · have H_15 := of_t H_13 b_5
        refine V_reg hN hn [] [(5, true), (9, true), (12, true)] calls_nil 0 [2] [] ⟨[(2, .c (.val (.bool true)))], [], 0⟩ [(decide (r_1 ≥ (0 : Int))) = true, (decide (r_1 ≤ (1114111 : Int))) = true, (decide (r_1 < (55296 : Int))) = true] (by kernel_rfl) rfl rfl (ap2 b_3 (ap2 b_4 (ap1 b_5))) (by kernel_rfl) (by kernel_rfl) ?_
        have H_17 := Option.some.inj (show some true = some r from H_15); subst H_17
        refine VL_ret ?_
        exact P_to [(2, .c (.val (.bool true)))] [] [] hn (by kernel_rfl) (by kernel_rfl) rfl rfl rfl (QF_retS (by kernel_rfl) (by kernel_rfl) rfl)
      · have H_16 := of_f H_13 b_5
        refine V_reg hN hn [] [(5, true), (9, true), (12, false)] calls_nil 0 [2] [] ⟨[(2, .c (.val (.bool (decide (r_1 > (57343 : Int))))))], [], 0⟩ [(decide (r_1 ≥ (0 : Int))) = true, (decide (r_1 ≤ (1114111 : Int))) = true, (decide (r_1 < (55296 : Int))) = false] (by kernel_rfl) rfl rfl (ap2 b_3 (ap2 b_4 (ap1 b_5))) (by kernel_rfl) (by kernel_rfl) ?_
        have H_18 := Option.some.inj (show some (decide (r_1 > (57343 : Int))) = some r from H_16); subst H_18
        refine VL_ret ?_
        exact P_to [(2, .c (.val (.bool (decide (r_1 > (57343 : Int))))))] [] [] hn (by kernel_rfl) (by kernel_rfl) rfl rfl rfl (QF_retS (by kernel_rfl) (by kernel_rfl) rfl)
    · have H_14 := of_f H_11 b_4
      refine V_reg hN hn [] [(5, true), (9, false)] calls_nil 0 [2] [] ⟨[(2, .c (.val (.bool false)))], [], 0⟩ [(decide (r_1 ≥ (0 : Int))) = true, (decide (r_1 ≤ (1114111 : Int))) = false] (by kernel_rfl) rfl rfl (ap2 b_3 (ap1 b_4)) (by kernel_rfl) (by kernel_rfl) ?_
      have H_19 := Option.some.inj (show some false = some r from H_14); subst H_19
      refine VL_ret ?_
      exact P_to [(2, .c (.val (.bool false)))] [] [] hn (by kernel_rfl) (by kernel_rfl) rfl rfl rfl (QF_retS (by kernel_rfl) (by kernel_rfl) rfl)
  · have H_12 := of_f H b_3
    refine V_reg hN hn [] [(5, false)] calls_nil 0 [2] [] ⟨[(2, .c (.val (.bool false)))], [], 0⟩ [(decide (r_1 ≥ (0 : Int))) = false] (by kernel_rfl) rfl rfl (ap1 b_3) (by kernel_rfl) (by kernel_rfl) ?_
    have H_20 := Option.some.inj (show some false = some r from H_12); subst H_20
    refine VL_ret ?_
    exact P_to [(2, .c (.val (.bool false)))] [] [] hn (by kernel_rfl) (by kernel_rfl) rfl rfl rfl (QF_retS (by kernel_rfl) (by kernel_rfl) rfl)

theorem utf_long_spec (K : Nat) (s_1 : ByteArray) (at_2 : Int) (n_3 : Int) (f_4 : Int) (f_5 : Int) (f_6 : Int) (r : (Int × Int)) (H : utf_long K s_1 at_2 n_3 f_4 f_5 f_6 = some r) : Spec Try.prog 58 0 [.c (.val (.string s_1)), .c (.val (.int .i64 at_2)), .c (.val (.int .i64 n_3)), .agg [.val (.int .u8 f_4), .val (.int .u8 f_5), .val (.int .i32 f_6)]] [] (.tup [(false, [.val (.int .i32 r.1)]), (false, [.val (.int .i64 r.2)])]) [] := by
  refine Spec_mk (fn := Try.f58) (c := (Try.f58.body).get!) Try.func58 (by kernel_rfl) rfl ?_
  intro C hN hn
  replace hN : C.N = 56 := hN
  unfold utf_long at H
  refine V_run hN hn 5 0 [0, 1, 2, 7, 18] [0] ⟨[(0, .c (.val (.string s_1))), (1, .c (.val (.int .i64 at_2))), (2, .c (.val (.int .i64 n_3))), (7, .c (.h 0)), (18, .c (.val (.bool (decide ((IntKind.wrap .i64 ((((ByteArray.size s_1) : Nat) : Int) - at_2)) < n_3)))))], [(0, .box [.val (.int .u8 f_4), .val (.int .u8 f_5), .val (.int .i32 f_6)])], 1⟩ [] (by kernel_rfl) rfl rfl ap0 ?_
  refine VL_cond ((decide ((IntKind.wrap .i64 ((((ByteArray.size s_1) : Nat) : Int) - at_2)) < n_3))) (by kernel_rfl) ?_ ?_
  · intro b_8; have H_40 := of_t H b_8
    refine V_run hN hn 2 1 [8, 9] [] ⟨[(8, .c (.val (.int .i32 (0 : Int)))), (9, .c (.val (.int .i64 (0 : Int))))], [], 1⟩ [] (by kernel_rfl) rfl rfl ap0 ?_
    have H_42 := Option.some.inj (show some ((0 : Int), (0 : Int)) = some r from H_40); subst H_42
    refine VL_ret ?_
    exact P_to [(8, .c (.val (.int .i32 (0 : Int)))), (9, .c (.val (.int .i64 (0 : Int))))] [] [] hn (by kernel_rfl) (by kernel_rfl) rfl rfl rfl (QF_retS (by kernel_rfl) (by kernel_rfl) rfl)
  · intro b_8; have H_41 := of_f H b_8
    refine V_run hN hn 2 1 [0, 1, 2, 7, 18] [0] ⟨[(0, .c (.val (.string s_1))), (1, .c (.val (.int .i64 at_2))), (2, .c (.val (.int .i64 n_3))), (7, .c (.h 0)), (18, .c (.val (.bool (decide ((IntKind.wrap .i64 ((((ByteArray.size s_1) : Nat) : Int) - at_2)) < n_3)))))], [(0, .box [.val (.int .u8 f_4), .val (.int .u8 f_5), .val (.int .i32 f_6)])], 1⟩ [] (by kernel_rfl) rfl rfl ap0 ?_
    obtain ⟨c_11, H_43⟩ := of_if H_41
    refine V_draw hN hn (by kernel_rfl) [] [] calls_nil 1 [0, 1, 2, 7, 10] [0] ⟨[(0, .c (.val (.string s_1))), (1, .c (.val (.int .i64 at_2))), (2, .c (.val (.int .i64 n_3))), (7, .c (.h 0)), (10, .c (.val (.int .i32 (IntKind.wrap .i32 (IntKind.wrap .u8 (BitVec.toNat (BitVec.ofInt (IntKind.bits .u8) (bt s_1 at_2) &&& ~~~BitVec.ofInt (IntKind.bits .u8) f_4)))))))], [(0, .box [.val (.int .u8 f_4), .val (.int .u8 f_5), .val (.int .i32 f_6)])], 1⟩ [0 ≤ at_2, at_2 < (((ByteArray.size s_1) : Nat) : Int)] (by kernel_rfl) rfl rfl (ap2 c_11.1 (ap1 c_11.2)) (by kernel_rfl) (by kernel_rfl) ?_
    refine V_run hN hn 3 1 [0, 1, 2, 7, 10, 11] [0] ⟨[(0, .c (.val (.string s_1))), (1, .c (.val (.int .i64 at_2))), (2, .c (.val (.int .i64 n_3))), (7, .c (.h 0)), (10, .c (.val (.int .i32 (IntKind.wrap .i32 (IntKind.wrap .u8 (BitVec.toNat (BitVec.ofInt (IntKind.bits .u8) (bt s_1 at_2) &&& ~~~BitVec.ofInt (IntKind.bits .u8) f_4))))))), (11, .c (.val (.int .i64 (1 : Int))))], [(0, .box [.val (.int .u8 f_4), .val (.int .u8 f_5), .val (.int .i32 f_6)])], 1⟩ [] (by kernel_rfl) rfl rfl ap0 ?_
    obtain ⟨q_44, H_45, H_46⟩ := of_bind H_43
    refine V_cut (Y := Int) (R := ((Int × Int) ⊕ Int)) q_44 (fun y => (Sum.inr y)) (fun y => [(2, .c (.val (.int .i64 n_3))), (7, .c (.h 0)), (10, .c (.val (.int .i32 y)))]) (fun y => [(0, .box [.val (.int .u8 f_4), .val (.int .u8 f_5), .val (.int .i32 f_6)])]) ?_ ?_
    · skip
      refine VL_block ?_
      refine V_to [(0, .c (.val (.string s_1))), (1, .c (.val (.int .i64 at_2))), (2, .c (.val (.int .i64 n_3))), (7, .c (.h 0)), (10, .c (.val (.int .i32 (IntKind.wrap .i32 (IntKind.wrap .u8 (BitVec.toNat (BitVec.ofInt (IntKind.bits .u8) (bt s_1 at_2) &&& ~~~BitVec.ofInt (IntKind.bits .u8) f_4))))))), (11, .c (.val (.int .i64 (1 : Int))))] [(0, .box [.val (.int .u8 f_4), .val (.int .u8 f_5), .val (.int .i32 f_6)])] [(0, 0)] hn (by kernel_rfl) (by kernel_rfl) rfl rfl rfl ?_
      refine VL_loop (X := (Int × Int)) (fun x => [(0, .c (.val (.string s_1))), (1, .c (.val (.int .i64 at_2))), (2, .c (.val (.int .i64 n_3))), (7, .c (.h 0)), (10, .c (.val (.int .i32 x.1))), (11, .c (.val (.int .i64 x.2)))]) (fun x => [(0, .box [.val (.int .u8 f_4), .val (.int .u8 f_5), .val (.int .i32 f_6)])]) (fun k x => utf_long.l0 K n_3 at_2 s_1 k x.1 x.2 = some q_44) K ((IntKind.wrap .i32 (IntKind.wrap .u8 (BitVec.toNat (BitVec.ofInt (IntKind.bits .u8) (bt s_1 at_2) &&& ~~~BitVec.ofInt (IntKind.bits .u8) f_4)))), (1 : Int)) H_45 (fun _ h => no_none h) ?_
      intro k_15 x_15 H_48
      obtain ⟨r_13, i_14⟩ := x_15
      have H_49 : utf_long.l0 K n_3 at_2 s_1 (k_15 + 1) r_13 i_14 = some q_44 := H_48
      rw [utf_long.l0] at H_49
      refine V_run hN hn 3 1 [0, 1, 2, 7, 10, 11, 28] [0] ⟨[(0, .c (.val (.string s_1))), (1, .c (.val (.int .i64 at_2))), (2, .c (.val (.int .i64 n_3))), (7, .c (.h 0)), (10, .c (.val (.int .i32 r_13))), (11, .c (.val (.int .i64 i_14))), (28, .c (.val (.bool (decide (i_14 < n_3)))))], [(0, .box [.val (.int .u8 f_4), .val (.int .u8 f_5), .val (.int .i32 f_6)])], 1⟩ [] (by kernel_rfl) rfl rfl ap0 ?_
      refine VL_cond ((decide (i_14 < n_3))) (by kernel_rfl) ?_ ?_
      · intro b_17; have H_50 := of_t H_49 b_17
        refine V_run hN hn 2 1 [0, 1, 2, 7, 10, 11, 28] [0] ⟨[(0, .c (.val (.string s_1))), (1, .c (.val (.int .i64 at_2))), (2, .c (.val (.int .i64 n_3))), (7, .c (.h 0)), (10, .c (.val (.int .i32 r_13))), (11, .c (.val (.int .i64 i_14))), (28, .c (.val (.bool (decide (i_14 < n_3)))))], [(0, .box [.val (.int .u8 f_4), .val (.int .u8 f_5), .val (.int .i32 f_6)])], 1⟩ [] (by kernel_rfl) rfl rfl ap0 ?_
        refine VL_block ?_
        obtain ⟨c_19, H_52⟩ := of_if H_50
        refine V_run hN hn 5 1 [0, 1, 2, 7, 10, 11, 12, 38] [0] ⟨[(0, .c (.val (.string s_1))), (1, .c (.val (.int .i64 at_2))), (2, .c (.val (.int .i64 n_3))), (7, .c (.h 0)), (10, .c (.val (.int .i32 r_13))), (11, .c (.val (.int .i64 i_14))), (12, .c (.val (.int .u8 (bt s_1 (IntKind.wrap .i64 (at_2 + i_14)))))), (38, .c (.val (.bool ((IntKind.wrap .u8 (BitVec.toNat (BitVec.ofInt (IntKind.bits .u8) (bt s_1 (IntKind.wrap .i64 (at_2 + i_14))) &&& BitVec.ofInt (IntKind.bits .u8) (192 : Int)))) != (128 : Int)))))], [(0, .box [.val (.int .u8 f_4), .val (.int .u8 f_5), .val (.int .i32 f_6)])], 1⟩ [0 ≤ (IntKind.wrap .i64 (at_2 + i_14)), (IntKind.wrap .i64 (at_2 + i_14)) < (((ByteArray.size s_1) : Nat) : Int)] (by kernel_rfl) rfl rfl (ap2 c_19.1 (ap1 c_19.2)) ?_
        refine VL_cond (((IntKind.wrap .u8 (BitVec.toNat (BitVec.ofInt (IntKind.bits .u8) (bt s_1 (IntKind.wrap .i64 (at_2 + i_14))) &&& BitVec.ofInt (IntKind.bits .u8) (192 : Int)))) != (128 : Int))) (by kernel_rfl) ?_ ?_
        · intro b_20; have H_53 := of_t H_52 b_20
          refine V_run hN hn 2 1 [8, 9] [] ⟨[(8, .c (.val (.int .i32 (0 : Int)))), (9, .c (.val (.int .i64 (0 : Int))))], [], 1⟩ [] (by kernel_rfl) rfl rfl ap0 ?_
          have H_55 := Option.some.inj (show some (Sum.inl ((0 : Int), (0 : Int))) = some q_44 from H_53); subst H_55
          have H_56 := Option.some.inj (show some ((0 : Int), (0 : Int)) = some r from H_46); subst H_56
          refine VL_ret ?_
          refine QB_ret ?_
          refine QL_ret ?_
          refine QB_ret ?_
          refine QP_ret ?_
          exact P_to [(8, .c (.val (.int .i32 (0 : Int)))), (9, .c (.val (.int .i64 (0 : Int))))] [] [] hn (by kernel_rfl) (by kernel_rfl) rfl rfl rfl (QF_retS (by kernel_rfl) (by kernel_rfl) rfl)
        · intro b_20; have H_54 := of_f H_52 b_20
          refine V_run hN hn 2 1 [0, 1, 2, 7, 10, 11] [0] ⟨[(0, .c (.val (.string s_1))), (1, .c (.val (.int .i64 at_2))), (2, .c (.val (.int .i64 n_3))), (7, .c (.h 0)), (10, .c (.val (.int .i32 (IntKind.wrap .i32 (BitVec.toNat (BitVec.ofInt (IntKind.bits .i32) (IntKind.wrap .i32 (r_13 * (64 : Int))) ||| BitVec.ofInt (IntKind.bits .i32) (IntKind.wrap .i32 (IntKind.wrap .u8 (BitVec.toNat (BitVec.ofInt (IntKind.bits .u8) (bt s_1 (IntKind.wrap .i64 (at_2 + i_14))) &&& ~~~BitVec.ofInt (IntKind.bits .u8) (192 : Int))))))))))), (11, .c (.val (.int .i64 i_14)))], [(0, .box [.val (.int .u8 f_4), .val (.int .u8 f_5), .val (.int .i32 f_6)])], 1⟩ [(0 : Int) ≤ (6 : Int)] (by kernel_rfl) rfl rfl (ap1 (by decide)) ?_
          refine VL_nil (QB_end ?_)
          refine V_run hN hn 1 1 [0, 1, 2, 7, 10, 11] [0] ⟨[(0, .c (.val (.string s_1))), (1, .c (.val (.int .i64 at_2))), (2, .c (.val (.int .i64 n_3))), (7, .c (.h 0)), (10, .c (.val (.int .i32 (IntKind.wrap .i32 (BitVec.toNat (BitVec.ofInt (IntKind.bits .i32) (IntKind.wrap .i32 (r_13 * (64 : Int))) ||| BitVec.ofInt (IntKind.bits .i32) (IntKind.wrap .i32 (IntKind.wrap .u8 (BitVec.toNat (BitVec.ofInt (IntKind.bits .u8) (bt s_1 (IntKind.wrap .i64 (at_2 + i_14))) &&& ~~~BitVec.ofInt (IntKind.bits .u8) (192 : Int))))))))))), (11, .c (.val (.int .i64 (IntKind.wrap .i64 (i_14 + (1 : Int))))))], [(0, .box [.val (.int .u8 f_4), .val (.int .u8 f_5), .val (.int .i32 f_6)])], 1⟩ [] (by kernel_rfl) rfl rfl ap0 ?_
          refine VL_nil ?_
          exact V_roundEnd ((IntKind.wrap .i32 (BitVec.toNat (BitVec.ofInt (IntKind.bits .i32) (IntKind.wrap .i32 (r_13 * (64 : Int))) ||| BitVec.ofInt (IntKind.bits .i32) (IntKind.wrap .i32 (IntKind.wrap .u8 (BitVec.toNat (BitVec.ofInt (IntKind.bits .u8) (bt s_1 (IntKind.wrap .i64 (at_2 + i_14))) &&& ~~~BitVec.ofInt (IntKind.bits .u8) (192 : Int)))))))), (IntKind.wrap .i64 (i_14 + (1 : Int)))) H_54 [(0, 0)] hn (by kernel_rfl) (by kernel_rfl) rfl rfl rfl
      · intro b_17; have H_51 := of_f H_49 b_17
        refine VL_exit ?_
        refine QL_exit ?_
        refine QB_here ?_
        have H_57 := Option.some.inj (show some (Sum.inr r_13) = some q_44 from H_51); subst H_57
        refine VL_nil ?_
        exact QP_end r_13 rfl [(0, 0)] hn (by kernel_rfl) (by kernel_rfl) rfl rfl rfl
    · intro y_47 hy; subst hy
      skip
      skip
      refine V_run hN hn 2 1 [2, 7, 10] [0] ⟨[(2, .c (.val (.int .i64 n_3))), (7, .c (.h 0)), (10, .c (.val (.int .i32 y_47)))], [(0, .box [.val (.int .u8 f_4), .val (.int .u8 f_5), .val (.int .i32 f_6)])], 1⟩ [] (by kernel_rfl) rfl rfl ap0 ?_
      obtain ⟨q_58, H_59, H_60⟩ := of_bind H_46
      refine V_cut (Y := Bool) (R := Bool) q_58 (fun y => y) (fun y => [(2, .c (.val (.int .i64 n_3))), (10, .c (.val (.int .i32 y_47))), (53, .c (.val (.bool y)))]) (fun y => []) ?_ ?_
      · skip
        rcases Bool.eq_false_or_eq_true ((decide (y_47 < f_6))) with b_26 | b_26
        · have H_62 := of_t H_59 b_26
          refine V_reg hN hn [] [(49, true)] calls_nil 1 [2, 10, 53] [] ⟨[(2, .c (.val (.int .i64 n_3))), (10, .c (.val (.int .i32 y_47))), (53, .c (.val (.bool true)))], [], 1⟩ [(decide (y_47 < f_6)) = true] (by kernel_rfl) rfl rfl (ap1 b_26) (by kernel_rfl) (by kernel_rfl) ?_
          have H_64 := Option.some.inj (show some true = some q_58 from H_62); subst H_64
          refine VL_nil ?_
          exact QP_end true rfl [] hn (by kernel_rfl) (by kernel_rfl) rfl rfl rfl
        · have H_63 := of_f H_59 b_26
          obtain ⟨r_28, h_29, H_65⟩ := of_bind H_63
          refine V_reg hN hn [(6, ⟨60, 0, [.c (.val (.int .i32 y_47))], [], .c (.val (.bool r_28)), [], [], 1⟩)] [(49, false)] (calls_cons (utf_isPoint_spec K y_47 r_28 h_29) (by kernel_rfl) calls_nil) 1 [2, 10, 53] [] ⟨[(2, .c (.val (.int .i64 n_3))), (10, .c (.val (.int .i32 y_47))), (53, .c (.val (.bool (!r_28))))], [], 1⟩ [(decide (y_47 < f_6)) = false] (by kernel_rfl) rfl rfl (ap1 b_26) (by kernel_rfl) (by kernel_rfl) ?_
          have H_66 := Option.some.inj (show some (!r_28) = some q_58 from H_65); subst H_66
          refine VL_nil ?_
          exact QP_end (!r_28) rfl [] hn (by kernel_rfl) (by kernel_rfl) rfl rfl rfl
      · intro y_61 hy; subst hy
        skip
        skip
        refine VL_cond (y_61) (by kernel_rfl) ?_ ?_
        · intro b_32; have H_67 := of_t H_60 b_32
          refine V_run hN hn 2 1 [8, 9] [] ⟨[(8, .c (.val (.int .i32 (0 : Int)))), (9, .c (.val (.int .i64 (0 : Int))))], [], 1⟩ [] (by kernel_rfl) rfl rfl ap0 ?_
          have H_69 := Option.some.inj (show some ((0 : Int), (0 : Int)) = some r from H_67); subst H_69
          refine VL_ret ?_
          exact P_to [(8, .c (.val (.int .i32 (0 : Int)))), (9, .c (.val (.int .i64 (0 : Int))))] [] [] hn (by kernel_rfl) (by kernel_rfl) rfl rfl rfl (QF_retS (by kernel_rfl) (by kernel_rfl) rfl)
        · intro b_32; have H_68 := of_f H_60 b_32
          refine V_run hN hn 3 1 [8, 9] [] ⟨[(8, .c (.val (.int .i32 y_47))), (9, .c (.val (.int .i64 n_3)))], [], 1⟩ [] (by kernel_rfl) rfl rfl ap0 ?_
          have H_70 := Option.some.inj (show some (y_47, n_3) = some r from H_68); subst H_70
          refine VL_ret ?_
          exact P_to [(8, .c (.val (.int .i32 y_47))), (9, .c (.val (.int .i64 n_3)))] [] [] hn (by kernel_rfl) (by kernel_rfl) rfl rfl rfl (QF_retS (by kernel_rfl) (by kernel_rfl) rfl)

theorem utf_point_spec (K : Nat) (s_1 : ByteArray) (at_2 : Int) (r : (Int × Int)) (H : utf_point K s_1 at_2 = some r) : Spec Try.prog 54 0 [.c (.val (.string s_1)), .c (.val (.int .i64 at_2))] [] (.tup [(false, [.val (.int .i32 r.1)]), (false, [.val (.int .i64 r.2)])]) [] := by
  refine Spec_mk (fn := Try.f54) (c := (Try.f54.body).get!) Try.func54 (by kernel_rfl) rfl ?_
  intro C hN hn
  replace hN : C.N = 39 := hN
  unfold utf_point at H
  refine V_run hN hn 4 0 [0, 1] [] ⟨[(0, .c (.val (.string s_1))), (1, .c (.val (.int .i64 at_2)))], [], 0⟩ [] (by kernel_rfl) rfl rfl ap0 ?_
  obtain ⟨q_32, H_33, H_34⟩ := of_bind H
  refine V_cut (Y := Bool) (R := Bool) q_32 (fun y => y) (fun y => [(0, .c (.val (.string s_1))), (1, .c (.val (.int .i64 at_2))), (15, .c (.val (.bool y)))]) (fun y => []) ?_ ?_
  · skip
    rcases Bool.eq_false_or_eq_true ((decide (at_2 < (0 : Int)))) with b_4 | b_4
    · have H_36 := of_t H_33 b_4
      refine V_reg hN hn [] [(10, true)] calls_nil 0 [0, 1, 15] [] ⟨[(0, .c (.val (.string s_1))), (1, .c (.val (.int .i64 at_2))), (15, .c (.val (.bool true)))], [], 0⟩ [(decide (at_2 < (0 : Int))) = true] (by kernel_rfl) rfl rfl (ap1 b_4) (by kernel_rfl) (by kernel_rfl) ?_
      have H_38 := Option.some.inj (show some true = some q_32 from H_36); subst H_38
      refine VL_nil ?_
      exact QP_end true rfl [] hn (by kernel_rfl) (by kernel_rfl) rfl rfl rfl
    · have H_37 := of_f H_33 b_4
      refine V_reg hN hn [] [(10, false)] calls_nil 0 [0, 1, 15] [] ⟨[(0, .c (.val (.string s_1))), (1, .c (.val (.int .i64 at_2))), (15, .c (.val (.bool (decide (at_2 ≥ (((ByteArray.size s_1) : Nat) : Int))))))], [], 0⟩ [(decide (at_2 < (0 : Int))) = false] (by kernel_rfl) rfl rfl (ap1 b_4) (by kernel_rfl) (by kernel_rfl) ?_
      have H_39 := Option.some.inj (show some (decide (at_2 ≥ (((ByteArray.size s_1) : Nat) : Int))) = some q_32 from H_37); subst H_39
      refine VL_nil ?_
      exact QP_end (decide (at_2 ≥ (((ByteArray.size s_1) : Nat) : Int))) rfl [] hn (by kernel_rfl) (by kernel_rfl) rfl rfl rfl
  · intro y_35 hy; subst hy
    skip
    skip
    refine VL_cond (y_35) (by kernel_rfl) ?_ ?_
    · intro b_8; have H_40 := of_t H_34 b_8
      refine V_run hN hn 2 0 [4, 5] [] ⟨[(4, .c (.val (.int .i32 (0 : Int)))), (5, .c (.val (.int .i64 (0 : Int))))], [], 0⟩ [] (by kernel_rfl) rfl rfl ap0 ?_
      have H_42 := Option.some.inj (show some ((0 : Int), (0 : Int)) = some r from H_40); subst H_42
      refine VL_ret ?_
      exact P_to [(4, .c (.val (.int .i32 (0 : Int)))), (5, .c (.val (.int .i64 (0 : Int))))] [] [] hn (by kernel_rfl) (by kernel_rfl) rfl rfl rfl (QF_retS (by kernel_rfl) (by kernel_rfl) rfl)
    · intro b_8; have H_41 := of_f H_34 b_8
      refine V_run hN hn 3 0 [0, 1, 15] [] ⟨[(0, .c (.val (.string s_1))), (1, .c (.val (.int .i64 at_2))), (15, .c (.val (.bool y_35)))], [], 0⟩ [] (by kernel_rfl) rfl rfl ap0 ?_
      obtain ⟨r_11, h_12, H_43⟩ := of_bind H_41
      refine V_reg hN hn [(0, ⟨57, 0, [], [], .agg [.val (.int .u8 r_11.1), .val (.int .u8 r_11.2.1), .val (.int .i32 r_11.2.2.1), .val (.int .u8 r_11.2.2.2.1), .val (.int .u8 r_11.2.2.2.2.1), .val (.int .i32 r_11.2.2.2.2.2.1), .val (.int .u8 r_11.2.2.2.2.2.2.1), .val (.int .u8 r_11.2.2.2.2.2.2.2.1), .val (.int .i32 r_11.2.2.2.2.2.2.2.2.1), .val (.int .u8 r_11.2.2.2.2.2.2.2.2.2.1), .val (.int .u8 r_11.2.2.2.2.2.2.2.2.2.2.1), .val (.int .i32 r_11.2.2.2.2.2.2.2.2.2.2.2)], [], [], 0⟩)] [] (calls_cons (utf_forms_spec K  r_11 h_12) (by kernel_rfl) calls_nil) 0 [0, 1, 16, 17] [] ⟨[(0, .c (.val (.string s_1))), (1, .c (.val (.int .i64 at_2))), (16, .agg [.val (.int .u8 r_11.1), .val (.int .u8 r_11.2.1), .val (.int .i32 r_11.2.2.1), .val (.int .u8 r_11.2.2.2.1), .val (.int .u8 r_11.2.2.2.2.1), .val (.int .i32 r_11.2.2.2.2.2.1), .val (.int .u8 r_11.2.2.2.2.2.2.1), .val (.int .u8 r_11.2.2.2.2.2.2.2.1), .val (.int .i32 r_11.2.2.2.2.2.2.2.2.1), .val (.int .u8 r_11.2.2.2.2.2.2.2.2.2.1), .val (.int .u8 r_11.2.2.2.2.2.2.2.2.2.2.1), .val (.int .i32 r_11.2.2.2.2.2.2.2.2.2.2.2)]), (17, .c (.val (.int .i64 (0 : Int))))], [], 0⟩ [] (by kernel_rfl) rfl rfl ap0 (by kernel_rfl) (by kernel_rfl) ?_
      refine VL_block ?_
      refine V_to [(0, .c (.val (.string s_1))), (1, .c (.val (.int .i64 at_2))), (16, .agg [.val (.int .u8 r_11.1), .val (.int .u8 r_11.2.1), .val (.int .i32 r_11.2.2.1), .val (.int .u8 r_11.2.2.2.1), .val (.int .u8 r_11.2.2.2.2.1), .val (.int .i32 r_11.2.2.2.2.2.1), .val (.int .u8 r_11.2.2.2.2.2.2.1), .val (.int .u8 r_11.2.2.2.2.2.2.2.1), .val (.int .i32 r_11.2.2.2.2.2.2.2.2.1), .val (.int .u8 r_11.2.2.2.2.2.2.2.2.2.1), .val (.int .u8 r_11.2.2.2.2.2.2.2.2.2.2.1), .val (.int .i32 r_11.2.2.2.2.2.2.2.2.2.2.2)]), (17, .c (.val (.int .i64 (0 : Int))))] [] [] hn (by kernel_rfl) (by kernel_rfl) rfl rfl rfl ?_
      refine VL_loop (X := Int) (fun x => [(0, .c (.val (.string s_1))), (1, .c (.val (.int .i64 at_2))), (16, .agg [.val (.int .u8 r_11.1), .val (.int .u8 r_11.2.1), .val (.int .i32 r_11.2.2.1), .val (.int .u8 r_11.2.2.2.1), .val (.int .u8 r_11.2.2.2.2.1), .val (.int .i32 r_11.2.2.2.2.2.1), .val (.int .u8 r_11.2.2.2.2.2.2.1), .val (.int .u8 r_11.2.2.2.2.2.2.2.1), .val (.int .i32 r_11.2.2.2.2.2.2.2.2.1), .val (.int .u8 r_11.2.2.2.2.2.2.2.2.2.1), .val (.int .u8 r_11.2.2.2.2.2.2.2.2.2.2.1), .val (.int .i32 r_11.2.2.2.2.2.2.2.2.2.2.2)]), (17, .c (.val (.int .i64 x)))]) (fun x => []) (fun k x => utf_point.l0 K at_2 s_1 r_11 k x = some r) K (0 : Int) H_43 (fun _ h => no_none h) ?_
      intro k_15 t_14 H_44
      have H_45 : utf_point.l0 K at_2 s_1 r_11 (k_15 + 1) t_14 = some r := H_44
      rw [utf_point.l0] at H_45
      refine V_run hN hn 3 0 [0, 1, 16, 17, 18] [] ⟨[(0, .c (.val (.string s_1))), (1, .c (.val (.int .i64 at_2))), (16, .agg [.val (.int .u8 r_11.1), .val (.int .u8 r_11.2.1), .val (.int .i32 r_11.2.2.1), .val (.int .u8 r_11.2.2.2.1), .val (.int .u8 r_11.2.2.2.2.1), .val (.int .i32 r_11.2.2.2.2.2.1), .val (.int .u8 r_11.2.2.2.2.2.2.1), .val (.int .u8 r_11.2.2.2.2.2.2.2.1), .val (.int .i32 r_11.2.2.2.2.2.2.2.2.1), .val (.int .u8 r_11.2.2.2.2.2.2.2.2.2.1), .val (.int .u8 r_11.2.2.2.2.2.2.2.2.2.2.1), .val (.int .i32 r_11.2.2.2.2.2.2.2.2.2.2.2)]), (17, .c (.val (.int .i64 t_14))), (18, .c (.val (.bool (decide (t_14 < (4 : Int))))))], [], 0⟩ [] (by kernel_rfl) rfl rfl ap0 ?_
      refine VL_cond ((decide (t_14 < (4 : Int)))) (by kernel_rfl) ?_ ?_
      · intro b_17; have H_46 := of_t H_45 b_17
        refine V_run hN hn 2 0 [0, 1, 16, 17, 18] [] ⟨[(0, .c (.val (.string s_1))), (1, .c (.val (.int .i64 at_2))), (16, .agg [.val (.int .u8 r_11.1), .val (.int .u8 r_11.2.1), .val (.int .i32 r_11.2.2.1), .val (.int .u8 r_11.2.2.2.1), .val (.int .u8 r_11.2.2.2.2.1), .val (.int .i32 r_11.2.2.2.2.2.1), .val (.int .u8 r_11.2.2.2.2.2.2.1), .val (.int .u8 r_11.2.2.2.2.2.2.2.1), .val (.int .i32 r_11.2.2.2.2.2.2.2.2.1), .val (.int .u8 r_11.2.2.2.2.2.2.2.2.2.1), .val (.int .u8 r_11.2.2.2.2.2.2.2.2.2.2.1), .val (.int .i32 r_11.2.2.2.2.2.2.2.2.2.2.2)]), (17, .c (.val (.int .i64 t_14))), (18, .c (.val (.bool (decide (t_14 < (4 : Int))))))], [], 0⟩ [] (by kernel_rfl) rfl rfl ap0 ?_
        refine VL_block ?_
        obtain ⟨c_19, H_48⟩ := of_if H_46
        refine V_run hN hn 3 0 [0, 1, 6, 7, 16, 17] [0] ⟨[(0, .c (.val (.string s_1))), (1, .c (.val (.int .i64 at_2))), (6, .c (.val (.int .i64 t_14))), (7, .c (.h 0)), (16, .agg [.val (.int .u8 r_11.1), .val (.int .u8 r_11.2.1), .val (.int .i32 r_11.2.2.1), .val (.int .u8 r_11.2.2.2.1), .val (.int .u8 r_11.2.2.2.2.1), .val (.int .i32 r_11.2.2.2.2.2.1), .val (.int .u8 r_11.2.2.2.2.2.2.1), .val (.int .u8 r_11.2.2.2.2.2.2.2.1), .val (.int .i32 r_11.2.2.2.2.2.2.2.2.1), .val (.int .u8 r_11.2.2.2.2.2.2.2.2.2.1), .val (.int .u8 r_11.2.2.2.2.2.2.2.2.2.2.1), .val (.int .i32 r_11.2.2.2.2.2.2.2.2.2.2.2)]), (17, .c (.val (.int .i64 t_14)))], [(0, .box [.val (.int .u8 (List.getD ([(r_11.1, (r_11.2.1, r_11.2.2.1)), (r_11.2.2.2.1, (r_11.2.2.2.2.1, r_11.2.2.2.2.2.1)), (r_11.2.2.2.2.2.2.1, (r_11.2.2.2.2.2.2.2.1, r_11.2.2.2.2.2.2.2.2.1)), (r_11.2.2.2.2.2.2.2.2.2.1, (r_11.2.2.2.2.2.2.2.2.2.2.1, r_11.2.2.2.2.2.2.2.2.2.2.2))] : List (Int × (Int × Int))) (Int.toNat t_14) ((0 : Int), ((0 : Int), (0 : Int)))).1), .val (.int .u8 (List.getD ([(r_11.1, (r_11.2.1, r_11.2.2.1)), (r_11.2.2.2.1, (r_11.2.2.2.2.1, r_11.2.2.2.2.2.1)), (r_11.2.2.2.2.2.2.1, (r_11.2.2.2.2.2.2.2.1, r_11.2.2.2.2.2.2.2.2.1)), (r_11.2.2.2.2.2.2.2.2.2.1, (r_11.2.2.2.2.2.2.2.2.2.2.1, r_11.2.2.2.2.2.2.2.2.2.2.2))] : List (Int × (Int × Int))) (Int.toNat t_14) ((0 : Int), ((0 : Int), (0 : Int)))).2.1), .val (.int .i32 (List.getD ([(r_11.1, (r_11.2.1, r_11.2.2.1)), (r_11.2.2.2.1, (r_11.2.2.2.2.1, r_11.2.2.2.2.2.1)), (r_11.2.2.2.2.2.2.1, (r_11.2.2.2.2.2.2.2.1, r_11.2.2.2.2.2.2.2.2.1)), (r_11.2.2.2.2.2.2.2.2.2.1, (r_11.2.2.2.2.2.2.2.2.2.2.1, r_11.2.2.2.2.2.2.2.2.2.2.2))] : List (Int × (Int × Int))) (Int.toNat t_14) ((0 : Int), ((0 : Int), (0 : Int)))).2.2)])], 1⟩ [0 ≤ t_14, t_14 < ((4 : Nat) : Int)] (by kernel_rfl) rfl rfl (ap2 c_19.1 (ap1 c_19.2)) ?_
        obtain ⟨c_20, H_49⟩ := of_if H_48
        refine V_draw hN hn (by kernel_rfl) [] [] calls_nil 1 [0, 1, 6, 7, 16, 17, 29] [0] ⟨[(0, .c (.val (.string s_1))), (1, .c (.val (.int .i64 at_2))), (6, .c (.val (.int .i64 t_14))), (7, .c (.h 0)), (16, .agg [.val (.int .u8 r_11.1), .val (.int .u8 r_11.2.1), .val (.int .i32 r_11.2.2.1), .val (.int .u8 r_11.2.2.2.1), .val (.int .u8 r_11.2.2.2.2.1), .val (.int .i32 r_11.2.2.2.2.2.1), .val (.int .u8 r_11.2.2.2.2.2.2.1), .val (.int .u8 r_11.2.2.2.2.2.2.2.1), .val (.int .i32 r_11.2.2.2.2.2.2.2.2.1), .val (.int .u8 r_11.2.2.2.2.2.2.2.2.2.1), .val (.int .u8 r_11.2.2.2.2.2.2.2.2.2.2.1), .val (.int .i32 r_11.2.2.2.2.2.2.2.2.2.2.2)]), (17, .c (.val (.int .i64 t_14))), (29, .c (.val (.bool ((IntKind.wrap .u8 (BitVec.toNat (BitVec.ofInt (IntKind.bits .u8) (bt s_1 at_2) &&& BitVec.ofInt (IntKind.bits .u8) (List.getD ([(r_11.1, (r_11.2.1, r_11.2.2.1)), (r_11.2.2.2.1, (r_11.2.2.2.2.1, r_11.2.2.2.2.2.1)), (r_11.2.2.2.2.2.2.1, (r_11.2.2.2.2.2.2.2.1, r_11.2.2.2.2.2.2.2.2.1)), (r_11.2.2.2.2.2.2.2.2.2.1, (r_11.2.2.2.2.2.2.2.2.2.2.1, r_11.2.2.2.2.2.2.2.2.2.2.2))] : List (Int × (Int × Int))) (Int.toNat t_14) ((0 : Int), ((0 : Int), (0 : Int)))).1))) == (List.getD ([(r_11.1, (r_11.2.1, r_11.2.2.1)), (r_11.2.2.2.1, (r_11.2.2.2.2.1, r_11.2.2.2.2.2.1)), (r_11.2.2.2.2.2.2.1, (r_11.2.2.2.2.2.2.2.1, r_11.2.2.2.2.2.2.2.2.1)), (r_11.2.2.2.2.2.2.2.2.2.1, (r_11.2.2.2.2.2.2.2.2.2.2.1, r_11.2.2.2.2.2.2.2.2.2.2.2))] : List (Int × (Int × Int))) (Int.toNat t_14) ((0 : Int), ((0 : Int), (0 : Int)))).2.1))))], [(0, .box [.val (.int .u8 (List.getD ([(r_11.1, (r_11.2.1, r_11.2.2.1)), (r_11.2.2.2.1, (r_11.2.2.2.2.1, r_11.2.2.2.2.2.1)), (r_11.2.2.2.2.2.2.1, (r_11.2.2.2.2.2.2.2.1, r_11.2.2.2.2.2.2.2.2.1)), (r_11.2.2.2.2.2.2.2.2.2.1, (r_11.2.2.2.2.2.2.2.2.2.2.1, r_11.2.2.2.2.2.2.2.2.2.2.2))] : List (Int × (Int × Int))) (Int.toNat t_14) ((0 : Int), ((0 : Int), (0 : Int)))).1), .val (.int .u8 (List.getD ([(r_11.1, (r_11.2.1, r_11.2.2.1)), (r_11.2.2.2.1, (r_11.2.2.2.2.1, r_11.2.2.2.2.2.1)), (r_11.2.2.2.2.2.2.1, (r_11.2.2.2.2.2.2.2.1, r_11.2.2.2.2.2.2.2.2.1)), (r_11.2.2.2.2.2.2.2.2.2.1, (r_11.2.2.2.2.2.2.2.2.2.2.1, r_11.2.2.2.2.2.2.2.2.2.2.2))] : List (Int × (Int × Int))) (Int.toNat t_14) ((0 : Int), ((0 : Int), (0 : Int)))).2.1), .val (.int .i32 (List.getD ([(r_11.1, (r_11.2.1, r_11.2.2.1)), (r_11.2.2.2.1, (r_11.2.2.2.2.1, r_11.2.2.2.2.2.1)), (r_11.2.2.2.2.2.2.1, (r_11.2.2.2.2.2.2.2.1, r_11.2.2.2.2.2.2.2.2.1)), (r_11.2.2.2.2.2.2.2.2.2.1, (r_11.2.2.2.2.2.2.2.2.2.2.1, r_11.2.2.2.2.2.2.2.2.2.2.2))] : List (Int × (Int × Int))) (Int.toNat t_14) ((0 : Int), ((0 : Int), (0 : Int)))).2.2)])], 1⟩ [0 ≤ at_2, at_2 < (((ByteArray.size s_1) : Nat) : Int)] (by kernel_rfl) rfl rfl (ap2 c_20.1 (ap1 c_20.2)) (by kernel_rfl) (by kernel_rfl) ?_
        refine VL_cond (((IntKind.wrap .u8 (BitVec.toNat (BitVec.ofInt (IntKind.bits .u8) (bt s_1 at_2) &&& BitVec.ofInt (IntKind.bits .u8) (List.getD ([(r_11.1, (r_11.2.1, r_11.2.2.1)), (r_11.2.2.2.1, (r_11.2.2.2.2.1, r_11.2.2.2.2.2.1)), (r_11.2.2.2.2.2.2.1, (r_11.2.2.2.2.2.2.2.1, r_11.2.2.2.2.2.2.2.2.1)), (r_11.2.2.2.2.2.2.2.2.2.1, (r_11.2.2.2.2.2.2.2.2.2.2.1, r_11.2.2.2.2.2.2.2.2.2.2.2))] : List (Int × (Int × Int))) (Int.toNat t_14) ((0 : Int), ((0 : Int), (0 : Int)))).1))) == (List.getD ([(r_11.1, (r_11.2.1, r_11.2.2.1)), (r_11.2.2.2.1, (r_11.2.2.2.2.1, r_11.2.2.2.2.2.1)), (r_11.2.2.2.2.2.2.1, (r_11.2.2.2.2.2.2.2.1, r_11.2.2.2.2.2.2.2.2.1)), (r_11.2.2.2.2.2.2.2.2.2.1, (r_11.2.2.2.2.2.2.2.2.2.2.1, r_11.2.2.2.2.2.2.2.2.2.2.2))] : List (Int × (Int × Int))) (Int.toNat t_14) ((0 : Int), ((0 : Int), (0 : Int)))).2.1)) (by kernel_rfl) ?_ ?_
        · intro b_21; have H_50 := of_t H_49 b_21
          refine V_run hN hn 1 1 [0, 1, 6, 7, 16, 17, 29] [0] ⟨[(0, .c (.val (.string s_1))), (1, .c (.val (.int .i64 at_2))), (6, .c (.val (.int .i64 t_14))), (7, .c (.h 0)), (16, .agg [.val (.int .u8 r_11.1), .val (.int .u8 r_11.2.1), .val (.int .i32 r_11.2.2.1), .val (.int .u8 r_11.2.2.2.1), .val (.int .u8 r_11.2.2.2.2.1), .val (.int .i32 r_11.2.2.2.2.2.1), .val (.int .u8 r_11.2.2.2.2.2.2.1), .val (.int .u8 r_11.2.2.2.2.2.2.2.1), .val (.int .i32 r_11.2.2.2.2.2.2.2.2.1), .val (.int .u8 r_11.2.2.2.2.2.2.2.2.2.1), .val (.int .u8 r_11.2.2.2.2.2.2.2.2.2.2.1), .val (.int .i32 r_11.2.2.2.2.2.2.2.2.2.2.2)]), (17, .c (.val (.int .i64 t_14))), (29, .c (.val (.bool ((IntKind.wrap .u8 (BitVec.toNat (BitVec.ofInt (IntKind.bits .u8) (bt s_1 at_2) &&& BitVec.ofInt (IntKind.bits .u8) (List.getD ([(r_11.1, (r_11.2.1, r_11.2.2.1)), (r_11.2.2.2.1, (r_11.2.2.2.2.1, r_11.2.2.2.2.2.1)), (r_11.2.2.2.2.2.2.1, (r_11.2.2.2.2.2.2.2.1, r_11.2.2.2.2.2.2.2.2.1)), (r_11.2.2.2.2.2.2.2.2.2.1, (r_11.2.2.2.2.2.2.2.2.2.2.1, r_11.2.2.2.2.2.2.2.2.2.2.2))] : List (Int × (Int × Int))) (Int.toNat t_14) ((0 : Int), ((0 : Int), (0 : Int)))).1))) == (List.getD ([(r_11.1, (r_11.2.1, r_11.2.2.1)), (r_11.2.2.2.1, (r_11.2.2.2.2.1, r_11.2.2.2.2.2.1)), (r_11.2.2.2.2.2.2.1, (r_11.2.2.2.2.2.2.2.1, r_11.2.2.2.2.2.2.2.2.1)), (r_11.2.2.2.2.2.2.2.2.2.1, (r_11.2.2.2.2.2.2.2.2.2.2.1, r_11.2.2.2.2.2.2.2.2.2.2.2))] : List (Int × (Int × Int))) (Int.toNat t_14) ((0 : Int), ((0 : Int), (0 : Int)))).2.1))))], [(0, .box [.val (.int .u8 (List.getD ([(r_11.1, (r_11.2.1, r_11.2.2.1)), (r_11.2.2.2.1, (r_11.2.2.2.2.1, r_11.2.2.2.2.2.1)), (r_11.2.2.2.2.2.2.1, (r_11.2.2.2.2.2.2.2.1, r_11.2.2.2.2.2.2.2.2.1)), (r_11.2.2.2.2.2.2.2.2.2.1, (r_11.2.2.2.2.2.2.2.2.2.2.1, r_11.2.2.2.2.2.2.2.2.2.2.2))] : List (Int × (Int × Int))) (Int.toNat t_14) ((0 : Int), ((0 : Int), (0 : Int)))).1), .val (.int .u8 (List.getD ([(r_11.1, (r_11.2.1, r_11.2.2.1)), (r_11.2.2.2.1, (r_11.2.2.2.2.1, r_11.2.2.2.2.2.1)), (r_11.2.2.2.2.2.2.1, (r_11.2.2.2.2.2.2.2.1, r_11.2.2.2.2.2.2.2.2.1)), (r_11.2.2.2.2.2.2.2.2.2.1, (r_11.2.2.2.2.2.2.2.2.2.2.1, r_11.2.2.2.2.2.2.2.2.2.2.2))] : List (Int × (Int × Int))) (Int.toNat t_14) ((0 : Int), ((0 : Int), (0 : Int)))).2.1), .val (.int .i32 (List.getD ([(r_11.1, (r_11.2.1, r_11.2.2.1)), (r_11.2.2.2.1, (r_11.2.2.2.2.1, r_11.2.2.2.2.2.1)), (r_11.2.2.2.2.2.2.1, (r_11.2.2.2.2.2.2.2.1, r_11.2.2.2.2.2.2.2.2.1)), (r_11.2.2.2.2.2.2.2.2.2.1, (r_11.2.2.2.2.2.2.2.2.2.2.1, r_11.2.2.2.2.2.2.2.2.2.2.2))] : List (Int × (Int × Int))) (Int.toNat t_14) ((0 : Int), ((0 : Int), (0 : Int)))).2.2)])], 1⟩ [] (by kernel_rfl) rfl rfl ap0 ?_
          obtain ⟨r_23, h_24, H_52⟩ := of_bind H_50
          refine V_reg hN hn [(5, ⟨58, 0, [.c (.val (.string s_1)), .c (.val (.int .i64 at_2)), .c (.val (.int .i64 (IntKind.wrap .i64 (t_14 + (1 : Int))))), .agg [.val (.int .u8 (List.getD ([(r_11.1, (r_11.2.1, r_11.2.2.1)), (r_11.2.2.2.1, (r_11.2.2.2.2.1, r_11.2.2.2.2.2.1)), (r_11.2.2.2.2.2.2.1, (r_11.2.2.2.2.2.2.2.1, r_11.2.2.2.2.2.2.2.2.1)), (r_11.2.2.2.2.2.2.2.2.2.1, (r_11.2.2.2.2.2.2.2.2.2.2.1, r_11.2.2.2.2.2.2.2.2.2.2.2))] : List (Int × (Int × Int))) (Int.toNat t_14) ((0 : Int), ((0 : Int), (0 : Int)))).1), .val (.int .u8 (List.getD ([(r_11.1, (r_11.2.1, r_11.2.2.1)), (r_11.2.2.2.1, (r_11.2.2.2.2.1, r_11.2.2.2.2.2.1)), (r_11.2.2.2.2.2.2.1, (r_11.2.2.2.2.2.2.2.1, r_11.2.2.2.2.2.2.2.2.1)), (r_11.2.2.2.2.2.2.2.2.2.1, (r_11.2.2.2.2.2.2.2.2.2.2.1, r_11.2.2.2.2.2.2.2.2.2.2.2))] : List (Int × (Int × Int))) (Int.toNat t_14) ((0 : Int), ((0 : Int), (0 : Int)))).2.1), .val (.int .i32 (List.getD ([(r_11.1, (r_11.2.1, r_11.2.2.1)), (r_11.2.2.2.1, (r_11.2.2.2.2.1, r_11.2.2.2.2.2.1)), (r_11.2.2.2.2.2.2.1, (r_11.2.2.2.2.2.2.2.1, r_11.2.2.2.2.2.2.2.2.1)), (r_11.2.2.2.2.2.2.2.2.2.1, (r_11.2.2.2.2.2.2.2.2.2.2.1, r_11.2.2.2.2.2.2.2.2.2.2.2))] : List (Int × (Int × Int))) (Int.toNat t_14) ((0 : Int), ((0 : Int), (0 : Int)))).2.2)]], [], .tup [(false, [.val (.int .i32 r_23.1)]), (false, [.val (.int .i64 r_23.2)])], [], [], 1⟩)] [] (calls_cons (utf_long_spec K s_1 at_2 (IntKind.wrap .i64 (t_14 + (1 : Int))) (List.getD ([(r_11.1, (r_11.2.1, r_11.2.2.1)), (r_11.2.2.2.1, (r_11.2.2.2.2.1, r_11.2.2.2.2.2.1)), (r_11.2.2.2.2.2.2.1, (r_11.2.2.2.2.2.2.2.1, r_11.2.2.2.2.2.2.2.2.1)), (r_11.2.2.2.2.2.2.2.2.2.1, (r_11.2.2.2.2.2.2.2.2.2.2.1, r_11.2.2.2.2.2.2.2.2.2.2.2))] : List (Int × (Int × Int))) (Int.toNat t_14) ((0 : Int), ((0 : Int), (0 : Int)))).1 (List.getD ([(r_11.1, (r_11.2.1, r_11.2.2.1)), (r_11.2.2.2.1, (r_11.2.2.2.2.1, r_11.2.2.2.2.2.1)), (r_11.2.2.2.2.2.2.1, (r_11.2.2.2.2.2.2.2.1, r_11.2.2.2.2.2.2.2.2.1)), (r_11.2.2.2.2.2.2.2.2.2.1, (r_11.2.2.2.2.2.2.2.2.2.2.1, r_11.2.2.2.2.2.2.2.2.2.2.2))] : List (Int × (Int × Int))) (Int.toNat t_14) ((0 : Int), ((0 : Int), (0 : Int)))).2.1 (List.getD ([(r_11.1, (r_11.2.1, r_11.2.2.1)), (r_11.2.2.2.1, (r_11.2.2.2.2.1, r_11.2.2.2.2.2.1)), (r_11.2.2.2.2.2.2.1, (r_11.2.2.2.2.2.2.2.1, r_11.2.2.2.2.2.2.2.2.1)), (r_11.2.2.2.2.2.2.2.2.2.1, (r_11.2.2.2.2.2.2.2.2.2.2.1, r_11.2.2.2.2.2.2.2.2.2.2.2))] : List (Int × (Int × Int))) (Int.toNat t_14) ((0 : Int), ((0 : Int), (0 : Int)))).2.2 r_23 h_24) (by kernel_rfl) calls_nil) 1 [4, 5] [] ⟨[(4, .c (.val (.int .i32 r_23.1))), (5, .c (.val (.int .i64 r_23.2)))], [], 1⟩ [] (by kernel_rfl) rfl rfl ap0 (by kernel_rfl) (by kernel_rfl) ?_
          have H_53 := Option.some.inj (show some (r_23.1, r_23.2) = some r from H_52); subst H_53
          refine VL_ret ?_
          refine QB_ret ?_
          refine QL_ret ?_
          refine QB_ret ?_
          exact P_to [(4, .c (.val (.int .i32 r_23.1))), (5, .c (.val (.int .i64 r_23.2)))] [] [] hn (by kernel_rfl) (by kernel_rfl) rfl rfl rfl (QF_retS (by kernel_rfl) (by kernel_rfl) rfl)
        · intro b_21; have H_51 := of_f H_49 b_21
          refine V_run hN hn 1 1 [0, 1, 6, 7, 16, 17, 29] [0] ⟨[(0, .c (.val (.string s_1))), (1, .c (.val (.int .i64 at_2))), (6, .c (.val (.int .i64 t_14))), (7, .c (.h 0)), (16, .agg [.val (.int .u8 r_11.1), .val (.int .u8 r_11.2.1), .val (.int .i32 r_11.2.2.1), .val (.int .u8 r_11.2.2.2.1), .val (.int .u8 r_11.2.2.2.2.1), .val (.int .i32 r_11.2.2.2.2.2.1), .val (.int .u8 r_11.2.2.2.2.2.2.1), .val (.int .u8 r_11.2.2.2.2.2.2.2.1), .val (.int .i32 r_11.2.2.2.2.2.2.2.2.1), .val (.int .u8 r_11.2.2.2.2.2.2.2.2.2.1), .val (.int .u8 r_11.2.2.2.2.2.2.2.2.2.2.1), .val (.int .i32 r_11.2.2.2.2.2.2.2.2.2.2.2)]), (17, .c (.val (.int .i64 t_14))), (29, .c (.val (.bool ((IntKind.wrap .u8 (BitVec.toNat (BitVec.ofInt (IntKind.bits .u8) (bt s_1 at_2) &&& BitVec.ofInt (IntKind.bits .u8) (List.getD ([(r_11.1, (r_11.2.1, r_11.2.2.1)), (r_11.2.2.2.1, (r_11.2.2.2.2.1, r_11.2.2.2.2.2.1)), (r_11.2.2.2.2.2.2.1, (r_11.2.2.2.2.2.2.2.1, r_11.2.2.2.2.2.2.2.2.1)), (r_11.2.2.2.2.2.2.2.2.2.1, (r_11.2.2.2.2.2.2.2.2.2.2.1, r_11.2.2.2.2.2.2.2.2.2.2.2))] : List (Int × (Int × Int))) (Int.toNat t_14) ((0 : Int), ((0 : Int), (0 : Int)))).1))) == (List.getD ([(r_11.1, (r_11.2.1, r_11.2.2.1)), (r_11.2.2.2.1, (r_11.2.2.2.2.1, r_11.2.2.2.2.2.1)), (r_11.2.2.2.2.2.2.1, (r_11.2.2.2.2.2.2.2.1, r_11.2.2.2.2.2.2.2.2.1)), (r_11.2.2.2.2.2.2.2.2.2.1, (r_11.2.2.2.2.2.2.2.2.2.2.1, r_11.2.2.2.2.2.2.2.2.2.2.2))] : List (Int × (Int × Int))) (Int.toNat t_14) ((0 : Int), ((0 : Int), (0 : Int)))).2.1))))], [(0, .box [.val (.int .u8 (List.getD ([(r_11.1, (r_11.2.1, r_11.2.2.1)), (r_11.2.2.2.1, (r_11.2.2.2.2.1, r_11.2.2.2.2.2.1)), (r_11.2.2.2.2.2.2.1, (r_11.2.2.2.2.2.2.2.1, r_11.2.2.2.2.2.2.2.2.1)), (r_11.2.2.2.2.2.2.2.2.2.1, (r_11.2.2.2.2.2.2.2.2.2.2.1, r_11.2.2.2.2.2.2.2.2.2.2.2))] : List (Int × (Int × Int))) (Int.toNat t_14) ((0 : Int), ((0 : Int), (0 : Int)))).1), .val (.int .u8 (List.getD ([(r_11.1, (r_11.2.1, r_11.2.2.1)), (r_11.2.2.2.1, (r_11.2.2.2.2.1, r_11.2.2.2.2.2.1)), (r_11.2.2.2.2.2.2.1, (r_11.2.2.2.2.2.2.2.1, r_11.2.2.2.2.2.2.2.2.1)), (r_11.2.2.2.2.2.2.2.2.2.1, (r_11.2.2.2.2.2.2.2.2.2.2.1, r_11.2.2.2.2.2.2.2.2.2.2.2))] : List (Int × (Int × Int))) (Int.toNat t_14) ((0 : Int), ((0 : Int), (0 : Int)))).2.1), .val (.int .i32 (List.getD ([(r_11.1, (r_11.2.1, r_11.2.2.1)), (r_11.2.2.2.1, (r_11.2.2.2.2.1, r_11.2.2.2.2.2.1)), (r_11.2.2.2.2.2.2.1, (r_11.2.2.2.2.2.2.2.1, r_11.2.2.2.2.2.2.2.2.1)), (r_11.2.2.2.2.2.2.2.2.2.1, (r_11.2.2.2.2.2.2.2.2.2.2.1, r_11.2.2.2.2.2.2.2.2.2.2.2))] : List (Int × (Int × Int))) (Int.toNat t_14) ((0 : Int), ((0 : Int), (0 : Int)))).2.2)])], 1⟩ [] (by kernel_rfl) rfl rfl ap0 ?_
          refine VL_nil (QB_end ?_)
          refine V_run hN hn 1 1 [0, 1, 16, 17] [] ⟨[(0, .c (.val (.string s_1))), (1, .c (.val (.int .i64 at_2))), (16, .agg [.val (.int .u8 r_11.1), .val (.int .u8 r_11.2.1), .val (.int .i32 r_11.2.2.1), .val (.int .u8 r_11.2.2.2.1), .val (.int .u8 r_11.2.2.2.2.1), .val (.int .i32 r_11.2.2.2.2.2.1), .val (.int .u8 r_11.2.2.2.2.2.2.1), .val (.int .u8 r_11.2.2.2.2.2.2.2.1), .val (.int .i32 r_11.2.2.2.2.2.2.2.2.1), .val (.int .u8 r_11.2.2.2.2.2.2.2.2.2.1), .val (.int .u8 r_11.2.2.2.2.2.2.2.2.2.2.1), .val (.int .i32 r_11.2.2.2.2.2.2.2.2.2.2.2)]), (17, .c (.val (.int .i64 (IntKind.wrap .i64 (t_14 + (1 : Int))))))], [], 1⟩ [] (by kernel_rfl) rfl rfl ap0 ?_
          refine VL_nil ?_
          exact V_roundEnd (IntKind.wrap .i64 (t_14 + (1 : Int))) H_51 [] hn (by kernel_rfl) (by kernel_rfl) rfl rfl rfl
      · intro b_17; have H_47 := of_f H_45 b_17
        refine VL_exit ?_
        refine QL_exit ?_
        refine QB_here ?_
        refine V_run hN hn 2 0 [4, 5] [] ⟨[(4, .c (.val (.int .i32 (0 : Int)))), (5, .c (.val (.int .i64 (0 : Int))))], [], 0⟩ [] (by kernel_rfl) rfl rfl ap0 ?_
        have H_54 := Option.some.inj (show some ((0 : Int), (0 : Int)) = some r from H_47); subst H_54
        refine VL_ret ?_
        exact P_to [(4, .c (.val (.int .i32 (0 : Int)))), (5, .c (.val (.int .i64 (0 : Int))))] [] [] hn (by kernel_rfl) (by kernel_rfl) rfl rfl rfl (QF_retS (by kernel_rfl) (by kernel_rfl) rfl)

theorem utf_Size_spec (K : Nat) (s_1 : ByteArray) (at_2 : Int) (r : Int) (H : utf_Size K s_1 at_2 = some r) : Spec Try.prog 51 0 [.c (.val (.string s_1)), .c (.val (.int .i64 at_2))] [] (.c (.val (.int .i64 r))) [] := by
  refine Spec_mk (fn := Try.f51) (c := (Try.f51.body).get!) Try.func51 (by kernel_rfl) rfl ?_
  intro C hN hn
  replace hN : C.N = 14 := hN
  unfold utf_Size at H
  refine V_run hN hn 3 0 [0, 1] [] ⟨[(0, .c (.val (.string s_1))), (1, .c (.val (.int .i64 at_2)))], [], 0⟩ [] (by kernel_rfl) rfl rfl ap0 ?_
  obtain ⟨r_4, h_5, H_9⟩ := of_bind H
  refine V_reg hN hn [(2, ⟨54, 0, [.c (.val (.string s_1)), .c (.val (.int .i64 at_2))], [], .tup [(false, [.val (.int .i32 r_4.1)]), (false, [.val (.int .i64 r_4.2)])], [], [], 0⟩)] [] (calls_cons (utf_point_spec K s_1 at_2 r_4 h_5) (by kernel_rfl) calls_nil) 0 [6] [] ⟨[(6, .c (.val (.int .i64 r_4.2)))], [], 0⟩ [] (by kernel_rfl) rfl rfl ap0 (by kernel_rfl) (by kernel_rfl) ?_
  refine V_run hN hn 2 0 [4] [] ⟨[(4, .c (.val (.int .i64 r_4.2)))], [], 0⟩ [] (by kernel_rfl) rfl rfl ap0 ?_
  have H_10 := Option.some.inj (show some r_4.2 = some r from H_9); subst H_10
  refine VL_ret ?_
  exact P_to [(4, .c (.val (.int .i64 r_4.2)))] [] [] hn (by kernel_rfl) (by kernel_rfl) rfl rfl rfl (QF_retS (by kernel_rfl) (by kernel_rfl) rfl)

theorem utf_Valid_spec (K : Nat) (s_1 : ByteArray) (r : Bool) (H : utf_Valid K s_1 = some r) : Spec Try.prog 44 0 [.c (.val (.string s_1))] [] (.c (.val (.bool r))) [] := by
  refine Spec_mk (fn := Try.f44) (c := (Try.f44.body).get!) Try.func44 (by kernel_rfl) rfl ?_
  intro C hN hn
  replace hN : C.N = 17 := hN
  unfold utf_Valid at H
  refine V_run hN hn 5 0 [0, 3] [] ⟨[(0, .c (.val (.string s_1))), (3, .c (.val (.int .i64 (0 : Int))))], [], 0⟩ [] (by kernel_rfl) rfl rfl ap0 ?_
  refine VL_block ?_
  refine V_to [(0, .c (.val (.string s_1))), (3, .c (.val (.int .i64 (0 : Int))))] [] [] hn (by kernel_rfl) (by kernel_rfl) rfl rfl rfl ?_
  refine VL_loop (X := Int) (fun x => [(0, .c (.val (.string s_1))), (3, .c (.val (.int .i64 x)))]) (fun x => []) (fun k x => utf_Valid.l0 K s_1 k x = some r) K (0 : Int) H (fun _ h => no_none h) ?_
  intro k_4 at_3 H_18
  have H_19 : utf_Valid.l0 K s_1 (k_4 + 1) at_3 = some r := H_18
  rw [utf_Valid.l0] at H_19
  refine V_run hN hn 3 0 [0, 3, 8] [] ⟨[(0, .c (.val (.string s_1))), (3, .c (.val (.int .i64 at_3))), (8, .c (.val (.bool (decide (at_3 < (((ByteArray.size s_1) : Nat) : Int))))))], [], 0⟩ [] (by kernel_rfl) rfl rfl ap0 ?_
  refine VL_cond ((decide (at_3 < (((ByteArray.size s_1) : Nat) : Int)))) (by kernel_rfl) ?_ ?_
  · intro b_6; have H_20 := of_t H_19 b_6
    refine V_run hN hn 1 0 [0, 3, 8] [] ⟨[(0, .c (.val (.string s_1))), (3, .c (.val (.int .i64 at_3))), (8, .c (.val (.bool (decide (at_3 < (((ByteArray.size s_1) : Nat) : Int))))))], [], 0⟩ [] (by kernel_rfl) rfl rfl ap0 ?_
    refine VL_block ?_
    refine V_run hN hn 1 0 [0, 3, 8] [] ⟨[(0, .c (.val (.string s_1))), (3, .c (.val (.int .i64 at_3))), (8, .c (.val (.bool (decide (at_3 < (((ByteArray.size s_1) : Nat) : Int))))))], [], 0⟩ [] (by kernel_rfl) rfl rfl ap0 ?_
    obtain ⟨r_9, h_10, H_22⟩ := of_bind H_20
    refine V_reg hN hn [(2, ⟨51, 0, [.c (.val (.string s_1)), .c (.val (.int .i64 at_3))], [], .c (.val (.int .i64 r_9)), [], [], 0⟩)] [] (calls_cons (utf_Size_spec K s_1 at_3 r_9 h_10) (by kernel_rfl) calls_nil) 0 [0, 3, 4] [] ⟨[(0, .c (.val (.string s_1))), (3, .c (.val (.int .i64 at_3))), (4, .c (.val (.int .i64 r_9)))], [], 0⟩ [] (by kernel_rfl) rfl rfl ap0 (by kernel_rfl) (by kernel_rfl) ?_
    refine V_run hN hn 3 0 [0, 3, 4, 13] [] ⟨[(0, .c (.val (.string s_1))), (3, .c (.val (.int .i64 at_3))), (4, .c (.val (.int .i64 r_9))), (13, .c (.val (.bool (r_9 == (0 : Int)))))], [], 0⟩ [] (by kernel_rfl) rfl rfl ap0 ?_
    refine VL_cond ((r_9 == (0 : Int))) (by kernel_rfl) ?_ ?_
    · intro b_13; have H_23 := of_t H_22 b_13
      refine V_run hN hn 2 0 [2] [] ⟨[(2, .c (.val (.bool false)))], [], 0⟩ [] (by kernel_rfl) rfl rfl ap0 ?_
      have H_25 := Option.some.inj (show some false = some r from H_23); subst H_25
      refine VL_ret ?_
      refine QB_ret ?_
      refine QL_ret ?_
      refine QB_ret ?_
      exact P_to [(2, .c (.val (.bool false)))] [] [] hn (by kernel_rfl) (by kernel_rfl) rfl rfl rfl (QF_retS (by kernel_rfl) (by kernel_rfl) rfl)
    · intro b_13; have H_24 := of_f H_22 b_13
      refine V_run hN hn 2 0 [0, 3] [] ⟨[(0, .c (.val (.string s_1))), (3, .c (.val (.int .i64 (IntKind.wrap .i64 (at_3 + r_9)))))], [], 0⟩ [] (by kernel_rfl) rfl rfl ap0 ?_
      refine VL_nil (QB_end ?_)
      refine VL_nil ?_
      exact V_roundEnd (IntKind.wrap .i64 (at_3 + r_9)) H_24 [] hn (by kernel_rfl) (by kernel_rfl) rfl rfl rfl
  · intro b_6; have H_21 := of_f H_19 b_6
    refine VL_exit ?_
    refine QL_exit ?_
    refine QB_here ?_
    refine V_run hN hn 2 0 [2] [] ⟨[(2, .c (.val (.bool true)))], [], 0⟩ [] (by kernel_rfl) rfl rfl ap0 ?_
    have H_26 := Option.some.inj (show some true = some r from H_21); subst H_26
    refine VL_ret ?_
    exact P_to [(2, .c (.val (.bool true)))] [] [] hn (by kernel_rfl) (by kernel_rfl) rfl rfl rfl (QF_retS (by kernel_rfl) (by kernel_rfl) rfl)

theorem delta_elem_spec (K : Nat) (x_1 : Int) (x_2 : Int) (x_3 : ByteArray) (base_4 : Int) (to_5 : Int) (ahead_6 : Bool) (copied_7 : Bool) (r : Bool) (H : delta_elem K x_1 x_2 x_3 base_4 to_5 ahead_6 copied_7 = some r) : Spec Try.prog 39 0 [.agg [.val (.int .i64 x_1), .val (.int .i64 x_2), .val (.string x_3)], .c (.val (.int .i64 base_4)), .c (.val (.int .i64 to_5)), .c (.val (.bool ahead_6)), .c (.val (.bool copied_7))] [] (.c (.val (.bool r))) [] := by
  refine Spec_mk (fn := Try.f39) (c := (Try.f39.body).get!) Try.func39 (by kernel_rfl) rfl ?_
  intro C hN hn
  replace hN : C.N = 65 := hN
  unfold delta_elem at H
  refine V_run hN hn 4 0 [1, 2, 3, 4, 5] [0] ⟨[(1, .c (.val (.int .i64 base_4))), (2, .c (.val (.int .i64 to_5))), (3, .c (.val (.bool ahead_6))), (4, .c (.val (.bool copied_7))), (5, .c (.h 0))], [(0, .box [.val (.int .i64 x_1), .val (.int .i64 x_2), .val (.string x_3)])], 1⟩ [] (by kernel_rfl) rfl rfl ap0 ?_
  obtain ⟨r_9, h_10, H_42⟩ := of_bind H
  refine V_reg hN hn [(1, ⟨38, 0, [.agg [.val (.int .i64 x_1), .val (.int .i64 x_2), .val (.string x_3)]], [], .c (.val (.bool r_9)), [], [], 1⟩)] [] (calls_cons (delta_IsCopy_spec K x_1 x_2 x_3 r_9 h_10) (by kernel_rfl) calls_nil) 1 [1, 2, 3, 4, 5, 13] [0] ⟨[(1, .c (.val (.int .i64 base_4))), (2, .c (.val (.int .i64 to_5))), (3, .c (.val (.bool ahead_6))), (4, .c (.val (.bool copied_7))), (5, .c (.h 0)), (13, .c (.val (.bool r_9)))], [(0, .box [.val (.int .i64 x_1), .val (.int .i64 x_2), .val (.string x_3)])], 1⟩ [] (by kernel_rfl) rfl rfl ap0 (by kernel_rfl) (by kernel_rfl) ?_
  refine VL_cond (r_9) (by kernel_rfl) ?_ ?_
  · intro b_12; have H_43 := of_t H_42 b_12
    refine V_run hN hn 1 1 [1, 2, 3, 4, 5, 13] [0] ⟨[(1, .c (.val (.int .i64 base_4))), (2, .c (.val (.int .i64 to_5))), (3, .c (.val (.bool ahead_6))), (4, .c (.val (.bool copied_7))), (5, .c (.h 0)), (13, .c (.val (.bool r_9)))], [(0, .box [.val (.int .i64 x_1), .val (.int .i64 x_2), .val (.string x_3)])], 1⟩ [] (by kernel_rfl) rfl rfl ap0 ?_
    rcases Bool.eq_false_or_eq_true ((decide (x_1 ≥ to_5))) with b_14 | b_14
    · have H_45 := of_t H_43 b_14
      rcases Bool.eq_false_or_eq_true ((decide (x_1 > to_5))) with b_15 | b_15
      · have H_47 := of_t H_45 b_15
        rcases Bool.eq_false_or_eq_true ((decide (x_1 < x_2))) with b_16 | b_16
        · have H_49 := of_t H_47 b_16
          refine V_reg hN hn [] [(18, true), (23, true), (35, true)] calls_nil 1 [10] [] ⟨[(10, .c (.val (.bool (decide (x_2 ≤ base_4)))))], [], 1⟩ [(decide (x_1 ≥ to_5)) = true, (decide (x_1 > to_5)) = true, (decide (x_1 < x_2)) = true] (by kernel_rfl) rfl rfl (ap2 b_14 (ap2 b_15 (ap1 b_16))) (by kernel_rfl) (by kernel_rfl) ?_
          have H_51 := Option.some.inj (show some (decide (x_2 ≤ base_4)) = some r from H_49); subst H_51
          refine VL_ret ?_
          exact P_to [(10, .c (.val (.bool (decide (x_2 ≤ base_4)))))] [] [] hn (by kernel_rfl) (by kernel_rfl) rfl rfl rfl (QF_retS (by kernel_rfl) (by kernel_rfl) rfl)
        · have H_50 := of_f H_47 b_16
          refine V_reg hN hn [] [(18, true), (23, true), (35, false)] calls_nil 1 [10] [] ⟨[(10, .c (.val (.bool false)))], [], 1⟩ [(decide (x_1 ≥ to_5)) = true, (decide (x_1 > to_5)) = true, (decide (x_1 < x_2)) = false] (by kernel_rfl) rfl rfl (ap2 b_14 (ap2 b_15 (ap1 b_16))) (by kernel_rfl) (by kernel_rfl) ?_
          have H_52 := Option.some.inj (show some false = some r from H_50); subst H_52
          refine VL_ret ?_
          exact P_to [(10, .c (.val (.bool false)))] [] [] hn (by kernel_rfl) (by kernel_rfl) rfl rfl rfl (QF_retS (by kernel_rfl) (by kernel_rfl) rfl)
      · have H_48 := of_f H_45 b_15
        rcases Bool.eq_false_or_eq_true ((!copied_7)) with b_19 | b_19
        · have H_53 := of_t H_48 b_19
          rcases Bool.eq_false_or_eq_true ((decide (x_1 < x_2))) with b_20 | b_20
          · have H_55 := of_t H_53 b_20
            refine V_reg hN hn [] [(18, true), (23, false), (28, true), (35, true)] calls_nil 1 [10] [] ⟨[(10, .c (.val (.bool (decide (x_2 ≤ base_4)))))], [], 1⟩ [(decide (x_1 ≥ to_5)) = true, (decide (x_1 > to_5)) = false, (!copied_7) = true, (decide (x_1 < x_2)) = true] (by kernel_rfl) rfl rfl (ap2 b_14 (ap2 b_15 (ap2 b_19 (ap1 b_20)))) (by kernel_rfl) (by kernel_rfl) ?_
            have H_57 := Option.some.inj (show some (decide (x_2 ≤ base_4)) = some r from H_55); subst H_57
            refine VL_ret ?_
            exact P_to [(10, .c (.val (.bool (decide (x_2 ≤ base_4)))))] [] [] hn (by kernel_rfl) (by kernel_rfl) rfl rfl rfl (QF_retS (by kernel_rfl) (by kernel_rfl) rfl)
          · have H_56 := of_f H_53 b_20
            refine V_reg hN hn [] [(18, true), (23, false), (28, true), (35, false)] calls_nil 1 [10] [] ⟨[(10, .c (.val (.bool false)))], [], 1⟩ [(decide (x_1 ≥ to_5)) = true, (decide (x_1 > to_5)) = false, (!copied_7) = true, (decide (x_1 < x_2)) = false] (by kernel_rfl) rfl rfl (ap2 b_14 (ap2 b_15 (ap2 b_19 (ap1 b_20)))) (by kernel_rfl) (by kernel_rfl) ?_
            have H_58 := Option.some.inj (show some false = some r from H_56); subst H_58
            refine VL_ret ?_
            exact P_to [(10, .c (.val (.bool false)))] [] [] hn (by kernel_rfl) (by kernel_rfl) rfl rfl rfl (QF_retS (by kernel_rfl) (by kernel_rfl) rfl)
        · have H_54 := of_f H_48 b_19
          refine V_reg hN hn [] [(18, true), (23, false), (28, false)] calls_nil 1 [10] [] ⟨[(10, .c (.val (.bool false)))], [], 1⟩ [(decide (x_1 ≥ to_5)) = true, (decide (x_1 > to_5)) = false, (!copied_7) = false] (by kernel_rfl) rfl rfl (ap2 b_14 (ap2 b_15 (ap1 b_19))) (by kernel_rfl) (by kernel_rfl) ?_
          have H_59 := Option.some.inj (show some false = some r from H_54); subst H_59
          refine VL_ret ?_
          exact P_to [(10, .c (.val (.bool false)))] [] [] hn (by kernel_rfl) (by kernel_rfl) rfl rfl rfl (QF_retS (by kernel_rfl) (by kernel_rfl) rfl)
    · have H_46 := of_f H_43 b_14
      refine V_reg hN hn [] [(18, false)] calls_nil 1 [10] [] ⟨[(10, .c (.val (.bool false)))], [], 1⟩ [(decide (x_1 ≥ to_5)) = false] (by kernel_rfl) rfl rfl (ap1 b_14) (by kernel_rfl) (by kernel_rfl) ?_
      have H_60 := Option.some.inj (show some false = some r from H_46); subst H_60
      refine VL_ret ?_
      exact P_to [(10, .c (.val (.bool false)))] [] [] hn (by kernel_rfl) (by kernel_rfl) rfl rfl rfl (QF_retS (by kernel_rfl) (by kernel_rfl) rfl)
  · intro b_12; have H_44 := of_f H_42 b_12
    refine V_run hN hn 4 1 [3, 4, 5, 11] [0, 1] ⟨[(3, .c (.val (.bool ahead_6))), (4, .c (.val (.bool copied_7))), (5, .c (.h 0)), (11, .c (.h 1))], [(0, .box [.val (.int .i64 x_1), .val (.int .i64 x_2), .val (.string x_3)]), (1, .box [.val (.int .i64 (0 : Int)), .val (.int .i64 (0 : Int)), .val (.string x_3)])], 2⟩ [] (by kernel_rfl) rfl rfl ap0 ?_
    rcases Bool.eq_false_or_eq_true (((x_1 == (0 : Int)) && ((x_2 == (0 : Int)) && (ByteArray.toList x_3 == ByteArray.toList x_3)))) with b_26 | b_26
    · have H_61 := of_t H_44 b_26
      rcases Bool.eq_false_or_eq_true ((!ahead_6)) with b_27 | b_27
      · have H_63 := of_t H_61 b_27
        rcases Bool.eq_false_or_eq_true ((decide ((((ByteArray.size x_3) : Nat) : Int) ≤ (20000 : Int)))) with b_28 | b_28
        · have H_65 := of_t H_63 b_28
          obtain ⟨r_29, h_30, H_67⟩ := of_bind H_65
          refine V_reg hN hn [(19, ⟨44, 0, [.c (.val (.string x_3))], [], .c (.val (.bool r_29)), [], [], 2⟩)] [(47, true), (50, true), (60, true)] (calls_cons (utf_Valid_spec K x_3 r_29 h_30) (by kernel_rfl) calls_nil) 2 [10] [] ⟨[(10, .c (.val (.bool r_29)))], [], 2⟩ [((x_1 == (0 : Int)) && ((x_2 == (0 : Int)) && (ByteArray.toList x_3 == ByteArray.toList x_3))) = true, (!ahead_6) = true, (decide ((((ByteArray.size x_3) : Nat) : Int) ≤ (20000 : Int))) = true] (by kernel_rfl) rfl rfl (ap2 b_26 (ap2 b_27 (ap1 b_28))) (by kernel_rfl) (by kernel_rfl) ?_
          have H_68 := Option.some.inj (show some r_29 = some r from H_67); subst H_68
          refine VL_ret ?_
          exact P_to [(10, .c (.val (.bool r_29)))] [] [] hn (by kernel_rfl) (by kernel_rfl) rfl rfl rfl (QF_retS (by kernel_rfl) (by kernel_rfl) rfl)
        · have H_66 := of_f H_63 b_28
          refine V_reg hN hn [] [(47, true), (50, true), (60, false)] calls_nil 2 [10] [] ⟨[(10, .c (.val (.bool false)))], [], 2⟩ [((x_1 == (0 : Int)) && ((x_2 == (0 : Int)) && (ByteArray.toList x_3 == ByteArray.toList x_3))) = true, (!ahead_6) = true, (decide ((((ByteArray.size x_3) : Nat) : Int) ≤ (20000 : Int))) = false] (by kernel_rfl) rfl rfl (ap2 b_26 (ap2 b_27 (ap1 b_28))) (by kernel_rfl) (by kernel_rfl) ?_
          have H_69 := Option.some.inj (show some false = some r from H_66); subst H_69
          refine VL_ret ?_
          exact P_to [(10, .c (.val (.bool false)))] [] [] hn (by kernel_rfl) (by kernel_rfl) rfl rfl rfl (QF_retS (by kernel_rfl) (by kernel_rfl) rfl)
      · have H_64 := of_f H_61 b_27
        rcases Bool.eq_false_or_eq_true (copied_7) with b_33 | b_33
        · have H_70 := of_t H_64 b_33
          rcases Bool.eq_false_or_eq_true ((decide ((((ByteArray.size x_3) : Nat) : Int) ≤ (20000 : Int)))) with b_34 | b_34
          · have H_72 := of_t H_70 b_34
            obtain ⟨r_35, h_36, H_74⟩ := of_bind H_72
            refine V_reg hN hn [(19, ⟨44, 0, [.c (.val (.string x_3))], [], .c (.val (.bool r_35)), [], [], 2⟩)] [(47, true), (50, false), (54, true), (60, true)] (calls_cons (utf_Valid_spec K x_3 r_35 h_36) (by kernel_rfl) calls_nil) 2 [10] [] ⟨[(10, .c (.val (.bool r_35)))], [], 2⟩ [((x_1 == (0 : Int)) && ((x_2 == (0 : Int)) && (ByteArray.toList x_3 == ByteArray.toList x_3))) = true, (!ahead_6) = false, copied_7 = true, (decide ((((ByteArray.size x_3) : Nat) : Int) ≤ (20000 : Int))) = true] (by kernel_rfl) rfl rfl (ap2 b_26 (ap2 b_27 (ap2 b_33 (ap1 b_34)))) (by kernel_rfl) (by kernel_rfl) ?_
            have H_75 := Option.some.inj (show some r_35 = some r from H_74); subst H_75
            refine VL_ret ?_
            exact P_to [(10, .c (.val (.bool r_35)))] [] [] hn (by kernel_rfl) (by kernel_rfl) rfl rfl rfl (QF_retS (by kernel_rfl) (by kernel_rfl) rfl)
          · have H_73 := of_f H_70 b_34
            refine V_reg hN hn [] [(47, true), (50, false), (54, true), (60, false)] calls_nil 2 [10] [] ⟨[(10, .c (.val (.bool false)))], [], 2⟩ [((x_1 == (0 : Int)) && ((x_2 == (0 : Int)) && (ByteArray.toList x_3 == ByteArray.toList x_3))) = true, (!ahead_6) = false, copied_7 = true, (decide ((((ByteArray.size x_3) : Nat) : Int) ≤ (20000 : Int))) = false] (by kernel_rfl) rfl rfl (ap2 b_26 (ap2 b_27 (ap2 b_33 (ap1 b_34)))) (by kernel_rfl) (by kernel_rfl) ?_
            have H_76 := Option.some.inj (show some false = some r from H_73); subst H_76
            refine VL_ret ?_
            exact P_to [(10, .c (.val (.bool false)))] [] [] hn (by kernel_rfl) (by kernel_rfl) rfl rfl rfl (QF_retS (by kernel_rfl) (by kernel_rfl) rfl)
        · have H_71 := of_f H_64 b_33
          refine V_reg hN hn [] [(47, true), (50, false), (54, false)] calls_nil 2 [10] [] ⟨[(10, .c (.val (.bool false)))], [], 2⟩ [((x_1 == (0 : Int)) && ((x_2 == (0 : Int)) && (ByteArray.toList x_3 == ByteArray.toList x_3))) = true, (!ahead_6) = false, copied_7 = false] (by kernel_rfl) rfl rfl (ap2 b_26 (ap2 b_27 (ap1 b_33))) (by kernel_rfl) (by kernel_rfl) ?_
          have H_77 := Option.some.inj (show some false = some r from H_71); subst H_77
          refine VL_ret ?_
          exact P_to [(10, .c (.val (.bool false)))] [] [] hn (by kernel_rfl) (by kernel_rfl) rfl rfl rfl (QF_retS (by kernel_rfl) (by kernel_rfl) rfl)
    · have H_62 := of_f H_44 b_26
      refine V_reg hN hn [] [(47, false)] calls_nil 2 [10] [] ⟨[(10, .c (.val (.bool false)))], [], 2⟩ [((x_1 == (0 : Int)) && ((x_2 == (0 : Int)) && (ByteArray.toList x_3 == ByteArray.toList x_3))) = false] (by kernel_rfl) rfl rfl (ap1 b_26) (by kernel_rfl) (by kernel_rfl) ?_
      have H_78 := Option.some.inj (show some false = some r from H_62); subst H_78
      refine VL_ret ?_
      exact P_to [(10, .c (.val (.bool false)))] [] [] hn (by kernel_rfl) (by kernel_rfl) rfl rfl rfl (QF_retS (by kernel_rfl) (by kernel_rfl) rfl)

end Go.Pal
