/- The Go functions that SpansGo reaches compute what the plain functions say: part 0, printed by a program of this workplace. -/
import Derived.Test.YtkmdhkmcpllicaaChecked
import Derived.Test.YtkmdhkmcpllicaaFunSpansGo
namespace Go.Pal
open Go Go.Proofs
set_option maxRecDepth 100000
set_option linter.unusedVariables false

theorem spans_within_spec (K : Nat) (n_1 : Int) (low_2 : Int) (high_3 : Int) (r : Bool) (H : spans_within K n_1 low_2 high_3 = some r) : Spec Try.prog 24 0 [.c (.val (.int .i64 n_1)), .c (.val (.int .i64 low_2)), .c (.val (.int .i64 high_3))] [] (.c (.val (.bool r))) [] := by
  refine Spec_mk (fn := Try.f24) (c := (Try.f24.body).get!) Try.func24 (by kernel_rfl) rfl ?_
  intro C hN hn
  replace hN : C.N = 15 := hN
  unfold spans_within at H
  refine V_run hN hn 3 0 [0, 1, 2] [] ⟨[(0, .c (.val (.int .i64 n_1))), (1, .c (.val (.int .i64 low_2))), (2, .c (.val (.int .i64 high_3)))], [], 0⟩ [] (by kernel_rfl) rfl rfl ap0 ?_
  rcases Bool.eq_false_or_eq_true ((decide (n_1 ≥ low_2))) with b_5 | b_5
  · have H_9 := of_t H b_5
    refine V_reg hN hn [] [(10, true)] calls_nil 0 [6] [] ⟨[(6, .c (.val (.bool (decide (n_1 ≤ high_3)))))], [], 0⟩ [(decide (n_1 ≥ low_2)) = true] (by kernel_rfl) rfl rfl (ap1 b_5) (by kernel_rfl) (by kernel_rfl) ?_
    have H_11 := Option.some.inj (show some (decide (n_1 ≤ high_3)) = some r from H_9); subst H_11
    refine VL_ret ?_
    exact P_to [(6, .c (.val (.bool (decide (n_1 ≤ high_3)))))] [] [] hn (by kernel_rfl) (by kernel_rfl) rfl rfl rfl (QF_retS (by kernel_rfl) (by kernel_rfl) rfl)
  · have H_10 := of_f H b_5
    refine V_reg hN hn [] [(10, false)] calls_nil 0 [6] [] ⟨[(6, .c (.val (.bool false)))], [], 0⟩ [(decide (n_1 ≥ low_2)) = false] (by kernel_rfl) rfl rfl (ap1 b_5) (by kernel_rfl) (by kernel_rfl) ?_
    have H_12 := Option.some.inj (show some false = some r from H_10); subst H_12
    refine VL_ret ?_
    exact P_to [(6, .c (.val (.bool false)))] [] [] hn (by kernel_rfl) (by kernel_rfl) rfl rfl rfl (QF_retS (by kernel_rfl) (by kernel_rfl) rfl)

theorem spans_Is_ng_spec (K : Nat) (n_2 : Int) (r : Bool) (H : spans_Is_ng K ([] : (List (Int × (Int × Int)))) n_2 = some r) : Spec Try.prog 13 0 [.c (.val (.slice none 0 0)), .c (.val (.int .i64 n_2))] [] (.c (.val (.bool r))) [] := by
  refine Spec_mk (fn := Try.f13) (c := (Try.f13.body).get!) Try.func13 (by kernel_rfl) rfl ?_
  intro C hN hn
  replace hN : C.N = 77 := hN
  unfold spans_Is_ng at H
  refine V_run hN hn 7 0 [0, 1, 11] [] ⟨[(0, .c (.val (.slice none 0 0))), (1, .c (.val (.int .i64 (mn2 n_2 (20000 : Int))))), (11, .c (.val (.bool (decide ((((List.length ([] : (List (Int × (Int × Int))))) : Nat) : Int) > (60 : Int))))))], [], 0⟩ [] (by kernel_rfl) rfl rfl ap0 ?_
  refine VL_cond ((decide ((((List.length ([] : (List (Int × (Int × Int))))) : Nat) : Int) > (60 : Int)))) (by kernel_rfl) ?_ ?_
  · intro b_4; have H_44 := of_t H b_4
    refine V_run hN hn 2 0 [4] [] ⟨[(4, .c (.val (.bool false)))], [], 0⟩ [] (by kernel_rfl) rfl rfl ap0 ?_
    have H_46 := Option.some.inj (show some false = some r from H_44); subst H_46
    refine VL_ret ?_
    exact P_to [(4, .c (.val (.bool false)))] [] [] hn (by kernel_rfl) (by kernel_rfl) rfl rfl rfl (QF_retS (by kernel_rfl) (by kernel_rfl) rfl)
  · intro b_4; have H_45 := of_f H b_4
    refine V_run hN hn 4 0 [0, 1, 12, 13, 14] [] ⟨[(0, .c (.val (.slice none 0 0))), (1, .c (.val (.int .i64 (mn2 n_2 (20000 : Int))))), (12, .c (.val (.slice none 0 0))), (13, .c (.val (.int .i64 (((List.length ([] : (List (Int × (Int × Int))))) : Nat) : Int)))), (14, .c (.val (.int .i64 (0 : Int))))], [], 0⟩ [] (by kernel_rfl) rfl rfl ap0 ?_
    refine VL_block ?_
    refine V_to [(0, .c (.val (.slice none 0 0))), (1, .c (.val (.int .i64 (mn2 n_2 (20000 : Int))))), (12, .c (.val (.slice none 0 0))), (13, .c (.val (.int .i64 (((List.length ([] : (List (Int × (Int × Int))))) : Nat) : Int)))), (14, .c (.val (.int .i64 (0 : Int))))] [] [] hn (by kernel_rfl) (by kernel_rfl) rfl rfl rfl ?_
    refine VL_loop (X := Int) (fun x => [(0, .c (.val (.slice none 0 0))), (1, .c (.val (.int .i64 (mn2 n_2 (20000 : Int))))), (12, .c (.val (.slice none 0 0))), (13, .c (.val (.int .i64 (((List.length ([] : (List (Int × (Int × Int))))) : Nat) : Int)))), (14, .c (.val (.int .i64 x)))]) (fun x => []) (fun k x => spans_Is_ng.l0 K ([] : (List (Int × (Int × Int)))) n_2 k x = some r) K (0 : Int) H_45 (fun _ h => no_none h) ?_
    intro k_8 t_7 H_47
    have H_48 : spans_Is_ng.l0 K ([] : (List (Int × (Int × Int)))) n_2 (k_8 + 1) t_7 = some r := H_47
    rw [spans_Is_ng.l0] at H_48
    refine V_run hN hn 3 0 [0, 1, 12, 13, 14, 15] [] ⟨[(0, .c (.val (.slice none 0 0))), (1, .c (.val (.int .i64 (mn2 n_2 (20000 : Int))))), (12, .c (.val (.slice none 0 0))), (13, .c (.val (.int .i64 (((List.length ([] : (List (Int × (Int × Int))))) : Nat) : Int)))), (14, .c (.val (.int .i64 t_7))), (15, .c (.val (.bool (decide (t_7 < (((List.length ([] : (List (Int × (Int × Int))))) : Nat) : Int))))))], [], 0⟩ [] (by kernel_rfl) rfl rfl ap0 ?_
    refine VL_cond ((decide (t_7 < (((List.length ([] : (List (Int × (Int × Int))))) : Nat) : Int)))) (by kernel_rfl) ?_ ?_
    · intro b_10; have H_49 := of_t H_48 b_10
      refine V_run hN hn 2 0 [0, 1, 12, 13, 14, 15] [] ⟨[(0, .c (.val (.slice none 0 0))), (1, .c (.val (.int .i64 (mn2 n_2 (20000 : Int))))), (12, .c (.val (.slice none 0 0))), (13, .c (.val (.int .i64 (((List.length ([] : (List (Int × (Int × Int))))) : Nat) : Int)))), (14, .c (.val (.int .i64 t_7))), (15, .c (.val (.bool (decide (t_7 < (((List.length ([] : (List (Int × (Int × Int))))) : Nat) : Int))))))], [], 0⟩ [] (by kernel_rfl) rfl rfl ap0 ?_
      refine VL_block ?_
      obtain ⟨c_12, H_51⟩ := of_if H_49
      refine V_run hN hn 4 0 [0, 1, 5, 6, 12, 13, 14] [0] ⟨[(0, .c (.val (.slice none 0 0))), (1, .c (.val (.int .i64 (mn2 n_2 (20000 : Int))))), (5, .c (.val (.int .i64 t_7))), (6, .c (.h 0)), (12, .c (.val (.slice none 0 0))), (13, .c (.val (.int .i64 (((List.length ([] : (List (Int × (Int × Int))))) : Nat) : Int)))), (14, .c (.val (.int .i64 t_7)))], [(0, .box [.val (.int .i64 (List.getD ([] : (List (Int × (Int × Int)))) (Int.toNat t_7) ((0 : Int), ((0 : Int), (0 : Int)))).1), .val (.int .i64 (List.getD ([] : (List (Int × (Int × Int)))) (Int.toNat t_7) ((0 : Int), ((0 : Int), (0 : Int)))).2.1), .val (.int .i64 (List.getD ([] : (List (Int × (Int × Int)))) (Int.toNat t_7) ((0 : Int), ((0 : Int), (0 : Int)))).2.2)])], 1⟩ [0 ≤ t_7, t_7 < (((List.length ([] : (List (Int × (Int × Int))))) : Nat) : Int)] (by kernel_rfl) rfl rfl (ap2 c_12.1 (ap1 c_12.2)) ?_
      obtain ⟨q_52, H_53, H_54⟩ := of_bind H_51
      refine V_cut (Y := Bool) (R := Bool) q_52 (fun y => y) (fun y => [(0, .c (.val (.slice none 0 0))), (1, .c (.val (.int .i64 (mn2 n_2 (20000 : Int))))), (5, .c (.val (.int .i64 t_7))), (6, .c (.h 0)), (12, .c (.val (.slice none 0 0))), (13, .c (.val (.int .i64 (((List.length ([] : (List (Int × (Int × Int))))) : Nat) : Int)))), (14, .c (.val (.int .i64 t_7))), (40, .c (.val (.bool y)))]) (fun y => [(0, .box [.val (.int .i64 (List.getD ([] : (List (Int × (Int × Int)))) (Int.toNat t_7) ((0 : Int), ((0 : Int), (0 : Int)))).1), .val (.int .i64 (List.getD ([] : (List (Int × (Int × Int)))) (Int.toNat t_7) ((0 : Int), ((0 : Int), (0 : Int)))).2.1), .val (.int .i64 (List.getD ([] : (List (Int × (Int × Int)))) (Int.toNat t_7) ((0 : Int), ((0 : Int), (0 : Int)))).2.2)])]) ?_ ?_
      · skip
        obtain ⟨r_13, h_14, H_56⟩ := of_bind H_53
        rcases Bool.eq_false_or_eq_true ((!r_13)) with b_15 | b_15
        · have H_57 := of_t H_56 b_15
          refine V_reg hN hn [(2, ⟨24, 0, [.c (.val (.int .i64 (List.getD ([] : (List (Int × (Int × Int)))) (Int.toNat t_7) ((0 : Int), ((0 : Int), (0 : Int)))).2.2)), .c (.val (.int .i64 (1 : Int))), .c (.val (.int .i64 (100 : Int)))], [], .c (.val (.bool r_13)), [], [], 1⟩)] [(23, true)] (calls_cons (spans_within_spec K (List.getD ([] : (List (Int × (Int × Int)))) (Int.toNat t_7) ((0 : Int), ((0 : Int), (0 : Int)))).2.2 (1 : Int) (100 : Int) r_13 h_14) (by kernel_rfl) calls_nil) 1 [0, 1, 5, 6, 12, 13, 14, 40] [0] ⟨[(0, .c (.val (.slice none 0 0))), (1, .c (.val (.int .i64 (mn2 n_2 (20000 : Int))))), (5, .c (.val (.int .i64 t_7))), (6, .c (.h 0)), (12, .c (.val (.slice none 0 0))), (13, .c (.val (.int .i64 (((List.length ([] : (List (Int × (Int × Int))))) : Nat) : Int)))), (14, .c (.val (.int .i64 t_7))), (40, .c (.val (.bool true)))], [(0, .box [.val (.int .i64 (List.getD ([] : (List (Int × (Int × Int)))) (Int.toNat t_7) ((0 : Int), ((0 : Int), (0 : Int)))).1), .val (.int .i64 (List.getD ([] : (List (Int × (Int × Int)))) (Int.toNat t_7) ((0 : Int), ((0 : Int), (0 : Int)))).2.1), .val (.int .i64 (List.getD ([] : (List (Int × (Int × Int)))) (Int.toNat t_7) ((0 : Int), ((0 : Int), (0 : Int)))).2.2)])], 1⟩ [(!r_13) = true] (by kernel_rfl) rfl rfl (ap1 b_15) (by kernel_rfl) (by kernel_rfl) ?_
          have H_59 := Option.some.inj (show some true = some q_52 from H_57); subst H_59
          refine VL_nil ?_
          exact QP_end true rfl [(0, 0)] hn (by kernel_rfl) (by kernel_rfl) rfl rfl rfl
        · have H_58 := of_f H_56 b_15
          rcases Bool.eq_false_or_eq_true ((decide ((List.getD ([] : (List (Int × (Int × Int)))) (Int.toNat t_7) ((0 : Int), ((0 : Int), (0 : Int)))).1 < (0 : Int)))) with b_17 | b_17
          · have H_60 := of_t H_58 b_17
            refine V_reg hN hn [(2, ⟨24, 0, [.c (.val (.int .i64 (List.getD ([] : (List (Int × (Int × Int)))) (Int.toNat t_7) ((0 : Int), ((0 : Int), (0 : Int)))).2.2)), .c (.val (.int .i64 (1 : Int))), .c (.val (.int .i64 (100 : Int)))], [], .c (.val (.bool r_13)), [], [], 1⟩)] [(23, false), (28, true)] (calls_cons (spans_within_spec K (List.getD ([] : (List (Int × (Int × Int)))) (Int.toNat t_7) ((0 : Int), ((0 : Int), (0 : Int)))).2.2 (1 : Int) (100 : Int) r_13 h_14) (by kernel_rfl) calls_nil) 1 [0, 1, 5, 6, 12, 13, 14, 40] [0] ⟨[(0, .c (.val (.slice none 0 0))), (1, .c (.val (.int .i64 (mn2 n_2 (20000 : Int))))), (5, .c (.val (.int .i64 t_7))), (6, .c (.h 0)), (12, .c (.val (.slice none 0 0))), (13, .c (.val (.int .i64 (((List.length ([] : (List (Int × (Int × Int))))) : Nat) : Int)))), (14, .c (.val (.int .i64 t_7))), (40, .c (.val (.bool true)))], [(0, .box [.val (.int .i64 (List.getD ([] : (List (Int × (Int × Int)))) (Int.toNat t_7) ((0 : Int), ((0 : Int), (0 : Int)))).1), .val (.int .i64 (List.getD ([] : (List (Int × (Int × Int)))) (Int.toNat t_7) ((0 : Int), ((0 : Int), (0 : Int)))).2.1), .val (.int .i64 (List.getD ([] : (List (Int × (Int × Int)))) (Int.toNat t_7) ((0 : Int), ((0 : Int), (0 : Int)))).2.2)])], 1⟩ [(!r_13) = false, (decide ((List.getD ([] : (List (Int × (Int × Int)))) (Int.toNat t_7) ((0 : Int), ((0 : Int), (0 : Int)))).1 < (0 : Int))) = true] (by kernel_rfl) rfl rfl (ap2 b_15 (ap1 b_17)) (by kernel_rfl) (by kernel_rfl) ?_
            have H_62 := Option.some.inj (show some true = some q_52 from H_60); subst H_62
            refine VL_nil ?_
            exact QP_end true rfl [(0, 0)] hn (by kernel_rfl) (by kernel_rfl) rfl rfl rfl
          · have H_61 := of_f H_58 b_17
            rcases Bool.eq_false_or_eq_true ((decide ((List.getD ([] : (List (Int × (Int × Int)))) (Int.toNat t_7) ((0 : Int), ((0 : Int), (0 : Int)))).1 ≥ (List.getD ([] : (List (Int × (Int × Int)))) (Int.toNat t_7) ((0 : Int), ((0 : Int), (0 : Int)))).2.1))) with b_19 | b_19
            · have H_63 := of_t H_61 b_19
              refine V_reg hN hn [(2, ⟨24, 0, [.c (.val (.int .i64 (List.getD ([] : (List (Int × (Int × Int)))) (Int.toNat t_7) ((0 : Int), ((0 : Int), (0 : Int)))).2.2)), .c (.val (.int .i64 (1 : Int))), .c (.val (.int .i64 (100 : Int)))], [], .c (.val (.bool r_13)), [], [], 1⟩)] [(23, false), (28, false), (35, true)] (calls_cons (spans_within_spec K (List.getD ([] : (List (Int × (Int × Int)))) (Int.toNat t_7) ((0 : Int), ((0 : Int), (0 : Int)))).2.2 (1 : Int) (100 : Int) r_13 h_14) (by kernel_rfl) calls_nil) 1 [0, 1, 5, 6, 12, 13, 14, 40] [0] ⟨[(0, .c (.val (.slice none 0 0))), (1, .c (.val (.int .i64 (mn2 n_2 (20000 : Int))))), (5, .c (.val (.int .i64 t_7))), (6, .c (.h 0)), (12, .c (.val (.slice none 0 0))), (13, .c (.val (.int .i64 (((List.length ([] : (List (Int × (Int × Int))))) : Nat) : Int)))), (14, .c (.val (.int .i64 t_7))), (40, .c (.val (.bool true)))], [(0, .box [.val (.int .i64 (List.getD ([] : (List (Int × (Int × Int)))) (Int.toNat t_7) ((0 : Int), ((0 : Int), (0 : Int)))).1), .val (.int .i64 (List.getD ([] : (List (Int × (Int × Int)))) (Int.toNat t_7) ((0 : Int), ((0 : Int), (0 : Int)))).2.1), .val (.int .i64 (List.getD ([] : (List (Int × (Int × Int)))) (Int.toNat t_7) ((0 : Int), ((0 : Int), (0 : Int)))).2.2)])], 1⟩ [(!r_13) = false, (decide ((List.getD ([] : (List (Int × (Int × Int)))) (Int.toNat t_7) ((0 : Int), ((0 : Int), (0 : Int)))).1 < (0 : Int))) = false, (decide ((List.getD ([] : (List (Int × (Int × Int)))) (Int.toNat t_7) ((0 : Int), ((0 : Int), (0 : Int)))).1 ≥ (List.getD ([] : (List (Int × (Int × Int)))) (Int.toNat t_7) ((0 : Int), ((0 : Int), (0 : Int)))).2.1)) = true] (by kernel_rfl) rfl rfl (ap2 b_15 (ap2 b_17 (ap1 b_19))) (by kernel_rfl) (by kernel_rfl) ?_
              have H_65 := Option.some.inj (show some true = some q_52 from H_63); subst H_65
              refine VL_nil ?_
              exact QP_end true rfl [(0, 0)] hn (by kernel_rfl) (by kernel_rfl) rfl rfl rfl
            · have H_64 := of_f H_61 b_19
              refine V_reg hN hn [(2, ⟨24, 0, [.c (.val (.int .i64 (List.getD ([] : (List (Int × (Int × Int)))) (Int.toNat t_7) ((0 : Int), ((0 : Int), (0 : Int)))).2.2)), .c (.val (.int .i64 (1 : Int))), .c (.val (.int .i64 (100 : Int)))], [], .c (.val (.bool r_13)), [], [], 1⟩)] [(23, false), (28, false), (35, false)] (calls_cons (spans_within_spec K (List.getD ([] : (List (Int × (Int × Int)))) (Int.toNat t_7) ((0 : Int), ((0 : Int), (0 : Int)))).2.2 (1 : Int) (100 : Int) r_13 h_14) (by kernel_rfl) calls_nil) 1 [0, 1, 5, 6, 12, 13, 14, 40] [0] ⟨[(0, .c (.val (.slice none 0 0))), (1, .c (.val (.int .i64 (mn2 n_2 (20000 : Int))))), (5, .c (.val (.int .i64 t_7))), (6, .c (.h 0)), (12, .c (.val (.slice none 0 0))), (13, .c (.val (.int .i64 (((List.length ([] : (List (Int × (Int × Int))))) : Nat) : Int)))), (14, .c (.val (.int .i64 t_7))), (40, .c (.val (.bool (decide ((List.getD ([] : (List (Int × (Int × Int)))) (Int.toNat t_7) ((0 : Int), ((0 : Int), (0 : Int)))).2.1 > (mn2 n_2 (20000 : Int)))))))], [(0, .box [.val (.int .i64 (List.getD ([] : (List (Int × (Int × Int)))) (Int.toNat t_7) ((0 : Int), ((0 : Int), (0 : Int)))).1), .val (.int .i64 (List.getD ([] : (List (Int × (Int × Int)))) (Int.toNat t_7) ((0 : Int), ((0 : Int), (0 : Int)))).2.1), .val (.int .i64 (List.getD ([] : (List (Int × (Int × Int)))) (Int.toNat t_7) ((0 : Int), ((0 : Int), (0 : Int)))).2.2)])], 1⟩ [(!r_13) = false, (decide ((List.getD ([] : (List (Int × (Int × Int)))) (Int.toNat t_7) ((0 : Int), ((0 : Int), (0 : Int)))).1 < (0 : Int))) = false, (decide ((List.getD ([] : (List (Int × (Int × Int)))) (Int.toNat t_7) ((0 : Int), ((0 : Int), (0 : Int)))).1 ≥ (List.getD ([] : (List (Int × (Int × Int)))) (Int.toNat t_7) ((0 : Int), ((0 : Int), (0 : Int)))).2.1)) = false] (by kernel_rfl) rfl rfl (ap2 b_15 (ap2 b_17 (ap1 b_19))) (by kernel_rfl) (by kernel_rfl) ?_
              have H_66 := Option.some.inj (show some (decide ((List.getD ([] : (List (Int × (Int × Int)))) (Int.toNat t_7) ((0 : Int), ((0 : Int), (0 : Int)))).2.1 > (mn2 n_2 (20000 : Int)))) = some q_52 from H_64); subst H_66
              refine VL_nil ?_
              exact QP_end (decide ((List.getD ([] : (List (Int × (Int × Int)))) (Int.toNat t_7) ((0 : Int), ((0 : Int), (0 : Int)))).2.1 > (mn2 n_2 (20000 : Int)))) rfl [(0, 0)] hn (by kernel_rfl) (by kernel_rfl) rfl rfl rfl
      · intro y_55 hy; subst hy
        skip
        skip
        refine VL_cond (y_55) (by kernel_rfl) ?_ ?_
        · intro b_23; have H_67 := of_t H_54 b_23
          refine V_run hN hn 2 1 [4] [] ⟨[(4, .c (.val (.bool false)))], [], 1⟩ [] (by kernel_rfl) rfl rfl ap0 ?_
          have H_69 := Option.some.inj (show some false = some r from H_67); subst H_69
          refine VL_ret ?_
          refine QB_ret ?_
          refine QL_ret ?_
          refine QB_ret ?_
          exact P_to [(4, .c (.val (.bool false)))] [] [] hn (by kernel_rfl) (by kernel_rfl) rfl rfl rfl (QF_retS (by kernel_rfl) (by kernel_rfl) rfl)
        · intro b_23; have H_68 := of_f H_54 b_23
          refine V_run hN hn 2 1 [0, 1, 5, 6, 12, 13, 14, 40] [0] ⟨[(0, .c (.val (.slice none 0 0))), (1, .c (.val (.int .i64 (mn2 n_2 (20000 : Int))))), (5, .c (.val (.int .i64 t_7))), (6, .c (.h 0)), (12, .c (.val (.slice none 0 0))), (13, .c (.val (.int .i64 (((List.length ([] : (List (Int × (Int × Int))))) : Nat) : Int)))), (14, .c (.val (.int .i64 t_7))), (40, .c (.val (.bool y_55)))], [(0, .box [.val (.int .i64 (List.getD ([] : (List (Int × (Int × Int)))) (Int.toNat t_7) ((0 : Int), ((0 : Int), (0 : Int)))).1), .val (.int .i64 (List.getD ([] : (List (Int × (Int × Int)))) (Int.toNat t_7) ((0 : Int), ((0 : Int), (0 : Int)))).2.1), .val (.int .i64 (List.getD ([] : (List (Int × (Int × Int)))) (Int.toNat t_7) ((0 : Int), ((0 : Int), (0 : Int)))).2.2)])], 1⟩ [] (by kernel_rfl) rfl rfl ap0 ?_
          obtain ⟨q_70, H_71, H_72⟩ := of_bind H_68
          refine V_cut (Y := Bool) (R := Bool) q_70 (fun y => y) (fun y => [(0, .c (.val (.slice none 0 0))), (1, .c (.val (.int .i64 (mn2 n_2 (20000 : Int))))), (12, .c (.val (.slice none 0 0))), (13, .c (.val (.int .i64 (((List.length ([] : (List (Int × (Int × Int))))) : Nat) : Int)))), (14, .c (.val (.int .i64 t_7))), (75, .c (.val (.bool y)))]) (fun y => []) ?_ ?_
          · skip
            rcases Bool.eq_false_or_eq_true ((decide (t_7 > (0 : Int)))) with b_26 | b_26
            · have H_74 := of_t H_71 b_26
              rcases Bool.eq_false_or_eq_true ((decide ((List.getD ([] : (List (Int × (Int × Int)))) (Int.toNat t_7) ((0 : Int), ((0 : Int), (0 : Int)))).1 < (List.getD ([] : (List (Int × (Int × Int)))) (Int.toNat (IntKind.wrap .i64 (t_7 - (1 : Int)))) ((0 : Int), ((0 : Int), (0 : Int)))).2.1))) with b_27 | b_27
              · have H_76 := of_t H_74 b_27
                obtain ⟨c_28, H_78⟩ := of_if H_76
                refine V_draw hN hn (by kernel_rfl) [] [(43, true), (53, true)] calls_nil 1 [0, 1, 12, 13, 14, 75] [] ⟨[(0, .c (.val (.slice none 0 0))), (1, .c (.val (.int .i64 (mn2 n_2 (20000 : Int))))), (12, .c (.val (.slice none 0 0))), (13, .c (.val (.int .i64 (((List.length ([] : (List (Int × (Int × Int))))) : Nat) : Int)))), (14, .c (.val (.int .i64 t_7))), (75, .c (.val (.bool true)))], [], 1⟩ [(decide (t_7 > (0 : Int))) = true, 0 ≤ (IntKind.wrap .i64 (t_7 - (1 : Int))), (IntKind.wrap .i64 (t_7 - (1 : Int))) < (((List.length ([] : (List (Int × (Int × Int))))) : Nat) : Int), (decide ((List.getD ([] : (List (Int × (Int × Int)))) (Int.toNat t_7) ((0 : Int), ((0 : Int), (0 : Int)))).1 < (List.getD ([] : (List (Int × (Int × Int)))) (Int.toNat (IntKind.wrap .i64 (t_7 - (1 : Int)))) ((0 : Int), ((0 : Int), (0 : Int)))).2.1)) = true] (by kernel_rfl) rfl rfl (ap2 b_26 (ap2 c_28.1 (ap2 c_28.2 (ap1 b_27)))) (by kernel_rfl) (by kernel_rfl) ?_
                have H_79 := Option.some.inj (show some true = some q_70 from H_78); subst H_79
                refine VL_nil ?_
                exact QP_end true rfl [] hn (by kernel_rfl) (by kernel_rfl) rfl rfl rfl
              · have H_77 := of_f H_74 b_27
                rcases Bool.eq_false_or_eq_true (((List.getD ([] : (List (Int × (Int × Int)))) (Int.toNat t_7) ((0 : Int), ((0 : Int), (0 : Int)))).1 == (List.getD ([] : (List (Int × (Int × Int)))) (Int.toNat (IntKind.wrap .i64 (t_7 - (1 : Int)))) ((0 : Int), ((0 : Int), (0 : Int)))).2.1)) with b_29 | b_29
                · have H_80 := of_t H_77 b_29
                  obtain ⟨c_30, H_82⟩ := of_if H_80
                  refine V_draw hN hn (by kernel_rfl) [] [(43, true), (53, false), (63, true)] calls_nil 1 [0, 1, 12, 13, 14, 75] [] ⟨[(0, .c (.val (.slice none 0 0))), (1, .c (.val (.int .i64 (mn2 n_2 (20000 : Int))))), (12, .c (.val (.slice none 0 0))), (13, .c (.val (.int .i64 (((List.length ([] : (List (Int × (Int × Int))))) : Nat) : Int)))), (14, .c (.val (.int .i64 t_7))), (75, .c (.val (.bool ((List.getD ([] : (List (Int × (Int × Int)))) (Int.toNat t_7) ((0 : Int), ((0 : Int), (0 : Int)))).2.2 == (List.getD ([] : (List (Int × (Int × Int)))) (Int.toNat (IntKind.wrap .i64 (t_7 - (1 : Int)))) ((0 : Int), ((0 : Int), (0 : Int)))).2.2))))], [], 1⟩ [(decide (t_7 > (0 : Int))) = true, 0 ≤ (IntKind.wrap .i64 (t_7 - (1 : Int))), (IntKind.wrap .i64 (t_7 - (1 : Int))) < (((List.length ([] : (List (Int × (Int × Int))))) : Nat) : Int), (decide ((List.getD ([] : (List (Int × (Int × Int)))) (Int.toNat t_7) ((0 : Int), ((0 : Int), (0 : Int)))).1 < (List.getD ([] : (List (Int × (Int × Int)))) (Int.toNat (IntKind.wrap .i64 (t_7 - (1 : Int)))) ((0 : Int), ((0 : Int), (0 : Int)))).2.1)) = false, 0 ≤ (IntKind.wrap .i64 (t_7 - (1 : Int))), (IntKind.wrap .i64 (t_7 - (1 : Int))) < (((List.length ([] : (List (Int × (Int × Int))))) : Nat) : Int), ((List.getD ([] : (List (Int × (Int × Int)))) (Int.toNat t_7) ((0 : Int), ((0 : Int), (0 : Int)))).1 == (List.getD ([] : (List (Int × (Int × Int)))) (Int.toNat (IntKind.wrap .i64 (t_7 - (1 : Int)))) ((0 : Int), ((0 : Int), (0 : Int)))).2.1) = true, 0 ≤ (IntKind.wrap .i64 (t_7 - (1 : Int))), (IntKind.wrap .i64 (t_7 - (1 : Int))) < (((List.length ([] : (List (Int × (Int × Int))))) : Nat) : Int)] (by kernel_rfl) rfl rfl (ap2 b_26 (ap2 c_30.1 (ap2 c_30.2 (ap2 b_27 (ap2 c_30.1 (ap2 c_30.2 (ap2 b_29 (ap2 c_30.1 (ap1 c_30.2))))))))) (by kernel_rfl) (by kernel_rfl) ?_
                  have H_83 := Option.some.inj (show some ((List.getD ([] : (List (Int × (Int × Int)))) (Int.toNat t_7) ((0 : Int), ((0 : Int), (0 : Int)))).2.2 == (List.getD ([] : (List (Int × (Int × Int)))) (Int.toNat (IntKind.wrap .i64 (t_7 - (1 : Int)))) ((0 : Int), ((0 : Int), (0 : Int)))).2.2) = some q_70 from H_82); subst H_83
                  refine VL_nil ?_
                  exact QP_end ((List.getD ([] : (List (Int × (Int × Int)))) (Int.toNat t_7) ((0 : Int), ((0 : Int), (0 : Int)))).2.2 == (List.getD ([] : (List (Int × (Int × Int)))) (Int.toNat (IntKind.wrap .i64 (t_7 - (1 : Int)))) ((0 : Int), ((0 : Int), (0 : Int)))).2.2) rfl [] hn (by kernel_rfl) (by kernel_rfl) rfl rfl rfl
                · have H_81 := of_f H_77 b_29
                  obtain ⟨c_31, H_84⟩ := of_if H_81
                  refine V_draw hN hn (by kernel_rfl) [] [(43, true), (53, false), (63, false)] calls_nil 1 [0, 1, 12, 13, 14, 75] [] ⟨[(0, .c (.val (.slice none 0 0))), (1, .c (.val (.int .i64 (mn2 n_2 (20000 : Int))))), (12, .c (.val (.slice none 0 0))), (13, .c (.val (.int .i64 (((List.length ([] : (List (Int × (Int × Int))))) : Nat) : Int)))), (14, .c (.val (.int .i64 t_7))), (75, .c (.val (.bool false)))], [], 1⟩ [(decide (t_7 > (0 : Int))) = true, 0 ≤ (IntKind.wrap .i64 (t_7 - (1 : Int))), (IntKind.wrap .i64 (t_7 - (1 : Int))) < (((List.length ([] : (List (Int × (Int × Int))))) : Nat) : Int), (decide ((List.getD ([] : (List (Int × (Int × Int)))) (Int.toNat t_7) ((0 : Int), ((0 : Int), (0 : Int)))).1 < (List.getD ([] : (List (Int × (Int × Int)))) (Int.toNat (IntKind.wrap .i64 (t_7 - (1 : Int)))) ((0 : Int), ((0 : Int), (0 : Int)))).2.1)) = false, 0 ≤ (IntKind.wrap .i64 (t_7 - (1 : Int))), (IntKind.wrap .i64 (t_7 - (1 : Int))) < (((List.length ([] : (List (Int × (Int × Int))))) : Nat) : Int), ((List.getD ([] : (List (Int × (Int × Int)))) (Int.toNat t_7) ((0 : Int), ((0 : Int), (0 : Int)))).1 == (List.getD ([] : (List (Int × (Int × Int)))) (Int.toNat (IntKind.wrap .i64 (t_7 - (1 : Int)))) ((0 : Int), ((0 : Int), (0 : Int)))).2.1) = false] (by kernel_rfl) rfl rfl (ap2 b_26 (ap2 c_31.1 (ap2 c_31.2 (ap2 b_27 (ap2 c_31.1 (ap2 c_31.2 (ap1 b_29))))))) (by kernel_rfl) (by kernel_rfl) ?_
                  have H_85 := Option.some.inj (show some false = some q_70 from H_84); subst H_85
                  refine VL_nil ?_
                  exact QP_end false rfl [] hn (by kernel_rfl) (by kernel_rfl) rfl rfl rfl
            · have H_75 := of_f H_71 b_26
              refine V_draw hN hn (by kernel_rfl) [] [(43, false)] calls_nil 1 [0, 1, 12, 13, 14, 75] [] ⟨[(0, .c (.val (.slice none 0 0))), (1, .c (.val (.int .i64 (mn2 n_2 (20000 : Int))))), (12, .c (.val (.slice none 0 0))), (13, .c (.val (.int .i64 (((List.length ([] : (List (Int × (Int × Int))))) : Nat) : Int)))), (14, .c (.val (.int .i64 t_7))), (75, .c (.val (.bool false)))], [], 1⟩ [(decide (t_7 > (0 : Int))) = false] (by kernel_rfl) rfl rfl (ap1 b_26) (by kernel_rfl) (by kernel_rfl) ?_
              have H_86 := Option.some.inj (show some false = some q_70 from H_75); subst H_86
              refine VL_nil ?_
              exact QP_end false rfl [] hn (by kernel_rfl) (by kernel_rfl) rfl rfl rfl
          · intro y_73 hy; subst hy
            skip
            skip
            refine VL_cond (y_73) (by kernel_rfl) ?_ ?_
            · intro b_34; have H_87 := of_t H_72 b_34
              refine V_run hN hn 2 1 [4] [] ⟨[(4, .c (.val (.bool false)))], [], 1⟩ [] (by kernel_rfl) rfl rfl ap0 ?_
              have H_89 := Option.some.inj (show some false = some r from H_87); subst H_89
              refine VL_ret ?_
              refine QB_ret ?_
              refine QL_ret ?_
              refine QB_ret ?_
              exact P_to [(4, .c (.val (.bool false)))] [] [] hn (by kernel_rfl) (by kernel_rfl) rfl rfl rfl (QF_retS (by kernel_rfl) (by kernel_rfl) rfl)
            · intro b_34; have H_88 := of_f H_72 b_34
              refine V_run hN hn 1 1 [0, 1, 12, 13, 14, 75] [] ⟨[(0, .c (.val (.slice none 0 0))), (1, .c (.val (.int .i64 (mn2 n_2 (20000 : Int))))), (12, .c (.val (.slice none 0 0))), (13, .c (.val (.int .i64 (((List.length ([] : (List (Int × (Int × Int))))) : Nat) : Int)))), (14, .c (.val (.int .i64 t_7))), (75, .c (.val (.bool y_73)))], [], 1⟩ [] (by kernel_rfl) rfl rfl ap0 ?_
              refine VL_nil (QB_end ?_)
              refine V_run hN hn 1 1 [0, 1, 12, 13, 14] [] ⟨[(0, .c (.val (.slice none 0 0))), (1, .c (.val (.int .i64 (mn2 n_2 (20000 : Int))))), (12, .c (.val (.slice none 0 0))), (13, .c (.val (.int .i64 (((List.length ([] : (List (Int × (Int × Int))))) : Nat) : Int)))), (14, .c (.val (.int .i64 (IntKind.wrap .i64 (t_7 + (1 : Int))))))], [], 1⟩ [] (by kernel_rfl) rfl rfl ap0 ?_
              refine VL_nil ?_
              exact V_roundEnd (IntKind.wrap .i64 (t_7 + (1 : Int))) H_88 [] hn (by kernel_rfl) (by kernel_rfl) rfl rfl rfl
    · intro b_10; have H_50 := of_f H_48 b_10
      refine VL_exit ?_
      refine QL_exit ?_
      refine QB_here ?_
      refine V_run hN hn 2 0 [4] [] ⟨[(4, .c (.val (.bool true)))], [], 0⟩ [] (by kernel_rfl) rfl rfl ap0 ?_
      have H_90 := Option.some.inj (show some true = some r from H_50); subst H_90
      refine VL_ret ?_
      exact P_to [(4, .c (.val (.bool true)))] [] [] hn (by kernel_rfl) (by kernel_rfl) rfl rfl rfl (QF_retS (by kernel_rfl) (by kernel_rfl) rfl)

theorem spans_row_add_bggg_b0cf7_spec (K : Nat) (r_1 : (List (Int × (Int × Int)))) (from_2 : Int) (to_3 : Int) (is_4 : Int) (r : (List (Int × (Int × Int)))) (H : spans_row_add_bggg_b0cf7 K r_1 from_2 to_3 is_4 = some r) : Spec Try.prog 25 2 [.c (.h 0), .c (.val (.int .i64 from_2)), .c (.val (.int .i64 to_3)), .c (.val (.int .i64 is_4))] [(0, .box [.h 1]), (1, .row (.pair (.int .i64) (.pair (.int .i64) (.int .i64))) r_1)] (.tup []) [(0, .box [.h 4]), (4, .row (.pair (.int .i64) (.pair (.int .i64) (.int .i64))) r)] := by
  refine Spec_mk (fn := Try.f25) (c := (Try.f25.body).get!) Try.func25 (by kernel_rfl) rfl ?_
  intro C hN hn
  replace hN : C.N = 22 := hN
  unfold spans_row_add_bggg_b0cf7 at H
  refine V_run hN hn 2 2 [0, 1, 2, 3, 10] [0, 1] ⟨[(0, .c (.h 0)), (1, .c (.val (.int .i64 from_2))), (2, .c (.val (.int .i64 to_3))), (3, .c (.val (.int .i64 is_4))), (10, .c (.val (.bool (decide (from_2 < to_3)))))], [(0, .box [.h 1]), (1, .row (.pair (.int .i64) (.pair (.int .i64) (.int .i64))) r_1)], 2⟩ [] (by kernel_rfl) rfl rfl ap0 ?_
  refine VL_cond ((decide (from_2 < to_3))) (by kernel_rfl) ?_ ?_
  · intro b_6; have H_10 := of_t H b_6
    obtain ⟨c_7, H_12⟩ := of_if H_10
    refine V_run hN hn 1 2 [] [0, 3] ⟨[], [(0, .box [.h 3]), (3, .row (.pair (.int .i64) (.pair (.int .i64) (.int .i64))) (r_1 ++ ([(from_2, (to_3, is_4))] : List (Int × (Int × Int)))))], 4⟩ [(List.length r_1 + List.length ([(from_2, (to_3, is_4))] : List (Int × (Int × Int)))) * 24 ≤ 140737488355328] (by kernel_rfl) rfl rfl (ap1 c_7) ?_
    have H_13 := Option.some.inj (show some (r_1 ++ ([(from_2, (to_3, is_4))] : List (Int × (Int × Int)))) = some r from H_12); subst H_13
    refine VL_nil ?_
    exact P_to [] [(0, .box [.h 4]), (4, .row (.pair (.int .i64) (.pair (.int .i64) (.int .i64))) (r_1 ++ ([(from_2, (to_3, is_4))] : List (Int × (Int × Int)))))] [(4, 3)] hn (by kernel_rfl) (by kernel_rfl) rfl rfl rfl (QF_endS (by kernel_rfl) (by kernel_rfl) rfl)
  · intro b_6; have H_11 := of_f H b_6
    refine V_run hN hn 1 2 [0, 1, 2, 3, 10] [0, 1] ⟨[(0, .c (.h 0)), (1, .c (.val (.int .i64 from_2))), (2, .c (.val (.int .i64 to_3))), (3, .c (.val (.int .i64 is_4))), (10, .c (.val (.bool (decide (from_2 < to_3)))))], [(0, .box [.h 1]), (1, .row (.pair (.int .i64) (.pair (.int .i64) (.int .i64))) r_1)], 2⟩ [] (by kernel_rfl) rfl rfl ap0 ?_
    have H_14 := Option.some.inj (show some r_1 = some r from H_11); subst H_14
    refine VL_nil ?_
    exact P_to [] [(0, .box [.h 4]), (4, .row (.pair (.int .i64) (.pair (.int .i64) (.int .i64))) r_1)] [(4, 1)] hn (by kernel_rfl) (by kernel_rfl) rfl rfl rfl (QF_endS (by kernel_rfl) (by kernel_rfl) rfl)

theorem cmp_isNaN_spec (K : Nat) (x_1 : Int) (r : Bool) (H : cmp_isNaN K x_1 = some r) : Spec Try.prog 53 0 [.c (.val (.int .i64 x_1))] [] (.c (.val (.bool r))) [] := by
  refine Spec_mk (fn := Try.f53) (c := (Try.f53.body).get!) Try.func53 (by kernel_rfl) rfl ?_
  intro C hN hn
  replace hN : C.N = 6 := hN
  unfold cmp_isNaN at H
  refine V_run hN hn 4 0 [2] [] ⟨[(2, .c (.val (.bool (x_1 != x_1))))], [], 0⟩ [] (by kernel_rfl) rfl rfl ap0 ?_
  have H_4 := Option.some.inj (show some (x_1 != x_1) = some r from H); subst H_4
  refine VL_ret ?_
  exact P_to [(2, .c (.val (.bool (x_1 != x_1))))] [] [] hn (by kernel_rfl) (by kernel_rfl) rfl rfl rfl (QF_retS (by kernel_rfl) (by kernel_rfl) rfl)

theorem cmp_Compare_spec (K : Nat) (x_1 : Int) (y_2 : Int) (r : Int) (H : cmp_Compare K x_1 y_2 = some r) : Spec Try.prog 48 0 [.c (.val (.int .i64 x_1)), .c (.val (.int .i64 y_2))] [] (.c (.val (.int .i64 r))) [] := by
  refine Spec_mk (fn := Try.f48) (c := (Try.f48.body).get!) Try.func48 (by kernel_rfl) rfl ?_
  intro C hN hn
  replace hN : C.N = 20 := hN
  unfold cmp_Compare at H
  refine V_run hN hn 3 0 [0, 1] [] ⟨[(0, .c (.val (.int .i64 x_1))), (1, .c (.val (.int .i64 y_2)))], [], 0⟩ [] (by kernel_rfl) rfl rfl ap0 ?_
  obtain ⟨r_4, h_5, H_28⟩ := of_bind H
  refine V_reg hN hn [(1, ⟨53, 0, [.c (.val (.int .i64 x_1))], [], .c (.val (.bool r_4)), [], [], 0⟩)] [] (calls_cons (cmp_isNaN_spec K x_1 r_4 h_5) (by kernel_rfl) calls_nil) 0 [0, 1, 5] [] ⟨[(0, .c (.val (.int .i64 x_1))), (1, .c (.val (.int .i64 y_2))), (5, .c (.val (.bool r_4)))], [], 0⟩ [] (by kernel_rfl) rfl rfl ap0 (by kernel_rfl) (by kernel_rfl) ?_
  refine V_run hN hn 1 0 [0, 1, 5] [] ⟨[(0, .c (.val (.int .i64 x_1))), (1, .c (.val (.int .i64 y_2))), (5, .c (.val (.bool r_4)))], [], 0⟩ [] (by kernel_rfl) rfl rfl ap0 ?_
  obtain ⟨r_8, h_9, H_29⟩ := of_bind H_28
  refine V_reg hN hn [(1, ⟨53, 0, [.c (.val (.int .i64 y_2))], [], .c (.val (.bool r_8)), [], [], 0⟩)] [] (calls_cons (cmp_isNaN_spec K y_2 r_8 h_9) (by kernel_rfl) calls_nil) 0 [0, 1, 5, 6] [] ⟨[(0, .c (.val (.int .i64 x_1))), (1, .c (.val (.int .i64 y_2))), (5, .c (.val (.bool r_4))), (6, .c (.val (.bool r_8)))], [], 0⟩ [] (by kernel_rfl) rfl rfl ap0 (by kernel_rfl) (by kernel_rfl) ?_
  refine V_run hN hn 3 0 [0, 1, 6, 11] [] ⟨[(0, .c (.val (.int .i64 x_1))), (1, .c (.val (.int .i64 y_2))), (6, .c (.val (.bool r_8))), (11, .c (.val (.bool r_4)))], [], 0⟩ [] (by kernel_rfl) rfl rfl ap0 ?_
  refine VL_cond (r_4) (by kernel_rfl) ?_ ?_
  · intro b_12; have H_30 := of_t H_29 b_12
    refine V_run hN hn 3 0 [12] [] ⟨[(12, .c (.val (.bool r_8)))], [], 0⟩ [] (by kernel_rfl) rfl rfl ap0 ?_
    refine VL_cond (r_8) (by kernel_rfl) ?_ ?_
    · intro b_14; have H_32 := of_t H_30 b_14
      refine V_run hN hn 2 0 [4] [] ⟨[(4, .c (.val (.int .i64 (0 : Int))))], [], 0⟩ [] (by kernel_rfl) rfl rfl ap0 ?_
      have H_34 := Option.some.inj (show some (0 : Int) = some r from H_32); subst H_34
      refine VL_ret ?_
      exact P_to [(4, .c (.val (.int .i64 (0 : Int))))] [] [] hn (by kernel_rfl) (by kernel_rfl) rfl rfl rfl (QF_retS (by kernel_rfl) (by kernel_rfl) rfl)
    · intro b_14; have H_33 := of_f H_30 b_14
      refine V_run hN hn 3 0 [4] [] ⟨[(4, .c (.val (.int .i64 (-1 : Int))))], [], 0⟩ [] (by kernel_rfl) rfl rfl ap0 ?_
      have H_35 := Option.some.inj (show some (-1 : Int) = some r from H_33); subst H_35
      refine VL_ret ?_
      exact P_to [(4, .c (.val (.int .i64 (-1 : Int))))] [] [] hn (by kernel_rfl) (by kernel_rfl) rfl rfl rfl (QF_retS (by kernel_rfl) (by kernel_rfl) rfl)
  · intro b_12; have H_31 := of_f H_29 b_12
    refine V_run hN hn 4 0 [0, 1, 13] [] ⟨[(0, .c (.val (.int .i64 x_1))), (1, .c (.val (.int .i64 y_2))), (13, .c (.val (.bool r_8)))], [], 0⟩ [] (by kernel_rfl) rfl rfl ap0 ?_
    refine VL_cond (r_8) (by kernel_rfl) ?_ ?_
    · intro b_18; have H_36 := of_t H_31 b_18
      refine V_run hN hn 2 0 [4] [] ⟨[(4, .c (.val (.int .i64 (1 : Int))))], [], 0⟩ [] (by kernel_rfl) rfl rfl ap0 ?_
      have H_38 := Option.some.inj (show some (1 : Int) = some r from H_36); subst H_38
      refine VL_ret ?_
      exact P_to [(4, .c (.val (.int .i64 (1 : Int))))] [] [] hn (by kernel_rfl) (by kernel_rfl) rfl rfl rfl (QF_retS (by kernel_rfl) (by kernel_rfl) rfl)
    · intro b_18; have H_37 := of_f H_31 b_18
      refine V_run hN hn 4 0 [0, 1, 16] [] ⟨[(0, .c (.val (.int .i64 x_1))), (1, .c (.val (.int .i64 y_2))), (16, .c (.val (.bool (decide (x_1 < y_2)))))], [], 0⟩ [] (by kernel_rfl) rfl rfl ap0 ?_
      refine VL_cond ((decide (x_1 < y_2))) (by kernel_rfl) ?_ ?_
      · intro b_21; have H_39 := of_t H_37 b_21
        refine V_run hN hn 2 0 [4] [] ⟨[(4, .c (.val (.int .i64 (-1 : Int))))], [], 0⟩ [] (by kernel_rfl) rfl rfl ap0 ?_
        have H_41 := Option.some.inj (show some (-1 : Int) = some r from H_39); subst H_41
        refine VL_ret ?_
        exact P_to [(4, .c (.val (.int .i64 (-1 : Int))))] [] [] hn (by kernel_rfl) (by kernel_rfl) rfl rfl rfl (QF_retS (by kernel_rfl) (by kernel_rfl) rfl)
      · intro b_21; have H_40 := of_f H_37 b_21
        refine V_run hN hn 4 0 [19] [] ⟨[(19, .c (.val (.bool (decide (x_1 > y_2)))))], [], 0⟩ [] (by kernel_rfl) rfl rfl ap0 ?_
        refine VL_cond ((decide (x_1 > y_2))) (by kernel_rfl) ?_ ?_
        · intro b_24; have H_42 := of_t H_40 b_24
          refine V_run hN hn 2 0 [4] [] ⟨[(4, .c (.val (.int .i64 (1 : Int))))], [], 0⟩ [] (by kernel_rfl) rfl rfl ap0 ?_
          have H_44 := Option.some.inj (show some (1 : Int) = some r from H_42); subst H_44
          refine VL_ret ?_
          exact P_to [(4, .c (.val (.int .i64 (1 : Int))))] [] [] hn (by kernel_rfl) (by kernel_rfl) rfl rfl rfl (QF_retS (by kernel_rfl) (by kernel_rfl) rfl)
        · intro b_24; have H_43 := of_f H_40 b_24
          refine V_run hN hn 3 0 [4] [] ⟨[(4, .c (.val (.int .i64 (0 : Int))))], [], 0⟩ [] (by kernel_rfl) rfl rfl ap0 ?_
          have H_45 := Option.some.inj (show some (0 : Int) = some r from H_43); subst H_45
          refine VL_ret ?_
          exact P_to [(4, .c (.val (.int .i64 (0 : Int))))] [] [] hn (by kernel_rfl) (by kernel_rfl) rfl rfl rfl (QF_retS (by kernel_rfl) (by kernel_rfl) rfl)

theorem spans_row_sorted_1_spec (K : Nat) (a_1 : Int) (a_2 : Int) (a_3 : Int) (b_4 : Int) (b_5 : Int) (b_6 : Int) (r : Int) (H : spans_row_sorted_1 K a_1 a_2 a_3 b_4 b_5 b_6 = some r) : Spec Try.prog 47 0 [.agg [.val (.int .i64 a_1), .val (.int .i64 a_2), .val (.int .i64 a_3)], .agg [.val (.int .i64 b_4), .val (.int .i64 b_5), .val (.int .i64 b_6)]] [] (.c (.val (.int .i64 r))) [] := by
  refine Spec_mk (fn := Try.f47) (c := (Try.f47.body).get!) Try.func47 (by kernel_rfl) rfl ?_
  intro C hN hn
  replace hN : C.N = 10 := hN
  unfold spans_row_sorted_1 at H
  refine V_run hN hn 3 0 [2, 3] [0, 1] ⟨[(2, .c (.h 0)), (3, .c (.h 1))], [(0, .box [.val (.int .i64 a_1), .val (.int .i64 a_2), .val (.int .i64 a_3)]), (1, .box [.val (.int .i64 b_4), .val (.int .i64 b_5), .val (.int .i64 b_6)])], 2⟩ [] (by kernel_rfl) rfl rfl ap0 ?_
  obtain ⟨r_8, h_9, H_12⟩ := of_bind H
  refine V_reg hN hn [(4, ⟨48, 0, [.c (.val (.int .i64 a_1)), .c (.val (.int .i64 b_4))], [], .c (.val (.int .i64 r_8)), [], [], 2⟩)] [] (calls_cons (cmp_Compare_spec K a_1 b_4 r_8 h_9) (by kernel_rfl) calls_nil) 2 [4] [] ⟨[(4, .c (.val (.int .i64 r_8)))], [], 2⟩ [] (by kernel_rfl) rfl rfl ap0 (by kernel_rfl) (by kernel_rfl) ?_
  have H_13 := Option.some.inj (show some r_8 = some r from H_12); subst H_13
  refine VL_ret ?_
  exact P_to [(4, .c (.val (.int .i64 r_8)))] [] [] hn (by kernel_rfl) (by kernel_rfl) rfl rfl rfl (QF_retS (by kernel_rfl) (by kernel_rfl) rfl)

theorem slices_insertionSortCmpFunc_rggcspansrowsorted1_spec (K : Nat) (data_1 : (List (Int × (Int × Int)))) (a_2 : Int) (b_3 : Int) (r : (List (Int × (Int × Int)))) (H : slices_insertionSortCmpFunc_rggcspansrowsorted1 K data_1 a_2 b_3 = some r) : Spec Try.prog 55 1 [.c (.h 0), .c (.val (.int .i64 a_2)), .c (.val (.int .i64 b_3)), .c (.clo 47 [])] [(0, .row (.pair (.int .i64) (.pair (.int .i64) (.int .i64))) data_1)] (.tup []) [(0, .row (.pair (.int .i64) (.pair (.int .i64) (.int .i64))) r)] := by
  refine Spec_mk (fn := Try.f55) (c := (Try.f55.body).get!) Try.func55 (by kernel_rfl) rfl ?_
  intro C hN hn
  replace hN : C.N = 53 := hN
  unfold slices_insertionSortCmpFunc_rggcspansrowsorted1 at H
  refine V_run hN hn 2 1 [0, 1, 2, 3, 8] [0] ⟨[(0, .c (.h 0)), (1, .c (.val (.int .i64 a_2))), (2, .c (.val (.int .i64 b_3))), (3, .c (.clo 47 [])), (8, .c (.val (.int .i64 (IntKind.wrap .i64 (a_2 + (1 : Int))))))], [(0, .row (.pair (.int .i64) (.pair (.int .i64) (.int .i64))) data_1)], 1⟩ [] (by kernel_rfl) rfl rfl ap0 ?_
  refine VL_block ?_
  refine V_to [(0, .c (.h 0)), (1, .c (.val (.int .i64 a_2))), (2, .c (.val (.int .i64 b_3))), (3, .c (.clo 47 [])), (8, .c (.val (.int .i64 (IntKind.wrap .i64 (a_2 + (1 : Int))))))] [(0, .row (.pair (.int .i64) (.pair (.int .i64) (.int .i64))) data_1)] [] hn (by kernel_rfl) (by kernel_rfl) rfl rfl rfl ?_
  refine VL_loop (X := ((List (Int × (Int × Int))) × Int)) (fun x => [(0, .c (.h 0)), (1, .c (.val (.int .i64 a_2))), (2, .c (.val (.int .i64 b_3))), (3, .c (.clo 47 [])), (8, .c (.val (.int .i64 x.2)))]) (fun x => [(0, .row (.pair (.int .i64) (.pair (.int .i64) (.int .i64))) x.1)]) (fun k x => slices_insertionSortCmpFunc_rggcspansrowsorted1.l0 K b_3 a_2 k x.1 x.2 = some r) K (data_1, (IntKind.wrap .i64 (a_2 + (1 : Int)))) H (fun _ h => no_none h) ?_
  intro k_40 x_40 H_78
  obtain ⟨data_39, i_5⟩ := x_40
  have H_79 : slices_insertionSortCmpFunc_rggcspansrowsorted1.l0 K b_3 a_2 (k_40 + 1) data_39 i_5 = some r := H_78
  rw [slices_insertionSortCmpFunc_rggcspansrowsorted1.l0] at H_79
  refine V_run hN hn 3 1 [0, 1, 2, 3, 8, 14] [0] ⟨[(0, .c (.h 0)), (1, .c (.val (.int .i64 a_2))), (2, .c (.val (.int .i64 b_3))), (3, .c (.clo 47 [])), (8, .c (.val (.int .i64 i_5))), (14, .c (.val (.bool (decide (i_5 < b_3)))))], [(0, .row (.pair (.int .i64) (.pair (.int .i64) (.int .i64))) data_39)], 1⟩ [] (by kernel_rfl) rfl rfl ap0 ?_
  refine VL_cond ((decide (i_5 < b_3))) (by kernel_rfl) ?_ ?_
  · intro b_42; have H_80 := of_t H_79 b_42
    refine V_run hN hn 2 1 [0, 1, 2, 3, 8, 14] [0] ⟨[(0, .c (.h 0)), (1, .c (.val (.int .i64 a_2))), (2, .c (.val (.int .i64 b_3))), (3, .c (.clo 47 [])), (8, .c (.val (.int .i64 i_5))), (14, .c (.val (.bool (decide (i_5 < b_3)))))], [(0, .row (.pair (.int .i64) (.pair (.int .i64) (.int .i64))) data_39)], 1⟩ [] (by kernel_rfl) rfl rfl ap0 ?_
    obtain ⟨q_82, H_83, H_84⟩ := of_bind H_80
    refine V_cut (Y := (List (Int × (Int × Int)))) (R := (List (Int × (Int × Int)))) q_82 (fun y => y) (fun y => [(0, .c (.h 0)), (1, .c (.val (.int .i64 a_2))), (2, .c (.val (.int .i64 b_3))), (3, .c (.clo 47 [])), (8, .c (.val (.int .i64 i_5)))]) (fun y => [(0, .row (.pair (.int .i64) (.pair (.int .i64) (.int .i64))) y)]) ?_ ?_
    · skip
      refine VL_block ?_
      refine V_run hN hn 2 1 [0, 1, 2, 3, 8, 9] [0] ⟨[(0, .c (.h 0)), (1, .c (.val (.int .i64 a_2))), (2, .c (.val (.int .i64 b_3))), (3, .c (.clo 47 [])), (8, .c (.val (.int .i64 i_5))), (9, .c (.val (.int .i64 i_5)))], [(0, .row (.pair (.int .i64) (.pair (.int .i64) (.int .i64))) data_39)], 1⟩ [] (by kernel_rfl) rfl rfl ap0 ?_
      refine VL_block ?_
      refine V_to [(0, .c (.h 0)), (1, .c (.val (.int .i64 a_2))), (2, .c (.val (.int .i64 b_3))), (3, .c (.clo 47 [])), (8, .c (.val (.int .i64 i_5))), (9, .c (.val (.int .i64 i_5)))] [(0, .row (.pair (.int .i64) (.pair (.int .i64) (.int .i64))) data_39)] [] hn (by kernel_rfl) (by kernel_rfl) rfl rfl rfl ?_
      refine VL_loop (X := ((List (Int × (Int × Int))) × Int)) (fun x => [(0, .c (.h 0)), (1, .c (.val (.int .i64 a_2))), (2, .c (.val (.int .i64 b_3))), (3, .c (.clo 47 [])), (8, .c (.val (.int .i64 i_5))), (9, .c (.val (.int .i64 x.2)))]) (fun x => [(0, .row (.pair (.int .i64) (.pair (.int .i64) (.int .i64))) x.1)]) (fun k x => slices_insertionSortCmpFunc_rggcspansrowsorted1.l1 K a_2 k x.1 x.2 = some q_82) K (data_39, i_5) H_83 (fun _ h => no_none h) ?_
      intro k_59 x_59 H_86
      obtain ⟨data_58, j_45⟩ := x_59
      have H_87 : slices_insertionSortCmpFunc_rggcspansrowsorted1.l1 K a_2 (k_59 + 1) data_58 j_45 = some q_82 := H_86
      rw [slices_insertionSortCmpFunc_rggcspansrowsorted1.l1] at H_87
      refine V_run hN hn 2 1 [0, 1, 2, 3, 8, 9] [0] ⟨[(0, .c (.h 0)), (1, .c (.val (.int .i64 a_2))), (2, .c (.val (.int .i64 b_3))), (3, .c (.clo 47 [])), (8, .c (.val (.int .i64 i_5))), (9, .c (.val (.int .i64 j_45)))], [(0, .row (.pair (.int .i64) (.pair (.int .i64) (.int .i64))) data_58)], 1⟩ [] (by kernel_rfl) rfl rfl ap0 ?_
      obtain ⟨q_88, H_89, H_90⟩ := of_bind H_87
      refine V_cut (Y := Bool) (R := Bool) q_88 (fun y => y) (fun y => [(0, .c (.h 0)), (1, .c (.val (.int .i64 a_2))), (2, .c (.val (.int .i64 b_3))), (3, .c (.clo 47 [])), (8, .c (.val (.int .i64 i_5))), (9, .c (.val (.int .i64 j_45))), (34, .c (.val (.bool y)))]) (fun y => [(0, .row (.pair (.int .i64) (.pair (.int .i64) (.int .i64))) data_58)]) ?_ ?_
      · skip
        rcases Bool.eq_false_or_eq_true ((decide (j_45 > a_2))) with b_61 | b_61
        · have H_92 := of_t H_89 b_61
          obtain ⟨r_62, h_63, H_94⟩ := of_bind H_92
          obtain ⟨c_64, H_95⟩ := of_if H_94
          refine V_draw hN hn (by kernel_rfl) [(14, ⟨47, 0, [.agg [.val (.int .i64 (List.getD data_58 (Int.toNat j_45) ((0 : Int), ((0 : Int), (0 : Int)))).1), .val (.int .i64 (List.getD data_58 (Int.toNat j_45) ((0 : Int), ((0 : Int), (0 : Int)))).2.1), .val (.int .i64 (List.getD data_58 (Int.toNat j_45) ((0 : Int), ((0 : Int), (0 : Int)))).2.2)], .agg [.val (.int .i64 (List.getD data_58 (Int.toNat (IntKind.wrap .i64 (j_45 - (1 : Int)))) ((0 : Int), ((0 : Int), (0 : Int)))).1), .val (.int .i64 (List.getD data_58 (Int.toNat (IntKind.wrap .i64 (j_45 - (1 : Int)))) ((0 : Int), ((0 : Int), (0 : Int)))).2.1), .val (.int .i64 (List.getD data_58 (Int.toNat (IntKind.wrap .i64 (j_45 - (1 : Int)))) ((0 : Int), ((0 : Int), (0 : Int)))).2.2)]], [], .c (.val (.int .i64 r_62)), [], [], 1⟩)] [(21, true)] (calls_cons (spans_row_sorted_1_spec K (List.getD data_58 (Int.toNat j_45) ((0 : Int), ((0 : Int), (0 : Int)))).1 (List.getD data_58 (Int.toNat j_45) ((0 : Int), ((0 : Int), (0 : Int)))).2.1 (List.getD data_58 (Int.toNat j_45) ((0 : Int), ((0 : Int), (0 : Int)))).2.2 (List.getD data_58 (Int.toNat (IntKind.wrap .i64 (j_45 - (1 : Int)))) ((0 : Int), ((0 : Int), (0 : Int)))).1 (List.getD data_58 (Int.toNat (IntKind.wrap .i64 (j_45 - (1 : Int)))) ((0 : Int), ((0 : Int), (0 : Int)))).2.1 (List.getD data_58 (Int.toNat (IntKind.wrap .i64 (j_45 - (1 : Int)))) ((0 : Int), ((0 : Int), (0 : Int)))).2.2 r_62 h_63) (by kernel_rfl) calls_nil) 1 [0, 1, 2, 3, 8, 9, 34] [0] ⟨[(0, .c (.h 0)), (1, .c (.val (.int .i64 a_2))), (2, .c (.val (.int .i64 b_3))), (3, .c (.clo 47 [])), (8, .c (.val (.int .i64 i_5))), (9, .c (.val (.int .i64 j_45))), (34, .c (.val (.bool (decide (r_62 < (0 : Int))))))], [(0, .row (.pair (.int .i64) (.pair (.int .i64) (.int .i64))) data_58)], 1⟩ [(decide (j_45 > a_2)) = true, 0 ≤ j_45, j_45 < (((List.length data_58) : Nat) : Int), 0 ≤ (IntKind.wrap .i64 (j_45 - (1 : Int))), (IntKind.wrap .i64 (j_45 - (1 : Int))) < (((List.length data_58) : Nat) : Int)] (by kernel_rfl) rfl rfl (ap2 b_61 (ap2 c_64.1 (ap2 c_64.2.1 (ap2 c_64.2.2.1 (ap1 c_64.2.2.2))))) (by kernel_rfl) (by kernel_rfl) ?_
          have H_96 := Option.some.inj (show some (decide (r_62 < (0 : Int))) = some q_88 from H_95); subst H_96
          refine VL_nil ?_
          exact QP_end (decide (r_62 < (0 : Int))) rfl [] hn (by kernel_rfl) (by kernel_rfl) rfl rfl rfl
        · have H_93 := of_f H_89 b_61
          refine V_draw hN hn (by kernel_rfl) [] [(21, false)] calls_nil 1 [0, 1, 2, 3, 8, 9, 34] [0] ⟨[(0, .c (.h 0)), (1, .c (.val (.int .i64 a_2))), (2, .c (.val (.int .i64 b_3))), (3, .c (.clo 47 [])), (8, .c (.val (.int .i64 i_5))), (9, .c (.val (.int .i64 j_45))), (34, .c (.val (.bool false)))], [(0, .row (.pair (.int .i64) (.pair (.int .i64) (.int .i64))) data_58)], 1⟩ [(decide (j_45 > a_2)) = false] (by kernel_rfl) rfl rfl (ap1 b_61) (by kernel_rfl) (by kernel_rfl) ?_
          have H_97 := Option.some.inj (show some false = some q_88 from H_93); subst H_97
          refine VL_nil ?_
          exact QP_end false rfl [] hn (by kernel_rfl) (by kernel_rfl) rfl rfl rfl
      · intro y_91 hy; subst hy
        skip
        skip
        refine VL_cond (y_91) (by kernel_rfl) ?_ ?_
        · intro b_67; have H_98 := of_t H_90 b_67
          refine V_run hN hn 2 1 [0, 1, 2, 3, 8, 9, 34] [0] ⟨[(0, .c (.h 0)), (1, .c (.val (.int .i64 a_2))), (2, .c (.val (.int .i64 b_3))), (3, .c (.clo 47 [])), (8, .c (.val (.int .i64 i_5))), (9, .c (.val (.int .i64 j_45))), (34, .c (.val (.bool y_91)))], [(0, .row (.pair (.int .i64) (.pair (.int .i64) (.int .i64))) data_58)], 1⟩ [] (by kernel_rfl) rfl rfl ap0 ?_
          refine VL_block ?_
          obtain ⟨c_69, H_100⟩ := of_if H_98
          refine V_draw hN hn (by kernel_rfl) [] [] calls_nil 1 [0, 1, 2, 3, 8, 9] [0] ⟨[(0, .c (.h 0)), (1, .c (.val (.int .i64 a_2))), (2, .c (.val (.int .i64 b_3))), (3, .c (.clo 47 [])), (8, .c (.val (.int .i64 i_5))), (9, .c (.val (.int .i64 j_45)))], [(0, .row (.pair (.int .i64) (.pair (.int .i64) (.int .i64))) (List.set (List.set data_58 (Int.toNat j_45) ((List.getD data_58 (Int.toNat (IntKind.wrap .i64 (j_45 - (1 : Int)))) ((0 : Int), ((0 : Int), (0 : Int)))).1, ((List.getD data_58 (Int.toNat (IntKind.wrap .i64 (j_45 - (1 : Int)))) ((0 : Int), ((0 : Int), (0 : Int)))).2.1, (List.getD data_58 (Int.toNat (IntKind.wrap .i64 (j_45 - (1 : Int)))) ((0 : Int), ((0 : Int), (0 : Int)))).2.2))) (Int.toNat (IntKind.wrap .i64 (j_45 - (1 : Int)))) ((List.getD data_58 (Int.toNat j_45) ((0 : Int), ((0 : Int), (0 : Int)))).1, ((List.getD data_58 (Int.toNat j_45) ((0 : Int), ((0 : Int), (0 : Int)))).2.1, (List.getD data_58 (Int.toNat j_45) ((0 : Int), ((0 : Int), (0 : Int)))).2.2))))], 1⟩ [0 ≤ (IntKind.wrap .i64 (j_45 - (1 : Int))), (IntKind.wrap .i64 (j_45 - (1 : Int))) < (((List.length data_58) : Nat) : Int), 0 ≤ j_45, j_45 < (((List.length data_58) : Nat) : Int), 0 ≤ j_45, j_45 < (((List.length data_58) : Nat) : Int), 0 ≤ (IntKind.wrap .i64 (j_45 - (1 : Int))), (IntKind.wrap .i64 (j_45 - (1 : Int))) < (((List.length (List.set data_58 (Int.toNat j_45) ((List.getD data_58 (Int.toNat (IntKind.wrap .i64 (j_45 - (1 : Int)))) ((0 : Int), ((0 : Int), (0 : Int)))).1, ((List.getD data_58 (Int.toNat (IntKind.wrap .i64 (j_45 - (1 : Int)))) ((0 : Int), ((0 : Int), (0 : Int)))).2.1, (List.getD data_58 (Int.toNat (IntKind.wrap .i64 (j_45 - (1 : Int)))) ((0 : Int), ((0 : Int), (0 : Int)))).2.2)))) : Nat) : Int)] (by kernel_rfl) rfl rfl (ap2 c_69.1 (ap2 c_69.2.1 (ap2 c_69.2.2.1 (ap2 c_69.2.2.2.1 (ap2 c_69.2.2.1 (ap2 c_69.2.2.2.1 (ap2 c_69.1 (ap1 c_69.2.2.2.2)))))))) (by kernel_rfl) (by kernel_rfl) ?_
          refine VL_nil (QB_end ?_)
          refine V_run hN hn 1 1 [0, 1, 2, 3, 8, 9] [0] ⟨[(0, .c (.h 0)), (1, .c (.val (.int .i64 a_2))), (2, .c (.val (.int .i64 b_3))), (3, .c (.clo 47 [])), (8, .c (.val (.int .i64 i_5))), (9, .c (.val (.int .i64 (IntKind.wrap .i64 (j_45 - (1 : Int))))))], [(0, .row (.pair (.int .i64) (.pair (.int .i64) (.int .i64))) (List.set (List.set data_58 (Int.toNat j_45) ((List.getD data_58 (Int.toNat (IntKind.wrap .i64 (j_45 - (1 : Int)))) ((0 : Int), ((0 : Int), (0 : Int)))).1, ((List.getD data_58 (Int.toNat (IntKind.wrap .i64 (j_45 - (1 : Int)))) ((0 : Int), ((0 : Int), (0 : Int)))).2.1, (List.getD data_58 (Int.toNat (IntKind.wrap .i64 (j_45 - (1 : Int)))) ((0 : Int), ((0 : Int), (0 : Int)))).2.2))) (Int.toNat (IntKind.wrap .i64 (j_45 - (1 : Int)))) ((List.getD data_58 (Int.toNat j_45) ((0 : Int), ((0 : Int), (0 : Int)))).1, ((List.getD data_58 (Int.toNat j_45) ((0 : Int), ((0 : Int), (0 : Int)))).2.1, (List.getD data_58 (Int.toNat j_45) ((0 : Int), ((0 : Int), (0 : Int)))).2.2))))], 1⟩ [] (by kernel_rfl) rfl rfl ap0 ?_
          refine VL_nil ?_
          exact V_roundEnd ((List.set (List.set data_58 (Int.toNat j_45) ((List.getD data_58 (Int.toNat (IntKind.wrap .i64 (j_45 - (1 : Int)))) ((0 : Int), ((0 : Int), (0 : Int)))).1, ((List.getD data_58 (Int.toNat (IntKind.wrap .i64 (j_45 - (1 : Int)))) ((0 : Int), ((0 : Int), (0 : Int)))).2.1, (List.getD data_58 (Int.toNat (IntKind.wrap .i64 (j_45 - (1 : Int)))) ((0 : Int), ((0 : Int), (0 : Int)))).2.2))) (Int.toNat (IntKind.wrap .i64 (j_45 - (1 : Int)))) ((List.getD data_58 (Int.toNat j_45) ((0 : Int), ((0 : Int), (0 : Int)))).1, ((List.getD data_58 (Int.toNat j_45) ((0 : Int), ((0 : Int), (0 : Int)))).2.1, (List.getD data_58 (Int.toNat j_45) ((0 : Int), ((0 : Int), (0 : Int)))).2.2))), (IntKind.wrap .i64 (j_45 - (1 : Int)))) H_100 [] hn (by kernel_rfl) (by kernel_rfl) rfl rfl rfl
        · intro b_67; have H_99 := of_f H_90 b_67
          refine VL_exit ?_
          refine QL_exit ?_
          refine QB_here ?_
          refine VL_nil (QB_end ?_)
          have H_101 := Option.some.inj (show some data_58 = some q_82 from H_99); subst H_101
          refine VL_nil ?_
          exact QP_end data_58 rfl [] hn (by kernel_rfl) (by kernel_rfl) rfl rfl rfl
    · intro y_85 hy; subst hy
      skip
      skip
      refine V_run hN hn 1 1 [0, 1, 2, 3, 8] [0] ⟨[(0, .c (.h 0)), (1, .c (.val (.int .i64 a_2))), (2, .c (.val (.int .i64 b_3))), (3, .c (.clo 47 [])), (8, .c (.val (.int .i64 (IntKind.wrap .i64 (i_5 + (1 : Int))))))], [(0, .row (.pair (.int .i64) (.pair (.int .i64) (.int .i64))) y_85)], 1⟩ [] (by kernel_rfl) rfl rfl ap0 ?_
      refine VL_nil ?_
      exact V_roundEnd (y_85, (IntKind.wrap .i64 (i_5 + (1 : Int)))) H_84 [] hn (by kernel_rfl) (by kernel_rfl) rfl rfl rfl
  · intro b_42; have H_81 := of_f H_79 b_42
    refine VL_exit ?_
    refine QL_exit ?_
    refine QB_here ?_
    have H_102 := Option.some.inj (show some data_39 = some r from H_81); subst H_102
    refine VL_nil ?_
    exact P_to [] [(0, .row (.pair (.int .i64) (.pair (.int .i64) (.int .i64))) data_39)] [] hn (by kernel_rfl) (by kernel_rfl) rfl rfl rfl (QF_endS (by kernel_rfl) (by kernel_rfl) rfl)

theorem slices_swapRangeCmpFunc_rgggcspansrowsorted1_spec (K : Nat) (data_1 : (List (Int × (Int × Int)))) (a_2 : Int) (b_3 : Int) (n_4 : Int) (r : (List (Int × (Int × Int)))) (H : slices_swapRangeCmpFunc_rgggcspansrowsorted1 K data_1 a_2 b_3 n_4 = some r) : Spec Try.prog 61 1 [.c (.h 0), .c (.val (.int .i64 a_2)), .c (.val (.int .i64 b_3)), .c (.val (.int .i64 n_4)), .c (.clo 47 [])] [(0, .row (.pair (.int .i64) (.pair (.int .i64) (.int .i64))) data_1)] (.tup []) [(0, .row (.pair (.int .i64) (.pair (.int .i64) (.int .i64))) r)] := by
  refine Spec_mk (fn := Try.f61) (c := (Try.f61.body).get!) Try.func61 (by kernel_rfl) rfl ?_
  intro C hN hn
  replace hN : C.N = 38 := hN
  unfold slices_swapRangeCmpFunc_rgggcspansrowsorted1 at H
  refine V_run hN hn 2 1 [0, 1, 2, 3, 10] [0] ⟨[(0, .c (.h 0)), (1, .c (.val (.int .i64 a_2))), (2, .c (.val (.int .i64 b_3))), (3, .c (.val (.int .i64 n_4))), (10, .c (.val (.int .i64 (0 : Int))))], [(0, .row (.pair (.int .i64) (.pair (.int .i64) (.int .i64))) data_1)], 1⟩ [] (by kernel_rfl) rfl rfl ap0 ?_
  refine VL_block ?_
  refine V_to [(0, .c (.h 0)), (1, .c (.val (.int .i64 a_2))), (2, .c (.val (.int .i64 b_3))), (3, .c (.val (.int .i64 n_4))), (10, .c (.val (.int .i64 (0 : Int))))] [(0, .row (.pair (.int .i64) (.pair (.int .i64) (.int .i64))) data_1)] [] hn (by kernel_rfl) (by kernel_rfl) rfl rfl rfl ?_
  refine VL_loop (X := ((List (Int × (Int × Int))) × Int)) (fun x => [(0, .c (.h 0)), (1, .c (.val (.int .i64 a_2))), (2, .c (.val (.int .i64 b_3))), (3, .c (.val (.int .i64 n_4))), (10, .c (.val (.int .i64 x.2)))]) (fun x => [(0, .row (.pair (.int .i64) (.pair (.int .i64) (.int .i64))) x.1)]) (fun k x => slices_swapRangeCmpFunc_rgggcspansrowsorted1.l0 K n_4 b_3 a_2 k x.1 x.2 = some r) K (data_1, (0 : Int)) H (fun _ h => no_none h) ?_
  intro k_14 x_14 H_21
  obtain ⟨data_13, i_6⟩ := x_14
  have H_22 : slices_swapRangeCmpFunc_rgggcspansrowsorted1.l0 K n_4 b_3 a_2 (k_14 + 1) data_13 i_6 = some r := H_21
  rw [slices_swapRangeCmpFunc_rgggcspansrowsorted1.l0] at H_22
  refine V_run hN hn 3 1 [0, 1, 2, 3, 10, 13] [0] ⟨[(0, .c (.h 0)), (1, .c (.val (.int .i64 a_2))), (2, .c (.val (.int .i64 b_3))), (3, .c (.val (.int .i64 n_4))), (10, .c (.val (.int .i64 i_6))), (13, .c (.val (.bool (decide (i_6 < n_4)))))], [(0, .row (.pair (.int .i64) (.pair (.int .i64) (.int .i64))) data_13)], 1⟩ [] (by kernel_rfl) rfl rfl ap0 ?_
  refine VL_cond ((decide (i_6 < n_4))) (by kernel_rfl) ?_ ?_
  · intro b_16; have H_23 := of_t H_22 b_16
    refine V_run hN hn 2 1 [0, 1, 2, 3, 10, 13] [0] ⟨[(0, .c (.h 0)), (1, .c (.val (.int .i64 a_2))), (2, .c (.val (.int .i64 b_3))), (3, .c (.val (.int .i64 n_4))), (10, .c (.val (.int .i64 i_6))), (13, .c (.val (.bool (decide (i_6 < n_4)))))], [(0, .row (.pair (.int .i64) (.pair (.int .i64) (.int .i64))) data_13)], 1⟩ [] (by kernel_rfl) rfl rfl ap0 ?_
    refine VL_block ?_
    obtain ⟨c_18, H_25⟩ := of_if H_23
    refine V_draw hN hn (by kernel_rfl) [] [] calls_nil 1 [0, 1, 2, 3, 10] [0] ⟨[(0, .c (.h 0)), (1, .c (.val (.int .i64 a_2))), (2, .c (.val (.int .i64 b_3))), (3, .c (.val (.int .i64 n_4))), (10, .c (.val (.int .i64 i_6)))], [(0, .row (.pair (.int .i64) (.pair (.int .i64) (.int .i64))) (List.set (List.set data_13 (Int.toNat (IntKind.wrap .i64 (a_2 + i_6))) ((List.getD data_13 (Int.toNat (IntKind.wrap .i64 (b_3 + i_6))) ((0 : Int), ((0 : Int), (0 : Int)))).1, ((List.getD data_13 (Int.toNat (IntKind.wrap .i64 (b_3 + i_6))) ((0 : Int), ((0 : Int), (0 : Int)))).2.1, (List.getD data_13 (Int.toNat (IntKind.wrap .i64 (b_3 + i_6))) ((0 : Int), ((0 : Int), (0 : Int)))).2.2))) (Int.toNat (IntKind.wrap .i64 (b_3 + i_6))) ((List.getD data_13 (Int.toNat (IntKind.wrap .i64 (a_2 + i_6))) ((0 : Int), ((0 : Int), (0 : Int)))).1, ((List.getD data_13 (Int.toNat (IntKind.wrap .i64 (a_2 + i_6))) ((0 : Int), ((0 : Int), (0 : Int)))).2.1, (List.getD data_13 (Int.toNat (IntKind.wrap .i64 (a_2 + i_6))) ((0 : Int), ((0 : Int), (0 : Int)))).2.2))))], 1⟩ [0 ≤ (IntKind.wrap .i64 (b_3 + i_6)), (IntKind.wrap .i64 (b_3 + i_6)) < (((List.length data_13) : Nat) : Int), 0 ≤ (IntKind.wrap .i64 (a_2 + i_6)), (IntKind.wrap .i64 (a_2 + i_6)) < (((List.length data_13) : Nat) : Int), 0 ≤ (IntKind.wrap .i64 (a_2 + i_6)), (IntKind.wrap .i64 (a_2 + i_6)) < (((List.length data_13) : Nat) : Int), 0 ≤ (IntKind.wrap .i64 (b_3 + i_6)), (IntKind.wrap .i64 (b_3 + i_6)) < (((List.length (List.set data_13 (Int.toNat (IntKind.wrap .i64 (a_2 + i_6))) ((List.getD data_13 (Int.toNat (IntKind.wrap .i64 (b_3 + i_6))) ((0 : Int), ((0 : Int), (0 : Int)))).1, ((List.getD data_13 (Int.toNat (IntKind.wrap .i64 (b_3 + i_6))) ((0 : Int), ((0 : Int), (0 : Int)))).2.1, (List.getD data_13 (Int.toNat (IntKind.wrap .i64 (b_3 + i_6))) ((0 : Int), ((0 : Int), (0 : Int)))).2.2)))) : Nat) : Int)] (by kernel_rfl) rfl rfl (ap2 c_18.1 (ap2 c_18.2.1 (ap2 c_18.2.2.1 (ap2 c_18.2.2.2.1 (ap2 c_18.2.2.1 (ap2 c_18.2.2.2.1 (ap2 c_18.1 (ap1 c_18.2.2.2.2)))))))) (by kernel_rfl) (by kernel_rfl) ?_
    refine VL_nil (QB_end ?_)
    refine V_run hN hn 1 1 [0, 1, 2, 3, 10] [0] ⟨[(0, .c (.h 0)), (1, .c (.val (.int .i64 a_2))), (2, .c (.val (.int .i64 b_3))), (3, .c (.val (.int .i64 n_4))), (10, .c (.val (.int .i64 (IntKind.wrap .i64 (i_6 + (1 : Int))))))], [(0, .row (.pair (.int .i64) (.pair (.int .i64) (.int .i64))) (List.set (List.set data_13 (Int.toNat (IntKind.wrap .i64 (a_2 + i_6))) ((List.getD data_13 (Int.toNat (IntKind.wrap .i64 (b_3 + i_6))) ((0 : Int), ((0 : Int), (0 : Int)))).1, ((List.getD data_13 (Int.toNat (IntKind.wrap .i64 (b_3 + i_6))) ((0 : Int), ((0 : Int), (0 : Int)))).2.1, (List.getD data_13 (Int.toNat (IntKind.wrap .i64 (b_3 + i_6))) ((0 : Int), ((0 : Int), (0 : Int)))).2.2))) (Int.toNat (IntKind.wrap .i64 (b_3 + i_6))) ((List.getD data_13 (Int.toNat (IntKind.wrap .i64 (a_2 + i_6))) ((0 : Int), ((0 : Int), (0 : Int)))).1, ((List.getD data_13 (Int.toNat (IntKind.wrap .i64 (a_2 + i_6))) ((0 : Int), ((0 : Int), (0 : Int)))).2.1, (List.getD data_13 (Int.toNat (IntKind.wrap .i64 (a_2 + i_6))) ((0 : Int), ((0 : Int), (0 : Int)))).2.2))))], 1⟩ [] (by kernel_rfl) rfl rfl ap0 ?_
    refine VL_nil ?_
    exact V_roundEnd ((List.set (List.set data_13 (Int.toNat (IntKind.wrap .i64 (a_2 + i_6))) ((List.getD data_13 (Int.toNat (IntKind.wrap .i64 (b_3 + i_6))) ((0 : Int), ((0 : Int), (0 : Int)))).1, ((List.getD data_13 (Int.toNat (IntKind.wrap .i64 (b_3 + i_6))) ((0 : Int), ((0 : Int), (0 : Int)))).2.1, (List.getD data_13 (Int.toNat (IntKind.wrap .i64 (b_3 + i_6))) ((0 : Int), ((0 : Int), (0 : Int)))).2.2))) (Int.toNat (IntKind.wrap .i64 (b_3 + i_6))) ((List.getD data_13 (Int.toNat (IntKind.wrap .i64 (a_2 + i_6))) ((0 : Int), ((0 : Int), (0 : Int)))).1, ((List.getD data_13 (Int.toNat (IntKind.wrap .i64 (a_2 + i_6))) ((0 : Int), ((0 : Int), (0 : Int)))).2.1, (List.getD data_13 (Int.toNat (IntKind.wrap .i64 (a_2 + i_6))) ((0 : Int), ((0 : Int), (0 : Int)))).2.2))), (IntKind.wrap .i64 (i_6 + (1 : Int)))) H_25 [] hn (by kernel_rfl) (by kernel_rfl) rfl rfl rfl
  · intro b_16; have H_24 := of_f H_22 b_16
    refine VL_exit ?_
    refine QL_exit ?_
    refine QB_here ?_
    have H_26 := Option.some.inj (show some data_13 = some r from H_24); subst H_26
    refine VL_nil ?_
    exact P_to [] [(0, .row (.pair (.int .i64) (.pair (.int .i64) (.int .i64))) data_13)] [] hn (by kernel_rfl) (by kernel_rfl) rfl rfl rfl (QF_endS (by kernel_rfl) (by kernel_rfl) rfl)

theorem slices_rotateCmpFunc_rgggcspansrowsorted1_spec (K : Nat) (data_1 : (List (Int × (Int × Int)))) (a_2 : Int) (m_3 : Int) (b_4 : Int) (r : (List (Int × (Int × Int)))) (H : slices_rotateCmpFunc_rgggcspansrowsorted1 K data_1 a_2 m_3 b_4 = some r) : Spec Try.prog 59 1 [.c (.h 0), .c (.val (.int .i64 a_2)), .c (.val (.int .i64 m_3)), .c (.val (.int .i64 b_4)), .c (.clo 47 [])] [(0, .row (.pair (.int .i64) (.pair (.int .i64) (.int .i64))) data_1)] (.tup []) [(0, .row (.pair (.int .i64) (.pair (.int .i64) (.int .i64))) r)] := by
  refine Spec_mk (fn := Try.f59) (c := (Try.f59.body).get!) Try.func59 (by kernel_rfl) rfl ?_
  intro C hN hn
  replace hN : C.N = 58 := hN
  unfold slices_rotateCmpFunc_rgggcspansrowsorted1 at H
  refine V_run hN hn 5 1 [0, 2, 4, 10, 11] [0] ⟨[(0, .c (.h 0)), (2, .c (.val (.int .i64 m_3))), (4, .c (.clo 47 [])), (10, .c (.val (.int .i64 (IntKind.wrap .i64 (m_3 - a_2))))), (11, .c (.val (.int .i64 (IntKind.wrap .i64 (b_4 - m_3)))))], [(0, .row (.pair (.int .i64) (.pair (.int .i64) (.int .i64))) data_1)], 1⟩ [] (by kernel_rfl) rfl rfl ap0 ?_
  obtain ⟨q_48, H_49, H_50⟩ := of_bind H
  refine V_cut (Y := ((List (Int × (Int × Int))) × Int)) (R := ((List (Int × (Int × Int))) × Int)) q_48 (fun y => y) (fun y => [(0, .c (.h 0)), (2, .c (.val (.int .i64 m_3))), (4, .c (.clo 47 [])), (10, .c (.val (.int .i64 y.2)))]) (fun y => [(0, .row (.pair (.int .i64) (.pair (.int .i64) (.int .i64))) y.1)]) ?_ ?_
  · skip
    refine VL_block ?_
    refine V_to [(0, .c (.h 0)), (2, .c (.val (.int .i64 m_3))), (4, .c (.clo 47 [])), (10, .c (.val (.int .i64 (IntKind.wrap .i64 (m_3 - a_2))))), (11, .c (.val (.int .i64 (IntKind.wrap .i64 (b_4 - m_3)))))] [(0, .row (.pair (.int .i64) (.pair (.int .i64) (.int .i64))) data_1)] [] hn (by kernel_rfl) (by kernel_rfl) rfl rfl rfl ?_
    refine VL_loop (X := ((List (Int × (Int × Int))) × Int × Int)) (fun x => [(0, .c (.h 0)), (2, .c (.val (.int .i64 m_3))), (4, .c (.clo 47 [])), (10, .c (.val (.int .i64 x.2.1))), (11, .c (.val (.int .i64 x.2.2)))]) (fun x => [(0, .row (.pair (.int .i64) (.pair (.int .i64) (.int .i64))) x.1)]) (fun k x => slices_rotateCmpFunc_rgggcspansrowsorted1.l0 K m_3 k x.1 x.2.1 x.2.2 = some q_48) K (data_1, (IntKind.wrap .i64 (m_3 - a_2)), (IntKind.wrap .i64 (b_4 - m_3))) H_49 (fun _ h => no_none h) ?_
    intro k_25 x_25 H_52
    obtain ⟨data_24, i_6, j_7⟩ := x_25
    have H_53 : slices_rotateCmpFunc_rgggcspansrowsorted1.l0 K m_3 (k_25 + 1) data_24 i_6 j_7 = some q_48 := H_52
    rw [slices_rotateCmpFunc_rgggcspansrowsorted1.l0] at H_53
    refine V_run hN hn 3 1 [0, 2, 4, 10, 11, 20] [0] ⟨[(0, .c (.h 0)), (2, .c (.val (.int .i64 m_3))), (4, .c (.clo 47 [])), (10, .c (.val (.int .i64 i_6))), (11, .c (.val (.int .i64 j_7))), (20, .c (.val (.bool (i_6 != j_7))))], [(0, .row (.pair (.int .i64) (.pair (.int .i64) (.int .i64))) data_24)], 1⟩ [] (by kernel_rfl) rfl rfl ap0 ?_
    refine VL_cond ((i_6 != j_7)) (by kernel_rfl) ?_ ?_
    · intro b_27; have H_54 := of_t H_53 b_27
      refine V_run hN hn 1 1 [0, 2, 4, 10, 11, 20] [0] ⟨[(0, .c (.h 0)), (2, .c (.val (.int .i64 m_3))), (4, .c (.clo 47 [])), (10, .c (.val (.int .i64 i_6))), (11, .c (.val (.int .i64 j_7))), (20, .c (.val (.bool (i_6 != j_7))))], [(0, .row (.pair (.int .i64) (.pair (.int .i64) (.int .i64))) data_24)], 1⟩ [] (by kernel_rfl) rfl rfl ap0 ?_
      refine VL_block ?_
      refine V_run hN hn 2 1 [0, 2, 4, 10, 11, 23] [0] ⟨[(0, .c (.h 0)), (2, .c (.val (.int .i64 m_3))), (4, .c (.clo 47 [])), (10, .c (.val (.int .i64 i_6))), (11, .c (.val (.int .i64 j_7))), (23, .c (.val (.bool (decide (i_6 > j_7)))))], [(0, .row (.pair (.int .i64) (.pair (.int .i64) (.int .i64))) data_24)], 1⟩ [] (by kernel_rfl) rfl rfl ap0 ?_
      refine VL_cond ((decide (i_6 > j_7))) (by kernel_rfl) ?_ ?_
      · intro b_30; have H_56 := of_t H_54 b_30
        refine V_run hN hn 1 1 [0, 2, 4, 10, 11, 23] [0] ⟨[(0, .c (.h 0)), (2, .c (.val (.int .i64 m_3))), (4, .c (.clo 47 [])), (10, .c (.val (.int .i64 i_6))), (11, .c (.val (.int .i64 j_7))), (23, .c (.val (.bool (decide (i_6 > j_7)))))], [(0, .row (.pair (.int .i64) (.pair (.int .i64) (.int .i64))) data_24)], 1⟩ [] (by kernel_rfl) rfl rfl ap0 ?_
        obtain ⟨r_32, h_33, H_58⟩ := of_bind H_56
        refine V_reg hN hn [(7, ⟨61, 1, [.c (.h 0), .c (.val (.int .i64 (IntKind.wrap .i64 (m_3 - i_6)))), .c (.val (.int .i64 m_3)), .c (.val (.int .i64 j_7)), .c (.clo 47 [])], [(0, .row (.pair (.int .i64) (.pair (.int .i64) (.int .i64))) data_24)], .tup [], [(0, .row (.pair (.int .i64) (.pair (.int .i64) (.int .i64))) r_32)], [(0, 0)], 1⟩)] [] (calls_cons (slices_swapRangeCmpFunc_rgggcspansrowsorted1_spec K data_24 (IntKind.wrap .i64 (m_3 - i_6)) m_3 j_7 r_32 h_33) (by kernel_rfl) calls_nil) 1 [0, 2, 4, 10, 11] [0] ⟨[(0, .c (.h 0)), (2, .c (.val (.int .i64 m_3))), (4, .c (.clo 47 [])), (10, .c (.val (.int .i64 i_6))), (11, .c (.val (.int .i64 j_7)))], [(0, .row (.pair (.int .i64) (.pair (.int .i64) (.int .i64))) r_32)], 1⟩ [] (by kernel_rfl) rfl rfl ap0 (by kernel_rfl) (by kernel_rfl) ?_
        refine V_run hN hn 1 1 [0, 2, 4, 10, 11] [0] ⟨[(0, .c (.h 0)), (2, .c (.val (.int .i64 m_3))), (4, .c (.clo 47 [])), (10, .c (.val (.int .i64 (IntKind.wrap .i64 (i_6 - j_7))))), (11, .c (.val (.int .i64 j_7)))], [(0, .row (.pair (.int .i64) (.pair (.int .i64) (.int .i64))) r_32)], 1⟩ [] (by kernel_rfl) rfl rfl ap0 ?_
        refine VL_nil (QB_end ?_)
        refine VL_nil ?_
        exact V_roundEnd (r_32, (IntKind.wrap .i64 (i_6 - j_7)), j_7) H_58 [] hn (by kernel_rfl) (by kernel_rfl) rfl rfl rfl
      · intro b_30; have H_57 := of_f H_54 b_30
        refine V_run hN hn 1 1 [0, 2, 4, 10, 11, 23] [0] ⟨[(0, .c (.h 0)), (2, .c (.val (.int .i64 m_3))), (4, .c (.clo 47 [])), (10, .c (.val (.int .i64 i_6))), (11, .c (.val (.int .i64 j_7))), (23, .c (.val (.bool (decide (i_6 > j_7)))))], [(0, .row (.pair (.int .i64) (.pair (.int .i64) (.int .i64))) data_24)], 1⟩ [] (by kernel_rfl) rfl rfl ap0 ?_
        obtain ⟨r_37, h_38, H_59⟩ := of_bind H_57
        refine V_reg hN hn [(11, ⟨61, 1, [.c (.h 0), .c (.val (.int .i64 (IntKind.wrap .i64 (m_3 - i_6)))), .c (.val (.int .i64 (IntKind.wrap .i64 ((IntKind.wrap .i64 (m_3 + j_7)) - i_6)))), .c (.val (.int .i64 i_6)), .c (.clo 47 [])], [(0, .row (.pair (.int .i64) (.pair (.int .i64) (.int .i64))) data_24)], .tup [], [(0, .row (.pair (.int .i64) (.pair (.int .i64) (.int .i64))) r_37)], [(0, 0)], 1⟩)] [] (calls_cons (slices_swapRangeCmpFunc_rgggcspansrowsorted1_spec K data_24 (IntKind.wrap .i64 (m_3 - i_6)) (IntKind.wrap .i64 ((IntKind.wrap .i64 (m_3 + j_7)) - i_6)) i_6 r_37 h_38) (by kernel_rfl) calls_nil) 1 [0, 2, 4, 10, 11] [0] ⟨[(0, .c (.h 0)), (2, .c (.val (.int .i64 m_3))), (4, .c (.clo 47 [])), (10, .c (.val (.int .i64 i_6))), (11, .c (.val (.int .i64 j_7)))], [(0, .row (.pair (.int .i64) (.pair (.int .i64) (.int .i64))) r_37)], 1⟩ [] (by kernel_rfl) rfl rfl ap0 (by kernel_rfl) (by kernel_rfl) ?_
        refine V_run hN hn 1 1 [0, 2, 4, 10, 11] [0] ⟨[(0, .c (.h 0)), (2, .c (.val (.int .i64 m_3))), (4, .c (.clo 47 [])), (10, .c (.val (.int .i64 i_6))), (11, .c (.val (.int .i64 (IntKind.wrap .i64 (j_7 - i_6)))))], [(0, .row (.pair (.int .i64) (.pair (.int .i64) (.int .i64))) r_37)], 1⟩ [] (by kernel_rfl) rfl rfl ap0 ?_
        refine VL_nil (QB_end ?_)
        refine VL_nil ?_
        exact V_roundEnd (r_37, i_6, (IntKind.wrap .i64 (j_7 - i_6))) H_59 [] hn (by kernel_rfl) (by kernel_rfl) rfl rfl rfl
    · intro b_27; have H_55 := of_f H_53 b_27
      refine VL_exit ?_
      refine QL_exit ?_
      refine QB_here ?_
      have H_60 := Option.some.inj (show some (data_24, i_6) = some q_48 from H_55); subst H_60
      refine VL_nil ?_
      exact QP_end (data_24, i_6) rfl [] hn (by kernel_rfl) (by kernel_rfl) rfl rfl rfl
  · intro y_51 hy; subst hy
    obtain ⟨data_41, i_42⟩ := y_51
    obtain ⟨r_43, h_44, H_61⟩ := of_bind H_50
    refine V_reg hN hn [(7, ⟨61, 1, [.c (.h 0), .c (.val (.int .i64 (IntKind.wrap .i64 (m_3 - i_42)))), .c (.val (.int .i64 m_3)), .c (.val (.int .i64 i_42)), .c (.clo 47 [])], [(0, .row (.pair (.int .i64) (.pair (.int .i64) (.int .i64))) data_41)], .tup [], [(0, .row (.pair (.int .i64) (.pair (.int .i64) (.int .i64))) r_43)], [(0, 0)], 1⟩)] [] (calls_cons (slices_swapRangeCmpFunc_rgggcspansrowsorted1_spec K data_41 (IntKind.wrap .i64 (m_3 - i_42)) m_3 i_42 r_43 h_44) (by kernel_rfl) calls_nil) 1 [] [0] ⟨[], [(0, .row (.pair (.int .i64) (.pair (.int .i64) (.int .i64))) r_43)], 1⟩ [] (by kernel_rfl) rfl rfl ap0 (by kernel_rfl) (by kernel_rfl) ?_
    have H_62 := Option.some.inj (show some r_43 = some r from H_61); subst H_62
    refine VL_nil ?_
    exact P_to [] [(0, .row (.pair (.int .i64) (.pair (.int .i64) (.int .i64))) r_43)] [] hn (by kernel_rfl) (by kernel_rfl) rfl rfl rfl (QF_endS (by kernel_rfl) (by kernel_rfl) rfl)

theorem slices_symMergeCmpFunc_rgggcspansrowsorted1_recspec (K : Nat) : ∀ (k_rec : Nat) (data_1 : (List (Int × (Int × Int)))) (a_2 : Int) (m_3 : Int) (b_4 : Int) (r : (List (Int × (Int × Int)))), slices_symMergeCmpFunc_rgggcspansrowsorted1.f K k_rec data_1 a_2 m_3 b_4 = some r → Spec Try.prog 56 1 [.c (.h 0), .c (.val (.int .i64 a_2)), .c (.val (.int .i64 m_3)), .c (.val (.int .i64 b_4)), .c (.clo 47 [])] [(0, .row (.pair (.int .i64) (.pair (.int .i64) (.int .i64))) data_1)] (.tup []) [(0, .row (.pair (.int .i64) (.pair (.int .i64) (.int .i64))) r)] := by
  intro k_rec
  induction k_rec with
  | zero => intro data_1 a_2 m_3 b_4 r H; exact (no_none H).elim
  | succ k_rec ih =>
  intro data_1 a_2 m_3 b_4 r H
  refine Spec_mk (fn := Try.f56) (c := (Try.f56.body).get!) Try.func56 (by kernel_rfl) rfl ?_
  intro C hN hn
  replace hN : C.N = 220 := hN
  rw [slices_symMergeCmpFunc_rgggcspansrowsorted1.f] at H
  refine V_run hN hn 3 1 [0, 1, 2, 3, 4, 28] [0] ⟨[(0, .c (.h 0)), (1, .c (.val (.int .i64 a_2))), (2, .c (.val (.int .i64 m_3))), (3, .c (.val (.int .i64 b_4))), (4, .c (.clo 47 [])), (28, .c (.val (.bool ((IntKind.wrap .i64 (m_3 - a_2)) == (1 : Int)))))], [(0, .row (.pair (.int .i64) (.pair (.int .i64) (.int .i64))) data_1)], 1⟩ [] (by kernel_rfl) rfl rfl ap0 ?_
  refine VL_cond (((IntKind.wrap .i64 (m_3 - a_2)) == (1 : Int))) (by kernel_rfl) ?_ ?_
  · intro b_6; have H_132 := of_t H b_6
    refine V_run hN hn 5 1 [0, 1, 4, 10, 11] [0] ⟨[(0, .c (.h 0)), (1, .c (.val (.int .i64 a_2))), (4, .c (.clo 47 [])), (10, .c (.val (.int .i64 m_3))), (11, .c (.val (.int .i64 b_4)))], [(0, .row (.pair (.int .i64) (.pair (.int .i64) (.int .i64))) data_1)], 1⟩ [] (by kernel_rfl) rfl rfl ap0 ?_
    obtain ⟨q_134, H_135, H_136⟩ := of_bind H_132
    refine V_cut (Y := Int) (R := Int) q_134 (fun y => y) (fun y => [(0, .c (.h 0)), (1, .c (.val (.int .i64 a_2))), (10, .c (.val (.int .i64 y)))]) (fun y => [(0, .row (.pair (.int .i64) (.pair (.int .i64) (.int .i64))) data_1)]) ?_ ?_
    · skip
      refine VL_block ?_
      refine V_to [(0, .c (.h 0)), (1, .c (.val (.int .i64 a_2))), (4, .c (.clo 47 [])), (10, .c (.val (.int .i64 m_3))), (11, .c (.val (.int .i64 b_4)))] [(0, .row (.pair (.int .i64) (.pair (.int .i64) (.int .i64))) data_1)] [] hn (by kernel_rfl) (by kernel_rfl) rfl rfl rfl ?_
      refine VL_loop (X := (Int × Int)) (fun x => [(0, .c (.h 0)), (1, .c (.val (.int .i64 a_2))), (4, .c (.clo 47 [])), (10, .c (.val (.int .i64 x.1))), (11, .c (.val (.int .i64 x.2)))]) (fun x => [(0, .row (.pair (.int .i64) (.pair (.int .i64) (.int .i64))) data_1)]) (fun k x => slices_symMergeCmpFunc_rgggcspansrowsorted1.l0 K data_1 a_2 k x.1 x.2 = some q_134) K (m_3, b_4) H_135 (fun _ h => no_none h) ?_
      intro k_10 x_10 H_138
      obtain ⟨i_8, j_9⟩ := x_10
      have H_139 : slices_symMergeCmpFunc_rgggcspansrowsorted1.l0 K data_1 a_2 (k_10 + 1) i_8 j_9 = some q_134 := H_138
      rw [slices_symMergeCmpFunc_rgggcspansrowsorted1.l0] at H_139
      refine V_run hN hn 3 1 [0, 1, 4, 10, 11, 33] [0] ⟨[(0, .c (.h 0)), (1, .c (.val (.int .i64 a_2))), (4, .c (.clo 47 [])), (10, .c (.val (.int .i64 i_8))), (11, .c (.val (.int .i64 j_9))), (33, .c (.val (.bool (decide (i_8 < j_9)))))], [(0, .row (.pair (.int .i64) (.pair (.int .i64) (.int .i64))) data_1)], 1⟩ [] (by kernel_rfl) rfl rfl ap0 ?_
      refine VL_cond ((decide (i_8 < j_9))) (by kernel_rfl) ?_ ?_
      · intro b_12; have H_140 := of_t H_139 b_12
        refine V_run hN hn 1 1 [0, 1, 4, 10, 11, 33] [0] ⟨[(0, .c (.h 0)), (1, .c (.val (.int .i64 a_2))), (4, .c (.clo 47 [])), (10, .c (.val (.int .i64 i_8))), (11, .c (.val (.int .i64 j_9))), (33, .c (.val (.bool (decide (i_8 < j_9)))))], [(0, .row (.pair (.int .i64) (.pair (.int .i64) (.int .i64))) data_1)], 1⟩ [] (by kernel_rfl) rfl rfl ap0 ?_
        refine VL_block ?_
        refine V_run hN hn 3 1 [0, 1, 4, 10, 11, 12] [0] ⟨[(0, .c (.h 0)), (1, .c (.val (.int .i64 a_2))), (4, .c (.clo 47 [])), (10, .c (.val (.int .i64 i_8))), (11, .c (.val (.int .i64 j_9))), (12, .c (.val (.int .i64 (IntKind.wrap .i64 (Int.fdiv (IntKind.wrap .u64 (IntKind.wrap .i64 (i_8 + j_9))) (2 : Int))))))], [(0, .row (.pair (.int .i64) (.pair (.int .i64) (.int .i64))) data_1)], 1⟩ [(0 : Int) ≤ (1 : Int)] (by kernel_rfl) rfl rfl (ap1 (by decide)) ?_
        obtain ⟨r_15, h_16, H_142⟩ := of_bind H_140
        obtain ⟨c_17, H_143⟩ := of_if H_142
        refine V_draw hN hn (by kernel_rfl) [(9, ⟨47, 0, [.agg [.val (.int .i64 (List.getD data_1 (Int.toNat (IntKind.wrap .i64 (Int.fdiv (IntKind.wrap .u64 (IntKind.wrap .i64 (i_8 + j_9))) (2 : Int)))) ((0 : Int), ((0 : Int), (0 : Int)))).1), .val (.int .i64 (List.getD data_1 (Int.toNat (IntKind.wrap .i64 (Int.fdiv (IntKind.wrap .u64 (IntKind.wrap .i64 (i_8 + j_9))) (2 : Int)))) ((0 : Int), ((0 : Int), (0 : Int)))).2.1), .val (.int .i64 (List.getD data_1 (Int.toNat (IntKind.wrap .i64 (Int.fdiv (IntKind.wrap .u64 (IntKind.wrap .i64 (i_8 + j_9))) (2 : Int)))) ((0 : Int), ((0 : Int), (0 : Int)))).2.2)], .agg [.val (.int .i64 (List.getD data_1 (Int.toNat a_2) ((0 : Int), ((0 : Int), (0 : Int)))).1), .val (.int .i64 (List.getD data_1 (Int.toNat a_2) ((0 : Int), ((0 : Int), (0 : Int)))).2.1), .val (.int .i64 (List.getD data_1 (Int.toNat a_2) ((0 : Int), ((0 : Int), (0 : Int)))).2.2)]], [], .c (.val (.int .i64 r_15)), [], [], 1⟩)] [] (calls_cons (spans_row_sorted_1_spec K (List.getD data_1 (Int.toNat (IntKind.wrap .i64 (Int.fdiv (IntKind.wrap .u64 (IntKind.wrap .i64 (i_8 + j_9))) (2 : Int)))) ((0 : Int), ((0 : Int), (0 : Int)))).1 (List.getD data_1 (Int.toNat (IntKind.wrap .i64 (Int.fdiv (IntKind.wrap .u64 (IntKind.wrap .i64 (i_8 + j_9))) (2 : Int)))) ((0 : Int), ((0 : Int), (0 : Int)))).2.1 (List.getD data_1 (Int.toNat (IntKind.wrap .i64 (Int.fdiv (IntKind.wrap .u64 (IntKind.wrap .i64 (i_8 + j_9))) (2 : Int)))) ((0 : Int), ((0 : Int), (0 : Int)))).2.2 (List.getD data_1 (Int.toNat a_2) ((0 : Int), ((0 : Int), (0 : Int)))).1 (List.getD data_1 (Int.toNat a_2) ((0 : Int), ((0 : Int), (0 : Int)))).2.1 (List.getD data_1 (Int.toNat a_2) ((0 : Int), ((0 : Int), (0 : Int)))).2.2 r_15 h_16) (by kernel_rfl) calls_nil) 1 [0, 1, 4, 10, 11, 12, 50] [0] ⟨[(0, .c (.h 0)), (1, .c (.val (.int .i64 a_2))), (4, .c (.clo 47 [])), (10, .c (.val (.int .i64 i_8))), (11, .c (.val (.int .i64 j_9))), (12, .c (.val (.int .i64 (IntKind.wrap .i64 (Int.fdiv (IntKind.wrap .u64 (IntKind.wrap .i64 (i_8 + j_9))) (2 : Int)))))), (50, .c (.val (.bool (decide (r_15 < (0 : Int))))))], [(0, .row (.pair (.int .i64) (.pair (.int .i64) (.int .i64))) data_1)], 1⟩ [0 ≤ (IntKind.wrap .i64 (Int.fdiv (IntKind.wrap .u64 (IntKind.wrap .i64 (i_8 + j_9))) (2 : Int))), (IntKind.wrap .i64 (Int.fdiv (IntKind.wrap .u64 (IntKind.wrap .i64 (i_8 + j_9))) (2 : Int))) < (((List.length data_1) : Nat) : Int), 0 ≤ a_2, a_2 < (((List.length data_1) : Nat) : Int)] (by kernel_rfl) rfl rfl (ap2 c_17.1 (ap2 c_17.2.1 (ap2 c_17.2.2.1 (ap1 c_17.2.2.2)))) (by kernel_rfl) (by kernel_rfl) ?_
        refine VL_cond ((decide (r_15 < (0 : Int)))) (by kernel_rfl) ?_ ?_
        · intro b_18; have H_144 := of_t H_143 b_18
          refine V_run hN hn 1 1 [0, 1, 4, 10, 11] [0] ⟨[(0, .c (.h 0)), (1, .c (.val (.int .i64 a_2))), (4, .c (.clo 47 [])), (10, .c (.val (.int .i64 (IntKind.wrap .i64 ((IntKind.wrap .i64 (Int.fdiv (IntKind.wrap .u64 (IntKind.wrap .i64 (i_8 + j_9))) (2 : Int))) + (1 : Int)))))), (11, .c (.val (.int .i64 j_9)))], [(0, .row (.pair (.int .i64) (.pair (.int .i64) (.int .i64))) data_1)], 1⟩ [] (by kernel_rfl) rfl rfl ap0 ?_
          refine VL_nil (QB_end ?_)
          refine VL_nil ?_
          exact V_roundEnd ((IntKind.wrap .i64 ((IntKind.wrap .i64 (Int.fdiv (IntKind.wrap .u64 (IntKind.wrap .i64 (i_8 + j_9))) (2 : Int))) + (1 : Int))), j_9) H_144 [] hn (by kernel_rfl) (by kernel_rfl) rfl rfl rfl
        · intro b_18; have H_145 := of_f H_143 b_18
          refine V_run hN hn 1 1 [0, 1, 4, 10, 11] [0] ⟨[(0, .c (.h 0)), (1, .c (.val (.int .i64 a_2))), (4, .c (.clo 47 [])), (10, .c (.val (.int .i64 i_8))), (11, .c (.val (.int .i64 (IntKind.wrap .i64 (Int.fdiv (IntKind.wrap .u64 (IntKind.wrap .i64 (i_8 + j_9))) (2 : Int))))))], [(0, .row (.pair (.int .i64) (.pair (.int .i64) (.int .i64))) data_1)], 1⟩ [] (by kernel_rfl) rfl rfl ap0 ?_
          refine VL_nil (QB_end ?_)
          refine VL_nil ?_
          exact V_roundEnd (i_8, (IntKind.wrap .i64 (Int.fdiv (IntKind.wrap .u64 (IntKind.wrap .i64 (i_8 + j_9))) (2 : Int)))) H_145 [] hn (by kernel_rfl) (by kernel_rfl) rfl rfl rfl
      · intro b_12; have H_141 := of_f H_139 b_12
        refine VL_exit ?_
        refine QL_exit ?_
        refine QB_here ?_
        have H_146 := Option.some.inj (show some i_8 = some q_134 from H_141); subst H_146
        refine VL_nil ?_
        exact QP_end i_8 rfl [] hn (by kernel_rfl) (by kernel_rfl) rfl rfl rfl
    · intro y_137 hy; subst hy
      skip
      skip
      refine V_run hN hn 3 1 [0, 10, 13] [0] ⟨[(0, .c (.h 0)), (10, .c (.val (.int .i64 y_137))), (13, .c (.val (.int .i64 a_2)))], [(0, .row (.pair (.int .i64) (.pair (.int .i64) (.int .i64))) data_1)], 1⟩ [] (by kernel_rfl) rfl rfl ap0 ?_
      refine VL_block ?_
      refine V_to [(0, .c (.h 0)), (10, .c (.val (.int .i64 y_137))), (13, .c (.val (.int .i64 a_2)))] [(0, .row (.pair (.int .i64) (.pair (.int .i64) (.int .i64))) data_1)] [] hn (by kernel_rfl) (by kernel_rfl) rfl rfl rfl ?_
      refine VL_loop (X := ((List (Int × (Int × Int))) × Int)) (fun x => [(0, .c (.h 0)), (10, .c (.val (.int .i64 y_137))), (13, .c (.val (.int .i64 x.2)))]) (fun x => [(0, .row (.pair (.int .i64) (.pair (.int .i64) (.int .i64))) x.1)]) (fun k x => slices_symMergeCmpFunc_rgggcspansrowsorted1.l1 K y_137 k x.1 x.2 = some r) K (data_1, a_2) H_136 (fun _ h => no_none h) ?_
      intro k_31 x_31 H_147
      obtain ⟨data_30, k_23⟩ := x_31
      have H_148 : slices_symMergeCmpFunc_rgggcspansrowsorted1.l1 K y_137 (k_31 + 1) data_30 k_23 = some r := H_147
      rw [slices_symMergeCmpFunc_rgggcspansrowsorted1.l1] at H_148
      refine V_run hN hn 3 1 [0, 10, 13, 58] [0] ⟨[(0, .c (.h 0)), (10, .c (.val (.int .i64 y_137))), (13, .c (.val (.int .i64 k_23))), (58, .c (.val (.bool (decide (k_23 < (IntKind.wrap .i64 (y_137 - (1 : Int))))))))], [(0, .row (.pair (.int .i64) (.pair (.int .i64) (.int .i64))) data_30)], 1⟩ [] (by kernel_rfl) rfl rfl ap0 ?_
      refine VL_cond ((decide (k_23 < (IntKind.wrap .i64 (y_137 - (1 : Int)))))) (by kernel_rfl) ?_ ?_
      · intro b_33; have H_149 := of_t H_148 b_33
        refine V_run hN hn 2 1 [0, 10, 13, 58] [0] ⟨[(0, .c (.h 0)), (10, .c (.val (.int .i64 y_137))), (13, .c (.val (.int .i64 k_23))), (58, .c (.val (.bool (decide (k_23 < (IntKind.wrap .i64 (y_137 - (1 : Int))))))))], [(0, .row (.pair (.int .i64) (.pair (.int .i64) (.int .i64))) data_30)], 1⟩ [] (by kernel_rfl) rfl rfl ap0 ?_
        refine VL_block ?_
        obtain ⟨c_35, H_151⟩ := of_if H_149
        refine V_draw hN hn (by kernel_rfl) [] [] calls_nil 1 [0, 10, 13] [0] ⟨[(0, .c (.h 0)), (10, .c (.val (.int .i64 y_137))), (13, .c (.val (.int .i64 k_23)))], [(0, .row (.pair (.int .i64) (.pair (.int .i64) (.int .i64))) (List.set (List.set data_30 (Int.toNat k_23) ((List.getD data_30 (Int.toNat (IntKind.wrap .i64 (k_23 + (1 : Int)))) ((0 : Int), ((0 : Int), (0 : Int)))).1, ((List.getD data_30 (Int.toNat (IntKind.wrap .i64 (k_23 + (1 : Int)))) ((0 : Int), ((0 : Int), (0 : Int)))).2.1, (List.getD data_30 (Int.toNat (IntKind.wrap .i64 (k_23 + (1 : Int)))) ((0 : Int), ((0 : Int), (0 : Int)))).2.2))) (Int.toNat (IntKind.wrap .i64 (k_23 + (1 : Int)))) ((List.getD data_30 (Int.toNat k_23) ((0 : Int), ((0 : Int), (0 : Int)))).1, ((List.getD data_30 (Int.toNat k_23) ((0 : Int), ((0 : Int), (0 : Int)))).2.1, (List.getD data_30 (Int.toNat k_23) ((0 : Int), ((0 : Int), (0 : Int)))).2.2))))], 1⟩ [0 ≤ (IntKind.wrap .i64 (k_23 + (1 : Int))), (IntKind.wrap .i64 (k_23 + (1 : Int))) < (((List.length data_30) : Nat) : Int), 0 ≤ k_23, k_23 < (((List.length data_30) : Nat) : Int), 0 ≤ k_23, k_23 < (((List.length data_30) : Nat) : Int), 0 ≤ (IntKind.wrap .i64 (k_23 + (1 : Int))), (IntKind.wrap .i64 (k_23 + (1 : Int))) < (((List.length (List.set data_30 (Int.toNat k_23) ((List.getD data_30 (Int.toNat (IntKind.wrap .i64 (k_23 + (1 : Int)))) ((0 : Int), ((0 : Int), (0 : Int)))).1, ((List.getD data_30 (Int.toNat (IntKind.wrap .i64 (k_23 + (1 : Int)))) ((0 : Int), ((0 : Int), (0 : Int)))).2.1, (List.getD data_30 (Int.toNat (IntKind.wrap .i64 (k_23 + (1 : Int)))) ((0 : Int), ((0 : Int), (0 : Int)))).2.2)))) : Nat) : Int)] (by kernel_rfl) rfl rfl (ap2 c_35.1 (ap2 c_35.2.1 (ap2 c_35.2.2.1 (ap2 c_35.2.2.2.1 (ap2 c_35.2.2.1 (ap2 c_35.2.2.2.1 (ap2 c_35.1 (ap1 c_35.2.2.2.2)))))))) (by kernel_rfl) (by kernel_rfl) ?_
        refine VL_nil (QB_end ?_)
        refine V_run hN hn 1 1 [0, 10, 13] [0] ⟨[(0, .c (.h 0)), (10, .c (.val (.int .i64 y_137))), (13, .c (.val (.int .i64 (IntKind.wrap .i64 (k_23 + (1 : Int))))))], [(0, .row (.pair (.int .i64) (.pair (.int .i64) (.int .i64))) (List.set (List.set data_30 (Int.toNat k_23) ((List.getD data_30 (Int.toNat (IntKind.wrap .i64 (k_23 + (1 : Int)))) ((0 : Int), ((0 : Int), (0 : Int)))).1, ((List.getD data_30 (Int.toNat (IntKind.wrap .i64 (k_23 + (1 : Int)))) ((0 : Int), ((0 : Int), (0 : Int)))).2.1, (List.getD data_30 (Int.toNat (IntKind.wrap .i64 (k_23 + (1 : Int)))) ((0 : Int), ((0 : Int), (0 : Int)))).2.2))) (Int.toNat (IntKind.wrap .i64 (k_23 + (1 : Int)))) ((List.getD data_30 (Int.toNat k_23) ((0 : Int), ((0 : Int), (0 : Int)))).1, ((List.getD data_30 (Int.toNat k_23) ((0 : Int), ((0 : Int), (0 : Int)))).2.1, (List.getD data_30 (Int.toNat k_23) ((0 : Int), ((0 : Int), (0 : Int)))).2.2))))], 1⟩ [] (by kernel_rfl) rfl rfl ap0 ?_
        refine VL_nil ?_
        exact V_roundEnd ((List.set (List.set data_30 (Int.toNat k_23) ((List.getD data_30 (Int.toNat (IntKind.wrap .i64 (k_23 + (1 : Int)))) ((0 : Int), ((0 : Int), (0 : Int)))).1, ((List.getD data_30 (Int.toNat (IntKind.wrap .i64 (k_23 + (1 : Int)))) ((0 : Int), ((0 : Int), (0 : Int)))).2.1, (List.getD data_30 (Int.toNat (IntKind.wrap .i64 (k_23 + (1 : Int)))) ((0 : Int), ((0 : Int), (0 : Int)))).2.2))) (Int.toNat (IntKind.wrap .i64 (k_23 + (1 : Int)))) ((List.getD data_30 (Int.toNat k_23) ((0 : Int), ((0 : Int), (0 : Int)))).1, ((List.getD data_30 (Int.toNat k_23) ((0 : Int), ((0 : Int), (0 : Int)))).2.1, (List.getD data_30 (Int.toNat k_23) ((0 : Int), ((0 : Int), (0 : Int)))).2.2))), (IntKind.wrap .i64 (k_23 + (1 : Int)))) H_151 [] hn (by kernel_rfl) (by kernel_rfl) rfl rfl rfl
      · intro b_33; have H_150 := of_f H_148 b_33
        refine VL_exit ?_
        refine QL_exit ?_
        refine QB_here ?_
        have H_152 := Option.some.inj (show some data_30 = some r from H_150); subst H_152
        refine VL_ret ?_
        exact P_to [] [(0, .row (.pair (.int .i64) (.pair (.int .i64) (.int .i64))) data_30)] [] hn (by kernel_rfl) (by kernel_rfl) rfl rfl rfl (QF_retS (by kernel_rfl) (by kernel_rfl) rfl)
  · intro b_6; have H_133 := of_f H b_6
    refine V_run hN hn 4 1 [0, 1, 2, 3, 4, 80] [0] ⟨[(0, .c (.h 0)), (1, .c (.val (.int .i64 a_2))), (2, .c (.val (.int .i64 m_3))), (3, .c (.val (.int .i64 b_4))), (4, .c (.clo 47 [])), (80, .c (.val (.bool ((IntKind.wrap .i64 (b_4 - m_3)) == (1 : Int)))))], [(0, .row (.pair (.int .i64) (.pair (.int .i64) (.int .i64))) data_1)], 1⟩ [] (by kernel_rfl) rfl rfl ap0 ?_
    refine VL_cond (((IntKind.wrap .i64 (b_4 - m_3)) == (1 : Int))) (by kernel_rfl) ?_ ?_
    · intro b_38; have H_153 := of_t H_133 b_38
      refine V_run hN hn 5 1 [0, 2, 4, 14, 15] [0] ⟨[(0, .c (.h 0)), (2, .c (.val (.int .i64 m_3))), (4, .c (.clo 47 [])), (14, .c (.val (.int .i64 a_2))), (15, .c (.val (.int .i64 m_3)))], [(0, .row (.pair (.int .i64) (.pair (.int .i64) (.int .i64))) data_1)], 1⟩ [] (by kernel_rfl) rfl rfl ap0 ?_
      obtain ⟨q_155, H_156, H_157⟩ := of_bind H_153
      refine V_cut (Y := Int) (R := Int) q_155 (fun y => y) (fun y => [(0, .c (.h 0)), (2, .c (.val (.int .i64 m_3))), (14, .c (.val (.int .i64 y)))]) (fun y => [(0, .row (.pair (.int .i64) (.pair (.int .i64) (.int .i64))) data_1)]) ?_ ?_
      · skip
        refine VL_block ?_
        refine V_to [(0, .c (.h 0)), (2, .c (.val (.int .i64 m_3))), (4, .c (.clo 47 [])), (14, .c (.val (.int .i64 a_2))), (15, .c (.val (.int .i64 m_3)))] [(0, .row (.pair (.int .i64) (.pair (.int .i64) (.int .i64))) data_1)] [] hn (by kernel_rfl) (by kernel_rfl) rfl rfl rfl ?_
        refine VL_loop (X := (Int × Int)) (fun x => [(0, .c (.h 0)), (2, .c (.val (.int .i64 m_3))), (4, .c (.clo 47 [])), (14, .c (.val (.int .i64 x.1))), (15, .c (.val (.int .i64 x.2)))]) (fun x => [(0, .row (.pair (.int .i64) (.pair (.int .i64) (.int .i64))) data_1)]) (fun k x => slices_symMergeCmpFunc_rgggcspansrowsorted1.l2 K data_1 m_3 k x.1 x.2 = some q_155) K (a_2, m_3) H_156 (fun _ h => no_none h) ?_
        intro k_42 x_42 H_159
        obtain ⟨i_40, j_41⟩ := x_42
        have H_160 : slices_symMergeCmpFunc_rgggcspansrowsorted1.l2 K data_1 m_3 (k_42 + 1) i_40 j_41 = some q_155 := H_159
        rw [slices_symMergeCmpFunc_rgggcspansrowsorted1.l2] at H_160
        refine V_run hN hn 3 1 [0, 2, 4, 14, 15, 85] [0] ⟨[(0, .c (.h 0)), (2, .c (.val (.int .i64 m_3))), (4, .c (.clo 47 [])), (14, .c (.val (.int .i64 i_40))), (15, .c (.val (.int .i64 j_41))), (85, .c (.val (.bool (decide (i_40 < j_41)))))], [(0, .row (.pair (.int .i64) (.pair (.int .i64) (.int .i64))) data_1)], 1⟩ [] (by kernel_rfl) rfl rfl ap0 ?_
        refine VL_cond ((decide (i_40 < j_41))) (by kernel_rfl) ?_ ?_
        · intro b_44; have H_161 := of_t H_160 b_44
          refine V_run hN hn 1 1 [0, 2, 4, 14, 15, 85] [0] ⟨[(0, .c (.h 0)), (2, .c (.val (.int .i64 m_3))), (4, .c (.clo 47 [])), (14, .c (.val (.int .i64 i_40))), (15, .c (.val (.int .i64 j_41))), (85, .c (.val (.bool (decide (i_40 < j_41)))))], [(0, .row (.pair (.int .i64) (.pair (.int .i64) (.int .i64))) data_1)], 1⟩ [] (by kernel_rfl) rfl rfl ap0 ?_
          refine VL_block ?_
          refine V_run hN hn 3 1 [0, 2, 4, 14, 15, 16] [0] ⟨[(0, .c (.h 0)), (2, .c (.val (.int .i64 m_3))), (4, .c (.clo 47 [])), (14, .c (.val (.int .i64 i_40))), (15, .c (.val (.int .i64 j_41))), (16, .c (.val (.int .i64 (IntKind.wrap .i64 (Int.fdiv (IntKind.wrap .u64 (IntKind.wrap .i64 (i_40 + j_41))) (2 : Int))))))], [(0, .row (.pair (.int .i64) (.pair (.int .i64) (.int .i64))) data_1)], 1⟩ [(0 : Int) ≤ (1 : Int)] (by kernel_rfl) rfl rfl (ap1 (by decide)) ?_
          obtain ⟨r_47, h_48, H_163⟩ := of_bind H_161
          obtain ⟨c_49, H_164⟩ := of_if H_163
          refine V_draw hN hn (by kernel_rfl) [(9, ⟨47, 0, [.agg [.val (.int .i64 (List.getD data_1 (Int.toNat m_3) ((0 : Int), ((0 : Int), (0 : Int)))).1), .val (.int .i64 (List.getD data_1 (Int.toNat m_3) ((0 : Int), ((0 : Int), (0 : Int)))).2.1), .val (.int .i64 (List.getD data_1 (Int.toNat m_3) ((0 : Int), ((0 : Int), (0 : Int)))).2.2)], .agg [.val (.int .i64 (List.getD data_1 (Int.toNat (IntKind.wrap .i64 (Int.fdiv (IntKind.wrap .u64 (IntKind.wrap .i64 (i_40 + j_41))) (2 : Int)))) ((0 : Int), ((0 : Int), (0 : Int)))).1), .val (.int .i64 (List.getD data_1 (Int.toNat (IntKind.wrap .i64 (Int.fdiv (IntKind.wrap .u64 (IntKind.wrap .i64 (i_40 + j_41))) (2 : Int)))) ((0 : Int), ((0 : Int), (0 : Int)))).2.1), .val (.int .i64 (List.getD data_1 (Int.toNat (IntKind.wrap .i64 (Int.fdiv (IntKind.wrap .u64 (IntKind.wrap .i64 (i_40 + j_41))) (2 : Int)))) ((0 : Int), ((0 : Int), (0 : Int)))).2.2)]], [], .c (.val (.int .i64 r_47)), [], [], 1⟩)] [] (calls_cons (spans_row_sorted_1_spec K (List.getD data_1 (Int.toNat m_3) ((0 : Int), ((0 : Int), (0 : Int)))).1 (List.getD data_1 (Int.toNat m_3) ((0 : Int), ((0 : Int), (0 : Int)))).2.1 (List.getD data_1 (Int.toNat m_3) ((0 : Int), ((0 : Int), (0 : Int)))).2.2 (List.getD data_1 (Int.toNat (IntKind.wrap .i64 (Int.fdiv (IntKind.wrap .u64 (IntKind.wrap .i64 (i_40 + j_41))) (2 : Int)))) ((0 : Int), ((0 : Int), (0 : Int)))).1 (List.getD data_1 (Int.toNat (IntKind.wrap .i64 (Int.fdiv (IntKind.wrap .u64 (IntKind.wrap .i64 (i_40 + j_41))) (2 : Int)))) ((0 : Int), ((0 : Int), (0 : Int)))).2.1 (List.getD data_1 (Int.toNat (IntKind.wrap .i64 (Int.fdiv (IntKind.wrap .u64 (IntKind.wrap .i64 (i_40 + j_41))) (2 : Int)))) ((0 : Int), ((0 : Int), (0 : Int)))).2.2 r_47 h_48) (by kernel_rfl) calls_nil) 1 [0, 2, 4, 14, 15, 16, 103] [0] ⟨[(0, .c (.h 0)), (2, .c (.val (.int .i64 m_3))), (4, .c (.clo 47 [])), (14, .c (.val (.int .i64 i_40))), (15, .c (.val (.int .i64 j_41))), (16, .c (.val (.int .i64 (IntKind.wrap .i64 (Int.fdiv (IntKind.wrap .u64 (IntKind.wrap .i64 (i_40 + j_41))) (2 : Int)))))), (103, .c (.val (.bool (!(decide (r_47 < (0 : Int)))))))], [(0, .row (.pair (.int .i64) (.pair (.int .i64) (.int .i64))) data_1)], 1⟩ [0 ≤ m_3, m_3 < (((List.length data_1) : Nat) : Int), 0 ≤ (IntKind.wrap .i64 (Int.fdiv (IntKind.wrap .u64 (IntKind.wrap .i64 (i_40 + j_41))) (2 : Int))), (IntKind.wrap .i64 (Int.fdiv (IntKind.wrap .u64 (IntKind.wrap .i64 (i_40 + j_41))) (2 : Int))) < (((List.length data_1) : Nat) : Int)] (by kernel_rfl) rfl rfl (ap2 c_49.1 (ap2 c_49.2.1 (ap2 c_49.2.2.1 (ap1 c_49.2.2.2)))) (by kernel_rfl) (by kernel_rfl) ?_
          refine VL_cond ((!(decide (r_47 < (0 : Int))))) (by kernel_rfl) ?_ ?_
          · intro b_50; have H_165 := of_t H_164 b_50
            refine V_run hN hn 1 1 [0, 2, 4, 14, 15] [0] ⟨[(0, .c (.h 0)), (2, .c (.val (.int .i64 m_3))), (4, .c (.clo 47 [])), (14, .c (.val (.int .i64 (IntKind.wrap .i64 ((IntKind.wrap .i64 (Int.fdiv (IntKind.wrap .u64 (IntKind.wrap .i64 (i_40 + j_41))) (2 : Int))) + (1 : Int)))))), (15, .c (.val (.int .i64 j_41)))], [(0, .row (.pair (.int .i64) (.pair (.int .i64) (.int .i64))) data_1)], 1⟩ [] (by kernel_rfl) rfl rfl ap0 ?_
            refine VL_nil (QB_end ?_)
            refine VL_nil ?_
            exact V_roundEnd ((IntKind.wrap .i64 ((IntKind.wrap .i64 (Int.fdiv (IntKind.wrap .u64 (IntKind.wrap .i64 (i_40 + j_41))) (2 : Int))) + (1 : Int))), j_41) H_165 [] hn (by kernel_rfl) (by kernel_rfl) rfl rfl rfl
          · intro b_50; have H_166 := of_f H_164 b_50
            refine V_run hN hn 1 1 [0, 2, 4, 14, 15] [0] ⟨[(0, .c (.h 0)), (2, .c (.val (.int .i64 m_3))), (4, .c (.clo 47 [])), (14, .c (.val (.int .i64 i_40))), (15, .c (.val (.int .i64 (IntKind.wrap .i64 (Int.fdiv (IntKind.wrap .u64 (IntKind.wrap .i64 (i_40 + j_41))) (2 : Int))))))], [(0, .row (.pair (.int .i64) (.pair (.int .i64) (.int .i64))) data_1)], 1⟩ [] (by kernel_rfl) rfl rfl ap0 ?_
            refine VL_nil (QB_end ?_)
            refine VL_nil ?_
            exact V_roundEnd (i_40, (IntKind.wrap .i64 (Int.fdiv (IntKind.wrap .u64 (IntKind.wrap .i64 (i_40 + j_41))) (2 : Int)))) H_166 [] hn (by kernel_rfl) (by kernel_rfl) rfl rfl rfl
        · intro b_44; have H_162 := of_f H_160 b_44
          refine VL_exit ?_
          refine QL_exit ?_
          refine QB_here ?_
          have H_167 := Option.some.inj (show some i_40 = some q_155 from H_162); subst H_167
          refine VL_nil ?_
          exact QP_end i_40 rfl [] hn (by kernel_rfl) (by kernel_rfl) rfl rfl rfl
      · intro y_158 hy; subst hy
        skip
        skip
        refine V_run hN hn 3 1 [0, 14, 17] [0] ⟨[(0, .c (.h 0)), (14, .c (.val (.int .i64 y_158))), (17, .c (.val (.int .i64 m_3)))], [(0, .row (.pair (.int .i64) (.pair (.int .i64) (.int .i64))) data_1)], 1⟩ [] (by kernel_rfl) rfl rfl ap0 ?_
        refine VL_block ?_
        refine V_to [(0, .c (.h 0)), (14, .c (.val (.int .i64 y_158))), (17, .c (.val (.int .i64 m_3)))] [(0, .row (.pair (.int .i64) (.pair (.int .i64) (.int .i64))) data_1)] [] hn (by kernel_rfl) (by kernel_rfl) rfl rfl rfl ?_
        refine VL_loop (X := ((List (Int × (Int × Int))) × Int)) (fun x => [(0, .c (.h 0)), (14, .c (.val (.int .i64 y_158))), (17, .c (.val (.int .i64 x.2)))]) (fun x => [(0, .row (.pair (.int .i64) (.pair (.int .i64) (.int .i64))) x.1)]) (fun k x => slices_symMergeCmpFunc_rgggcspansrowsorted1.l3 K y_158 k x.1 x.2 = some r) K (data_1, m_3) H_157 (fun _ h => no_none h) ?_
        intro k_63 x_63 H_168
        obtain ⟨data_62, k_55⟩ := x_63
        have H_169 : slices_symMergeCmpFunc_rgggcspansrowsorted1.l3 K y_158 (k_63 + 1) data_62 k_55 = some r := H_168
        rw [slices_symMergeCmpFunc_rgggcspansrowsorted1.l3] at H_169
        refine V_run hN hn 3 1 [0, 14, 17, 110] [0] ⟨[(0, .c (.h 0)), (14, .c (.val (.int .i64 y_158))), (17, .c (.val (.int .i64 k_55))), (110, .c (.val (.bool (decide (k_55 > y_158)))))], [(0, .row (.pair (.int .i64) (.pair (.int .i64) (.int .i64))) data_62)], 1⟩ [] (by kernel_rfl) rfl rfl ap0 ?_
        refine VL_cond ((decide (k_55 > y_158))) (by kernel_rfl) ?_ ?_
        · intro b_65; have H_170 := of_t H_169 b_65
          refine V_run hN hn 2 1 [0, 14, 17, 110] [0] ⟨[(0, .c (.h 0)), (14, .c (.val (.int .i64 y_158))), (17, .c (.val (.int .i64 k_55))), (110, .c (.val (.bool (decide (k_55 > y_158)))))], [(0, .row (.pair (.int .i64) (.pair (.int .i64) (.int .i64))) data_62)], 1⟩ [] (by kernel_rfl) rfl rfl ap0 ?_
          refine VL_block ?_
          obtain ⟨c_67, H_172⟩ := of_if H_170
          refine V_draw hN hn (by kernel_rfl) [] [] calls_nil 1 [0, 14, 17] [0] ⟨[(0, .c (.h 0)), (14, .c (.val (.int .i64 y_158))), (17, .c (.val (.int .i64 k_55)))], [(0, .row (.pair (.int .i64) (.pair (.int .i64) (.int .i64))) (List.set (List.set data_62 (Int.toNat k_55) ((List.getD data_62 (Int.toNat (IntKind.wrap .i64 (k_55 - (1 : Int)))) ((0 : Int), ((0 : Int), (0 : Int)))).1, ((List.getD data_62 (Int.toNat (IntKind.wrap .i64 (k_55 - (1 : Int)))) ((0 : Int), ((0 : Int), (0 : Int)))).2.1, (List.getD data_62 (Int.toNat (IntKind.wrap .i64 (k_55 - (1 : Int)))) ((0 : Int), ((0 : Int), (0 : Int)))).2.2))) (Int.toNat (IntKind.wrap .i64 (k_55 - (1 : Int)))) ((List.getD data_62 (Int.toNat k_55) ((0 : Int), ((0 : Int), (0 : Int)))).1, ((List.getD data_62 (Int.toNat k_55) ((0 : Int), ((0 : Int), (0 : Int)))).2.1, (List.getD data_62 (Int.toNat k_55) ((0 : Int), ((0 : Int), (0 : Int)))).2.2))))], 1⟩ [0 ≤ (IntKind.wrap .i64 (k_55 - (1 : Int))), (IntKind.wrap .i64 (k_55 - (1 : Int))) < (((List.length data_62) : Nat) : Int), 0 ≤ k_55, k_55 < (((List.length data_62) : Nat) : Int), 0 ≤ k_55, k_55 < (((List.length data_62) : Nat) : Int), 0 ≤ (IntKind.wrap .i64 (k_55 - (1 : Int))), (IntKind.wrap .i64 (k_55 - (1 : Int))) < (((List.length (List.set data_62 (Int.toNat k_55) ((List.getD data_62 (Int.toNat (IntKind.wrap .i64 (k_55 - (1 : Int)))) ((0 : Int), ((0 : Int), (0 : Int)))).1, ((List.getD data_62 (Int.toNat (IntKind.wrap .i64 (k_55 - (1 : Int)))) ((0 : Int), ((0 : Int), (0 : Int)))).2.1, (List.getD data_62 (Int.toNat (IntKind.wrap .i64 (k_55 - (1 : Int)))) ((0 : Int), ((0 : Int), (0 : Int)))).2.2)))) : Nat) : Int)] (by kernel_rfl) rfl rfl (ap2 c_67.1 (ap2 c_67.2.1 (ap2 c_67.2.2.1 (ap2 c_67.2.2.2.1 (ap2 c_67.2.2.1 (ap2 c_67.2.2.2.1 (ap2 c_67.1 (ap1 c_67.2.2.2.2)))))))) (by kernel_rfl) (by kernel_rfl) ?_
          refine VL_nil (QB_end ?_)
          refine V_run hN hn 1 1 [0, 14, 17] [0] ⟨[(0, .c (.h 0)), (14, .c (.val (.int .i64 y_158))), (17, .c (.val (.int .i64 (IntKind.wrap .i64 (k_55 - (1 : Int))))))], [(0, .row (.pair (.int .i64) (.pair (.int .i64) (.int .i64))) (List.set (List.set data_62 (Int.toNat k_55) ((List.getD data_62 (Int.toNat (IntKind.wrap .i64 (k_55 - (1 : Int)))) ((0 : Int), ((0 : Int), (0 : Int)))).1, ((List.getD data_62 (Int.toNat (IntKind.wrap .i64 (k_55 - (1 : Int)))) ((0 : Int), ((0 : Int), (0 : Int)))).2.1, (List.getD data_62 (Int.toNat (IntKind.wrap .i64 (k_55 - (1 : Int)))) ((0 : Int), ((0 : Int), (0 : Int)))).2.2))) (Int.toNat (IntKind.wrap .i64 (k_55 - (1 : Int)))) ((List.getD data_62 (Int.toNat k_55) ((0 : Int), ((0 : Int), (0 : Int)))).1, ((List.getD data_62 (Int.toNat k_55) ((0 : Int), ((0 : Int), (0 : Int)))).2.1, (List.getD data_62 (Int.toNat k_55) ((0 : Int), ((0 : Int), (0 : Int)))).2.2))))], 1⟩ [] (by kernel_rfl) rfl rfl ap0 ?_
          refine VL_nil ?_
          exact V_roundEnd ((List.set (List.set data_62 (Int.toNat k_55) ((List.getD data_62 (Int.toNat (IntKind.wrap .i64 (k_55 - (1 : Int)))) ((0 : Int), ((0 : Int), (0 : Int)))).1, ((List.getD data_62 (Int.toNat (IntKind.wrap .i64 (k_55 - (1 : Int)))) ((0 : Int), ((0 : Int), (0 : Int)))).2.1, (List.getD data_62 (Int.toNat (IntKind.wrap .i64 (k_55 - (1 : Int)))) ((0 : Int), ((0 : Int), (0 : Int)))).2.2))) (Int.toNat (IntKind.wrap .i64 (k_55 - (1 : Int)))) ((List.getD data_62 (Int.toNat k_55) ((0 : Int), ((0 : Int), (0 : Int)))).1, ((List.getD data_62 (Int.toNat k_55) ((0 : Int), ((0 : Int), (0 : Int)))).2.1, (List.getD data_62 (Int.toNat k_55) ((0 : Int), ((0 : Int), (0 : Int)))).2.2))), (IntKind.wrap .i64 (k_55 - (1 : Int)))) H_172 [] hn (by kernel_rfl) (by kernel_rfl) rfl rfl rfl
        · intro b_65; have H_171 := of_f H_169 b_65
          refine VL_exit ?_
          refine QL_exit ?_
          refine QB_here ?_
          have H_173 := Option.some.inj (show some data_62 = some r from H_171); subst H_173
          refine VL_ret ?_
          exact P_to [] [(0, .row (.pair (.int .i64) (.pair (.int .i64) (.int .i64))) data_62)] [] hn (by kernel_rfl) (by kernel_rfl) rfl rfl rfl (QF_retS (by kernel_rfl) (by kernel_rfl) rfl)
    · intro b_38; have H_154 := of_f H_133 b_38
      refine V_run hN hn 10 1 [0, 1, 2, 3, 4, 18, 19, 140] [0] ⟨[(0, .c (.h 0)), (1, .c (.val (.int .i64 a_2))), (2, .c (.val (.int .i64 m_3))), (3, .c (.val (.int .i64 b_4))), (4, .c (.clo 47 [])), (18, .c (.val (.int .i64 (IntKind.wrap .i64 (Int.fdiv (IntKind.wrap .u64 (IntKind.wrap .i64 (a_2 + b_4))) (2 : Int)))))), (19, .c (.val (.int .i64 (IntKind.wrap .i64 ((IntKind.wrap .i64 (Int.fdiv (IntKind.wrap .u64 (IntKind.wrap .i64 (a_2 + b_4))) (2 : Int))) + m_3))))), (140, .c (.val (.bool (decide (m_3 > (IntKind.wrap .i64 (Int.fdiv (IntKind.wrap .u64 (IntKind.wrap .i64 (a_2 + b_4))) (2 : Int))))))))], [(0, .row (.pair (.int .i64) (.pair (.int .i64) (.int .i64))) data_1)], 1⟩ [(0 : Int) ≤ (1 : Int)] (by kernel_rfl) rfl rfl (ap1 (by decide)) ?_
      obtain ⟨q_174, H_175, H_176⟩ := of_bind H_154
      refine V_cut (Y := (Int × Int)) (R := (Int × Int)) q_174 (fun y => y) (fun y => [(0, .c (.h 0)), (1, .c (.val (.int .i64 a_2))), (2, .c (.val (.int .i64 m_3))), (3, .c (.val (.int .i64 b_4))), (4, .c (.clo 47 [])), (18, .c (.val (.int .i64 (IntKind.wrap .i64 (Int.fdiv (IntKind.wrap .u64 (IntKind.wrap .i64 (a_2 + b_4))) (2 : Int)))))), (19, .c (.val (.int .i64 (IntKind.wrap .i64 ((IntKind.wrap .i64 (Int.fdiv (IntKind.wrap .u64 (IntKind.wrap .i64 (a_2 + b_4))) (2 : Int))) + m_3))))), (20, .c (.val (.int .i64 y.1))), (21, .c (.val (.int .i64 y.2)))]) (fun y => [(0, .row (.pair (.int .i64) (.pair (.int .i64) (.int .i64))) data_1)]) ?_ ?_
      · skip
        refine VL_cond ((decide (m_3 > (IntKind.wrap .i64 (Int.fdiv (IntKind.wrap .u64 (IntKind.wrap .i64 (a_2 + b_4))) (2 : Int)))))) (by kernel_rfl) ?_ ?_
        · intro b_70; have H_178 := of_t H_175 b_70
          refine V_run hN hn 3 1 [0, 1, 2, 3, 4, 18, 19, 20, 21] [0] ⟨[(0, .c (.h 0)), (1, .c (.val (.int .i64 a_2))), (2, .c (.val (.int .i64 m_3))), (3, .c (.val (.int .i64 b_4))), (4, .c (.clo 47 [])), (18, .c (.val (.int .i64 (IntKind.wrap .i64 (Int.fdiv (IntKind.wrap .u64 (IntKind.wrap .i64 (a_2 + b_4))) (2 : Int)))))), (19, .c (.val (.int .i64 (IntKind.wrap .i64 ((IntKind.wrap .i64 (Int.fdiv (IntKind.wrap .u64 (IntKind.wrap .i64 (a_2 + b_4))) (2 : Int))) + m_3))))), (20, .c (.val (.int .i64 (IntKind.wrap .i64 ((IntKind.wrap .i64 ((IntKind.wrap .i64 (Int.fdiv (IntKind.wrap .u64 (IntKind.wrap .i64 (a_2 + b_4))) (2 : Int))) + m_3)) - b_4))))), (21, .c (.val (.int .i64 (IntKind.wrap .i64 (Int.fdiv (IntKind.wrap .u64 (IntKind.wrap .i64 (a_2 + b_4))) (2 : Int))))))], [(0, .row (.pair (.int .i64) (.pair (.int .i64) (.int .i64))) data_1)], 1⟩ [] (by kernel_rfl) rfl rfl ap0 ?_
          have H_180 := Option.some.inj (show some ((IntKind.wrap .i64 ((IntKind.wrap .i64 ((IntKind.wrap .i64 (Int.fdiv (IntKind.wrap .u64 (IntKind.wrap .i64 (a_2 + b_4))) (2 : Int))) + m_3)) - b_4)), (IntKind.wrap .i64 (Int.fdiv (IntKind.wrap .u64 (IntKind.wrap .i64 (a_2 + b_4))) (2 : Int)))) = some q_174 from H_178); subst H_180
          refine VL_nil ?_
          exact QP_end ((IntKind.wrap .i64 ((IntKind.wrap .i64 ((IntKind.wrap .i64 (Int.fdiv (IntKind.wrap .u64 (IntKind.wrap .i64 (a_2 + b_4))) (2 : Int))) + m_3)) - b_4)), (IntKind.wrap .i64 (Int.fdiv (IntKind.wrap .u64 (IntKind.wrap .i64 (a_2 + b_4))) (2 : Int)))) rfl [] hn (by kernel_rfl) (by kernel_rfl) rfl rfl rfl
        · intro b_70; have H_179 := of_f H_175 b_70
          refine V_run hN hn 3 1 [0, 1, 2, 3, 4, 18, 19, 20, 21] [0] ⟨[(0, .c (.h 0)), (1, .c (.val (.int .i64 a_2))), (2, .c (.val (.int .i64 m_3))), (3, .c (.val (.int .i64 b_4))), (4, .c (.clo 47 [])), (18, .c (.val (.int .i64 (IntKind.wrap .i64 (Int.fdiv (IntKind.wrap .u64 (IntKind.wrap .i64 (a_2 + b_4))) (2 : Int)))))), (19, .c (.val (.int .i64 (IntKind.wrap .i64 ((IntKind.wrap .i64 (Int.fdiv (IntKind.wrap .u64 (IntKind.wrap .i64 (a_2 + b_4))) (2 : Int))) + m_3))))), (20, .c (.val (.int .i64 a_2))), (21, .c (.val (.int .i64 m_3)))], [(0, .row (.pair (.int .i64) (.pair (.int .i64) (.int .i64))) data_1)], 1⟩ [] (by kernel_rfl) rfl rfl ap0 ?_
          have H_181 := Option.some.inj (show some (a_2, m_3) = some q_174 from H_179); subst H_181
          refine VL_nil ?_
          exact QP_end (a_2, m_3) rfl [] hn (by kernel_rfl) (by kernel_rfl) rfl rfl rfl
      · intro y_177 hy; subst hy
        obtain ⟨start_73, r_74⟩ := y_177
        refine V_run hN hn 3 1 [0, 1, 2, 3, 4, 18, 19, 20, 21, 22] [0] ⟨[(0, .c (.h 0)), (1, .c (.val (.int .i64 a_2))), (2, .c (.val (.int .i64 m_3))), (3, .c (.val (.int .i64 b_4))), (4, .c (.clo 47 [])), (18, .c (.val (.int .i64 (IntKind.wrap .i64 (Int.fdiv (IntKind.wrap .u64 (IntKind.wrap .i64 (a_2 + b_4))) (2 : Int)))))), (19, .c (.val (.int .i64 (IntKind.wrap .i64 ((IntKind.wrap .i64 (Int.fdiv (IntKind.wrap .u64 (IntKind.wrap .i64 (a_2 + b_4))) (2 : Int))) + m_3))))), (20, .c (.val (.int .i64 start_73))), (21, .c (.val (.int .i64 r_74))), (22, .c (.val (.int .i64 (IntKind.wrap .i64 ((IntKind.wrap .i64 ((IntKind.wrap .i64 (Int.fdiv (IntKind.wrap .u64 (IntKind.wrap .i64 (a_2 + b_4))) (2 : Int))) + m_3)) - (1 : Int))))))], [(0, .row (.pair (.int .i64) (.pair (.int .i64) (.int .i64))) data_1)], 1⟩ [] (by kernel_rfl) rfl rfl ap0 ?_
        obtain ⟨q_182, H_183, H_184⟩ := of_bind H_176
        refine V_cut (Y := Int) (R := Int) q_182 (fun y => y) (fun y => [(0, .c (.h 0)), (1, .c (.val (.int .i64 a_2))), (2, .c (.val (.int .i64 m_3))), (3, .c (.val (.int .i64 b_4))), (4, .c (.clo 47 [])), (18, .c (.val (.int .i64 (IntKind.wrap .i64 (Int.fdiv (IntKind.wrap .u64 (IntKind.wrap .i64 (a_2 + b_4))) (2 : Int)))))), (19, .c (.val (.int .i64 (IntKind.wrap .i64 ((IntKind.wrap .i64 (Int.fdiv (IntKind.wrap .u64 (IntKind.wrap .i64 (a_2 + b_4))) (2 : Int))) + m_3))))), (20, .c (.val (.int .i64 y)))]) (fun y => [(0, .row (.pair (.int .i64) (.pair (.int .i64) (.int .i64))) data_1)]) ?_ ?_
        · skip
          refine VL_block ?_
          refine V_to [(0, .c (.h 0)), (1, .c (.val (.int .i64 a_2))), (2, .c (.val (.int .i64 m_3))), (3, .c (.val (.int .i64 b_4))), (4, .c (.clo 47 [])), (18, .c (.val (.int .i64 (IntKind.wrap .i64 (Int.fdiv (IntKind.wrap .u64 (IntKind.wrap .i64 (a_2 + b_4))) (2 : Int)))))), (19, .c (.val (.int .i64 (IntKind.wrap .i64 ((IntKind.wrap .i64 (Int.fdiv (IntKind.wrap .u64 (IntKind.wrap .i64 (a_2 + b_4))) (2 : Int))) + m_3))))), (20, .c (.val (.int .i64 start_73))), (21, .c (.val (.int .i64 r_74))), (22, .c (.val (.int .i64 (IntKind.wrap .i64 ((IntKind.wrap .i64 ((IntKind.wrap .i64 (Int.fdiv (IntKind.wrap .u64 (IntKind.wrap .i64 (a_2 + b_4))) (2 : Int))) + m_3)) - (1 : Int))))))] [(0, .row (.pair (.int .i64) (.pair (.int .i64) (.int .i64))) data_1)] [] hn (by kernel_rfl) (by kernel_rfl) rfl rfl rfl ?_
          refine VL_loop (X := (Int × Int)) (fun x => [(0, .c (.h 0)), (1, .c (.val (.int .i64 a_2))), (2, .c (.val (.int .i64 m_3))), (3, .c (.val (.int .i64 b_4))), (4, .c (.clo 47 [])), (18, .c (.val (.int .i64 (IntKind.wrap .i64 (Int.fdiv (IntKind.wrap .u64 (IntKind.wrap .i64 (a_2 + b_4))) (2 : Int)))))), (19, .c (.val (.int .i64 (IntKind.wrap .i64 ((IntKind.wrap .i64 (Int.fdiv (IntKind.wrap .u64 (IntKind.wrap .i64 (a_2 + b_4))) (2 : Int))) + m_3))))), (20, .c (.val (.int .i64 x.1))), (21, .c (.val (.int .i64 x.2))), (22, .c (.val (.int .i64 (IntKind.wrap .i64 ((IntKind.wrap .i64 ((IntKind.wrap .i64 (Int.fdiv (IntKind.wrap .u64 (IntKind.wrap .i64 (a_2 + b_4))) (2 : Int))) + m_3)) - (1 : Int))))))]) (fun x => [(0, .row (.pair (.int .i64) (.pair (.int .i64) (.int .i64))) data_1)]) (fun k x => slices_symMergeCmpFunc_rgggcspansrowsorted1.l4 K data_1 a_2 b_4 m_3 k x.1 x.2 = some q_182) K (start_73, r_74) H_183 (fun _ h => no_none h) ?_
          intro k_78 x_78 H_186
          obtain ⟨start_76, r_77⟩ := x_78
          have H_187 : slices_symMergeCmpFunc_rgggcspansrowsorted1.l4 K data_1 a_2 b_4 m_3 (k_78 + 1) start_76 r_77 = some q_182 := H_186
          rw [slices_symMergeCmpFunc_rgggcspansrowsorted1.l4] at H_187
          refine V_run hN hn 3 1 [0, 1, 2, 3, 4, 18, 19, 20, 21, 22, 151] [0] ⟨[(0, .c (.h 0)), (1, .c (.val (.int .i64 a_2))), (2, .c (.val (.int .i64 m_3))), (3, .c (.val (.int .i64 b_4))), (4, .c (.clo 47 [])), (18, .c (.val (.int .i64 (IntKind.wrap .i64 (Int.fdiv (IntKind.wrap .u64 (IntKind.wrap .i64 (a_2 + b_4))) (2 : Int)))))), (19, .c (.val (.int .i64 (IntKind.wrap .i64 ((IntKind.wrap .i64 (Int.fdiv (IntKind.wrap .u64 (IntKind.wrap .i64 (a_2 + b_4))) (2 : Int))) + m_3))))), (20, .c (.val (.int .i64 start_76))), (21, .c (.val (.int .i64 r_77))), (22, .c (.val (.int .i64 (IntKind.wrap .i64 ((IntKind.wrap .i64 ((IntKind.wrap .i64 (Int.fdiv (IntKind.wrap .u64 (IntKind.wrap .i64 (a_2 + b_4))) (2 : Int))) + m_3)) - (1 : Int)))))), (151, .c (.val (.bool (decide (start_76 < r_77)))))], [(0, .row (.pair (.int .i64) (.pair (.int .i64) (.int .i64))) data_1)], 1⟩ [] (by kernel_rfl) rfl rfl ap0 ?_
          refine VL_cond ((decide (start_76 < r_77))) (by kernel_rfl) ?_ ?_
          · intro b_80; have H_188 := of_t H_187 b_80
            refine V_run hN hn 1 1 [0, 1, 2, 3, 4, 18, 19, 20, 21, 22, 151] [0] ⟨[(0, .c (.h 0)), (1, .c (.val (.int .i64 a_2))), (2, .c (.val (.int .i64 m_3))), (3, .c (.val (.int .i64 b_4))), (4, .c (.clo 47 [])), (18, .c (.val (.int .i64 (IntKind.wrap .i64 (Int.fdiv (IntKind.wrap .u64 (IntKind.wrap .i64 (a_2 + b_4))) (2 : Int)))))), (19, .c (.val (.int .i64 (IntKind.wrap .i64 ((IntKind.wrap .i64 (Int.fdiv (IntKind.wrap .u64 (IntKind.wrap .i64 (a_2 + b_4))) (2 : Int))) + m_3))))), (20, .c (.val (.int .i64 start_76))), (21, .c (.val (.int .i64 r_77))), (22, .c (.val (.int .i64 (IntKind.wrap .i64 ((IntKind.wrap .i64 ((IntKind.wrap .i64 (Int.fdiv (IntKind.wrap .u64 (IntKind.wrap .i64 (a_2 + b_4))) (2 : Int))) + m_3)) - (1 : Int)))))), (151, .c (.val (.bool (decide (start_76 < r_77)))))], [(0, .row (.pair (.int .i64) (.pair (.int .i64) (.int .i64))) data_1)], 1⟩ [] (by kernel_rfl) rfl rfl ap0 ?_
            refine VL_block ?_
            refine V_run hN hn 3 1 [0, 1, 2, 3, 4, 18, 19, 20, 21, 22, 23] [0] ⟨[(0, .c (.h 0)), (1, .c (.val (.int .i64 a_2))), (2, .c (.val (.int .i64 m_3))), (3, .c (.val (.int .i64 b_4))), (4, .c (.clo 47 [])), (18, .c (.val (.int .i64 (IntKind.wrap .i64 (Int.fdiv (IntKind.wrap .u64 (IntKind.wrap .i64 (a_2 + b_4))) (2 : Int)))))), (19, .c (.val (.int .i64 (IntKind.wrap .i64 ((IntKind.wrap .i64 (Int.fdiv (IntKind.wrap .u64 (IntKind.wrap .i64 (a_2 + b_4))) (2 : Int))) + m_3))))), (20, .c (.val (.int .i64 start_76))), (21, .c (.val (.int .i64 r_77))), (22, .c (.val (.int .i64 (IntKind.wrap .i64 ((IntKind.wrap .i64 ((IntKind.wrap .i64 (Int.fdiv (IntKind.wrap .u64 (IntKind.wrap .i64 (a_2 + b_4))) (2 : Int))) + m_3)) - (1 : Int)))))), (23, .c (.val (.int .i64 (IntKind.wrap .i64 (Int.fdiv (IntKind.wrap .u64 (IntKind.wrap .i64 (start_76 + r_77))) (2 : Int))))))], [(0, .row (.pair (.int .i64) (.pair (.int .i64) (.int .i64))) data_1)], 1⟩ [(0 : Int) ≤ (1 : Int)] (by kernel_rfl) rfl rfl (ap1 (by decide)) ?_
            obtain ⟨r_83, h_84, H_190⟩ := of_bind H_188
            obtain ⟨c_85, H_191⟩ := of_if H_190
            refine V_draw hN hn (by kernel_rfl) [(11, ⟨47, 0, [.agg [.val (.int .i64 (List.getD data_1 (Int.toNat (IntKind.wrap .i64 ((IntKind.wrap .i64 ((IntKind.wrap .i64 ((IntKind.wrap .i64 (Int.fdiv (IntKind.wrap .u64 (IntKind.wrap .i64 (a_2 + b_4))) (2 : Int))) + m_3)) - (1 : Int))) - (IntKind.wrap .i64 (Int.fdiv (IntKind.wrap .u64 (IntKind.wrap .i64 (start_76 + r_77))) (2 : Int)))))) ((0 : Int), ((0 : Int), (0 : Int)))).1), .val (.int .i64 (List.getD data_1 (Int.toNat (IntKind.wrap .i64 ((IntKind.wrap .i64 ((IntKind.wrap .i64 ((IntKind.wrap .i64 (Int.fdiv (IntKind.wrap .u64 (IntKind.wrap .i64 (a_2 + b_4))) (2 : Int))) + m_3)) - (1 : Int))) - (IntKind.wrap .i64 (Int.fdiv (IntKind.wrap .u64 (IntKind.wrap .i64 (start_76 + r_77))) (2 : Int)))))) ((0 : Int), ((0 : Int), (0 : Int)))).2.1), .val (.int .i64 (List.getD data_1 (Int.toNat (IntKind.wrap .i64 ((IntKind.wrap .i64 ((IntKind.wrap .i64 ((IntKind.wrap .i64 (Int.fdiv (IntKind.wrap .u64 (IntKind.wrap .i64 (a_2 + b_4))) (2 : Int))) + m_3)) - (1 : Int))) - (IntKind.wrap .i64 (Int.fdiv (IntKind.wrap .u64 (IntKind.wrap .i64 (start_76 + r_77))) (2 : Int)))))) ((0 : Int), ((0 : Int), (0 : Int)))).2.2)], .agg [.val (.int .i64 (List.getD data_1 (Int.toNat (IntKind.wrap .i64 (Int.fdiv (IntKind.wrap .u64 (IntKind.wrap .i64 (start_76 + r_77))) (2 : Int)))) ((0 : Int), ((0 : Int), (0 : Int)))).1), .val (.int .i64 (List.getD data_1 (Int.toNat (IntKind.wrap .i64 (Int.fdiv (IntKind.wrap .u64 (IntKind.wrap .i64 (start_76 + r_77))) (2 : Int)))) ((0 : Int), ((0 : Int), (0 : Int)))).2.1), .val (.int .i64 (List.getD data_1 (Int.toNat (IntKind.wrap .i64 (Int.fdiv (IntKind.wrap .u64 (IntKind.wrap .i64 (start_76 + r_77))) (2 : Int)))) ((0 : Int), ((0 : Int), (0 : Int)))).2.2)]], [], .c (.val (.int .i64 r_83)), [], [], 1⟩)] [] (calls_cons (spans_row_sorted_1_spec K (List.getD data_1 (Int.toNat (IntKind.wrap .i64 ((IntKind.wrap .i64 ((IntKind.wrap .i64 ((IntKind.wrap .i64 (Int.fdiv (IntKind.wrap .u64 (IntKind.wrap .i64 (a_2 + b_4))) (2 : Int))) + m_3)) - (1 : Int))) - (IntKind.wrap .i64 (Int.fdiv (IntKind.wrap .u64 (IntKind.wrap .i64 (start_76 + r_77))) (2 : Int)))))) ((0 : Int), ((0 : Int), (0 : Int)))).1 (List.getD data_1 (Int.toNat (IntKind.wrap .i64 ((IntKind.wrap .i64 ((IntKind.wrap .i64 ((IntKind.wrap .i64 (Int.fdiv (IntKind.wrap .u64 (IntKind.wrap .i64 (a_2 + b_4))) (2 : Int))) + m_3)) - (1 : Int))) - (IntKind.wrap .i64 (Int.fdiv (IntKind.wrap .u64 (IntKind.wrap .i64 (start_76 + r_77))) (2 : Int)))))) ((0 : Int), ((0 : Int), (0 : Int)))).2.1 (List.getD data_1 (Int.toNat (IntKind.wrap .i64 ((IntKind.wrap .i64 ((IntKind.wrap .i64 ((IntKind.wrap .i64 (Int.fdiv (IntKind.wrap .u64 (IntKind.wrap .i64 (a_2 + b_4))) (2 : Int))) + m_3)) - (1 : Int))) - (IntKind.wrap .i64 (Int.fdiv (IntKind.wrap .u64 (IntKind.wrap .i64 (start_76 + r_77))) (2 : Int)))))) ((0 : Int), ((0 : Int), (0 : Int)))).2.2 (List.getD data_1 (Int.toNat (IntKind.wrap .i64 (Int.fdiv (IntKind.wrap .u64 (IntKind.wrap .i64 (start_76 + r_77))) (2 : Int)))) ((0 : Int), ((0 : Int), (0 : Int)))).1 (List.getD data_1 (Int.toNat (IntKind.wrap .i64 (Int.fdiv (IntKind.wrap .u64 (IntKind.wrap .i64 (start_76 + r_77))) (2 : Int)))) ((0 : Int), ((0 : Int), (0 : Int)))).2.1 (List.getD data_1 (Int.toNat (IntKind.wrap .i64 (Int.fdiv (IntKind.wrap .u64 (IntKind.wrap .i64 (start_76 + r_77))) (2 : Int)))) ((0 : Int), ((0 : Int), (0 : Int)))).2.2 r_83 h_84) (by kernel_rfl) calls_nil) 1 [0, 1, 2, 3, 4, 18, 19, 20, 21, 22, 23, 171] [0] ⟨[(0, .c (.h 0)), (1, .c (.val (.int .i64 a_2))), (2, .c (.val (.int .i64 m_3))), (3, .c (.val (.int .i64 b_4))), (4, .c (.clo 47 [])), (18, .c (.val (.int .i64 (IntKind.wrap .i64 (Int.fdiv (IntKind.wrap .u64 (IntKind.wrap .i64 (a_2 + b_4))) (2 : Int)))))), (19, .c (.val (.int .i64 (IntKind.wrap .i64 ((IntKind.wrap .i64 (Int.fdiv (IntKind.wrap .u64 (IntKind.wrap .i64 (a_2 + b_4))) (2 : Int))) + m_3))))), (20, .c (.val (.int .i64 start_76))), (21, .c (.val (.int .i64 r_77))), (22, .c (.val (.int .i64 (IntKind.wrap .i64 ((IntKind.wrap .i64 ((IntKind.wrap .i64 (Int.fdiv (IntKind.wrap .u64 (IntKind.wrap .i64 (a_2 + b_4))) (2 : Int))) + m_3)) - (1 : Int)))))), (23, .c (.val (.int .i64 (IntKind.wrap .i64 (Int.fdiv (IntKind.wrap .u64 (IntKind.wrap .i64 (start_76 + r_77))) (2 : Int)))))), (171, .c (.val (.bool (!(decide (r_83 < (0 : Int)))))))], [(0, .row (.pair (.int .i64) (.pair (.int .i64) (.int .i64))) data_1)], 1⟩ [0 ≤ (IntKind.wrap .i64 ((IntKind.wrap .i64 ((IntKind.wrap .i64 ((IntKind.wrap .i64 (Int.fdiv (IntKind.wrap .u64 (IntKind.wrap .i64 (a_2 + b_4))) (2 : Int))) + m_3)) - (1 : Int))) - (IntKind.wrap .i64 (Int.fdiv (IntKind.wrap .u64 (IntKind.wrap .i64 (start_76 + r_77))) (2 : Int))))), (IntKind.wrap .i64 ((IntKind.wrap .i64 ((IntKind.wrap .i64 ((IntKind.wrap .i64 (Int.fdiv (IntKind.wrap .u64 (IntKind.wrap .i64 (a_2 + b_4))) (2 : Int))) + m_3)) - (1 : Int))) - (IntKind.wrap .i64 (Int.fdiv (IntKind.wrap .u64 (IntKind.wrap .i64 (start_76 + r_77))) (2 : Int))))) < (((List.length data_1) : Nat) : Int), 0 ≤ (IntKind.wrap .i64 (Int.fdiv (IntKind.wrap .u64 (IntKind.wrap .i64 (start_76 + r_77))) (2 : Int))), (IntKind.wrap .i64 (Int.fdiv (IntKind.wrap .u64 (IntKind.wrap .i64 (start_76 + r_77))) (2 : Int))) < (((List.length data_1) : Nat) : Int)] (by kernel_rfl) rfl rfl (ap2 c_85.1 (ap2 c_85.2.1 (ap2 c_85.2.2.1 (ap1 c_85.2.2.2)))) (by kernel_rfl) (by kernel_rfl) ?_
            refine VL_cond ((!(decide (r_83 < (0 : Int))))) (by kernel_rfl) ?_ ?_
            · intro b_86; have H_192 := of_t H_191 b_86
              refine V_run hN hn 1 1 [0, 1, 2, 3, 4, 18, 19, 20, 21, 22] [0] ⟨[(0, .c (.h 0)), (1, .c (.val (.int .i64 a_2))), (2, .c (.val (.int .i64 m_3))), (3, .c (.val (.int .i64 b_4))), (4, .c (.clo 47 [])), (18, .c (.val (.int .i64 (IntKind.wrap .i64 (Int.fdiv (IntKind.wrap .u64 (IntKind.wrap .i64 (a_2 + b_4))) (2 : Int)))))), (19, .c (.val (.int .i64 (IntKind.wrap .i64 ((IntKind.wrap .i64 (Int.fdiv (IntKind.wrap .u64 (IntKind.wrap .i64 (a_2 + b_4))) (2 : Int))) + m_3))))), (20, .c (.val (.int .i64 (IntKind.wrap .i64 ((IntKind.wrap .i64 (Int.fdiv (IntKind.wrap .u64 (IntKind.wrap .i64 (start_76 + r_77))) (2 : Int))) + (1 : Int)))))), (21, .c (.val (.int .i64 r_77))), (22, .c (.val (.int .i64 (IntKind.wrap .i64 ((IntKind.wrap .i64 ((IntKind.wrap .i64 (Int.fdiv (IntKind.wrap .u64 (IntKind.wrap .i64 (a_2 + b_4))) (2 : Int))) + m_3)) - (1 : Int))))))], [(0, .row (.pair (.int .i64) (.pair (.int .i64) (.int .i64))) data_1)], 1⟩ [] (by kernel_rfl) rfl rfl ap0 ?_
              refine VL_nil (QB_end ?_)
              refine VL_nil ?_
              exact V_roundEnd ((IntKind.wrap .i64 ((IntKind.wrap .i64 (Int.fdiv (IntKind.wrap .u64 (IntKind.wrap .i64 (start_76 + r_77))) (2 : Int))) + (1 : Int))), r_77) H_192 [] hn (by kernel_rfl) (by kernel_rfl) rfl rfl rfl
            · intro b_86; have H_193 := of_f H_191 b_86
              refine V_run hN hn 1 1 [0, 1, 2, 3, 4, 18, 19, 20, 21, 22] [0] ⟨[(0, .c (.h 0)), (1, .c (.val (.int .i64 a_2))), (2, .c (.val (.int .i64 m_3))), (3, .c (.val (.int .i64 b_4))), (4, .c (.clo 47 [])), (18, .c (.val (.int .i64 (IntKind.wrap .i64 (Int.fdiv (IntKind.wrap .u64 (IntKind.wrap .i64 (a_2 + b_4))) (2 : Int)))))), (19, .c (.val (.int .i64 (IntKind.wrap .i64 ((IntKind.wrap .i64 (Int.fdiv (IntKind.wrap .u64 (IntKind.wrap .i64 (a_2 + b_4))) (2 : Int))) + m_3))))), (20, .c (.val (.int .i64 start_76))), (21, .c (.val (.int .i64 (IntKind.wrap .i64 (Int.fdiv (IntKind.wrap .u64 (IntKind.wrap .i64 (start_76 + r_77))) (2 : Int)))))), (22, .c (.val (.int .i64 (IntKind.wrap .i64 ((IntKind.wrap .i64 ((IntKind.wrap .i64 (Int.fdiv (IntKind.wrap .u64 (IntKind.wrap .i64 (a_2 + b_4))) (2 : Int))) + m_3)) - (1 : Int))))))], [(0, .row (.pair (.int .i64) (.pair (.int .i64) (.int .i64))) data_1)], 1⟩ [] (by kernel_rfl) rfl rfl ap0 ?_
              refine VL_nil (QB_end ?_)
              refine VL_nil ?_
              exact V_roundEnd (start_76, (IntKind.wrap .i64 (Int.fdiv (IntKind.wrap .u64 (IntKind.wrap .i64 (start_76 + r_77))) (2 : Int)))) H_193 [] hn (by kernel_rfl) (by kernel_rfl) rfl rfl rfl
          · intro b_80; have H_189 := of_f H_187 b_80
            refine VL_exit ?_
            refine QL_exit ?_
            refine QB_here ?_
            have H_194 := Option.some.inj (show some start_76 = some q_182 from H_189); subst H_194
            refine VL_nil ?_
            exact QP_end start_76 rfl [] hn (by kernel_rfl) (by kernel_rfl) rfl rfl rfl
        · intro y_185 hy; subst hy
          skip
          skip
          refine V_run hN hn 4 1 [0, 1, 2, 3, 4, 18, 20, 24] [0] ⟨[(0, .c (.h 0)), (1, .c (.val (.int .i64 a_2))), (2, .c (.val (.int .i64 m_3))), (3, .c (.val (.int .i64 b_4))), (4, .c (.clo 47 [])), (18, .c (.val (.int .i64 (IntKind.wrap .i64 (Int.fdiv (IntKind.wrap .u64 (IntKind.wrap .i64 (a_2 + b_4))) (2 : Int)))))), (20, .c (.val (.int .i64 y_185))), (24, .c (.val (.int .i64 (IntKind.wrap .i64 ((IntKind.wrap .i64 ((IntKind.wrap .i64 (Int.fdiv (IntKind.wrap .u64 (IntKind.wrap .i64 (a_2 + b_4))) (2 : Int))) + m_3)) - y_185)))))], [(0, .row (.pair (.int .i64) (.pair (.int .i64) (.int .i64))) data_1)], 1⟩ [] (by kernel_rfl) rfl rfl ap0 ?_
          obtain ⟨q_195, H_196, H_197⟩ := of_bind H_184
          refine V_cut (Y := Bool) (R := Bool) q_195 (fun y => y) (fun y => [(0, .c (.h 0)), (1, .c (.val (.int .i64 a_2))), (2, .c (.val (.int .i64 m_3))), (3, .c (.val (.int .i64 b_4))), (4, .c (.clo 47 [])), (18, .c (.val (.int .i64 (IntKind.wrap .i64 (Int.fdiv (IntKind.wrap .u64 (IntKind.wrap .i64 (a_2 + b_4))) (2 : Int)))))), (20, .c (.val (.int .i64 y_185))), (24, .c (.val (.int .i64 (IntKind.wrap .i64 ((IntKind.wrap .i64 ((IntKind.wrap .i64 (Int.fdiv (IntKind.wrap .u64 (IntKind.wrap .i64 (a_2 + b_4))) (2 : Int))) + m_3)) - y_185))))), (185, .c (.val (.bool y)))]) (fun y => [(0, .row (.pair (.int .i64) (.pair (.int .i64) (.int .i64))) data_1)]) ?_ ?_
          · skip
            rcases Bool.eq_false_or_eq_true ((decide (y_185 < m_3))) with b_91 | b_91
            · have H_199 := of_t H_196 b_91
              refine V_reg hN hn [] [(181, true)] calls_nil 1 [0, 1, 2, 3, 4, 18, 20, 24, 185] [0] ⟨[(0, .c (.h 0)), (1, .c (.val (.int .i64 a_2))), (2, .c (.val (.int .i64 m_3))), (3, .c (.val (.int .i64 b_4))), (4, .c (.clo 47 [])), (18, .c (.val (.int .i64 (IntKind.wrap .i64 (Int.fdiv (IntKind.wrap .u64 (IntKind.wrap .i64 (a_2 + b_4))) (2 : Int)))))), (20, .c (.val (.int .i64 y_185))), (24, .c (.val (.int .i64 (IntKind.wrap .i64 ((IntKind.wrap .i64 ((IntKind.wrap .i64 (Int.fdiv (IntKind.wrap .u64 (IntKind.wrap .i64 (a_2 + b_4))) (2 : Int))) + m_3)) - y_185))))), (185, .c (.val (.bool (decide (m_3 < (IntKind.wrap .i64 ((IntKind.wrap .i64 ((IntKind.wrap .i64 (Int.fdiv (IntKind.wrap .u64 (IntKind.wrap .i64 (a_2 + b_4))) (2 : Int))) + m_3)) - y_185)))))))], [(0, .row (.pair (.int .i64) (.pair (.int .i64) (.int .i64))) data_1)], 1⟩ [(decide (y_185 < m_3)) = true] (by kernel_rfl) rfl rfl (ap1 b_91) (by kernel_rfl) (by kernel_rfl) ?_
              have H_201 := Option.some.inj (show some (decide (m_3 < (IntKind.wrap .i64 ((IntKind.wrap .i64 ((IntKind.wrap .i64 (Int.fdiv (IntKind.wrap .u64 (IntKind.wrap .i64 (a_2 + b_4))) (2 : Int))) + m_3)) - y_185)))) = some q_195 from H_199); subst H_201
              refine VL_nil ?_
              exact QP_end (decide (m_3 < (IntKind.wrap .i64 ((IntKind.wrap .i64 ((IntKind.wrap .i64 (Int.fdiv (IntKind.wrap .u64 (IntKind.wrap .i64 (a_2 + b_4))) (2 : Int))) + m_3)) - y_185)))) rfl [] hn (by kernel_rfl) (by kernel_rfl) rfl rfl rfl
            · have H_200 := of_f H_196 b_91
              refine V_reg hN hn [] [(181, false)] calls_nil 1 [0, 1, 2, 3, 4, 18, 20, 24, 185] [0] ⟨[(0, .c (.h 0)), (1, .c (.val (.int .i64 a_2))), (2, .c (.val (.int .i64 m_3))), (3, .c (.val (.int .i64 b_4))), (4, .c (.clo 47 [])), (18, .c (.val (.int .i64 (IntKind.wrap .i64 (Int.fdiv (IntKind.wrap .u64 (IntKind.wrap .i64 (a_2 + b_4))) (2 : Int)))))), (20, .c (.val (.int .i64 y_185))), (24, .c (.val (.int .i64 (IntKind.wrap .i64 ((IntKind.wrap .i64 ((IntKind.wrap .i64 (Int.fdiv (IntKind.wrap .u64 (IntKind.wrap .i64 (a_2 + b_4))) (2 : Int))) + m_3)) - y_185))))), (185, .c (.val (.bool false)))], [(0, .row (.pair (.int .i64) (.pair (.int .i64) (.int .i64))) data_1)], 1⟩ [(decide (y_185 < m_3)) = false] (by kernel_rfl) rfl rfl (ap1 b_91) (by kernel_rfl) (by kernel_rfl) ?_
              have H_202 := Option.some.inj (show some false = some q_195 from H_200); subst H_202
              refine VL_nil ?_
              exact QP_end false rfl [] hn (by kernel_rfl) (by kernel_rfl) rfl rfl rfl
          · intro y_198 hy; subst hy
            skip
            skip
            obtain ⟨q_203, H_204, H_205⟩ := of_bind H_197
            refine V_cut (Y := (List (Int × (Int × Int)))) (R := (List (Int × (Int × Int)))) q_203 (fun y => y) (fun y => [(0, .c (.h 0)), (1, .c (.val (.int .i64 a_2))), (3, .c (.val (.int .i64 b_4))), (4, .c (.clo 47 [])), (18, .c (.val (.int .i64 (IntKind.wrap .i64 (Int.fdiv (IntKind.wrap .u64 (IntKind.wrap .i64 (a_2 + b_4))) (2 : Int)))))), (20, .c (.val (.int .i64 y_185))), (24, .c (.val (.int .i64 (IntKind.wrap .i64 ((IntKind.wrap .i64 ((IntKind.wrap .i64 (Int.fdiv (IntKind.wrap .u64 (IntKind.wrap .i64 (a_2 + b_4))) (2 : Int))) + m_3)) - y_185)))))]) (fun y => [(0, .row (.pair (.int .i64) (.pair (.int .i64) (.int .i64))) y)]) ?_ ?_
            · skip
              refine VL_cond (y_198) (by kernel_rfl) ?_ ?_
              · intro b_95; have H_207 := of_t H_204 b_95
                obtain ⟨r_96, h_97, H_209⟩ := of_bind H_207
                refine V_reg hN hn [(5, ⟨59, 1, [.c (.h 0), .c (.val (.int .i64 y_185)), .c (.val (.int .i64 m_3)), .c (.val (.int .i64 (IntKind.wrap .i64 ((IntKind.wrap .i64 ((IntKind.wrap .i64 (Int.fdiv (IntKind.wrap .u64 (IntKind.wrap .i64 (a_2 + b_4))) (2 : Int))) + m_3)) - y_185)))), .c (.clo 47 [])], [(0, .row (.pair (.int .i64) (.pair (.int .i64) (.int .i64))) data_1)], .tup [], [(0, .row (.pair (.int .i64) (.pair (.int .i64) (.int .i64))) r_96)], [(0, 0)], 1⟩)] [] (calls_cons (slices_rotateCmpFunc_rgggcspansrowsorted1_spec K data_1 y_185 m_3 (IntKind.wrap .i64 ((IntKind.wrap .i64 ((IntKind.wrap .i64 (Int.fdiv (IntKind.wrap .u64 (IntKind.wrap .i64 (a_2 + b_4))) (2 : Int))) + m_3)) - y_185)) r_96 h_97) (by kernel_rfl) calls_nil) 1 [0, 1, 3, 4, 18, 20, 24] [0] ⟨[(0, .c (.h 0)), (1, .c (.val (.int .i64 a_2))), (3, .c (.val (.int .i64 b_4))), (4, .c (.clo 47 [])), (18, .c (.val (.int .i64 (IntKind.wrap .i64 (Int.fdiv (IntKind.wrap .u64 (IntKind.wrap .i64 (a_2 + b_4))) (2 : Int)))))), (20, .c (.val (.int .i64 y_185))), (24, .c (.val (.int .i64 (IntKind.wrap .i64 ((IntKind.wrap .i64 ((IntKind.wrap .i64 (Int.fdiv (IntKind.wrap .u64 (IntKind.wrap .i64 (a_2 + b_4))) (2 : Int))) + m_3)) - y_185)))))], [(0, .row (.pair (.int .i64) (.pair (.int .i64) (.int .i64))) r_96)], 1⟩ [] (by kernel_rfl) rfl rfl ap0 (by kernel_rfl) (by kernel_rfl) ?_
                have H_210 := Option.some.inj (show some r_96 = some q_203 from H_209); subst H_210
                refine VL_nil ?_
                exact QP_end r_96 rfl [] hn (by kernel_rfl) (by kernel_rfl) rfl rfl rfl
              · intro b_95; have H_208 := of_f H_204 b_95
                refine V_run hN hn 1 1 [0, 1, 2, 3, 4, 18, 20, 24, 185] [0] ⟨[(0, .c (.h 0)), (1, .c (.val (.int .i64 a_2))), (2, .c (.val (.int .i64 m_3))), (3, .c (.val (.int .i64 b_4))), (4, .c (.clo 47 [])), (18, .c (.val (.int .i64 (IntKind.wrap .i64 (Int.fdiv (IntKind.wrap .u64 (IntKind.wrap .i64 (a_2 + b_4))) (2 : Int)))))), (20, .c (.val (.int .i64 y_185))), (24, .c (.val (.int .i64 (IntKind.wrap .i64 ((IntKind.wrap .i64 ((IntKind.wrap .i64 (Int.fdiv (IntKind.wrap .u64 (IntKind.wrap .i64 (a_2 + b_4))) (2 : Int))) + m_3)) - y_185))))), (185, .c (.val (.bool y_198)))], [(0, .row (.pair (.int .i64) (.pair (.int .i64) (.int .i64))) data_1)], 1⟩ [] (by kernel_rfl) rfl rfl ap0 ?_
                have H_211 := Option.some.inj (show some data_1 = some q_203 from H_208); subst H_211
                refine VL_nil ?_
                exact QP_end data_1 rfl [] hn (by kernel_rfl) (by kernel_rfl) rfl rfl rfl
            · intro y_206 hy; subst hy
              skip
              skip
              refine V_run hN hn 2 1 [0, 1, 3, 4, 18, 20, 24] [0] ⟨[(0, .c (.h 0)), (1, .c (.val (.int .i64 a_2))), (3, .c (.val (.int .i64 b_4))), (4, .c (.clo 47 [])), (18, .c (.val (.int .i64 (IntKind.wrap .i64 (Int.fdiv (IntKind.wrap .u64 (IntKind.wrap .i64 (a_2 + b_4))) (2 : Int)))))), (20, .c (.val (.int .i64 y_185))), (24, .c (.val (.int .i64 (IntKind.wrap .i64 ((IntKind.wrap .i64 ((IntKind.wrap .i64 (Int.fdiv (IntKind.wrap .u64 (IntKind.wrap .i64 (a_2 + b_4))) (2 : Int))) + m_3)) - y_185)))))], [(0, .row (.pair (.int .i64) (.pair (.int .i64) (.int .i64))) y_206)], 1⟩ [] (by kernel_rfl) rfl rfl ap0 ?_
              obtain ⟨q_212, H_213, H_214⟩ := of_bind H_205
              refine V_cut (Y := Bool) (R := Bool) q_212 (fun y => y) (fun y => [(0, .c (.h 0)), (1, .c (.val (.int .i64 a_2))), (3, .c (.val (.int .i64 b_4))), (4, .c (.clo 47 [])), (18, .c (.val (.int .i64 (IntKind.wrap .i64 (Int.fdiv (IntKind.wrap .u64 (IntKind.wrap .i64 (a_2 + b_4))) (2 : Int)))))), (20, .c (.val (.int .i64 y_185))), (24, .c (.val (.int .i64 (IntKind.wrap .i64 ((IntKind.wrap .i64 ((IntKind.wrap .i64 (Int.fdiv (IntKind.wrap .u64 (IntKind.wrap .i64 (a_2 + b_4))) (2 : Int))) + m_3)) - y_185))))), (199, .c (.val (.bool y)))]) (fun y => [(0, .row (.pair (.int .i64) (.pair (.int .i64) (.int .i64))) y_206)]) ?_ ?_
              · skip
                rcases Bool.eq_false_or_eq_true ((decide (a_2 < y_185))) with b_102 | b_102
                · have H_216 := of_t H_213 b_102
                  refine V_reg hN hn [] [(195, true)] calls_nil 1 [0, 1, 3, 4, 18, 20, 24, 199] [0] ⟨[(0, .c (.h 0)), (1, .c (.val (.int .i64 a_2))), (3, .c (.val (.int .i64 b_4))), (4, .c (.clo 47 [])), (18, .c (.val (.int .i64 (IntKind.wrap .i64 (Int.fdiv (IntKind.wrap .u64 (IntKind.wrap .i64 (a_2 + b_4))) (2 : Int)))))), (20, .c (.val (.int .i64 y_185))), (24, .c (.val (.int .i64 (IntKind.wrap .i64 ((IntKind.wrap .i64 ((IntKind.wrap .i64 (Int.fdiv (IntKind.wrap .u64 (IntKind.wrap .i64 (a_2 + b_4))) (2 : Int))) + m_3)) - y_185))))), (199, .c (.val (.bool (decide (y_185 < (IntKind.wrap .i64 (Int.fdiv (IntKind.wrap .u64 (IntKind.wrap .i64 (a_2 + b_4))) (2 : Int))))))))], [(0, .row (.pair (.int .i64) (.pair (.int .i64) (.int .i64))) y_206)], 1⟩ [(decide (a_2 < y_185)) = true] (by kernel_rfl) rfl rfl (ap1 b_102) (by kernel_rfl) (by kernel_rfl) ?_
                  have H_218 := Option.some.inj (show some (decide (y_185 < (IntKind.wrap .i64 (Int.fdiv (IntKind.wrap .u64 (IntKind.wrap .i64 (a_2 + b_4))) (2 : Int))))) = some q_212 from H_216); subst H_218
                  refine VL_nil ?_
                  exact QP_end (decide (y_185 < (IntKind.wrap .i64 (Int.fdiv (IntKind.wrap .u64 (IntKind.wrap .i64 (a_2 + b_4))) (2 : Int))))) rfl [] hn (by kernel_rfl) (by kernel_rfl) rfl rfl rfl
                · have H_217 := of_f H_213 b_102
                  refine V_reg hN hn [] [(195, false)] calls_nil 1 [0, 1, 3, 4, 18, 20, 24, 199] [0] ⟨[(0, .c (.h 0)), (1, .c (.val (.int .i64 a_2))), (3, .c (.val (.int .i64 b_4))), (4, .c (.clo 47 [])), (18, .c (.val (.int .i64 (IntKind.wrap .i64 (Int.fdiv (IntKind.wrap .u64 (IntKind.wrap .i64 (a_2 + b_4))) (2 : Int)))))), (20, .c (.val (.int .i64 y_185))), (24, .c (.val (.int .i64 (IntKind.wrap .i64 ((IntKind.wrap .i64 ((IntKind.wrap .i64 (Int.fdiv (IntKind.wrap .u64 (IntKind.wrap .i64 (a_2 + b_4))) (2 : Int))) + m_3)) - y_185))))), (199, .c (.val (.bool false)))], [(0, .row (.pair (.int .i64) (.pair (.int .i64) (.int .i64))) y_206)], 1⟩ [(decide (a_2 < y_185)) = false] (by kernel_rfl) rfl rfl (ap1 b_102) (by kernel_rfl) (by kernel_rfl) ?_
                  have H_219 := Option.some.inj (show some false = some q_212 from H_217); subst H_219
                  refine VL_nil ?_
                  exact QP_end false rfl [] hn (by kernel_rfl) (by kernel_rfl) rfl rfl rfl
              · intro y_215 hy; subst hy
                skip
                skip
                obtain ⟨q_220, H_221, H_222⟩ := of_bind H_214
                refine V_cut (Y := (List (Int × (Int × Int)))) (R := (List (Int × (Int × Int)))) q_220 (fun y => y) (fun y => [(0, .c (.h 0)), (3, .c (.val (.int .i64 b_4))), (4, .c (.clo 47 [])), (18, .c (.val (.int .i64 (IntKind.wrap .i64 (Int.fdiv (IntKind.wrap .u64 (IntKind.wrap .i64 (a_2 + b_4))) (2 : Int)))))), (24, .c (.val (.int .i64 (IntKind.wrap .i64 ((IntKind.wrap .i64 ((IntKind.wrap .i64 (Int.fdiv (IntKind.wrap .u64 (IntKind.wrap .i64 (a_2 + b_4))) (2 : Int))) + m_3)) - y_185)))))]) (fun y => [(0, .row (.pair (.int .i64) (.pair (.int .i64) (.int .i64))) y)]) ?_ ?_
                · skip
                  refine VL_cond (y_215) (by kernel_rfl) ?_ ?_
                  · intro b_106; have H_224 := of_t H_221 b_106
                    obtain ⟨r_107, h_108, H_226⟩ := of_bind H_224
                    refine V_reg hN hn [(5, ⟨56, 1, [.c (.h 0), .c (.val (.int .i64 a_2)), .c (.val (.int .i64 y_185)), .c (.val (.int .i64 (IntKind.wrap .i64 (Int.fdiv (IntKind.wrap .u64 (IntKind.wrap .i64 (a_2 + b_4))) (2 : Int))))), .c (.clo 47 [])], [(0, .row (.pair (.int .i64) (.pair (.int .i64) (.int .i64))) y_206)], .tup [], [(0, .row (.pair (.int .i64) (.pair (.int .i64) (.int .i64))) r_107)], [(0, 0)], 1⟩)] [] (calls_cons (ih y_206 a_2 y_185 (IntKind.wrap .i64 (Int.fdiv (IntKind.wrap .u64 (IntKind.wrap .i64 (a_2 + b_4))) (2 : Int))) r_107 h_108) (by kernel_rfl) calls_nil) 1 [0, 3, 4, 18, 24] [0] ⟨[(0, .c (.h 0)), (3, .c (.val (.int .i64 b_4))), (4, .c (.clo 47 [])), (18, .c (.val (.int .i64 (IntKind.wrap .i64 (Int.fdiv (IntKind.wrap .u64 (IntKind.wrap .i64 (a_2 + b_4))) (2 : Int)))))), (24, .c (.val (.int .i64 (IntKind.wrap .i64 ((IntKind.wrap .i64 ((IntKind.wrap .i64 (Int.fdiv (IntKind.wrap .u64 (IntKind.wrap .i64 (a_2 + b_4))) (2 : Int))) + m_3)) - y_185)))))], [(0, .row (.pair (.int .i64) (.pair (.int .i64) (.int .i64))) r_107)], 1⟩ [] (by kernel_rfl) rfl rfl ap0 (by kernel_rfl) (by kernel_rfl) ?_
                    have H_227 := Option.some.inj (show some r_107 = some q_220 from H_226); subst H_227
                    refine VL_nil ?_
                    exact QP_end r_107 rfl [] hn (by kernel_rfl) (by kernel_rfl) rfl rfl rfl
                  · intro b_106; have H_225 := of_f H_221 b_106
                    refine V_run hN hn 1 1 [0, 1, 3, 4, 18, 20, 24, 199] [0] ⟨[(0, .c (.h 0)), (1, .c (.val (.int .i64 a_2))), (3, .c (.val (.int .i64 b_4))), (4, .c (.clo 47 [])), (18, .c (.val (.int .i64 (IntKind.wrap .i64 (Int.fdiv (IntKind.wrap .u64 (IntKind.wrap .i64 (a_2 + b_4))) (2 : Int)))))), (20, .c (.val (.int .i64 y_185))), (24, .c (.val (.int .i64 (IntKind.wrap .i64 ((IntKind.wrap .i64 ((IntKind.wrap .i64 (Int.fdiv (IntKind.wrap .u64 (IntKind.wrap .i64 (a_2 + b_4))) (2 : Int))) + m_3)) - y_185))))), (199, .c (.val (.bool y_215)))], [(0, .row (.pair (.int .i64) (.pair (.int .i64) (.int .i64))) y_206)], 1⟩ [] (by kernel_rfl) rfl rfl ap0 ?_
                    have H_228 := Option.some.inj (show some y_206 = some q_220 from H_225); subst H_228
                    refine VL_nil ?_
                    exact QP_end y_206 rfl [] hn (by kernel_rfl) (by kernel_rfl) rfl rfl rfl
                · intro y_223 hy; subst hy
                  skip
                  skip
                  refine V_run hN hn 1 1 [0, 3, 4, 18, 24] [0] ⟨[(0, .c (.h 0)), (3, .c (.val (.int .i64 b_4))), (4, .c (.clo 47 [])), (18, .c (.val (.int .i64 (IntKind.wrap .i64 (Int.fdiv (IntKind.wrap .u64 (IntKind.wrap .i64 (a_2 + b_4))) (2 : Int)))))), (24, .c (.val (.int .i64 (IntKind.wrap .i64 ((IntKind.wrap .i64 ((IntKind.wrap .i64 (Int.fdiv (IntKind.wrap .u64 (IntKind.wrap .i64 (a_2 + b_4))) (2 : Int))) + m_3)) - y_185)))))], [(0, .row (.pair (.int .i64) (.pair (.int .i64) (.int .i64))) y_223)], 1⟩ [] (by kernel_rfl) rfl rfl ap0 ?_
                  obtain ⟨q_229, H_230, H_231⟩ := of_bind H_222
                  refine V_cut (Y := Bool) (R := Bool) q_229 (fun y => y) (fun y => [(0, .c (.h 0)), (3, .c (.val (.int .i64 b_4))), (4, .c (.clo 47 [])), (18, .c (.val (.int .i64 (IntKind.wrap .i64 (Int.fdiv (IntKind.wrap .u64 (IntKind.wrap .i64 (a_2 + b_4))) (2 : Int)))))), (24, .c (.val (.int .i64 (IntKind.wrap .i64 ((IntKind.wrap .i64 ((IntKind.wrap .i64 (Int.fdiv (IntKind.wrap .u64 (IntKind.wrap .i64 (a_2 + b_4))) (2 : Int))) + m_3)) - y_185))))), (213, .c (.val (.bool y)))]) (fun y => [(0, .row (.pair (.int .i64) (.pair (.int .i64) (.int .i64))) y_223)]) ?_ ?_
                  · skip
                    rcases Bool.eq_false_or_eq_true ((decide ((IntKind.wrap .i64 (Int.fdiv (IntKind.wrap .u64 (IntKind.wrap .i64 (a_2 + b_4))) (2 : Int))) < (IntKind.wrap .i64 ((IntKind.wrap .i64 ((IntKind.wrap .i64 (Int.fdiv (IntKind.wrap .u64 (IntKind.wrap .i64 (a_2 + b_4))) (2 : Int))) + m_3)) - y_185))))) with b_113 | b_113
                    · have H_233 := of_t H_230 b_113
                      refine V_reg hN hn [] [(209, true)] calls_nil 1 [0, 3, 4, 18, 24, 213] [0] ⟨[(0, .c (.h 0)), (3, .c (.val (.int .i64 b_4))), (4, .c (.clo 47 [])), (18, .c (.val (.int .i64 (IntKind.wrap .i64 (Int.fdiv (IntKind.wrap .u64 (IntKind.wrap .i64 (a_2 + b_4))) (2 : Int)))))), (24, .c (.val (.int .i64 (IntKind.wrap .i64 ((IntKind.wrap .i64 ((IntKind.wrap .i64 (Int.fdiv (IntKind.wrap .u64 (IntKind.wrap .i64 (a_2 + b_4))) (2 : Int))) + m_3)) - y_185))))), (213, .c (.val (.bool (decide ((IntKind.wrap .i64 ((IntKind.wrap .i64 ((IntKind.wrap .i64 (Int.fdiv (IntKind.wrap .u64 (IntKind.wrap .i64 (a_2 + b_4))) (2 : Int))) + m_3)) - y_185)) < b_4)))))], [(0, .row (.pair (.int .i64) (.pair (.int .i64) (.int .i64))) y_223)], 1⟩ [(decide ((IntKind.wrap .i64 (Int.fdiv (IntKind.wrap .u64 (IntKind.wrap .i64 (a_2 + b_4))) (2 : Int))) < (IntKind.wrap .i64 ((IntKind.wrap .i64 ((IntKind.wrap .i64 (Int.fdiv (IntKind.wrap .u64 (IntKind.wrap .i64 (a_2 + b_4))) (2 : Int))) + m_3)) - y_185)))) = true] (by kernel_rfl) rfl rfl (ap1 b_113) (by kernel_rfl) (by kernel_rfl) ?_
                      have H_235 := Option.some.inj (show some (decide ((IntKind.wrap .i64 ((IntKind.wrap .i64 ((IntKind.wrap .i64 (Int.fdiv (IntKind.wrap .u64 (IntKind.wrap .i64 (a_2 + b_4))) (2 : Int))) + m_3)) - y_185)) < b_4)) = some q_229 from H_233); subst H_235
                      refine VL_nil ?_
                      exact QP_end (decide ((IntKind.wrap .i64 ((IntKind.wrap .i64 ((IntKind.wrap .i64 (Int.fdiv (IntKind.wrap .u64 (IntKind.wrap .i64 (a_2 + b_4))) (2 : Int))) + m_3)) - y_185)) < b_4)) rfl [] hn (by kernel_rfl) (by kernel_rfl) rfl rfl rfl
                    · have H_234 := of_f H_230 b_113
                      refine V_reg hN hn [] [(209, false)] calls_nil 1 [0, 3, 4, 18, 24, 213] [0] ⟨[(0, .c (.h 0)), (3, .c (.val (.int .i64 b_4))), (4, .c (.clo 47 [])), (18, .c (.val (.int .i64 (IntKind.wrap .i64 (Int.fdiv (IntKind.wrap .u64 (IntKind.wrap .i64 (a_2 + b_4))) (2 : Int)))))), (24, .c (.val (.int .i64 (IntKind.wrap .i64 ((IntKind.wrap .i64 ((IntKind.wrap .i64 (Int.fdiv (IntKind.wrap .u64 (IntKind.wrap .i64 (a_2 + b_4))) (2 : Int))) + m_3)) - y_185))))), (213, .c (.val (.bool false)))], [(0, .row (.pair (.int .i64) (.pair (.int .i64) (.int .i64))) y_223)], 1⟩ [(decide ((IntKind.wrap .i64 (Int.fdiv (IntKind.wrap .u64 (IntKind.wrap .i64 (a_2 + b_4))) (2 : Int))) < (IntKind.wrap .i64 ((IntKind.wrap .i64 ((IntKind.wrap .i64 (Int.fdiv (IntKind.wrap .u64 (IntKind.wrap .i64 (a_2 + b_4))) (2 : Int))) + m_3)) - y_185)))) = false] (by kernel_rfl) rfl rfl (ap1 b_113) (by kernel_rfl) (by kernel_rfl) ?_
                      have H_236 := Option.some.inj (show some false = some q_229 from H_234); subst H_236
                      refine VL_nil ?_
                      exact QP_end false rfl [] hn (by kernel_rfl) (by kernel_rfl) rfl rfl rfl
                  · intro y_232 hy; subst hy
                    skip
                    skip
                    refine VL_cond (y_232) (by kernel_rfl) ?_ ?_
                    · intro b_117; have H_237 := of_t H_231 b_117
                      obtain ⟨r_118, h_119, H_239⟩ := of_bind H_237
                      refine V_reg hN hn [(5, ⟨56, 1, [.c (.h 0), .c (.val (.int .i64 (IntKind.wrap .i64 (Int.fdiv (IntKind.wrap .u64 (IntKind.wrap .i64 (a_2 + b_4))) (2 : Int))))), .c (.val (.int .i64 (IntKind.wrap .i64 ((IntKind.wrap .i64 ((IntKind.wrap .i64 (Int.fdiv (IntKind.wrap .u64 (IntKind.wrap .i64 (a_2 + b_4))) (2 : Int))) + m_3)) - y_185)))), .c (.val (.int .i64 b_4)), .c (.clo 47 [])], [(0, .row (.pair (.int .i64) (.pair (.int .i64) (.int .i64))) y_223)], .tup [], [(0, .row (.pair (.int .i64) (.pair (.int .i64) (.int .i64))) r_118)], [(0, 0)], 1⟩)] [] (calls_cons (ih y_223 (IntKind.wrap .i64 (Int.fdiv (IntKind.wrap .u64 (IntKind.wrap .i64 (a_2 + b_4))) (2 : Int))) (IntKind.wrap .i64 ((IntKind.wrap .i64 ((IntKind.wrap .i64 (Int.fdiv (IntKind.wrap .u64 (IntKind.wrap .i64 (a_2 + b_4))) (2 : Int))) + m_3)) - y_185)) b_4 r_118 h_119) (by kernel_rfl) calls_nil) 1 [] [0] ⟨[], [(0, .row (.pair (.int .i64) (.pair (.int .i64) (.int .i64))) r_118)], 1⟩ [] (by kernel_rfl) rfl rfl ap0 (by kernel_rfl) (by kernel_rfl) ?_
                      have H_240 := Option.some.inj (show some r_118 = some r from H_239); subst H_240
                      refine VL_nil ?_
                      exact P_to [] [(0, .row (.pair (.int .i64) (.pair (.int .i64) (.int .i64))) r_118)] [] hn (by kernel_rfl) (by kernel_rfl) rfl rfl rfl (QF_endS (by kernel_rfl) (by kernel_rfl) rfl)
                    · intro b_117; have H_238 := of_f H_231 b_117
                      refine V_run hN hn 1 1 [0, 3, 4, 18, 24, 213] [0] ⟨[(0, .c (.h 0)), (3, .c (.val (.int .i64 b_4))), (4, .c (.clo 47 [])), (18, .c (.val (.int .i64 (IntKind.wrap .i64 (Int.fdiv (IntKind.wrap .u64 (IntKind.wrap .i64 (a_2 + b_4))) (2 : Int)))))), (24, .c (.val (.int .i64 (IntKind.wrap .i64 ((IntKind.wrap .i64 ((IntKind.wrap .i64 (Int.fdiv (IntKind.wrap .u64 (IntKind.wrap .i64 (a_2 + b_4))) (2 : Int))) + m_3)) - y_185))))), (213, .c (.val (.bool y_232)))], [(0, .row (.pair (.int .i64) (.pair (.int .i64) (.int .i64))) y_223)], 1⟩ [] (by kernel_rfl) rfl rfl ap0 ?_
                      have H_241 := Option.some.inj (show some y_223 = some r from H_238); subst H_241
                      refine VL_nil ?_
                      exact P_to [] [(0, .row (.pair (.int .i64) (.pair (.int .i64) (.int .i64))) y_223)] [] hn (by kernel_rfl) (by kernel_rfl) rfl rfl rfl (QF_endS (by kernel_rfl) (by kernel_rfl) rfl)

theorem slices_symMergeCmpFunc_rgggcspansrowsorted1_spec (K : Nat) (data_1 : (List (Int × (Int × Int)))) (a_2 : Int) (m_3 : Int) (b_4 : Int) (r : (List (Int × (Int × Int)))) (H : slices_symMergeCmpFunc_rgggcspansrowsorted1 K data_1 a_2 m_3 b_4 = some r) : Spec Try.prog 56 1 [.c (.h 0), .c (.val (.int .i64 a_2)), .c (.val (.int .i64 m_3)), .c (.val (.int .i64 b_4)), .c (.clo 47 [])] [(0, .row (.pair (.int .i64) (.pair (.int .i64) (.int .i64))) data_1)] (.tup []) [(0, .row (.pair (.int .i64) (.pair (.int .i64) (.int .i64))) r)] := slices_symMergeCmpFunc_rgggcspansrowsorted1_recspec K K data_1 a_2 m_3 b_4 r H

theorem slices_stableCmpFunc_rgcspansrowsorted1_spec (K : Nat) (data_1 : (List (Int × (Int × Int)))) (n_2 : Int) (r : (List (Int × (Int × Int)))) (H : slices_stableCmpFunc_rgcspansrowsorted1 K data_1 n_2 = some r) : Spec Try.prog 52 1 [.c (.h 0), .c (.val (.int .i64 n_2)), .c (.clo 47 [])] [(0, .row (.pair (.int .i64) (.pair (.int .i64) (.int .i64))) data_1)] (.tup []) [(0, .row (.pair (.int .i64) (.pair (.int .i64) (.int .i64))) r)] := by
  refine Spec_mk (fn := Try.f52) (c := (Try.f52.body).get!) Try.func52 (by kernel_rfl) rfl ?_
  intro C hN hn
  replace hN : C.N = 63 := hN
  unfold slices_stableCmpFunc_rgcspansrowsorted1 at H
  refine V_run hN hn 5 1 [0, 1, 2, 6, 7, 8] [0] ⟨[(0, .c (.h 0)), (1, .c (.val (.int .i64 n_2))), (2, .c (.clo 47 [])), (6, .c (.val (.int .i64 (20 : Int)))), (7, .c (.val (.int .i64 (0 : Int)))), (8, .c (.val (.int .i64 (20 : Int))))], [(0, .row (.pair (.int .i64) (.pair (.int .i64) (.int .i64))) data_1)], 1⟩ [] (by kernel_rfl) rfl rfl ap0 ?_
  obtain ⟨q_111, H_112, H_113⟩ := of_bind H
  refine V_cut (Y := ((List (Int × (Int × Int))) × Int)) (R := ((List (Int × (Int × Int))) × Int)) q_111 (fun y => y) (fun y => [(0, .c (.h 0)), (1, .c (.val (.int .i64 n_2))), (2, .c (.clo 47 [])), (6, .c (.val (.int .i64 (20 : Int)))), (7, .c (.val (.int .i64 y.2)))]) (fun y => [(0, .row (.pair (.int .i64) (.pair (.int .i64) (.int .i64))) y.1)]) ?_ ?_
  · skip
    refine VL_block ?_
    refine V_to [(0, .c (.h 0)), (1, .c (.val (.int .i64 n_2))), (2, .c (.clo 47 [])), (6, .c (.val (.int .i64 (20 : Int)))), (7, .c (.val (.int .i64 (0 : Int)))), (8, .c (.val (.int .i64 (20 : Int))))] [(0, .row (.pair (.int .i64) (.pair (.int .i64) (.int .i64))) data_1)] [] hn (by kernel_rfl) (by kernel_rfl) rfl rfl rfl ?_
    refine VL_loop (X := ((List (Int × (Int × Int))) × Int × Int)) (fun x => [(0, .c (.h 0)), (1, .c (.val (.int .i64 n_2))), (2, .c (.clo 47 [])), (6, .c (.val (.int .i64 (20 : Int)))), (7, .c (.val (.int .i64 x.2.1))), (8, .c (.val (.int .i64 x.2.2)))]) (fun x => [(0, .row (.pair (.int .i64) (.pair (.int .i64) (.int .i64))) x.1)]) (fun k x => slices_stableCmpFunc_rgcspansrowsorted1.l0 K n_2 k x.1 x.2.1 x.2.2 = some q_111) K (data_1, (0 : Int), (20 : Int)) H_112 (fun _ h => no_none h) ?_
    intro k_16 x_16 H_115
    obtain ⟨data_15, a_4, b_5⟩ := x_16
    have H_116 : slices_stableCmpFunc_rgcspansrowsorted1.l0 K n_2 (k_16 + 1) data_15 a_4 b_5 = some q_111 := H_115
    rw [slices_stableCmpFunc_rgcspansrowsorted1.l0] at H_116
    refine V_run hN hn 3 1 [0, 1, 2, 6, 7, 8, 13] [0] ⟨[(0, .c (.h 0)), (1, .c (.val (.int .i64 n_2))), (2, .c (.clo 47 [])), (6, .c (.val (.int .i64 (20 : Int)))), (7, .c (.val (.int .i64 a_4))), (8, .c (.val (.int .i64 b_5))), (13, .c (.val (.bool (decide (b_5 ≤ n_2)))))], [(0, .row (.pair (.int .i64) (.pair (.int .i64) (.int .i64))) data_15)], 1⟩ [] (by kernel_rfl) rfl rfl ap0 ?_
    refine VL_cond ((decide (b_5 ≤ n_2))) (by kernel_rfl) ?_ ?_
    · intro b_18; have H_117 := of_t H_116 b_18
      refine V_run hN hn 1 1 [0, 1, 2, 6, 7, 8, 13] [0] ⟨[(0, .c (.h 0)), (1, .c (.val (.int .i64 n_2))), (2, .c (.clo 47 [])), (6, .c (.val (.int .i64 (20 : Int)))), (7, .c (.val (.int .i64 a_4))), (8, .c (.val (.int .i64 b_5))), (13, .c (.val (.bool (decide (b_5 ≤ n_2)))))], [(0, .row (.pair (.int .i64) (.pair (.int .i64) (.int .i64))) data_15)], 1⟩ [] (by kernel_rfl) rfl rfl ap0 ?_
      refine VL_block ?_
      refine V_run hN hn 1 1 [0, 1, 2, 6, 7, 8, 13] [0] ⟨[(0, .c (.h 0)), (1, .c (.val (.int .i64 n_2))), (2, .c (.clo 47 [])), (6, .c (.val (.int .i64 (20 : Int)))), (7, .c (.val (.int .i64 a_4))), (8, .c (.val (.int .i64 b_5))), (13, .c (.val (.bool (decide (b_5 ≤ n_2)))))], [(0, .row (.pair (.int .i64) (.pair (.int .i64) (.int .i64))) data_15)], 1⟩ [] (by kernel_rfl) rfl rfl ap0 ?_
      obtain ⟨r_21, h_22, H_119⟩ := of_bind H_117
      refine V_reg hN hn [(4, ⟨55, 1, [.c (.h 0), .c (.val (.int .i64 a_4)), .c (.val (.int .i64 b_5)), .c (.clo 47 [])], [(0, .row (.pair (.int .i64) (.pair (.int .i64) (.int .i64))) data_15)], .tup [], [(0, .row (.pair (.int .i64) (.pair (.int .i64) (.int .i64))) r_21)], [(0, 0)], 1⟩)] [] (calls_cons (slices_insertionSortCmpFunc_rggcspansrowsorted1_spec K data_15 a_4 b_5 r_21 h_22) (by kernel_rfl) calls_nil) 1 [0, 1, 2, 6, 8] [0] ⟨[(0, .c (.h 0)), (1, .c (.val (.int .i64 n_2))), (2, .c (.clo 47 [])), (6, .c (.val (.int .i64 (20 : Int)))), (8, .c (.val (.int .i64 b_5)))], [(0, .row (.pair (.int .i64) (.pair (.int .i64) (.int .i64))) r_21)], 1⟩ [] (by kernel_rfl) rfl rfl ap0 (by kernel_rfl) (by kernel_rfl) ?_
      refine V_run hN hn 3 1 [0, 1, 2, 6, 7, 8] [0] ⟨[(0, .c (.h 0)), (1, .c (.val (.int .i64 n_2))), (2, .c (.clo 47 [])), (6, .c (.val (.int .i64 (20 : Int)))), (7, .c (.val (.int .i64 b_5))), (8, .c (.val (.int .i64 (IntKind.wrap .i64 (b_5 + (20 : Int))))))], [(0, .row (.pair (.int .i64) (.pair (.int .i64) (.int .i64))) r_21)], 1⟩ [] (by kernel_rfl) rfl rfl ap0 ?_
      refine VL_nil (QB_end ?_)
      refine VL_nil ?_
      exact V_roundEnd (r_21, b_5, (IntKind.wrap .i64 (b_5 + (20 : Int)))) H_119 [] hn (by kernel_rfl) (by kernel_rfl) rfl rfl rfl
    · intro b_18; have H_118 := of_f H_116 b_18
      refine VL_exit ?_
      refine QL_exit ?_
      refine QB_here ?_
      have H_120 := Option.some.inj (show some (data_15, a_4) = some q_111 from H_118); subst H_120
      refine VL_nil ?_
      exact QP_end (data_15, a_4) rfl [] hn (by kernel_rfl) (by kernel_rfl) rfl rfl rfl
  · intro y_114 hy; subst hy
    obtain ⟨data_25, a_26⟩ := y_114
    refine V_run hN hn 1 1 [0, 1, 2, 6, 7] [0] ⟨[(0, .c (.h 0)), (1, .c (.val (.int .i64 n_2))), (2, .c (.clo 47 [])), (6, .c (.val (.int .i64 (20 : Int)))), (7, .c (.val (.int .i64 a_26)))], [(0, .row (.pair (.int .i64) (.pair (.int .i64) (.int .i64))) data_25)], 1⟩ [] (by kernel_rfl) rfl rfl ap0 ?_
    obtain ⟨r_28, h_29, H_121⟩ := of_bind H_113
    refine V_reg hN hn [(4, ⟨55, 1, [.c (.h 0), .c (.val (.int .i64 a_26)), .c (.val (.int .i64 n_2)), .c (.clo 47 [])], [(0, .row (.pair (.int .i64) (.pair (.int .i64) (.int .i64))) data_25)], .tup [], [(0, .row (.pair (.int .i64) (.pair (.int .i64) (.int .i64))) r_28)], [(0, 0)], 1⟩)] [] (calls_cons (slices_insertionSortCmpFunc_rggcspansrowsorted1_spec K data_25 a_26 n_2 r_28 h_29) (by kernel_rfl) calls_nil) 1 [0, 1, 2, 6] [0] ⟨[(0, .c (.h 0)), (1, .c (.val (.int .i64 n_2))), (2, .c (.clo 47 [])), (6, .c (.val (.int .i64 (20 : Int))))], [(0, .row (.pair (.int .i64) (.pair (.int .i64) (.int .i64))) r_28)], 1⟩ [] (by kernel_rfl) rfl rfl ap0 (by kernel_rfl) (by kernel_rfl) ?_
    refine VL_block ?_
    refine V_to [(0, .c (.h 0)), (1, .c (.val (.int .i64 n_2))), (2, .c (.clo 47 [])), (6, .c (.val (.int .i64 (20 : Int))))] [(0, .row (.pair (.int .i64) (.pair (.int .i64) (.int .i64))) r_28)] [] hn (by kernel_rfl) (by kernel_rfl) rfl rfl rfl ?_
    refine VL_loop (X := ((List (Int × (Int × Int))) × Int)) (fun x => [(0, .c (.h 0)), (1, .c (.val (.int .i64 n_2))), (2, .c (.clo 47 [])), (6, .c (.val (.int .i64 x.2)))]) (fun x => [(0, .row (.pair (.int .i64) (.pair (.int .i64) (.int .i64))) x.1)]) (fun k x => slices_stableCmpFunc_rgcspansrowsorted1.l1 K n_2 k x.1 x.2 = some r) K (r_28, (20 : Int)) H_121 (fun _ h => no_none h) ?_
    intro k_69 x_69 H_122
    obtain ⟨data_68, blockSize_31⟩ := x_69
    have H_123 : slices_stableCmpFunc_rgcspansrowsorted1.l1 K n_2 (k_69 + 1) data_68 blockSize_31 = some r := H_122
    rw [slices_stableCmpFunc_rgcspansrowsorted1.l1] at H_123
    refine V_run hN hn 3 1 [0, 1, 2, 6, 30] [0] ⟨[(0, .c (.h 0)), (1, .c (.val (.int .i64 n_2))), (2, .c (.clo 47 [])), (6, .c (.val (.int .i64 blockSize_31))), (30, .c (.val (.bool (decide (blockSize_31 < n_2)))))], [(0, .row (.pair (.int .i64) (.pair (.int .i64) (.int .i64))) data_68)], 1⟩ [] (by kernel_rfl) rfl rfl ap0 ?_
    refine VL_cond ((decide (blockSize_31 < n_2))) (by kernel_rfl) ?_ ?_
    · intro b_71; have H_124 := of_t H_123 b_71
      refine V_run hN hn 1 1 [0, 1, 2, 6, 30] [0] ⟨[(0, .c (.h 0)), (1, .c (.val (.int .i64 n_2))), (2, .c (.clo 47 [])), (6, .c (.val (.int .i64 blockSize_31))), (30, .c (.val (.bool (decide (blockSize_31 < n_2)))))], [(0, .row (.pair (.int .i64) (.pair (.int .i64) (.int .i64))) data_68)], 1⟩ [] (by kernel_rfl) rfl rfl ap0 ?_
      obtain ⟨q_126, H_127, H_128⟩ := of_bind H_124
      refine V_cut (Y := (List (Int × (Int × Int)))) (R := (List (Int × (Int × Int)))) q_126 (fun y => y) (fun y => [(0, .c (.h 0)), (1, .c (.val (.int .i64 n_2))), (2, .c (.clo 47 [])), (6, .c (.val (.int .i64 (IntKind.wrap .i64 (blockSize_31 * (2 : Int))))))]) (fun y => [(0, .row (.pair (.int .i64) (.pair (.int .i64) (.int .i64))) y)]) ?_ ?_
      · skip
        refine VL_block ?_
        refine V_run hN hn 3 1 [0, 1, 2, 6, 7, 8] [0] ⟨[(0, .c (.h 0)), (1, .c (.val (.int .i64 n_2))), (2, .c (.clo 47 [])), (6, .c (.val (.int .i64 blockSize_31))), (7, .c (.val (.int .i64 (0 : Int)))), (8, .c (.val (.int .i64 (IntKind.wrap .i64 ((2 : Int) * blockSize_31)))))], [(0, .row (.pair (.int .i64) (.pair (.int .i64) (.int .i64))) data_68)], 1⟩ [] (by kernel_rfl) rfl rfl ap0 ?_
        obtain ⟨q_130, H_131, H_132⟩ := of_bind H_127
        refine V_cut (Y := ((List (Int × (Int × Int))) × Int)) (R := ((List (Int × (Int × Int))) × Int)) q_130 (fun y => y) (fun y => [(0, .c (.h 0)), (1, .c (.val (.int .i64 n_2))), (2, .c (.clo 47 [])), (6, .c (.val (.int .i64 blockSize_31))), (7, .c (.val (.int .i64 y.2)))]) (fun y => [(0, .row (.pair (.int .i64) (.pair (.int .i64) (.int .i64))) y.1)]) ?_ ?_
        · skip
          refine VL_block ?_
          refine V_to [(0, .c (.h 0)), (1, .c (.val (.int .i64 n_2))), (2, .c (.clo 47 [])), (6, .c (.val (.int .i64 blockSize_31))), (7, .c (.val (.int .i64 (0 : Int)))), (8, .c (.val (.int .i64 (IntKind.wrap .i64 ((2 : Int) * blockSize_31)))))] [(0, .row (.pair (.int .i64) (.pair (.int .i64) (.int .i64))) data_68)] [] hn (by kernel_rfl) (by kernel_rfl) rfl rfl rfl ?_
          refine VL_loop (X := ((List (Int × (Int × Int))) × Int × Int)) (fun x => [(0, .c (.h 0)), (1, .c (.val (.int .i64 n_2))), (2, .c (.clo 47 [])), (6, .c (.val (.int .i64 blockSize_31))), (7, .c (.val (.int .i64 x.2.1))), (8, .c (.val (.int .i64 x.2.2)))]) (fun x => [(0, .row (.pair (.int .i64) (.pair (.int .i64) (.int .i64))) x.1)]) (fun k x => slices_stableCmpFunc_rgcspansrowsorted1.l2 K n_2 blockSize_31 k x.1 x.2.1 x.2.2 = some q_130) K (data_68, (0 : Int), (IntKind.wrap .i64 ((2 : Int) * blockSize_31))) H_131 (fun _ h => no_none h) ?_
          intro k_86 x_86 H_134
          obtain ⟨data_85, a_74, b_75⟩ := x_86
          have H_135 : slices_stableCmpFunc_rgcspansrowsorted1.l2 K n_2 blockSize_31 (k_86 + 1) data_85 a_74 b_75 = some q_130 := H_134
          rw [slices_stableCmpFunc_rgcspansrowsorted1.l2] at H_135
          refine V_run hN hn 3 1 [0, 1, 2, 6, 7, 8, 35] [0] ⟨[(0, .c (.h 0)), (1, .c (.val (.int .i64 n_2))), (2, .c (.clo 47 [])), (6, .c (.val (.int .i64 blockSize_31))), (7, .c (.val (.int .i64 a_74))), (8, .c (.val (.int .i64 b_75))), (35, .c (.val (.bool (decide (b_75 ≤ n_2)))))], [(0, .row (.pair (.int .i64) (.pair (.int .i64) (.int .i64))) data_85)], 1⟩ [] (by kernel_rfl) rfl rfl ap0 ?_
          refine VL_cond ((decide (b_75 ≤ n_2))) (by kernel_rfl) ?_ ?_
          · intro b_88; have H_136 := of_t H_135 b_88
            refine V_run hN hn 1 1 [0, 1, 2, 6, 7, 8, 35] [0] ⟨[(0, .c (.h 0)), (1, .c (.val (.int .i64 n_2))), (2, .c (.clo 47 [])), (6, .c (.val (.int .i64 blockSize_31))), (7, .c (.val (.int .i64 a_74))), (8, .c (.val (.int .i64 b_75))), (35, .c (.val (.bool (decide (b_75 ≤ n_2)))))], [(0, .row (.pair (.int .i64) (.pair (.int .i64) (.int .i64))) data_85)], 1⟩ [] (by kernel_rfl) rfl rfl ap0 ?_
            refine VL_block ?_
            refine V_run hN hn 1 1 [0, 1, 2, 6, 7, 8, 35] [0] ⟨[(0, .c (.h 0)), (1, .c (.val (.int .i64 n_2))), (2, .c (.clo 47 [])), (6, .c (.val (.int .i64 blockSize_31))), (7, .c (.val (.int .i64 a_74))), (8, .c (.val (.int .i64 b_75))), (35, .c (.val (.bool (decide (b_75 ≤ n_2)))))], [(0, .row (.pair (.int .i64) (.pair (.int .i64) (.int .i64))) data_85)], 1⟩ [] (by kernel_rfl) rfl rfl ap0 ?_
            obtain ⟨r_91, h_92, H_138⟩ := of_bind H_136
            refine V_reg hN hn [(7, ⟨56, 1, [.c (.h 0), .c (.val (.int .i64 a_74)), .c (.val (.int .i64 (IntKind.wrap .i64 (a_74 + blockSize_31)))), .c (.val (.int .i64 b_75)), .c (.clo 47 [])], [(0, .row (.pair (.int .i64) (.pair (.int .i64) (.int .i64))) data_85)], .tup [], [(0, .row (.pair (.int .i64) (.pair (.int .i64) (.int .i64))) r_91)], [(0, 0)], 1⟩)] [] (calls_cons (slices_symMergeCmpFunc_rgggcspansrowsorted1_spec K data_85 a_74 (IntKind.wrap .i64 (a_74 + blockSize_31)) b_75 r_91 h_92) (by kernel_rfl) calls_nil) 1 [0, 1, 2, 6, 8] [0] ⟨[(0, .c (.h 0)), (1, .c (.val (.int .i64 n_2))), (2, .c (.clo 47 [])), (6, .c (.val (.int .i64 blockSize_31))), (8, .c (.val (.int .i64 b_75)))], [(0, .row (.pair (.int .i64) (.pair (.int .i64) (.int .i64))) r_91)], 1⟩ [] (by kernel_rfl) rfl rfl ap0 (by kernel_rfl) (by kernel_rfl) ?_
            refine V_run hN hn 3 1 [0, 1, 2, 6, 7, 8] [0] ⟨[(0, .c (.h 0)), (1, .c (.val (.int .i64 n_2))), (2, .c (.clo 47 [])), (6, .c (.val (.int .i64 blockSize_31))), (7, .c (.val (.int .i64 b_75))), (8, .c (.val (.int .i64 (IntKind.wrap .i64 (b_75 + (IntKind.wrap .i64 ((2 : Int) * blockSize_31)))))))], [(0, .row (.pair (.int .i64) (.pair (.int .i64) (.int .i64))) r_91)], 1⟩ [] (by kernel_rfl) rfl rfl ap0 ?_
            refine VL_nil (QB_end ?_)
            refine VL_nil ?_
            exact V_roundEnd (r_91, b_75, (IntKind.wrap .i64 (b_75 + (IntKind.wrap .i64 ((2 : Int) * blockSize_31))))) H_138 [] hn (by kernel_rfl) (by kernel_rfl) rfl rfl rfl
          · intro b_88; have H_137 := of_f H_135 b_88
            refine VL_exit ?_
            refine QL_exit ?_
            refine QB_here ?_
            have H_139 := Option.some.inj (show some (data_85, a_74) = some q_130 from H_137); subst H_139
            refine VL_nil ?_
            exact QP_end (data_85, a_74) rfl [] hn (by kernel_rfl) (by kernel_rfl) rfl rfl rfl
        · intro y_133 hy; subst hy
          obtain ⟨data_95, a_96⟩ := y_133
          refine V_run hN hn 5 1 [0, 1, 2, 6, 7, 9, 54] [0] ⟨[(0, .c (.h 0)), (1, .c (.val (.int .i64 n_2))), (2, .c (.clo 47 [])), (6, .c (.val (.int .i64 blockSize_31))), (7, .c (.val (.int .i64 a_96))), (9, .c (.val (.int .i64 (IntKind.wrap .i64 (a_96 + blockSize_31))))), (54, .c (.val (.bool (decide ((IntKind.wrap .i64 (a_96 + blockSize_31)) < n_2)))))], [(0, .row (.pair (.int .i64) (.pair (.int .i64) (.int .i64))) data_95)], 1⟩ [] (by kernel_rfl) rfl rfl ap0 ?_
          refine VL_cond ((decide ((IntKind.wrap .i64 (a_96 + blockSize_31)) < n_2))) (by kernel_rfl) ?_ ?_
          · intro b_98; have H_140 := of_t H_132 b_98
            obtain ⟨r_99, h_100, H_142⟩ := of_bind H_140
            refine V_reg hN hn [(5, ⟨56, 1, [.c (.h 0), .c (.val (.int .i64 a_96)), .c (.val (.int .i64 (IntKind.wrap .i64 (a_96 + blockSize_31)))), .c (.val (.int .i64 n_2)), .c (.clo 47 [])], [(0, .row (.pair (.int .i64) (.pair (.int .i64) (.int .i64))) data_95)], .tup [], [(0, .row (.pair (.int .i64) (.pair (.int .i64) (.int .i64))) r_99)], [(0, 0)], 1⟩)] [] (calls_cons (slices_symMergeCmpFunc_rgggcspansrowsorted1_spec K data_95 a_96 (IntKind.wrap .i64 (a_96 + blockSize_31)) n_2 r_99 h_100) (by kernel_rfl) calls_nil) 1 [0, 1, 2, 6] [0] ⟨[(0, .c (.h 0)), (1, .c (.val (.int .i64 n_2))), (2, .c (.clo 47 [])), (6, .c (.val (.int .i64 blockSize_31)))], [(0, .row (.pair (.int .i64) (.pair (.int .i64) (.int .i64))) r_99)], 1⟩ [] (by kernel_rfl) rfl rfl ap0 (by kernel_rfl) (by kernel_rfl) ?_
            refine V_run hN hn 1 1 [0, 1, 2, 6] [0] ⟨[(0, .c (.h 0)), (1, .c (.val (.int .i64 n_2))), (2, .c (.clo 47 [])), (6, .c (.val (.int .i64 (IntKind.wrap .i64 (blockSize_31 * (2 : Int))))))], [(0, .row (.pair (.int .i64) (.pair (.int .i64) (.int .i64))) r_99)], 1⟩ [] (by kernel_rfl) rfl rfl ap0 ?_
            refine VL_nil (QB_end ?_)
            have H_143 := Option.some.inj (show some r_99 = some q_126 from H_142); subst H_143
            refine VL_nil ?_
            exact QP_end r_99 rfl [] hn (by kernel_rfl) (by kernel_rfl) rfl rfl rfl
          · intro b_98; have H_141 := of_f H_132 b_98
            refine V_run hN hn 2 1 [0, 1, 2, 6] [0] ⟨[(0, .c (.h 0)), (1, .c (.val (.int .i64 n_2))), (2, .c (.clo 47 [])), (6, .c (.val (.int .i64 (IntKind.wrap .i64 (blockSize_31 * (2 : Int))))))], [(0, .row (.pair (.int .i64) (.pair (.int .i64) (.int .i64))) data_95)], 1⟩ [] (by kernel_rfl) rfl rfl ap0 ?_
            refine VL_nil (QB_end ?_)
            have H_144 := Option.some.inj (show some data_95 = some q_126 from H_141); subst H_144
            refine VL_nil ?_
            exact QP_end data_95 rfl [] hn (by kernel_rfl) (by kernel_rfl) rfl rfl rfl
      · intro y_129 hy; subst hy
        skip
        skip
        refine VL_nil ?_
        exact V_roundEnd (y_129, (IntKind.wrap .i64 (blockSize_31 * (2 : Int)))) H_128 [] hn (by kernel_rfl) (by kernel_rfl) rfl rfl rfl
    · intro b_71; have H_125 := of_f H_123 b_71
      refine VL_exit ?_
      refine QL_exit ?_
      refine QB_here ?_
      have H_145 := Option.some.inj (show some data_68 = some r from H_125); subst H_145
      refine VL_nil ?_
      exact P_to [] [(0, .row (.pair (.int .i64) (.pair (.int .i64) (.int .i64))) data_68)] [] hn (by kernel_rfl) (by kernel_rfl) rfl rfl rfl (QF_endS (by kernel_rfl) (by kernel_rfl) rfl)

theorem slices_SortStableFunc_rcspansrowsorted1_spec (K : Nat) (x_1 : (List (Int × (Int × Int)))) (r : (List (Int × (Int × Int)))) (H : slices_SortStableFunc_rcspansrowsorted1 K x_1 = some r) : Spec Try.prog 46 1 [.c (.h 0), .c (.clo 47 [])] [(0, .row (.pair (.int .i64) (.pair (.int .i64) (.int .i64))) x_1)] (.tup []) [(0, .row (.pair (.int .i64) (.pair (.int .i64) (.int .i64))) r)] := by
  refine Spec_mk (fn := Try.f46) (c := (Try.f46.body).get!) Try.func46 (by kernel_rfl) rfl ?_
  intro C hN hn
  replace hN : C.N = 9 := hN
  unfold slices_SortStableFunc_rcspansrowsorted1 at H
  obtain ⟨r_2, h_3, H_6⟩ := of_bind H
  refine V_reg hN hn [(4, ⟨52, 1, [.c (.h 0), .c (.val (.int .i64 (((List.length x_1) : Nat) : Int))), .c (.clo 47 [])], [(0, .row (.pair (.int .i64) (.pair (.int .i64) (.int .i64))) x_1)], .tup [], [(0, .row (.pair (.int .i64) (.pair (.int .i64) (.int .i64))) r_2)], [(0, 0)], 1⟩)] [] (calls_cons (slices_stableCmpFunc_rgcspansrowsorted1_spec K x_1 (((List.length x_1) : Nat) : Int) r_2 h_3) (by kernel_rfl) calls_nil) 1 [] [0] ⟨[], [(0, .row (.pair (.int .i64) (.pair (.int .i64) (.int .i64))) r_2)], 1⟩ [] (by kernel_rfl) rfl rfl ap0 (by kernel_rfl) (by kernel_rfl) ?_
  have H_7 := Option.some.inj (show some r_2 = some r from H_6); subst H_7
  refine VL_nil ?_
  exact P_to [] [(0, .row (.pair (.int .i64) (.pair (.int .i64) (.int .i64))) r_2)] [] hn (by kernel_rfl) (by kernel_rfl) rfl rfl rfl (QF_endS (by kernel_rfl) (by kernel_rfl) rfl)

theorem spans_row_sorted_r_spec (K : Nat) (r_1 : (List (Int × (Int × Int)))) (r : ((List (Int × (Int × Int))) × (List (Int × (Int × Int))))) (H : spans_row_sorted_r K r_1 = some r) : Spec Try.prog 37 1 [.c (.h 0)] [(0, .row (.pair (.int .i64) (.pair (.int .i64) (.int .i64))) r_1)] (.c (.h 5)) [(0, .row (.pair (.int .i64) (.pair (.int .i64) (.int .i64))) r.2), (5, .row (.pair (.int .i64) (.pair (.int .i64) (.int .i64))) r.1)] := by
  refine Spec_mk (fn := Try.f37) (c := (Try.f37.body).get!) Try.func37 (by kernel_rfl) rfl ?_
  intro C hN hn
  replace hN : C.N = 52 := hN
  unfold spans_row_sorted_r at H
  refine V_run hN hn 3 1 [0] [0] ⟨[(0, .c (.h 0))], [(0, .row (.pair (.int .i64) (.pair (.int .i64) (.int .i64))) r_1)], 1⟩ [] (by kernel_rfl) rfl rfl ap0 ?_
  obtain ⟨r_3, h_4, H_47⟩ := of_bind H
  refine V_reg hN hn [(1, ⟨46, 1, [.c (.h 0), .c (.clo 47 [])], [(0, .row (.pair (.int .i64) (.pair (.int .i64) (.int .i64))) r_1)], .tup [], [(0, .row (.pair (.int .i64) (.pair (.int .i64) (.int .i64))) r_3)], [(0, 0)], 1⟩)] [] (calls_cons (slices_SortStableFunc_rcspansrowsorted1_spec K r_1 r_3 h_4) (by kernel_rfl) calls_nil) 1 [0] [0] ⟨[(0, .c (.h 0))], [(0, .row (.pair (.int .i64) (.pair (.int .i64) (.int .i64))) r_3)], 1⟩ [] (by kernel_rfl) rfl rfl ap0 (by kernel_rfl) (by kernel_rfl) ?_
  refine V_run hN hn 5 1 [3, 9, 10, 11] [0] ⟨[(3, .c (.val (.slice none 0 0))), (9, .c (.h 0)), (10, .c (.val (.int .i64 (((List.length r_3) : Nat) : Int)))), (11, .c (.val (.int .i64 (0 : Int))))], [(0, .row (.pair (.int .i64) (.pair (.int .i64) (.int .i64))) r_3)], 1⟩ [] (by kernel_rfl) rfl rfl ap0 ?_
  refine VL_block ?_
  refine V_ghost [.nilSlot 3 (.pair (.int .i64) (.pair (.int .i64) (.int .i64)))] 1 hn [3, 9, 10, 11] [0, 1] ⟨[(3, .c (.h 1)), (9, .c (.h 0)), (10, .c (.val (.int .i64 (((List.length r_3) : Nat) : Int)))), (11, .c (.val (.int .i64 (0 : Int))))], [(0, .row (.pair (.int .i64) (.pair (.int .i64) (.int .i64))) r_3), (1, .row (.pair (.int .i64) (.pair (.int .i64) (.int .i64))) ([] : List (Int × (Int × Int))))], 2⟩ (by kernel_rfl) rfl rfl ?_
  refine V_to [(3, .c (.h 5)), (9, .c (.h 0)), (10, .c (.val (.int .i64 (((List.length r_3) : Nat) : Int)))), (11, .c (.val (.int .i64 (0 : Int))))] [(0, .row (.pair (.int .i64) (.pair (.int .i64) (.int .i64))) r_3), (5, .row (.pair (.int .i64) (.pair (.int .i64) (.int .i64))) ([] : List (Int × (Int × Int))))] [(5, 1)] hn (by kernel_rfl) (by kernel_rfl) rfl rfl rfl ?_
  refine VL_loop (X := ((List (Int × (Int × Int))) × Int)) (fun x => [(3, .c (.h 5)), (9, .c (.h 0)), (10, .c (.val (.int .i64 (((List.length r_3) : Nat) : Int)))), (11, .c (.val (.int .i64 x.2)))]) (fun x => [(0, .row (.pair (.int .i64) (.pair (.int .i64) (.int .i64))) r_3), (5, .row (.pair (.int .i64) (.pair (.int .i64) (.int .i64))) x.1)]) (fun k x => spans_row_sorted_r.l0 K r_3 k x.1 x.2 = some r) K (([] : List (Int × (Int × Int))), (0 : Int)) H_47 (fun _ h => no_none h) ?_
  intro k_26 x_26 H_48
  obtain ⟨out_25, t_7⟩ := x_26
  have H_49 : spans_row_sorted_r.l0 K r_3 (k_26 + 1) out_25 t_7 = some r := H_48
  rw [spans_row_sorted_r.l0] at H_49
  refine V_run hN hn 3 6 [3, 9, 10, 11, 12] [0, 5] ⟨[(3, .c (.h 5)), (9, .c (.h 0)), (10, .c (.val (.int .i64 (((List.length r_3) : Nat) : Int)))), (11, .c (.val (.int .i64 t_7))), (12, .c (.val (.bool (decide (t_7 < (((List.length r_3) : Nat) : Int))))))], [(0, .row (.pair (.int .i64) (.pair (.int .i64) (.int .i64))) r_3), (5, .row (.pair (.int .i64) (.pair (.int .i64) (.int .i64))) out_25)], 6⟩ [] (by kernel_rfl) rfl rfl ap0 ?_
  refine VL_cond ((decide (t_7 < (((List.length r_3) : Nat) : Int)))) (by kernel_rfl) ?_ ?_
  · intro b_28; have H_50 := of_t H_49 b_28
    refine V_run hN hn 2 6 [3, 9, 10, 11, 12] [0, 5] ⟨[(3, .c (.h 5)), (9, .c (.h 0)), (10, .c (.val (.int .i64 (((List.length r_3) : Nat) : Int)))), (11, .c (.val (.int .i64 t_7))), (12, .c (.val (.bool (decide (t_7 < (((List.length r_3) : Nat) : Int))))))], [(0, .row (.pair (.int .i64) (.pair (.int .i64) (.int .i64))) r_3), (5, .row (.pair (.int .i64) (.pair (.int .i64) (.int .i64))) out_25)], 6⟩ [] (by kernel_rfl) rfl rfl ap0 ?_
    refine VL_block ?_
    obtain ⟨c_30, H_52⟩ := of_if H_50
    refine V_run hN hn 6 6 [3, 5, 6, 9, 10, 11] [0, 5, 6] ⟨[(3, .c (.h 5)), (5, .c (.h 6)), (6, .c (.val (.int .i64 (IntKind.wrap .i64 ((((List.length out_25) : Nat) : Int) - (1 : Int)))))), (9, .c (.h 0)), (10, .c (.val (.int .i64 (((List.length r_3) : Nat) : Int)))), (11, .c (.val (.int .i64 t_7)))], [(0, .row (.pair (.int .i64) (.pair (.int .i64) (.int .i64))) r_3), (5, .row (.pair (.int .i64) (.pair (.int .i64) (.int .i64))) out_25), (6, .box [.val (.int .i64 (List.getD r_3 (Int.toNat t_7) ((0 : Int), ((0 : Int), (0 : Int)))).1), .val (.int .i64 (List.getD r_3 (Int.toNat t_7) ((0 : Int), ((0 : Int), (0 : Int)))).2.1), .val (.int .i64 (List.getD r_3 (Int.toNat t_7) ((0 : Int), ((0 : Int), (0 : Int)))).2.2)])], 7⟩ [0 ≤ t_7, t_7 < (((List.length r_3) : Nat) : Int)] (by kernel_rfl) rfl rfl (ap2 c_30.1 (ap1 c_30.2)) ?_
    obtain ⟨q_53, H_54, H_55⟩ := of_bind H_52
    refine V_cut (Y := Bool) (R := Bool) q_53 (fun y => y) (fun y => [(3, .c (.h 5)), (5, .c (.h 6)), (6, .c (.val (.int .i64 (IntKind.wrap .i64 ((((List.length out_25) : Nat) : Int) - (1 : Int)))))), (9, .c (.h 0)), (10, .c (.val (.int .i64 (((List.length r_3) : Nat) : Int)))), (11, .c (.val (.int .i64 t_7))), (39, .c (.val (.bool y)))]) (fun y => [(0, .row (.pair (.int .i64) (.pair (.int .i64) (.int .i64))) r_3), (5, .row (.pair (.int .i64) (.pair (.int .i64) (.int .i64))) out_25), (6, .box [.val (.int .i64 (List.getD r_3 (Int.toNat t_7) ((0 : Int), ((0 : Int), (0 : Int)))).1), .val (.int .i64 (List.getD r_3 (Int.toNat t_7) ((0 : Int), ((0 : Int), (0 : Int)))).2.1), .val (.int .i64 (List.getD r_3 (Int.toNat t_7) ((0 : Int), ((0 : Int), (0 : Int)))).2.2)])]) ?_ ?_
    · skip
      rcases Bool.eq_false_or_eq_true ((decide ((IntKind.wrap .i64 ((((List.length out_25) : Nat) : Int) - (1 : Int))) ≥ (0 : Int)))) with b_31 | b_31
      · have H_57 := of_t H_54 b_31
        rcases Bool.eq_false_or_eq_true (((List.getD out_25 (Int.toNat (IntKind.wrap .i64 ((((List.length out_25) : Nat) : Int) - (1 : Int)))) ((0 : Int), ((0 : Int), (0 : Int)))).2.2 == (List.getD r_3 (Int.toNat t_7) ((0 : Int), ((0 : Int), (0 : Int)))).2.2)) with b_32 | b_32
        · have H_59 := of_t H_57 b_32
          obtain ⟨c_33, H_61⟩ := of_if H_59
          refine V_draw hN hn (by kernel_rfl) [] [(20, true), (30, true)] calls_nil 7 [3, 5, 6, 9, 10, 11, 39] [0, 5, 6] ⟨[(3, .c (.h 5)), (5, .c (.h 6)), (6, .c (.val (.int .i64 (IntKind.wrap .i64 ((((List.length out_25) : Nat) : Int) - (1 : Int)))))), (9, .c (.h 0)), (10, .c (.val (.int .i64 (((List.length r_3) : Nat) : Int)))), (11, .c (.val (.int .i64 t_7))), (39, .c (.val (.bool ((List.getD out_25 (Int.toNat (IntKind.wrap .i64 ((((List.length out_25) : Nat) : Int) - (1 : Int)))) ((0 : Int), ((0 : Int), (0 : Int)))).2.1 == (List.getD r_3 (Int.toNat t_7) ((0 : Int), ((0 : Int), (0 : Int)))).1))))], [(0, .row (.pair (.int .i64) (.pair (.int .i64) (.int .i64))) r_3), (5, .row (.pair (.int .i64) (.pair (.int .i64) (.int .i64))) out_25), (6, .box [.val (.int .i64 (List.getD r_3 (Int.toNat t_7) ((0 : Int), ((0 : Int), (0 : Int)))).1), .val (.int .i64 (List.getD r_3 (Int.toNat t_7) ((0 : Int), ((0 : Int), (0 : Int)))).2.1), .val (.int .i64 (List.getD r_3 (Int.toNat t_7) ((0 : Int), ((0 : Int), (0 : Int)))).2.2)])], 7⟩ [(decide ((IntKind.wrap .i64 ((((List.length out_25) : Nat) : Int) - (1 : Int))) ≥ (0 : Int))) = true, 0 ≤ (IntKind.wrap .i64 ((((List.length out_25) : Nat) : Int) - (1 : Int))), (IntKind.wrap .i64 ((((List.length out_25) : Nat) : Int) - (1 : Int))) < (((List.length out_25) : Nat) : Int), ((List.getD out_25 (Int.toNat (IntKind.wrap .i64 ((((List.length out_25) : Nat) : Int) - (1 : Int)))) ((0 : Int), ((0 : Int), (0 : Int)))).2.2 == (List.getD r_3 (Int.toNat t_7) ((0 : Int), ((0 : Int), (0 : Int)))).2.2) = true, 0 ≤ (IntKind.wrap .i64 ((((List.length out_25) : Nat) : Int) - (1 : Int))), (IntKind.wrap .i64 ((((List.length out_25) : Nat) : Int) - (1 : Int))) < (((List.length out_25) : Nat) : Int)] (by kernel_rfl) rfl rfl (ap2 b_31 (ap2 c_33.1 (ap2 c_33.2 (ap2 b_32 (ap2 c_33.1 (ap1 c_33.2)))))) (by kernel_rfl) (by kernel_rfl) ?_
          have H_62 := Option.some.inj (show some ((List.getD out_25 (Int.toNat (IntKind.wrap .i64 ((((List.length out_25) : Nat) : Int) - (1 : Int)))) ((0 : Int), ((0 : Int), (0 : Int)))).2.1 == (List.getD r_3 (Int.toNat t_7) ((0 : Int), ((0 : Int), (0 : Int)))).1) = some q_53 from H_61); subst H_62
          refine VL_nil ?_
          exact QP_end ((List.getD out_25 (Int.toNat (IntKind.wrap .i64 ((((List.length out_25) : Nat) : Int) - (1 : Int)))) ((0 : Int), ((0 : Int), (0 : Int)))).2.1 == (List.getD r_3 (Int.toNat t_7) ((0 : Int), ((0 : Int), (0 : Int)))).1) rfl [(5, 5), (6, 6)] hn (by kernel_rfl) (by kernel_rfl) rfl rfl rfl
        · have H_60 := of_f H_57 b_32
          obtain ⟨c_34, H_63⟩ := of_if H_60
          refine V_draw hN hn (by kernel_rfl) [] [(20, true), (30, false)] calls_nil 7 [3, 5, 6, 9, 10, 11, 39] [0, 5, 6] ⟨[(3, .c (.h 5)), (5, .c (.h 6)), (6, .c (.val (.int .i64 (IntKind.wrap .i64 ((((List.length out_25) : Nat) : Int) - (1 : Int)))))), (9, .c (.h 0)), (10, .c (.val (.int .i64 (((List.length r_3) : Nat) : Int)))), (11, .c (.val (.int .i64 t_7))), (39, .c (.val (.bool false)))], [(0, .row (.pair (.int .i64) (.pair (.int .i64) (.int .i64))) r_3), (5, .row (.pair (.int .i64) (.pair (.int .i64) (.int .i64))) out_25), (6, .box [.val (.int .i64 (List.getD r_3 (Int.toNat t_7) ((0 : Int), ((0 : Int), (0 : Int)))).1), .val (.int .i64 (List.getD r_3 (Int.toNat t_7) ((0 : Int), ((0 : Int), (0 : Int)))).2.1), .val (.int .i64 (List.getD r_3 (Int.toNat t_7) ((0 : Int), ((0 : Int), (0 : Int)))).2.2)])], 7⟩ [(decide ((IntKind.wrap .i64 ((((List.length out_25) : Nat) : Int) - (1 : Int))) ≥ (0 : Int))) = true, 0 ≤ (IntKind.wrap .i64 ((((List.length out_25) : Nat) : Int) - (1 : Int))), (IntKind.wrap .i64 ((((List.length out_25) : Nat) : Int) - (1 : Int))) < (((List.length out_25) : Nat) : Int), ((List.getD out_25 (Int.toNat (IntKind.wrap .i64 ((((List.length out_25) : Nat) : Int) - (1 : Int)))) ((0 : Int), ((0 : Int), (0 : Int)))).2.2 == (List.getD r_3 (Int.toNat t_7) ((0 : Int), ((0 : Int), (0 : Int)))).2.2) = false] (by kernel_rfl) rfl rfl (ap2 b_31 (ap2 c_34.1 (ap2 c_34.2 (ap1 b_32)))) (by kernel_rfl) (by kernel_rfl) ?_
          have H_64 := Option.some.inj (show some false = some q_53 from H_63); subst H_64
          refine VL_nil ?_
          exact QP_end false rfl [(5, 5), (6, 6)] hn (by kernel_rfl) (by kernel_rfl) rfl rfl rfl
      · have H_58 := of_f H_54 b_31
        refine V_draw hN hn (by kernel_rfl) [] [(20, false)] calls_nil 7 [3, 5, 6, 9, 10, 11, 39] [0, 5, 6] ⟨[(3, .c (.h 5)), (5, .c (.h 6)), (6, .c (.val (.int .i64 (IntKind.wrap .i64 ((((List.length out_25) : Nat) : Int) - (1 : Int)))))), (9, .c (.h 0)), (10, .c (.val (.int .i64 (((List.length r_3) : Nat) : Int)))), (11, .c (.val (.int .i64 t_7))), (39, .c (.val (.bool false)))], [(0, .row (.pair (.int .i64) (.pair (.int .i64) (.int .i64))) r_3), (5, .row (.pair (.int .i64) (.pair (.int .i64) (.int .i64))) out_25), (6, .box [.val (.int .i64 (List.getD r_3 (Int.toNat t_7) ((0 : Int), ((0 : Int), (0 : Int)))).1), .val (.int .i64 (List.getD r_3 (Int.toNat t_7) ((0 : Int), ((0 : Int), (0 : Int)))).2.1), .val (.int .i64 (List.getD r_3 (Int.toNat t_7) ((0 : Int), ((0 : Int), (0 : Int)))).2.2)])], 7⟩ [(decide ((IntKind.wrap .i64 ((((List.length out_25) : Nat) : Int) - (1 : Int))) ≥ (0 : Int))) = false] (by kernel_rfl) rfl rfl (ap1 b_31) (by kernel_rfl) (by kernel_rfl) ?_
        have H_65 := Option.some.inj (show some false = some q_53 from H_58); subst H_65
        refine VL_nil ?_
        exact QP_end false rfl [(5, 5), (6, 6)] hn (by kernel_rfl) (by kernel_rfl) rfl rfl rfl
    · intro y_56 hy; subst hy
      skip
      skip
      refine VL_cond (y_56) (by kernel_rfl) ?_ ?_
      · intro b_37; have H_66 := of_t H_55 b_37
        obtain ⟨c_38, H_68⟩ := of_if H_66
        refine V_run hN hn 2 7 [3, 9, 10, 11] [0, 5] ⟨[(3, .c (.h 5)), (9, .c (.h 0)), (10, .c (.val (.int .i64 (((List.length r_3) : Nat) : Int)))), (11, .c (.val (.int .i64 t_7)))], [(0, .row (.pair (.int .i64) (.pair (.int .i64) (.int .i64))) r_3), (5, .row (.pair (.int .i64) (.pair (.int .i64) (.int .i64))) (List.set out_25 (Int.toNat (IntKind.wrap .i64 ((((List.length out_25) : Nat) : Int) - (1 : Int)))) ((List.getD out_25 (Int.toNat (IntKind.wrap .i64 ((((List.length out_25) : Nat) : Int) - (1 : Int)))) ((0 : Int), ((0 : Int), (0 : Int)))).1, ((List.getD r_3 (Int.toNat t_7) ((0 : Int), ((0 : Int), (0 : Int)))).2.1, (List.getD out_25 (Int.toNat (IntKind.wrap .i64 ((((List.length out_25) : Nat) : Int) - (1 : Int)))) ((0 : Int), ((0 : Int), (0 : Int)))).2.2))))], 7⟩ [0 ≤ (IntKind.wrap .i64 ((((List.length out_25) : Nat) : Int) - (1 : Int))), (IntKind.wrap .i64 ((((List.length out_25) : Nat) : Int) - (1 : Int))) < (((List.length out_25) : Nat) : Int)] (by kernel_rfl) rfl rfl (ap2 c_38.1 (ap1 c_38.2)) ?_
        refine VL_exit ?_
        refine QB_here ?_
        refine V_run hN hn 1 7 [3, 9, 10, 11] [0, 5] ⟨[(3, .c (.h 5)), (9, .c (.h 0)), (10, .c (.val (.int .i64 (((List.length r_3) : Nat) : Int)))), (11, .c (.val (.int .i64 (IntKind.wrap .i64 (t_7 + (1 : Int))))))], [(0, .row (.pair (.int .i64) (.pair (.int .i64) (.int .i64))) r_3), (5, .row (.pair (.int .i64) (.pair (.int .i64) (.int .i64))) (List.set out_25 (Int.toNat (IntKind.wrap .i64 ((((List.length out_25) : Nat) : Int) - (1 : Int)))) ((List.getD out_25 (Int.toNat (IntKind.wrap .i64 ((((List.length out_25) : Nat) : Int) - (1 : Int)))) ((0 : Int), ((0 : Int), (0 : Int)))).1, ((List.getD r_3 (Int.toNat t_7) ((0 : Int), ((0 : Int), (0 : Int)))).2.1, (List.getD out_25 (Int.toNat (IntKind.wrap .i64 ((((List.length out_25) : Nat) : Int) - (1 : Int)))) ((0 : Int), ((0 : Int), (0 : Int)))).2.2))))], 7⟩ [] (by kernel_rfl) rfl rfl ap0 ?_
        refine VL_nil ?_
        exact V_roundEnd ((List.set out_25 (Int.toNat (IntKind.wrap .i64 ((((List.length out_25) : Nat) : Int) - (1 : Int)))) ((List.getD out_25 (Int.toNat (IntKind.wrap .i64 ((((List.length out_25) : Nat) : Int) - (1 : Int)))) ((0 : Int), ((0 : Int), (0 : Int)))).1, ((List.getD r_3 (Int.toNat t_7) ((0 : Int), ((0 : Int), (0 : Int)))).2.1, (List.getD out_25 (Int.toNat (IntKind.wrap .i64 ((((List.length out_25) : Nat) : Int) - (1 : Int)))) ((0 : Int), ((0 : Int), (0 : Int)))).2.2))), (IntKind.wrap .i64 (t_7 + (1 : Int)))) H_68 [(5, 5)] hn (by kernel_rfl) (by kernel_rfl) rfl rfl rfl
      · intro b_37; have H_67 := of_f H_55 b_37
        obtain ⟨c_40, H_69⟩ := of_if H_67
        refine V_run hN hn 2 7 [3, 9, 10, 11] [0, 8] ⟨[(3, .c (.h 8)), (9, .c (.h 0)), (10, .c (.val (.int .i64 (((List.length r_3) : Nat) : Int)))), (11, .c (.val (.int .i64 t_7)))], [(0, .row (.pair (.int .i64) (.pair (.int .i64) (.int .i64))) r_3), (8, .row (.pair (.int .i64) (.pair (.int .i64) (.int .i64))) (out_25 ++ ([((List.getD r_3 (Int.toNat t_7) ((0 : Int), ((0 : Int), (0 : Int)))).1, ((List.getD r_3 (Int.toNat t_7) ((0 : Int), ((0 : Int), (0 : Int)))).2.1, (List.getD r_3 (Int.toNat t_7) ((0 : Int), ((0 : Int), (0 : Int)))).2.2))] : List (Int × (Int × Int)))))], 9⟩ [(List.length out_25 + List.length ([((List.getD r_3 (Int.toNat t_7) ((0 : Int), ((0 : Int), (0 : Int)))).1, ((List.getD r_3 (Int.toNat t_7) ((0 : Int), ((0 : Int), (0 : Int)))).2.1, (List.getD r_3 (Int.toNat t_7) ((0 : Int), ((0 : Int), (0 : Int)))).2.2))] : List (Int × (Int × Int)))) * 24 ≤ 140737488355328] (by kernel_rfl) rfl rfl (ap1 c_40) ?_
        refine VL_nil (QB_end ?_)
        refine V_run hN hn 1 9 [3, 9, 10, 11] [0, 8] ⟨[(3, .c (.h 8)), (9, .c (.h 0)), (10, .c (.val (.int .i64 (((List.length r_3) : Nat) : Int)))), (11, .c (.val (.int .i64 (IntKind.wrap .i64 (t_7 + (1 : Int))))))], [(0, .row (.pair (.int .i64) (.pair (.int .i64) (.int .i64))) r_3), (8, .row (.pair (.int .i64) (.pair (.int .i64) (.int .i64))) (out_25 ++ ([((List.getD r_3 (Int.toNat t_7) ((0 : Int), ((0 : Int), (0 : Int)))).1, ((List.getD r_3 (Int.toNat t_7) ((0 : Int), ((0 : Int), (0 : Int)))).2.1, (List.getD r_3 (Int.toNat t_7) ((0 : Int), ((0 : Int), (0 : Int)))).2.2))] : List (Int × (Int × Int)))))], 9⟩ [] (by kernel_rfl) rfl rfl ap0 ?_
        refine VL_nil ?_
        exact V_roundEnd ((out_25 ++ ([((List.getD r_3 (Int.toNat t_7) ((0 : Int), ((0 : Int), (0 : Int)))).1, ((List.getD r_3 (Int.toNat t_7) ((0 : Int), ((0 : Int), (0 : Int)))).2.1, (List.getD r_3 (Int.toNat t_7) ((0 : Int), ((0 : Int), (0 : Int)))).2.2))] : List (Int × (Int × Int)))), (IntKind.wrap .i64 (t_7 + (1 : Int)))) H_69 [(5, 8)] hn (by kernel_rfl) (by kernel_rfl) rfl rfl rfl
  · intro b_28; have H_51 := of_f H_49 b_28
    refine VL_exit ?_
    refine QL_exit ?_
    refine QB_here ?_
    refine V_run hN hn 2 6 [2] [0, 5] ⟨[(2, .c (.h 5))], [(0, .row (.pair (.int .i64) (.pair (.int .i64) (.int .i64))) r_3), (5, .row (.pair (.int .i64) (.pair (.int .i64) (.int .i64))) out_25)], 6⟩ [] (by kernel_rfl) rfl rfl ap0 ?_
    have H_70 := Option.some.inj (show some (out_25, r_3) = some r from H_51); subst H_70
    refine VL_ret ?_
    exact P_to [(2, .c (.h 5))] [(0, .row (.pair (.int .i64) (.pair (.int .i64) (.int .i64))) r_3), (5, .row (.pair (.int .i64) (.pair (.int .i64) (.int .i64))) out_25)] [(5, 5)] hn (by kernel_rfl) (by kernel_rfl) rfl rfl rfl (QF_retS (by kernel_rfl) (by kernel_rfl) rfl)

theorem spans_told_r_spec (K : Nat) (r_1 : (List (Int × (Int × Int)))) (r : ((List (Int × (Int × Int))) × Int × (List (Int × (Int × Int))))) (H : spans_told_r K r_1 = some r) : Spec Try.prog 26 1 [.c (.h 0)] [(0, .row (.pair (.int .i64) (.pair (.int .i64) (.int .i64))) r_1)] (.tup [(false, [.h 7]), (false, [.val (.int .i64 r.2.1)])]) [(0, .row (.pair (.int .i64) (.pair (.int .i64) (.int .i64))) r.2.2), (7, .row (.pair (.int .i64) (.pair (.int .i64) (.int .i64))) r.1)] := by
  refine Spec_mk (fn := Try.f26) (c := (Try.f26.body).get!) Try.func26 (by kernel_rfl) rfl ?_
  intro C hN hn
  replace hN : C.N = 30 := hN
  unfold spans_told_r at H
  refine V_run hN hn 3 1 [0] [0] ⟨[(0, .c (.h 0))], [(0, .row (.pair (.int .i64) (.pair (.int .i64) (.int .i64))) r_1)], 1⟩ [] (by kernel_rfl) rfl rfl ap0 ?_
  obtain ⟨r_3, h_4, H_29⟩ := of_bind H
  refine V_reg hN hn [(1, ⟨37, 1, [.c (.h 0)], [(0, .row (.pair (.int .i64) (.pair (.int .i64) (.int .i64))) r_1)], .c (.h 5), [(0, .row (.pair (.int .i64) (.pair (.int .i64) (.int .i64))) r_3.2), (5, .row (.pair (.int .i64) (.pair (.int .i64) (.int .i64))) r_3.1)], [(0, 0), (5, 1)], 2⟩)] [] (calls_cons (spans_row_sorted_r_spec K r_1 r_3 h_4) (by kernel_rfl) calls_nil) 1 [0] [0, 1] ⟨[(0, .c (.h 1))], [(0, .row (.pair (.int .i64) (.pair (.int .i64) (.int .i64))) r_3.2), (1, .row (.pair (.int .i64) (.pair (.int .i64) (.int .i64))) r_3.1)], 2⟩ [] (by kernel_rfl) rfl rfl ap0 (by kernel_rfl) (by kernel_rfl) ?_
  refine V_run hN hn 3 2 [0, 11] [0, 1] ⟨[(0, .c (.h 1)), (11, .c (.val (.bool (decide ((((List.length r_3.1) : Nat) : Int) > (60 : Int))))))], [(0, .row (.pair (.int .i64) (.pair (.int .i64) (.int .i64))) r_3.2), (1, .row (.pair (.int .i64) (.pair (.int .i64) (.int .i64))) r_3.1)], 2⟩ [] (by kernel_rfl) rfl rfl ap0 ?_
  refine VL_cond ((decide ((((List.length r_3.1) : Nat) : Int) > (60 : Int)))) (by kernel_rfl) ?_ ?_
  · intro b_7; have H_30 := of_t H_29 b_7
    refine V_run hN hn 2 2 [2, 3] [0] ⟨[(2, .c (.val (.slice none 0 0))), (3, .c (.val (.int .i64 (70 : Int))))], [(0, .row (.pair (.int .i64) (.pair (.int .i64) (.int .i64))) r_3.2)], 2⟩ [] (by kernel_rfl) rfl rfl ap0 ?_
    have H_32 := Option.some.inj (show some (([] : List (Int × (Int × Int))), (70 : Int), r_3.2) = some r from H_30); subst H_32
    refine VL_ret ?_
    refine P_ghost [.nilSlot 2 (.pair (.int .i64) (.pair (.int .i64) (.int .i64)))] 2 hn [2, 3] [0, 2] ⟨[(2, .c (.h 2)), (3, .c (.val (.int .i64 (70 : Int))))], [(0, .row (.pair (.int .i64) (.pair (.int .i64) (.int .i64))) r_3.2), (2, .row (.pair (.int .i64) (.pair (.int .i64) (.int .i64))) ([] : List (Int × (Int × Int))))], 3⟩ (by kernel_rfl) rfl rfl ?_
    exact P_to [(2, .c (.h 7)), (3, .c (.val (.int .i64 (70 : Int))))] [(0, .row (.pair (.int .i64) (.pair (.int .i64) (.int .i64))) r_3.2), (7, .row (.pair (.int .i64) (.pair (.int .i64) (.int .i64))) ([] : List (Int × (Int × Int))))] [(7, 2)] hn (by kernel_rfl) (by kernel_rfl) rfl rfl rfl (QF_retS (by kernel_rfl) (by kernel_rfl) rfl)
  · intro b_7; have H_31 := of_f H_29 b_7
    refine V_run hN hn 6 2 [4, 12, 13, 14] [0, 1] ⟨[(4, .c (.val (.slice none 0 0))), (12, .c (.h 1)), (13, .c (.val (.int .i64 (((List.length r_3.1) : Nat) : Int)))), (14, .c (.val (.int .i64 (0 : Int))))], [(0, .row (.pair (.int .i64) (.pair (.int .i64) (.int .i64))) r_3.2), (1, .row (.pair (.int .i64) (.pair (.int .i64) (.int .i64))) r_3.1)], 2⟩ [] (by kernel_rfl) rfl rfl ap0 ?_
    refine VL_block ?_
    refine V_ghost [.nilSlot 4 (.pair (.int .i64) (.pair (.int .i64) (.int .i64)))] 2 hn [4, 12, 13, 14] [0, 1, 2] ⟨[(4, .c (.h 2)), (12, .c (.h 1)), (13, .c (.val (.int .i64 (((List.length r_3.1) : Nat) : Int)))), (14, .c (.val (.int .i64 (0 : Int))))], [(0, .row (.pair (.int .i64) (.pair (.int .i64) (.int .i64))) r_3.2), (1, .row (.pair (.int .i64) (.pair (.int .i64) (.int .i64))) r_3.1), (2, .row (.pair (.int .i64) (.pair (.int .i64) (.int .i64))) ([] : List (Int × (Int × Int))))], 3⟩ (by kernel_rfl) rfl rfl ?_
    refine V_to [(4, .c (.h 6)), (12, .c (.h 1)), (13, .c (.val (.int .i64 (((List.length r_3.1) : Nat) : Int)))), (14, .c (.val (.int .i64 (0 : Int))))] [(0, .row (.pair (.int .i64) (.pair (.int .i64) (.int .i64))) r_3.2), (1, .row (.pair (.int .i64) (.pair (.int .i64) (.int .i64))) r_3.1), (6, .row (.pair (.int .i64) (.pair (.int .i64) (.int .i64))) ([] : List (Int × (Int × Int))))] [(1, 1), (6, 2)] hn (by kernel_rfl) (by kernel_rfl) rfl rfl rfl ?_
    refine VL_loop (X := ((List (Int × (Int × Int))) × Int)) (fun x => [(4, .c (.h 6)), (12, .c (.h 1)), (13, .c (.val (.int .i64 (((List.length r_3.1) : Nat) : Int)))), (14, .c (.val (.int .i64 x.2)))]) (fun x => [(0, .row (.pair (.int .i64) (.pair (.int .i64) (.int .i64))) r_3.2), (1, .row (.pair (.int .i64) (.pair (.int .i64) (.int .i64))) r_3.1), (6, .row (.pair (.int .i64) (.pair (.int .i64) (.int .i64))) x.1)]) (fun k x => spans_told_r.l0 K r_3 k x.1 x.2 = some r) K (([] : List (Int × (Int × Int))), (0 : Int)) H_31 (fun _ h => no_none h) ?_
    intro k_19 x_19 H_33
    obtain ⟨out_18, t_10⟩ := x_19
    have H_34 : spans_told_r.l0 K r_3 (k_19 + 1) out_18 t_10 = some r := H_33
    rw [spans_told_r.l0] at H_34
    refine V_run hN hn 3 7 [4, 12, 13, 14, 15] [0, 1, 6] ⟨[(4, .c (.h 6)), (12, .c (.h 1)), (13, .c (.val (.int .i64 (((List.length r_3.1) : Nat) : Int)))), (14, .c (.val (.int .i64 t_10))), (15, .c (.val (.bool (decide (t_10 < (((List.length r_3.1) : Nat) : Int))))))], [(0, .row (.pair (.int .i64) (.pair (.int .i64) (.int .i64))) r_3.2), (1, .row (.pair (.int .i64) (.pair (.int .i64) (.int .i64))) r_3.1), (6, .row (.pair (.int .i64) (.pair (.int .i64) (.int .i64))) out_18)], 7⟩ [] (by kernel_rfl) rfl rfl ap0 ?_
    refine VL_cond ((decide (t_10 < (((List.length r_3.1) : Nat) : Int)))) (by kernel_rfl) ?_ ?_
    · intro b_21; have H_35 := of_t H_34 b_21
      refine V_run hN hn 2 7 [4, 12, 13, 14, 15] [0, 1, 6] ⟨[(4, .c (.h 6)), (12, .c (.h 1)), (13, .c (.val (.int .i64 (((List.length r_3.1) : Nat) : Int)))), (14, .c (.val (.int .i64 t_10))), (15, .c (.val (.bool (decide (t_10 < (((List.length r_3.1) : Nat) : Int))))))], [(0, .row (.pair (.int .i64) (.pair (.int .i64) (.int .i64))) r_3.2), (1, .row (.pair (.int .i64) (.pair (.int .i64) (.int .i64))) r_3.1), (6, .row (.pair (.int .i64) (.pair (.int .i64) (.int .i64))) out_18)], 7⟩ [] (by kernel_rfl) rfl rfl ap0 ?_
      refine VL_block ?_
      obtain ⟨c_23, H_37⟩ := of_if H_35
      refine V_run hN hn 3 7 [4, 12, 13, 14] [0, 1, 9] ⟨[(4, .c (.h 9)), (12, .c (.h 1)), (13, .c (.val (.int .i64 (((List.length r_3.1) : Nat) : Int)))), (14, .c (.val (.int .i64 t_10)))], [(0, .row (.pair (.int .i64) (.pair (.int .i64) (.int .i64))) r_3.2), (1, .row (.pair (.int .i64) (.pair (.int .i64) (.int .i64))) r_3.1), (9, .row (.pair (.int .i64) (.pair (.int .i64) (.int .i64))) (out_18 ++ ([((List.getD r_3.1 (Int.toNat t_10) ((0 : Int), ((0 : Int), (0 : Int)))).1, ((List.getD r_3.1 (Int.toNat t_10) ((0 : Int), ((0 : Int), (0 : Int)))).2.1, (List.getD r_3.1 (Int.toNat t_10) ((0 : Int), ((0 : Int), (0 : Int)))).2.2))] : List (Int × (Int × Int)))))], 10⟩ [0 ≤ t_10, t_10 < (((List.length r_3.1) : Nat) : Int), (List.length out_18 + List.length ([((List.getD r_3.1 (Int.toNat t_10) ((0 : Int), ((0 : Int), (0 : Int)))).1, ((List.getD r_3.1 (Int.toNat t_10) ((0 : Int), ((0 : Int), (0 : Int)))).2.1, (List.getD r_3.1 (Int.toNat t_10) ((0 : Int), ((0 : Int), (0 : Int)))).2.2))] : List (Int × (Int × Int)))) * 24 ≤ 140737488355328] (by kernel_rfl) rfl rfl (ap2 c_23.1 (ap2 c_23.2.1 (ap1 c_23.2.2))) ?_
      refine VL_nil (QB_end ?_)
      refine V_run hN hn 1 10 [4, 12, 13, 14] [0, 1, 9] ⟨[(4, .c (.h 9)), (12, .c (.h 1)), (13, .c (.val (.int .i64 (((List.length r_3.1) : Nat) : Int)))), (14, .c (.val (.int .i64 (IntKind.wrap .i64 (t_10 + (1 : Int))))))], [(0, .row (.pair (.int .i64) (.pair (.int .i64) (.int .i64))) r_3.2), (1, .row (.pair (.int .i64) (.pair (.int .i64) (.int .i64))) r_3.1), (9, .row (.pair (.int .i64) (.pair (.int .i64) (.int .i64))) (out_18 ++ ([((List.getD r_3.1 (Int.toNat t_10) ((0 : Int), ((0 : Int), (0 : Int)))).1, ((List.getD r_3.1 (Int.toNat t_10) ((0 : Int), ((0 : Int), (0 : Int)))).2.1, (List.getD r_3.1 (Int.toNat t_10) ((0 : Int), ((0 : Int), (0 : Int)))).2.2))] : List (Int × (Int × Int)))))], 10⟩ [] (by kernel_rfl) rfl rfl ap0 ?_
      refine VL_nil ?_
      exact V_roundEnd ((out_18 ++ ([((List.getD r_3.1 (Int.toNat t_10) ((0 : Int), ((0 : Int), (0 : Int)))).1, ((List.getD r_3.1 (Int.toNat t_10) ((0 : Int), ((0 : Int), (0 : Int)))).2.1, (List.getD r_3.1 (Int.toNat t_10) ((0 : Int), ((0 : Int), (0 : Int)))).2.2))] : List (Int × (Int × Int)))), (IntKind.wrap .i64 (t_10 + (1 : Int)))) H_37 [(1, 1), (6, 9)] hn (by kernel_rfl) (by kernel_rfl) rfl rfl rfl
    · intro b_21; have H_36 := of_f H_34 b_21
      refine VL_exit ?_
      refine QL_exit ?_
      refine QB_here ?_
      refine V_run hN hn 2 7 [2, 3] [0, 6] ⟨[(2, .c (.h 6)), (3, .c (.val (.int .i64 (0 : Int))))], [(0, .row (.pair (.int .i64) (.pair (.int .i64) (.int .i64))) r_3.2), (6, .row (.pair (.int .i64) (.pair (.int .i64) (.int .i64))) out_18)], 7⟩ [] (by kernel_rfl) rfl rfl ap0 ?_
      have H_38 := Option.some.inj (show some (out_18, (0 : Int), r_3.2) = some r from H_36); subst H_38
      refine VL_ret ?_
      exact P_to [(2, .c (.h 7)), (3, .c (.val (.int .i64 (0 : Int))))] [(0, .row (.pair (.int .i64) (.pair (.int .i64) (.int .i64))) r_3.2), (7, .row (.pair (.int .i64) (.pair (.int .i64) (.int .i64))) out_18)] [(7, 6)] hn (by kernel_rfl) (by kernel_rfl) rfl rfl rfl (QF_retS (by kernel_rfl) (by kernel_rfl) rfl)

theorem spans_Put_nsggg_spec (K : Nat) (s_2 : Int) (s_3 : Int) (s_4 : Int) (r : ((List (Int × (Int × Int))) × Int)) (H : spans_Put_nsggg K ([] : (List (Int × (Int × Int)))) s_2 s_3 s_4 = some r) : Spec Try.prog 10 0 [.c (.val (.slice none 0 0)), .agg [.val (.int .i64 s_2), .val (.int .i64 s_3), .val (.int .i64 s_4)]] [] (.tup [(false, [.h 9]), (false, [.val (.int .i64 r.2)])]) [(9, .row (.pair (.int .i64) (.pair (.int .i64) (.int .i64))) r.1)] := by
  refine Spec_mk (fn := Try.f10) (c := (Try.f10.body).get!) Try.func10 (by kernel_rfl) rfl ?_
  intro C hN hn
  replace hN : C.N = 88 := hN
  unfold spans_Put_nsggg at H
  refine V_run hN hn 4 0 [0, 3] [0] ⟨[(0, .c (.val (.slice none 0 0))), (3, .c (.h 0))], [(0, .box [.val (.int .i64 s_2), .val (.int .i64 s_3), .val (.int .i64 s_4)])], 1⟩ [] (by kernel_rfl) rfl rfl ap0 ?_
  obtain ⟨q_80, H_81, H_82⟩ := of_bind H
  refine V_cut (Y := Bool) (R := Bool) q_80 (fun y => y) (fun y => [(0, .c (.val (.slice none 0 0))), (3, .c (.h 0)), (34, .c (.val (.bool y)))]) (fun y => [(0, .box [.val (.int .i64 s_2), .val (.int .i64 s_3), .val (.int .i64 s_4)])]) ?_ ?_
  · skip
    obtain ⟨r_6, h_7, H_84⟩ := of_bind H_81
    rcases Bool.eq_false_or_eq_true ((!r_6)) with b_8 | b_8
    · have H_85 := of_t H_84 b_8
      refine V_reg hN hn [(1, ⟨13, 0, [.c (.val (.slice none 0 0)), .c (.val (.int .i64 (20000 : Int)))], [], .c (.val (.bool r_6)), [], [], 1⟩)] [(12, true)] (calls_cons (spans_Is_ng_spec K (20000 : Int) r_6 h_7) (by kernel_rfl) calls_nil) 1 [0, 3, 34] [0] ⟨[(0, .c (.val (.slice none 0 0))), (3, .c (.h 0)), (34, .c (.val (.bool true)))], [(0, .box [.val (.int .i64 s_2), .val (.int .i64 s_3), .val (.int .i64 s_4)])], 1⟩ [(!r_6) = true] (by kernel_rfl) rfl rfl (ap1 b_8) (by kernel_rfl) (by kernel_rfl) ?_
      have H_87 := Option.some.inj (show some true = some q_80 from H_85); subst H_87
      refine VL_nil ?_
      exact QP_end true rfl [(0, 0)] hn (by kernel_rfl) (by kernel_rfl) rfl rfl rfl
    · have H_86 := of_f H_84 b_8
      obtain ⟨r_10, h_11, H_88⟩ := of_bind H_86
      rcases Bool.eq_false_or_eq_true ((!r_10)) with b_12 | b_12
      · have H_89 := of_t H_88 b_12
        refine V_reg hN hn [(1, ⟨13, 0, [.c (.val (.slice none 0 0)), .c (.val (.int .i64 (20000 : Int)))], [], .c (.val (.bool r_6)), [], [], 1⟩), (6, ⟨24, 0, [.c (.val (.int .i64 s_4)), .c (.val (.int .i64 (0 : Int))), .c (.val (.int .i64 (100 : Int)))], [], .c (.val (.bool r_10)), [], [], 1⟩)] [(12, false), (18, true)] (calls_cons (spans_Is_ng_spec K (20000 : Int) r_6 h_7) (by kernel_rfl) (calls_cons (spans_within_spec K s_4 (0 : Int) (100 : Int) r_10 h_11) (by kernel_rfl) calls_nil)) 1 [0, 3, 34] [0] ⟨[(0, .c (.val (.slice none 0 0))), (3, .c (.h 0)), (34, .c (.val (.bool true)))], [(0, .box [.val (.int .i64 s_2), .val (.int .i64 s_3), .val (.int .i64 s_4)])], 1⟩ [(!r_6) = false, (!r_10) = true] (by kernel_rfl) rfl rfl (ap2 b_8 (ap1 b_12)) (by kernel_rfl) (by kernel_rfl) ?_
        have H_91 := Option.some.inj (show some true = some q_80 from H_89); subst H_91
        refine VL_nil ?_
        exact QP_end true rfl [(0, 0)] hn (by kernel_rfl) (by kernel_rfl) rfl rfl rfl
      · have H_90 := of_f H_88 b_12
        rcases Bool.eq_false_or_eq_true ((decide (s_2 < (0 : Int)))) with b_14 | b_14
        · have H_92 := of_t H_90 b_14
          refine V_reg hN hn [(1, ⟨13, 0, [.c (.val (.slice none 0 0)), .c (.val (.int .i64 (20000 : Int)))], [], .c (.val (.bool r_6)), [], [], 1⟩), (6, ⟨24, 0, [.c (.val (.int .i64 s_4)), .c (.val (.int .i64 (0 : Int))), .c (.val (.int .i64 (100 : Int)))], [], .c (.val (.bool r_10)), [], [], 1⟩)] [(12, false), (18, false), (23, true)] (calls_cons (spans_Is_ng_spec K (20000 : Int) r_6 h_7) (by kernel_rfl) (calls_cons (spans_within_spec K s_4 (0 : Int) (100 : Int) r_10 h_11) (by kernel_rfl) calls_nil)) 1 [0, 3, 34] [0] ⟨[(0, .c (.val (.slice none 0 0))), (3, .c (.h 0)), (34, .c (.val (.bool true)))], [(0, .box [.val (.int .i64 s_2), .val (.int .i64 s_3), .val (.int .i64 s_4)])], 1⟩ [(!r_6) = false, (!r_10) = false, (decide (s_2 < (0 : Int))) = true] (by kernel_rfl) rfl rfl (ap2 b_8 (ap2 b_12 (ap1 b_14))) (by kernel_rfl) (by kernel_rfl) ?_
          have H_94 := Option.some.inj (show some true = some q_80 from H_92); subst H_94
          refine VL_nil ?_
          exact QP_end true rfl [(0, 0)] hn (by kernel_rfl) (by kernel_rfl) rfl rfl rfl
        · have H_93 := of_f H_90 b_14
          rcases Bool.eq_false_or_eq_true ((decide (s_2 > s_3))) with b_16 | b_16
          · have H_95 := of_t H_93 b_16
            refine V_reg hN hn [(1, ⟨13, 0, [.c (.val (.slice none 0 0)), .c (.val (.int .i64 (20000 : Int)))], [], .c (.val (.bool r_6)), [], [], 1⟩), (6, ⟨24, 0, [.c (.val (.int .i64 s_4)), .c (.val (.int .i64 (0 : Int))), .c (.val (.int .i64 (100 : Int)))], [], .c (.val (.bool r_10)), [], [], 1⟩)] [(12, false), (18, false), (23, false), (30, true)] (calls_cons (spans_Is_ng_spec K (20000 : Int) r_6 h_7) (by kernel_rfl) (calls_cons (spans_within_spec K s_4 (0 : Int) (100 : Int) r_10 h_11) (by kernel_rfl) calls_nil)) 1 [0, 3, 34] [0] ⟨[(0, .c (.val (.slice none 0 0))), (3, .c (.h 0)), (34, .c (.val (.bool true)))], [(0, .box [.val (.int .i64 s_2), .val (.int .i64 s_3), .val (.int .i64 s_4)])], 1⟩ [(!r_6) = false, (!r_10) = false, (decide (s_2 < (0 : Int))) = false, (decide (s_2 > s_3)) = true] (by kernel_rfl) rfl rfl (ap2 b_8 (ap2 b_12 (ap2 b_14 (ap1 b_16)))) (by kernel_rfl) (by kernel_rfl) ?_
            have H_97 := Option.some.inj (show some true = some q_80 from H_95); subst H_97
            refine VL_nil ?_
            exact QP_end true rfl [(0, 0)] hn (by kernel_rfl) (by kernel_rfl) rfl rfl rfl
          · have H_96 := of_f H_93 b_16
            refine V_reg hN hn [(1, ⟨13, 0, [.c (.val (.slice none 0 0)), .c (.val (.int .i64 (20000 : Int)))], [], .c (.val (.bool r_6)), [], [], 1⟩), (6, ⟨24, 0, [.c (.val (.int .i64 s_4)), .c (.val (.int .i64 (0 : Int))), .c (.val (.int .i64 (100 : Int)))], [], .c (.val (.bool r_10)), [], [], 1⟩)] [(12, false), (18, false), (23, false), (30, false)] (calls_cons (spans_Is_ng_spec K (20000 : Int) r_6 h_7) (by kernel_rfl) (calls_cons (spans_within_spec K s_4 (0 : Int) (100 : Int) r_10 h_11) (by kernel_rfl) calls_nil)) 1 [0, 3, 34] [0] ⟨[(0, .c (.val (.slice none 0 0))), (3, .c (.h 0)), (34, .c (.val (.bool (decide (s_3 > (20000 : Int))))))], [(0, .box [.val (.int .i64 s_2), .val (.int .i64 s_3), .val (.int .i64 s_4)])], 1⟩ [(!r_6) = false, (!r_10) = false, (decide (s_2 < (0 : Int))) = false, (decide (s_2 > s_3)) = false] (by kernel_rfl) rfl rfl (ap2 b_8 (ap2 b_12 (ap2 b_14 (ap1 b_16)))) (by kernel_rfl) (by kernel_rfl) ?_
            have H_98 := Option.some.inj (show some (decide (s_3 > (20000 : Int))) = some q_80 from H_96); subst H_98
            refine VL_nil ?_
            exact QP_end (decide (s_3 > (20000 : Int))) rfl [(0, 0)] hn (by kernel_rfl) (by kernel_rfl) rfl rfl rfl
  · intro y_83 hy; subst hy
    skip
    skip
    refine VL_cond (y_83) (by kernel_rfl) ?_ ?_
    · intro b_20; have H_99 := of_t H_82 b_20
      refine V_run hN hn 2 1 [4, 5] [] ⟨[(4, .c (.val (.slice none 0 0))), (5, .c (.val (.int .i64 (12 : Int))))], [], 1⟩ [] (by kernel_rfl) rfl rfl ap0 ?_
      have H_101 := Option.some.inj (show some (([] : List (Int × (Int × Int))), (12 : Int)) = some r from H_99); subst H_101
      refine VL_ret ?_
      refine P_ghost [.nilSlot 4 (.pair (.int .i64) (.pair (.int .i64) (.int .i64)))] 1 hn [4, 5] [1] ⟨[(4, .c (.h 1)), (5, .c (.val (.int .i64 (12 : Int))))], [(1, .row (.pair (.int .i64) (.pair (.int .i64) (.int .i64))) ([] : List (Int × (Int × Int))))], 2⟩ (by kernel_rfl) rfl rfl ?_
      exact P_to [(4, .c (.h 9)), (5, .c (.val (.int .i64 (12 : Int))))] [(9, .row (.pair (.int .i64) (.pair (.int .i64) (.int .i64))) ([] : List (Int × (Int × Int))))] [(9, 1)] hn (by kernel_rfl) (by kernel_rfl) rfl rfl rfl (QF_retS (by kernel_rfl) (by kernel_rfl) rfl)
    · intro b_20; have H_100 := of_f H_82 b_20
      refine V_run hN hn 6 1 [3, 6, 35, 36, 37] [0, 1] ⟨[(3, .c (.h 0)), (6, .c (.h 1)), (35, .c (.val (.slice none 0 0))), (36, .c (.val (.int .i64 (((List.length ([] : (List (Int × (Int × Int))))) : Nat) : Int)))), (37, .c (.val (.int .i64 (0 : Int))))], [(0, .box [.val (.int .i64 s_2), .val (.int .i64 s_3), .val (.int .i64 s_4)]), (1, .box [.val (.slice none 0 0)])], 2⟩ [] (by kernel_rfl) rfl rfl ap0 ?_
      obtain ⟨q_102, H_103, H_104⟩ := of_bind H_100
      refine V_cut (Y := (List (Int × (Int × Int)))) (R := (List (Int × (Int × Int)))) q_102 (fun y => y) (fun y => [(3, .c (.h 0)), (6, .c (.h 1))]) (fun y => [(0, .box [.val (.int .i64 s_2), .val (.int .i64 s_3), .val (.int .i64 s_4)]), (1, .box [.h 5]), (5, .row (.pair (.int .i64) (.pair (.int .i64) (.int .i64))) y)]) ?_ ?_
      · skip
        refine VL_block ?_
        refine V_ghost [.nilCell 1 0 (.pair (.int .i64) (.pair (.int .i64) (.int .i64)))] 2 hn [3, 6, 35, 36, 37] [0, 1, 2] ⟨[(3, .c (.h 0)), (6, .c (.h 1)), (35, .c (.val (.slice none 0 0))), (36, .c (.val (.int .i64 (((List.length ([] : (List (Int × (Int × Int))))) : Nat) : Int)))), (37, .c (.val (.int .i64 (0 : Int))))], [(0, .box [.val (.int .i64 s_2), .val (.int .i64 s_3), .val (.int .i64 s_4)]), (1, .box [.h 2]), (2, .row (.pair (.int .i64) (.pair (.int .i64) (.int .i64))) ([] : List (Int × (Int × Int))))], 3⟩ (by kernel_rfl) rfl rfl ?_
        refine V_to [(3, .c (.h 0)), (6, .c (.h 1)), (35, .c (.val (.slice none 0 0))), (36, .c (.val (.int .i64 (((List.length ([] : (List (Int × (Int × Int))))) : Nat) : Int)))), (37, .c (.val (.int .i64 (0 : Int))))] [(0, .box [.val (.int .i64 s_2), .val (.int .i64 s_3), .val (.int .i64 s_4)]), (1, .box [.h 5]), (5, .row (.pair (.int .i64) (.pair (.int .i64) (.int .i64))) ([] : List (Int × (Int × Int))))] [(0, 0), (1, 1), (5, 2)] hn (by kernel_rfl) (by kernel_rfl) rfl rfl rfl ?_
        refine VL_loop (X := ((List (Int × (Int × Int))) × Int)) (fun x => [(3, .c (.h 0)), (6, .c (.h 1)), (35, .c (.val (.slice none 0 0))), (36, .c (.val (.int .i64 (((List.length ([] : (List (Int × (Int × Int))))) : Nat) : Int)))), (37, .c (.val (.int .i64 x.2)))]) (fun x => [(0, .box [.val (.int .i64 s_2), .val (.int .i64 s_3), .val (.int .i64 s_4)]), (1, .box [.h 5]), (5, .row (.pair (.int .i64) (.pair (.int .i64) (.int .i64))) x.1)]) (fun k x => spans_Put_nsggg.l0 K ([] : (List (Int × (Int × Int)))) s_2 s_3 k x.1 x.2 = some q_102) K (([] : List (Int × (Int × Int))), (0 : Int)) H_103 (fun _ h => no_none h) ?_
        intro k_44 x_44 H_106
        obtain ⟨x_43, t_23⟩ := x_44
        have H_107 : spans_Put_nsggg.l0 K ([] : (List (Int × (Int × Int)))) s_2 s_3 (k_44 + 1) x_43 t_23 = some q_102 := H_106
        rw [spans_Put_nsggg.l0] at H_107
        refine V_run hN hn 3 6 [3, 6, 35, 36, 37, 38] [0, 1, 5] ⟨[(3, .c (.h 0)), (6, .c (.h 1)), (35, .c (.val (.slice none 0 0))), (36, .c (.val (.int .i64 (((List.length ([] : (List (Int × (Int × Int))))) : Nat) : Int)))), (37, .c (.val (.int .i64 t_23))), (38, .c (.val (.bool (decide (t_23 < (((List.length ([] : (List (Int × (Int × Int))))) : Nat) : Int))))))], [(0, .box [.val (.int .i64 s_2), .val (.int .i64 s_3), .val (.int .i64 s_4)]), (1, .box [.h 5]), (5, .row (.pair (.int .i64) (.pair (.int .i64) (.int .i64))) x_43)], 6⟩ [] (by kernel_rfl) rfl rfl ap0 ?_
        refine VL_cond ((decide (t_23 < (((List.length ([] : (List (Int × (Int × Int))))) : Nat) : Int)))) (by kernel_rfl) ?_ ?_
        · intro b_46; have H_108 := of_t H_107 b_46
          refine V_run hN hn 2 6 [3, 6, 35, 36, 37, 38] [0, 1, 5] ⟨[(3, .c (.h 0)), (6, .c (.h 1)), (35, .c (.val (.slice none 0 0))), (36, .c (.val (.int .i64 (((List.length ([] : (List (Int × (Int × Int))))) : Nat) : Int)))), (37, .c (.val (.int .i64 t_23))), (38, .c (.val (.bool (decide (t_23 < (((List.length ([] : (List (Int × (Int × Int))))) : Nat) : Int))))))], [(0, .box [.val (.int .i64 s_2), .val (.int .i64 s_3), .val (.int .i64 s_4)]), (1, .box [.h 5]), (5, .row (.pair (.int .i64) (.pair (.int .i64) (.int .i64))) x_43)], 6⟩ [] (by kernel_rfl) rfl rfl ap0 ?_
          refine VL_block ?_
          obtain ⟨c_48, H_110⟩ := of_if H_108
          refine V_run hN hn 5 6 [3, 6, 8, 35, 36, 37, 45] [0, 1, 5, 6] ⟨[(3, .c (.h 0)), (6, .c (.h 1)), (8, .c (.h 6)), (35, .c (.val (.slice none 0 0))), (36, .c (.val (.int .i64 (((List.length ([] : (List (Int × (Int × Int))))) : Nat) : Int)))), (37, .c (.val (.int .i64 t_23))), (45, .c (.val (.bool (s_2 == s_3))))], [(0, .box [.val (.int .i64 s_2), .val (.int .i64 s_3), .val (.int .i64 s_4)]), (1, .box [.h 5]), (5, .row (.pair (.int .i64) (.pair (.int .i64) (.int .i64))) x_43), (6, .box [.val (.int .i64 (List.getD ([] : (List (Int × (Int × Int)))) (Int.toNat t_23) ((0 : Int), ((0 : Int), (0 : Int)))).1), .val (.int .i64 (List.getD ([] : (List (Int × (Int × Int)))) (Int.toNat t_23) ((0 : Int), ((0 : Int), (0 : Int)))).2.1), .val (.int .i64 (List.getD ([] : (List (Int × (Int × Int)))) (Int.toNat t_23) ((0 : Int), ((0 : Int), (0 : Int)))).2.2)])], 7⟩ [0 ≤ t_23, t_23 < (((List.length ([] : (List (Int × (Int × Int))))) : Nat) : Int)] (by kernel_rfl) rfl rfl (ap2 c_48.1 (ap1 c_48.2)) ?_
          refine VL_cond ((s_2 == s_3)) (by kernel_rfl) ?_ ?_
          · intro b_49; have H_111 := of_t H_110 b_49
            refine V_run hN hn 1 7 [3, 6, 8, 35, 36, 37, 45] [0, 1, 5, 6] ⟨[(3, .c (.h 0)), (6, .c (.h 1)), (8, .c (.h 6)), (35, .c (.val (.slice none 0 0))), (36, .c (.val (.int .i64 (((List.length ([] : (List (Int × (Int × Int))))) : Nat) : Int)))), (37, .c (.val (.int .i64 t_23))), (45, .c (.val (.bool (s_2 == s_3))))], [(0, .box [.val (.int .i64 s_2), .val (.int .i64 s_3), .val (.int .i64 s_4)]), (1, .box [.h 5]), (5, .row (.pair (.int .i64) (.pair (.int .i64) (.int .i64))) x_43), (6, .box [.val (.int .i64 (List.getD ([] : (List (Int × (Int × Int)))) (Int.toNat t_23) ((0 : Int), ((0 : Int), (0 : Int)))).1), .val (.int .i64 (List.getD ([] : (List (Int × (Int × Int)))) (Int.toNat t_23) ((0 : Int), ((0 : Int), (0 : Int)))).2.1), .val (.int .i64 (List.getD ([] : (List (Int × (Int × Int)))) (Int.toNat t_23) ((0 : Int), ((0 : Int), (0 : Int)))).2.2)])], 7⟩ [] (by kernel_rfl) rfl rfl ap0 ?_
            obtain ⟨r_51, h_52, H_113⟩ := of_bind H_111
            refine V_reg hN hn [(6, ⟨25, 2, [.c (.h 0), .c (.val (.int .i64 (List.getD ([] : (List (Int × (Int × Int)))) (Int.toNat t_23) ((0 : Int), ((0 : Int), (0 : Int)))).1)), .c (.val (.int .i64 (List.getD ([] : (List (Int × (Int × Int)))) (Int.toNat t_23) ((0 : Int), ((0 : Int), (0 : Int)))).2.1)), .c (.val (.int .i64 (List.getD ([] : (List (Int × (Int × Int)))) (Int.toNat t_23) ((0 : Int), ((0 : Int), (0 : Int)))).2.2))], [(0, .box [.h 1]), (1, .row (.pair (.int .i64) (.pair (.int .i64) (.int .i64))) x_43)], .tup [], [(0, .box [.h 4]), (4, .row (.pair (.int .i64) (.pair (.int .i64) (.int .i64))) r_51)], [(0, 1), (1, 5), (4, 7)], 8⟩)] [] (calls_cons (spans_row_add_bggg_b0cf7_spec K x_43 (List.getD ([] : (List (Int × (Int × Int)))) (Int.toNat t_23) ((0 : Int), ((0 : Int), (0 : Int)))).1 (List.getD ([] : (List (Int × (Int × Int)))) (Int.toNat t_23) ((0 : Int), ((0 : Int), (0 : Int)))).2.1 (List.getD ([] : (List (Int × (Int × Int)))) (Int.toNat t_23) ((0 : Int), ((0 : Int), (0 : Int)))).2.2 r_51 h_52) (by kernel_rfl) calls_nil) 7 [3, 6, 35, 36, 37] [0, 1, 7] ⟨[(3, .c (.h 0)), (6, .c (.h 1)), (35, .c (.val (.slice none 0 0))), (36, .c (.val (.int .i64 (((List.length ([] : (List (Int × (Int × Int))))) : Nat) : Int)))), (37, .c (.val (.int .i64 t_23)))], [(0, .box [.val (.int .i64 s_2), .val (.int .i64 s_3), .val (.int .i64 s_4)]), (1, .box [.h 7]), (7, .row (.pair (.int .i64) (.pair (.int .i64) (.int .i64))) r_51)], 8⟩ [] (by kernel_rfl) rfl rfl ap0 (by kernel_rfl) (by kernel_rfl) ?_
            refine VL_exit ?_
            refine QB_here ?_
            refine V_run hN hn 1 8 [3, 6, 35, 36, 37] [0, 1, 7] ⟨[(3, .c (.h 0)), (6, .c (.h 1)), (35, .c (.val (.slice none 0 0))), (36, .c (.val (.int .i64 (((List.length ([] : (List (Int × (Int × Int))))) : Nat) : Int)))), (37, .c (.val (.int .i64 (IntKind.wrap .i64 (t_23 + (1 : Int))))))], [(0, .box [.val (.int .i64 s_2), .val (.int .i64 s_3), .val (.int .i64 s_4)]), (1, .box [.h 7]), (7, .row (.pair (.int .i64) (.pair (.int .i64) (.int .i64))) r_51)], 8⟩ [] (by kernel_rfl) rfl rfl ap0 ?_
            refine VL_nil ?_
            exact V_roundEnd (r_51, (IntKind.wrap .i64 (t_23 + (1 : Int)))) H_113 [(0, 0), (1, 1), (5, 7)] hn (by kernel_rfl) (by kernel_rfl) rfl rfl rfl
          · intro b_49; have H_112 := of_f H_110 b_49
            refine V_run hN hn 2 7 [3, 6, 8, 35, 36, 37, 45] [0, 1, 5, 6] ⟨[(3, .c (.h 0)), (6, .c (.h 1)), (8, .c (.h 6)), (35, .c (.val (.slice none 0 0))), (36, .c (.val (.int .i64 (((List.length ([] : (List (Int × (Int × Int))))) : Nat) : Int)))), (37, .c (.val (.int .i64 t_23))), (45, .c (.val (.bool (s_2 == s_3))))], [(0, .box [.val (.int .i64 s_2), .val (.int .i64 s_3), .val (.int .i64 s_4)]), (1, .box [.h 5]), (5, .row (.pair (.int .i64) (.pair (.int .i64) (.int .i64))) x_43), (6, .box [.val (.int .i64 (List.getD ([] : (List (Int × (Int × Int)))) (Int.toNat t_23) ((0 : Int), ((0 : Int), (0 : Int)))).1), .val (.int .i64 (List.getD ([] : (List (Int × (Int × Int)))) (Int.toNat t_23) ((0 : Int), ((0 : Int), (0 : Int)))).2.1), .val (.int .i64 (List.getD ([] : (List (Int × (Int × Int)))) (Int.toNat t_23) ((0 : Int), ((0 : Int), (0 : Int)))).2.2)])], 7⟩ [] (by kernel_rfl) rfl rfl ap0 ?_
            obtain ⟨r_56, h_57, H_114⟩ := of_bind H_112
            refine V_reg hN hn [(9, ⟨25, 2, [.c (.h 0), .c (.val (.int .i64 (List.getD ([] : (List (Int × (Int × Int)))) (Int.toNat t_23) ((0 : Int), ((0 : Int), (0 : Int)))).1)), .c (.val (.int .i64 (mn2 (List.getD ([] : (List (Int × (Int × Int)))) (Int.toNat t_23) ((0 : Int), ((0 : Int), (0 : Int)))).2.1 s_2))), .c (.val (.int .i64 (List.getD ([] : (List (Int × (Int × Int)))) (Int.toNat t_23) ((0 : Int), ((0 : Int), (0 : Int)))).2.2))], [(0, .box [.h 1]), (1, .row (.pair (.int .i64) (.pair (.int .i64) (.int .i64))) x_43)], .tup [], [(0, .box [.h 4]), (4, .row (.pair (.int .i64) (.pair (.int .i64) (.int .i64))) r_56)], [(0, 1), (1, 5), (4, 7)], 8⟩)] [] (calls_cons (spans_row_add_bggg_b0cf7_spec K x_43 (List.getD ([] : (List (Int × (Int × Int)))) (Int.toNat t_23) ((0 : Int), ((0 : Int), (0 : Int)))).1 (mn2 (List.getD ([] : (List (Int × (Int × Int)))) (Int.toNat t_23) ((0 : Int), ((0 : Int), (0 : Int)))).2.1 s_2) (List.getD ([] : (List (Int × (Int × Int)))) (Int.toNat t_23) ((0 : Int), ((0 : Int), (0 : Int)))).2.2 r_56 h_57) (by kernel_rfl) calls_nil) 7 [3, 6, 8, 35, 36, 37] [0, 1, 6, 7] ⟨[(3, .c (.h 0)), (6, .c (.h 1)), (8, .c (.h 6)), (35, .c (.val (.slice none 0 0))), (36, .c (.val (.int .i64 (((List.length ([] : (List (Int × (Int × Int))))) : Nat) : Int)))), (37, .c (.val (.int .i64 t_23)))], [(0, .box [.val (.int .i64 s_2), .val (.int .i64 s_3), .val (.int .i64 s_4)]), (1, .box [.h 7]), (6, .box [.val (.int .i64 (List.getD ([] : (List (Int × (Int × Int)))) (Int.toNat t_23) ((0 : Int), ((0 : Int), (0 : Int)))).1), .val (.int .i64 (List.getD ([] : (List (Int × (Int × Int)))) (Int.toNat t_23) ((0 : Int), ((0 : Int), (0 : Int)))).2.1), .val (.int .i64 (List.getD ([] : (List (Int × (Int × Int)))) (Int.toNat t_23) ((0 : Int), ((0 : Int), (0 : Int)))).2.2)]), (7, .row (.pair (.int .i64) (.pair (.int .i64) (.int .i64))) r_56)], 8⟩ [] (by kernel_rfl) rfl rfl ap0 (by kernel_rfl) (by kernel_rfl) ?_
            obtain ⟨r_59, h_60, H_115⟩ := of_bind H_114
            refine V_reg hN hn [(9, ⟨25, 2, [.c (.h 0), .c (.val (.int .i64 (mx2 (List.getD ([] : (List (Int × (Int × Int)))) (Int.toNat t_23) ((0 : Int), ((0 : Int), (0 : Int)))).1 s_3))), .c (.val (.int .i64 (List.getD ([] : (List (Int × (Int × Int)))) (Int.toNat t_23) ((0 : Int), ((0 : Int), (0 : Int)))).2.1)), .c (.val (.int .i64 (List.getD ([] : (List (Int × (Int × Int)))) (Int.toNat t_23) ((0 : Int), ((0 : Int), (0 : Int)))).2.2))], [(0, .box [.h 1]), (1, .row (.pair (.int .i64) (.pair (.int .i64) (.int .i64))) r_56)], .tup [], [(0, .box [.h 4]), (4, .row (.pair (.int .i64) (.pair (.int .i64) (.int .i64))) r_59)], [(0, 1), (1, 7), (4, 8)], 9⟩)] [] (calls_cons (spans_row_add_bggg_b0cf7_spec K r_56 (mx2 (List.getD ([] : (List (Int × (Int × Int)))) (Int.toNat t_23) ((0 : Int), ((0 : Int), (0 : Int)))).1 s_3) (List.getD ([] : (List (Int × (Int × Int)))) (Int.toNat t_23) ((0 : Int), ((0 : Int), (0 : Int)))).2.1 (List.getD ([] : (List (Int × (Int × Int)))) (Int.toNat t_23) ((0 : Int), ((0 : Int), (0 : Int)))).2.2 r_59 h_60) (by kernel_rfl) calls_nil) 8 [3, 6, 35, 36, 37] [0, 1, 8] ⟨[(3, .c (.h 0)), (6, .c (.h 1)), (35, .c (.val (.slice none 0 0))), (36, .c (.val (.int .i64 (((List.length ([] : (List (Int × (Int × Int))))) : Nat) : Int)))), (37, .c (.val (.int .i64 t_23)))], [(0, .box [.val (.int .i64 s_2), .val (.int .i64 s_3), .val (.int .i64 s_4)]), (1, .box [.h 8]), (8, .row (.pair (.int .i64) (.pair (.int .i64) (.int .i64))) r_59)], 9⟩ [] (by kernel_rfl) rfl rfl ap0 (by kernel_rfl) (by kernel_rfl) ?_
            refine VL_nil (QB_end ?_)
            refine V_run hN hn 1 9 [3, 6, 35, 36, 37] [0, 1, 8] ⟨[(3, .c (.h 0)), (6, .c (.h 1)), (35, .c (.val (.slice none 0 0))), (36, .c (.val (.int .i64 (((List.length ([] : (List (Int × (Int × Int))))) : Nat) : Int)))), (37, .c (.val (.int .i64 (IntKind.wrap .i64 (t_23 + (1 : Int))))))], [(0, .box [.val (.int .i64 s_2), .val (.int .i64 s_3), .val (.int .i64 s_4)]), (1, .box [.h 8]), (8, .row (.pair (.int .i64) (.pair (.int .i64) (.int .i64))) r_59)], 9⟩ [] (by kernel_rfl) rfl rfl ap0 ?_
            refine VL_nil ?_
            exact V_roundEnd (r_59, (IntKind.wrap .i64 (t_23 + (1 : Int)))) H_115 [(0, 0), (1, 1), (5, 8)] hn (by kernel_rfl) (by kernel_rfl) rfl rfl rfl
        · intro b_46; have H_109 := of_f H_107 b_46
          refine VL_exit ?_
          refine QL_exit ?_
          refine QB_here ?_
          have H_116 := Option.some.inj (show some x_43 = some q_102 from H_109); subst H_116
          refine VL_nil ?_
          exact QP_end x_43 rfl [(0, 0), (1, 1), (5, 5)] hn (by kernel_rfl) (by kernel_rfl) rfl rfl rfl
      · intro y_105 hy; subst hy
        skip
        skip
        refine V_run hN hn 3 6 [3, 6, 76] [0, 1, 5] ⟨[(3, .c (.h 0)), (6, .c (.h 1)), (76, .c (.val (.bool (decide (s_4 > (0 : Int))))))], [(0, .box [.val (.int .i64 s_2), .val (.int .i64 s_3), .val (.int .i64 s_4)]), (1, .box [.h 5]), (5, .row (.pair (.int .i64) (.pair (.int .i64) (.int .i64))) y_105)], 6⟩ [] (by kernel_rfl) rfl rfl ap0 ?_
        obtain ⟨q_117, H_118, H_119⟩ := of_bind H_104
        refine V_cut (Y := (List (Int × (Int × Int)))) (R := (List (Int × (Int × Int)))) q_117 (fun y => y) (fun y => [(6, .c (.h 1))]) (fun y => [(1, .box [.h 7]), (7, .row (.pair (.int .i64) (.pair (.int .i64) (.int .i64))) y)]) ?_ ?_
        · skip
          refine VL_cond ((decide (s_4 > (0 : Int)))) (by kernel_rfl) ?_ ?_
          · intro b_65; have H_121 := of_t H_118 b_65
            obtain ⟨r_66, h_67, H_123⟩ := of_bind H_121
            refine V_reg hN hn [(6, ⟨25, 2, [.c (.h 0), .c (.val (.int .i64 s_2)), .c (.val (.int .i64 s_3)), .c (.val (.int .i64 s_4))], [(0, .box [.h 1]), (1, .row (.pair (.int .i64) (.pair (.int .i64) (.int .i64))) y_105)], .tup [], [(0, .box [.h 4]), (4, .row (.pair (.int .i64) (.pair (.int .i64) (.int .i64))) r_66)], [(0, 1), (1, 5), (4, 6)], 7⟩)] [] (calls_cons (spans_row_add_bggg_b0cf7_spec K y_105 s_2 s_3 s_4 r_66 h_67) (by kernel_rfl) calls_nil) 6 [6] [1, 6] ⟨[(6, .c (.h 1))], [(1, .box [.h 6]), (6, .row (.pair (.int .i64) (.pair (.int .i64) (.int .i64))) r_66)], 7⟩ [] (by kernel_rfl) rfl rfl ap0 (by kernel_rfl) (by kernel_rfl) ?_
            have H_124 := Option.some.inj (show some r_66 = some q_117 from H_123); subst H_124
            refine VL_nil ?_
            exact QP_end r_66 rfl [(1, 1), (7, 6)] hn (by kernel_rfl) (by kernel_rfl) rfl rfl rfl
          · intro b_65; have H_122 := of_f H_118 b_65
            refine V_run hN hn 1 6 [3, 6, 76] [0, 1, 5] ⟨[(3, .c (.h 0)), (6, .c (.h 1)), (76, .c (.val (.bool (decide (s_4 > (0 : Int))))))], [(0, .box [.val (.int .i64 s_2), .val (.int .i64 s_3), .val (.int .i64 s_4)]), (1, .box [.h 5]), (5, .row (.pair (.int .i64) (.pair (.int .i64) (.int .i64))) y_105)], 6⟩ [] (by kernel_rfl) rfl rfl ap0 ?_
            have H_125 := Option.some.inj (show some y_105 = some q_117 from H_122); subst H_125
            refine VL_nil ?_
            exact QP_end y_105 rfl [(1, 1), (7, 5)] hn (by kernel_rfl) (by kernel_rfl) rfl rfl rfl
        · intro y_120 hy; subst hy
          skip
          skip
          refine V_run hN hn 1 8 [6] [1, 7] ⟨[(6, .c (.h 1))], [(1, .box [.h 7]), (7, .row (.pair (.int .i64) (.pair (.int .i64) (.int .i64))) y_120)], 8⟩ [] (by kernel_rfl) rfl rfl ap0 ?_
          obtain ⟨r_72, h_73, H_126⟩ := of_bind H_119
          refine V_reg hN hn [(1, ⟨26, 1, [.c (.h 0)], [(0, .row (.pair (.int .i64) (.pair (.int .i64) (.int .i64))) y_120)], .tup [(false, [.h 7]), (false, [.val (.int .i64 r_72.2.1)])], [(0, .row (.pair (.int .i64) (.pair (.int .i64) (.int .i64))) r_72.2.2), (7, .row (.pair (.int .i64) (.pair (.int .i64) (.int .i64))) r_72.1)], [(0, 7), (7, 8)], 9⟩)] [] (calls_cons (spans_told_r_spec K y_120 r_72 h_73) (by kernel_rfl) calls_nil) 8 [4, 5] [8] ⟨[(4, .c (.h 8)), (5, .c (.val (.int .i64 r_72.2.1)))], [(8, .row (.pair (.int .i64) (.pair (.int .i64) (.int .i64))) r_72.1)], 9⟩ [] (by kernel_rfl) rfl rfl ap0 (by kernel_rfl) (by kernel_rfl) ?_
          have H_127 := Option.some.inj (show some (r_72.1, r_72.2.1) = some r from H_126); subst H_127
          refine VL_ret ?_
          exact P_to [(4, .c (.h 9)), (5, .c (.val (.int .i64 r_72.2.1)))] [(9, .row (.pair (.int .i64) (.pair (.int .i64) (.int .i64))) r_72.1)] [(9, 8)] hn (by kernel_rfl) (by kernel_rfl) rfl rfl rfl (QF_retS (by kernel_rfl) (by kernel_rfl) rfl)

theorem spans_Is_rg_spec (K : Nat) (l_1 : (List (Int × (Int × Int)))) (n_2 : Int) (r : Bool) (H : spans_Is_ng K l_1 n_2 = some r) : Spec Try.prog 13 1 [.c (.h 0), .c (.val (.int .i64 n_2))] [(0, .row (.pair (.int .i64) (.pair (.int .i64) (.int .i64))) l_1)] (.c (.val (.bool r))) [(0, .row (.pair (.int .i64) (.pair (.int .i64) (.int .i64))) l_1)] := by
  refine Spec_mk (fn := Try.f13) (c := (Try.f13.body).get!) Try.func13 (by kernel_rfl) rfl ?_
  intro C hN hn
  replace hN : C.N = 77 := hN
  unfold spans_Is_ng at H
  refine V_run hN hn 7 1 [0, 1, 11] [0] ⟨[(0, .c (.h 0)), (1, .c (.val (.int .i64 (mn2 n_2 (20000 : Int))))), (11, .c (.val (.bool (decide ((((List.length l_1) : Nat) : Int) > (60 : Int))))))], [(0, .row (.pair (.int .i64) (.pair (.int .i64) (.int .i64))) l_1)], 1⟩ [] (by kernel_rfl) rfl rfl ap0 ?_
  refine VL_cond ((decide ((((List.length l_1) : Nat) : Int) > (60 : Int)))) (by kernel_rfl) ?_ ?_
  · intro b_4; have H_44 := of_t H b_4
    refine V_run hN hn 2 1 [4] [0] ⟨[(4, .c (.val (.bool false)))], [(0, .row (.pair (.int .i64) (.pair (.int .i64) (.int .i64))) l_1)], 1⟩ [] (by kernel_rfl) rfl rfl ap0 ?_
    have H_46 := Option.some.inj (show some false = some r from H_44); subst H_46
    refine VL_ret ?_
    exact P_to [(4, .c (.val (.bool false)))] [(0, .row (.pair (.int .i64) (.pair (.int .i64) (.int .i64))) l_1)] [] hn (by kernel_rfl) (by kernel_rfl) rfl rfl rfl (QF_retS (by kernel_rfl) (by kernel_rfl) rfl)
  · intro b_4; have H_45 := of_f H b_4
    refine V_run hN hn 4 1 [0, 1, 12, 13, 14] [0] ⟨[(0, .c (.h 0)), (1, .c (.val (.int .i64 (mn2 n_2 (20000 : Int))))), (12, .c (.h 0)), (13, .c (.val (.int .i64 (((List.length l_1) : Nat) : Int)))), (14, .c (.val (.int .i64 (0 : Int))))], [(0, .row (.pair (.int .i64) (.pair (.int .i64) (.int .i64))) l_1)], 1⟩ [] (by kernel_rfl) rfl rfl ap0 ?_
    refine VL_block ?_
    refine V_to [(0, .c (.h 0)), (1, .c (.val (.int .i64 (mn2 n_2 (20000 : Int))))), (12, .c (.h 0)), (13, .c (.val (.int .i64 (((List.length l_1) : Nat) : Int)))), (14, .c (.val (.int .i64 (0 : Int))))] [(0, .row (.pair (.int .i64) (.pair (.int .i64) (.int .i64))) l_1)] [] hn (by kernel_rfl) (by kernel_rfl) rfl rfl rfl ?_
    refine VL_loop (X := Int) (fun x => [(0, .c (.h 0)), (1, .c (.val (.int .i64 (mn2 n_2 (20000 : Int))))), (12, .c (.h 0)), (13, .c (.val (.int .i64 (((List.length l_1) : Nat) : Int)))), (14, .c (.val (.int .i64 x)))]) (fun x => [(0, .row (.pair (.int .i64) (.pair (.int .i64) (.int .i64))) l_1)]) (fun k x => spans_Is_ng.l0 K l_1 n_2 k x = some r) K (0 : Int) H_45 (fun _ h => no_none h) ?_
    intro k_8 t_7 H_47
    have H_48 : spans_Is_ng.l0 K l_1 n_2 (k_8 + 1) t_7 = some r := H_47
    rw [spans_Is_ng.l0] at H_48
    refine V_run hN hn 3 1 [0, 1, 12, 13, 14, 15] [0] ⟨[(0, .c (.h 0)), (1, .c (.val (.int .i64 (mn2 n_2 (20000 : Int))))), (12, .c (.h 0)), (13, .c (.val (.int .i64 (((List.length l_1) : Nat) : Int)))), (14, .c (.val (.int .i64 t_7))), (15, .c (.val (.bool (decide (t_7 < (((List.length l_1) : Nat) : Int))))))], [(0, .row (.pair (.int .i64) (.pair (.int .i64) (.int .i64))) l_1)], 1⟩ [] (by kernel_rfl) rfl rfl ap0 ?_
    refine VL_cond ((decide (t_7 < (((List.length l_1) : Nat) : Int)))) (by kernel_rfl) ?_ ?_
    · intro b_10; have H_49 := of_t H_48 b_10
      refine V_run hN hn 2 1 [0, 1, 12, 13, 14, 15] [0] ⟨[(0, .c (.h 0)), (1, .c (.val (.int .i64 (mn2 n_2 (20000 : Int))))), (12, .c (.h 0)), (13, .c (.val (.int .i64 (((List.length l_1) : Nat) : Int)))), (14, .c (.val (.int .i64 t_7))), (15, .c (.val (.bool (decide (t_7 < (((List.length l_1) : Nat) : Int))))))], [(0, .row (.pair (.int .i64) (.pair (.int .i64) (.int .i64))) l_1)], 1⟩ [] (by kernel_rfl) rfl rfl ap0 ?_
      refine VL_block ?_
      obtain ⟨c_12, H_51⟩ := of_if H_49
      refine V_run hN hn 4 1 [0, 1, 5, 6, 12, 13, 14] [0, 1] ⟨[(0, .c (.h 0)), (1, .c (.val (.int .i64 (mn2 n_2 (20000 : Int))))), (5, .c (.val (.int .i64 t_7))), (6, .c (.h 1)), (12, .c (.h 0)), (13, .c (.val (.int .i64 (((List.length l_1) : Nat) : Int)))), (14, .c (.val (.int .i64 t_7)))], [(0, .row (.pair (.int .i64) (.pair (.int .i64) (.int .i64))) l_1), (1, .box [.val (.int .i64 (List.getD l_1 (Int.toNat t_7) ((0 : Int), ((0 : Int), (0 : Int)))).1), .val (.int .i64 (List.getD l_1 (Int.toNat t_7) ((0 : Int), ((0 : Int), (0 : Int)))).2.1), .val (.int .i64 (List.getD l_1 (Int.toNat t_7) ((0 : Int), ((0 : Int), (0 : Int)))).2.2)])], 2⟩ [0 ≤ t_7, t_7 < (((List.length l_1) : Nat) : Int)] (by kernel_rfl) rfl rfl (ap2 c_12.1 (ap1 c_12.2)) ?_
      obtain ⟨q_52, H_53, H_54⟩ := of_bind H_51
      refine V_cut (Y := Bool) (R := Bool) q_52 (fun y => y) (fun y => [(0, .c (.h 0)), (1, .c (.val (.int .i64 (mn2 n_2 (20000 : Int))))), (5, .c (.val (.int .i64 t_7))), (6, .c (.h 1)), (12, .c (.h 0)), (13, .c (.val (.int .i64 (((List.length l_1) : Nat) : Int)))), (14, .c (.val (.int .i64 t_7))), (40, .c (.val (.bool y)))]) (fun y => [(0, .row (.pair (.int .i64) (.pair (.int .i64) (.int .i64))) l_1), (1, .box [.val (.int .i64 (List.getD l_1 (Int.toNat t_7) ((0 : Int), ((0 : Int), (0 : Int)))).1), .val (.int .i64 (List.getD l_1 (Int.toNat t_7) ((0 : Int), ((0 : Int), (0 : Int)))).2.1), .val (.int .i64 (List.getD l_1 (Int.toNat t_7) ((0 : Int), ((0 : Int), (0 : Int)))).2.2)])]) ?_ ?_
      · skip
        obtain ⟨r_13, h_14, H_56⟩ := of_bind H_53
        rcases Bool.eq_false_or_eq_true ((!r_13)) with b_15 | b_15
        · have H_57 := of_t H_56 b_15
          refine V_reg hN hn [(2, ⟨24, 0, [.c (.val (.int .i64 (List.getD l_1 (Int.toNat t_7) ((0 : Int), ((0 : Int), (0 : Int)))).2.2)), .c (.val (.int .i64 (1 : Int))), .c (.val (.int .i64 (100 : Int)))], [], .c (.val (.bool r_13)), [], [], 2⟩)] [(23, true)] (calls_cons (spans_within_spec K (List.getD l_1 (Int.toNat t_7) ((0 : Int), ((0 : Int), (0 : Int)))).2.2 (1 : Int) (100 : Int) r_13 h_14) (by kernel_rfl) calls_nil) 2 [0, 1, 5, 6, 12, 13, 14, 40] [0, 1] ⟨[(0, .c (.h 0)), (1, .c (.val (.int .i64 (mn2 n_2 (20000 : Int))))), (5, .c (.val (.int .i64 t_7))), (6, .c (.h 1)), (12, .c (.h 0)), (13, .c (.val (.int .i64 (((List.length l_1) : Nat) : Int)))), (14, .c (.val (.int .i64 t_7))), (40, .c (.val (.bool true)))], [(0, .row (.pair (.int .i64) (.pair (.int .i64) (.int .i64))) l_1), (1, .box [.val (.int .i64 (List.getD l_1 (Int.toNat t_7) ((0 : Int), ((0 : Int), (0 : Int)))).1), .val (.int .i64 (List.getD l_1 (Int.toNat t_7) ((0 : Int), ((0 : Int), (0 : Int)))).2.1), .val (.int .i64 (List.getD l_1 (Int.toNat t_7) ((0 : Int), ((0 : Int), (0 : Int)))).2.2)])], 2⟩ [(!r_13) = true] (by kernel_rfl) rfl rfl (ap1 b_15) (by kernel_rfl) (by kernel_rfl) ?_
          have H_59 := Option.some.inj (show some true = some q_52 from H_57); subst H_59
          refine VL_nil ?_
          exact QP_end true rfl [(1, 1)] hn (by kernel_rfl) (by kernel_rfl) rfl rfl rfl
        · have H_58 := of_f H_56 b_15
          rcases Bool.eq_false_or_eq_true ((decide ((List.getD l_1 (Int.toNat t_7) ((0 : Int), ((0 : Int), (0 : Int)))).1 < (0 : Int)))) with b_17 | b_17
          · have H_60 := of_t H_58 b_17
            refine V_reg hN hn [(2, ⟨24, 0, [.c (.val (.int .i64 (List.getD l_1 (Int.toNat t_7) ((0 : Int), ((0 : Int), (0 : Int)))).2.2)), .c (.val (.int .i64 (1 : Int))), .c (.val (.int .i64 (100 : Int)))], [], .c (.val (.bool r_13)), [], [], 2⟩)] [(23, false), (28, true)] (calls_cons (spans_within_spec K (List.getD l_1 (Int.toNat t_7) ((0 : Int), ((0 : Int), (0 : Int)))).2.2 (1 : Int) (100 : Int) r_13 h_14) (by kernel_rfl) calls_nil) 2 [0, 1, 5, 6, 12, 13, 14, 40] [0, 1] ⟨[(0, .c (.h 0)), (1, .c (.val (.int .i64 (mn2 n_2 (20000 : Int))))), (5, .c (.val (.int .i64 t_7))), (6, .c (.h 1)), (12, .c (.h 0)), (13, .c (.val (.int .i64 (((List.length l_1) : Nat) : Int)))), (14, .c (.val (.int .i64 t_7))), (40, .c (.val (.bool true)))], [(0, .row (.pair (.int .i64) (.pair (.int .i64) (.int .i64))) l_1), (1, .box [.val (.int .i64 (List.getD l_1 (Int.toNat t_7) ((0 : Int), ((0 : Int), (0 : Int)))).1), .val (.int .i64 (List.getD l_1 (Int.toNat t_7) ((0 : Int), ((0 : Int), (0 : Int)))).2.1), .val (.int .i64 (List.getD l_1 (Int.toNat t_7) ((0 : Int), ((0 : Int), (0 : Int)))).2.2)])], 2⟩ [(!r_13) = false, (decide ((List.getD l_1 (Int.toNat t_7) ((0 : Int), ((0 : Int), (0 : Int)))).1 < (0 : Int))) = true] (by kernel_rfl) rfl rfl (ap2 b_15 (ap1 b_17)) (by kernel_rfl) (by kernel_rfl) ?_
            have H_62 := Option.some.inj (show some true = some q_52 from H_60); subst H_62
            refine VL_nil ?_
            exact QP_end true rfl [(1, 1)] hn (by kernel_rfl) (by kernel_rfl) rfl rfl rfl
          · have H_61 := of_f H_58 b_17
            rcases Bool.eq_false_or_eq_true ((decide ((List.getD l_1 (Int.toNat t_7) ((0 : Int), ((0 : Int), (0 : Int)))).1 ≥ (List.getD l_1 (Int.toNat t_7) ((0 : Int), ((0 : Int), (0 : Int)))).2.1))) with b_19 | b_19
            · have H_63 := of_t H_61 b_19
              refine V_reg hN hn [(2, ⟨24, 0, [.c (.val (.int .i64 (List.getD l_1 (Int.toNat t_7) ((0 : Int), ((0 : Int), (0 : Int)))).2.2)), .c (.val (.int .i64 (1 : Int))), .c (.val (.int .i64 (100 : Int)))], [], .c (.val (.bool r_13)), [], [], 2⟩)] [(23, false), (28, false), (35, true)] (calls_cons (spans_within_spec K (List.getD l_1 (Int.toNat t_7) ((0 : Int), ((0 : Int), (0 : Int)))).2.2 (1 : Int) (100 : Int) r_13 h_14) (by kernel_rfl) calls_nil) 2 [0, 1, 5, 6, 12, 13, 14, 40] [0, 1] ⟨[(0, .c (.h 0)), (1, .c (.val (.int .i64 (mn2 n_2 (20000 : Int))))), (5, .c (.val (.int .i64 t_7))), (6, .c (.h 1)), (12, .c (.h 0)), (13, .c (.val (.int .i64 (((List.length l_1) : Nat) : Int)))), (14, .c (.val (.int .i64 t_7))), (40, .c (.val (.bool true)))], [(0, .row (.pair (.int .i64) (.pair (.int .i64) (.int .i64))) l_1), (1, .box [.val (.int .i64 (List.getD l_1 (Int.toNat t_7) ((0 : Int), ((0 : Int), (0 : Int)))).1), .val (.int .i64 (List.getD l_1 (Int.toNat t_7) ((0 : Int), ((0 : Int), (0 : Int)))).2.1), .val (.int .i64 (List.getD l_1 (Int.toNat t_7) ((0 : Int), ((0 : Int), (0 : Int)))).2.2)])], 2⟩ [(!r_13) = false, (decide ((List.getD l_1 (Int.toNat t_7) ((0 : Int), ((0 : Int), (0 : Int)))).1 < (0 : Int))) = false, (decide ((List.getD l_1 (Int.toNat t_7) ((0 : Int), ((0 : Int), (0 : Int)))).1 ≥ (List.getD l_1 (Int.toNat t_7) ((0 : Int), ((0 : Int), (0 : Int)))).2.1)) = true] (by kernel_rfl) rfl rfl (ap2 b_15 (ap2 b_17 (ap1 b_19))) (by kernel_rfl) (by kernel_rfl) ?_
              have H_65 := Option.some.inj (show some true = some q_52 from H_63); subst H_65
              refine VL_nil ?_
              exact QP_end true rfl [(1, 1)] hn (by kernel_rfl) (by kernel_rfl) rfl rfl rfl
            · have H_64 := of_f H_61 b_19
              refine V_reg hN hn [(2, ⟨24, 0, [.c (.val (.int .i64 (List.getD l_1 (Int.toNat t_7) ((0 : Int), ((0 : Int), (0 : Int)))).2.2)), .c (.val (.int .i64 (1 : Int))), .c (.val (.int .i64 (100 : Int)))], [], .c (.val (.bool r_13)), [], [], 2⟩)] [(23, false), (28, false), (35, false)] (calls_cons (spans_within_spec K (List.getD l_1 (Int.toNat t_7) ((0 : Int), ((0 : Int), (0 : Int)))).2.2 (1 : Int) (100 : Int) r_13 h_14) (by kernel_rfl) calls_nil) 2 [0, 1, 5, 6, 12, 13, 14, 40] [0, 1] ⟨[(0, .c (.h 0)), (1, .c (.val (.int .i64 (mn2 n_2 (20000 : Int))))), (5, .c (.val (.int .i64 t_7))), (6, .c (.h 1)), (12, .c (.h 0)), (13, .c (.val (.int .i64 (((List.length l_1) : Nat) : Int)))), (14, .c (.val (.int .i64 t_7))), (40, .c (.val (.bool (decide ((List.getD l_1 (Int.toNat t_7) ((0 : Int), ((0 : Int), (0 : Int)))).2.1 > (mn2 n_2 (20000 : Int)))))))], [(0, .row (.pair (.int .i64) (.pair (.int .i64) (.int .i64))) l_1), (1, .box [.val (.int .i64 (List.getD l_1 (Int.toNat t_7) ((0 : Int), ((0 : Int), (0 : Int)))).1), .val (.int .i64 (List.getD l_1 (Int.toNat t_7) ((0 : Int), ((0 : Int), (0 : Int)))).2.1), .val (.int .i64 (List.getD l_1 (Int.toNat t_7) ((0 : Int), ((0 : Int), (0 : Int)))).2.2)])], 2⟩ [(!r_13) = false, (decide ((List.getD l_1 (Int.toNat t_7) ((0 : Int), ((0 : Int), (0 : Int)))).1 < (0 : Int))) = false, (decide ((List.getD l_1 (Int.toNat t_7) ((0 : Int), ((0 : Int), (0 : Int)))).1 ≥ (List.getD l_1 (Int.toNat t_7) ((0 : Int), ((0 : Int), (0 : Int)))).2.1)) = false] (by kernel_rfl) rfl rfl (ap2 b_15 (ap2 b_17 (ap1 b_19))) (by kernel_rfl) (by kernel_rfl) ?_
              have H_66 := Option.some.inj (show some (decide ((List.getD l_1 (Int.toNat t_7) ((0 : Int), ((0 : Int), (0 : Int)))).2.1 > (mn2 n_2 (20000 : Int)))) = some q_52 from H_64); subst H_66
              refine VL_nil ?_
              exact QP_end (decide ((List.getD l_1 (Int.toNat t_7) ((0 : Int), ((0 : Int), (0 : Int)))).2.1 > (mn2 n_2 (20000 : Int)))) rfl [(1, 1)] hn (by kernel_rfl) (by kernel_rfl) rfl rfl rfl
      · intro y_55 hy; subst hy
        skip
        skip
        refine VL_cond (y_55) (by kernel_rfl) ?_ ?_
        · intro b_23; have H_67 := of_t H_54 b_23
          refine V_run hN hn 2 2 [4] [0] ⟨[(4, .c (.val (.bool false)))], [(0, .row (.pair (.int .i64) (.pair (.int .i64) (.int .i64))) l_1)], 2⟩ [] (by kernel_rfl) rfl rfl ap0 ?_
          have H_69 := Option.some.inj (show some false = some r from H_67); subst H_69
          refine VL_ret ?_
          refine QB_ret ?_
          refine QL_ret ?_
          refine QB_ret ?_
          exact P_to [(4, .c (.val (.bool false)))] [(0, .row (.pair (.int .i64) (.pair (.int .i64) (.int .i64))) l_1)] [] hn (by kernel_rfl) (by kernel_rfl) rfl rfl rfl (QF_retS (by kernel_rfl) (by kernel_rfl) rfl)
        · intro b_23; have H_68 := of_f H_54 b_23
          refine V_run hN hn 2 2 [0, 1, 5, 6, 12, 13, 14, 40] [0, 1] ⟨[(0, .c (.h 0)), (1, .c (.val (.int .i64 (mn2 n_2 (20000 : Int))))), (5, .c (.val (.int .i64 t_7))), (6, .c (.h 1)), (12, .c (.h 0)), (13, .c (.val (.int .i64 (((List.length l_1) : Nat) : Int)))), (14, .c (.val (.int .i64 t_7))), (40, .c (.val (.bool y_55)))], [(0, .row (.pair (.int .i64) (.pair (.int .i64) (.int .i64))) l_1), (1, .box [.val (.int .i64 (List.getD l_1 (Int.toNat t_7) ((0 : Int), ((0 : Int), (0 : Int)))).1), .val (.int .i64 (List.getD l_1 (Int.toNat t_7) ((0 : Int), ((0 : Int), (0 : Int)))).2.1), .val (.int .i64 (List.getD l_1 (Int.toNat t_7) ((0 : Int), ((0 : Int), (0 : Int)))).2.2)])], 2⟩ [] (by kernel_rfl) rfl rfl ap0 ?_
          obtain ⟨q_70, H_71, H_72⟩ := of_bind H_68
          refine V_cut (Y := Bool) (R := Bool) q_70 (fun y => y) (fun y => [(0, .c (.h 0)), (1, .c (.val (.int .i64 (mn2 n_2 (20000 : Int))))), (12, .c (.h 0)), (13, .c (.val (.int .i64 (((List.length l_1) : Nat) : Int)))), (14, .c (.val (.int .i64 t_7))), (75, .c (.val (.bool y)))]) (fun y => [(0, .row (.pair (.int .i64) (.pair (.int .i64) (.int .i64))) l_1)]) ?_ ?_
          · skip
            rcases Bool.eq_false_or_eq_true ((decide (t_7 > (0 : Int)))) with b_26 | b_26
            · have H_74 := of_t H_71 b_26
              rcases Bool.eq_false_or_eq_true ((decide ((List.getD l_1 (Int.toNat t_7) ((0 : Int), ((0 : Int), (0 : Int)))).1 < (List.getD l_1 (Int.toNat (IntKind.wrap .i64 (t_7 - (1 : Int)))) ((0 : Int), ((0 : Int), (0 : Int)))).2.1))) with b_27 | b_27
              · have H_76 := of_t H_74 b_27
                obtain ⟨c_28, H_78⟩ := of_if H_76
                refine V_draw hN hn (by kernel_rfl) [] [(43, true), (53, true)] calls_nil 2 [0, 1, 12, 13, 14, 75] [0] ⟨[(0, .c (.h 0)), (1, .c (.val (.int .i64 (mn2 n_2 (20000 : Int))))), (12, .c (.h 0)), (13, .c (.val (.int .i64 (((List.length l_1) : Nat) : Int)))), (14, .c (.val (.int .i64 t_7))), (75, .c (.val (.bool true)))], [(0, .row (.pair (.int .i64) (.pair (.int .i64) (.int .i64))) l_1)], 2⟩ [(decide (t_7 > (0 : Int))) = true, 0 ≤ (IntKind.wrap .i64 (t_7 - (1 : Int))), (IntKind.wrap .i64 (t_7 - (1 : Int))) < (((List.length l_1) : Nat) : Int), (decide ((List.getD l_1 (Int.toNat t_7) ((0 : Int), ((0 : Int), (0 : Int)))).1 < (List.getD l_1 (Int.toNat (IntKind.wrap .i64 (t_7 - (1 : Int)))) ((0 : Int), ((0 : Int), (0 : Int)))).2.1)) = true] (by kernel_rfl) rfl rfl (ap2 b_26 (ap2 c_28.1 (ap2 c_28.2 (ap1 b_27)))) (by kernel_rfl) (by kernel_rfl) ?_
                have H_79 := Option.some.inj (show some true = some q_70 from H_78); subst H_79
                refine VL_nil ?_
                exact QP_end true rfl [] hn (by kernel_rfl) (by kernel_rfl) rfl rfl rfl
              · have H_77 := of_f H_74 b_27
                rcases Bool.eq_false_or_eq_true (((List.getD l_1 (Int.toNat t_7) ((0 : Int), ((0 : Int), (0 : Int)))).1 == (List.getD l_1 (Int.toNat (IntKind.wrap .i64 (t_7 - (1 : Int)))) ((0 : Int), ((0 : Int), (0 : Int)))).2.1)) with b_29 | b_29
                · have H_80 := of_t H_77 b_29
                  obtain ⟨c_30, H_82⟩ := of_if H_80
                  refine V_draw hN hn (by kernel_rfl) [] [(43, true), (53, false), (63, true)] calls_nil 2 [0, 1, 12, 13, 14, 75] [0] ⟨[(0, .c (.h 0)), (1, .c (.val (.int .i64 (mn2 n_2 (20000 : Int))))), (12, .c (.h 0)), (13, .c (.val (.int .i64 (((List.length l_1) : Nat) : Int)))), (14, .c (.val (.int .i64 t_7))), (75, .c (.val (.bool ((List.getD l_1 (Int.toNat t_7) ((0 : Int), ((0 : Int), (0 : Int)))).2.2 == (List.getD l_1 (Int.toNat (IntKind.wrap .i64 (t_7 - (1 : Int)))) ((0 : Int), ((0 : Int), (0 : Int)))).2.2))))], [(0, .row (.pair (.int .i64) (.pair (.int .i64) (.int .i64))) l_1)], 2⟩ [(decide (t_7 > (0 : Int))) = true, 0 ≤ (IntKind.wrap .i64 (t_7 - (1 : Int))), (IntKind.wrap .i64 (t_7 - (1 : Int))) < (((List.length l_1) : Nat) : Int), (decide ((List.getD l_1 (Int.toNat t_7) ((0 : Int), ((0 : Int), (0 : Int)))).1 < (List.getD l_1 (Int.toNat (IntKind.wrap .i64 (t_7 - (1 : Int)))) ((0 : Int), ((0 : Int), (0 : Int)))).2.1)) = false, 0 ≤ (IntKind.wrap .i64 (t_7 - (1 : Int))), (IntKind.wrap .i64 (t_7 - (1 : Int))) < (((List.length l_1) : Nat) : Int), ((List.getD l_1 (Int.toNat t_7) ((0 : Int), ((0 : Int), (0 : Int)))).1 == (List.getD l_1 (Int.toNat (IntKind.wrap .i64 (t_7 - (1 : Int)))) ((0 : Int), ((0 : Int), (0 : Int)))).2.1) = true, 0 ≤ (IntKind.wrap .i64 (t_7 - (1 : Int))), (IntKind.wrap .i64 (t_7 - (1 : Int))) < (((List.length l_1) : Nat) : Int)] (by kernel_rfl) rfl rfl (ap2 b_26 (ap2 c_30.1 (ap2 c_30.2 (ap2 b_27 (ap2 c_30.1 (ap2 c_30.2 (ap2 b_29 (ap2 c_30.1 (ap1 c_30.2))))))))) (by kernel_rfl) (by kernel_rfl) ?_
                  have H_83 := Option.some.inj (show some ((List.getD l_1 (Int.toNat t_7) ((0 : Int), ((0 : Int), (0 : Int)))).2.2 == (List.getD l_1 (Int.toNat (IntKind.wrap .i64 (t_7 - (1 : Int)))) ((0 : Int), ((0 : Int), (0 : Int)))).2.2) = some q_70 from H_82); subst H_83
                  refine VL_nil ?_
                  exact QP_end ((List.getD l_1 (Int.toNat t_7) ((0 : Int), ((0 : Int), (0 : Int)))).2.2 == (List.getD l_1 (Int.toNat (IntKind.wrap .i64 (t_7 - (1 : Int)))) ((0 : Int), ((0 : Int), (0 : Int)))).2.2) rfl [] hn (by kernel_rfl) (by kernel_rfl) rfl rfl rfl
                · have H_81 := of_f H_77 b_29
                  obtain ⟨c_31, H_84⟩ := of_if H_81
                  refine V_draw hN hn (by kernel_rfl) [] [(43, true), (53, false), (63, false)] calls_nil 2 [0, 1, 12, 13, 14, 75] [0] ⟨[(0, .c (.h 0)), (1, .c (.val (.int .i64 (mn2 n_2 (20000 : Int))))), (12, .c (.h 0)), (13, .c (.val (.int .i64 (((List.length l_1) : Nat) : Int)))), (14, .c (.val (.int .i64 t_7))), (75, .c (.val (.bool false)))], [(0, .row (.pair (.int .i64) (.pair (.int .i64) (.int .i64))) l_1)], 2⟩ [(decide (t_7 > (0 : Int))) = true, 0 ≤ (IntKind.wrap .i64 (t_7 - (1 : Int))), (IntKind.wrap .i64 (t_7 - (1 : Int))) < (((List.length l_1) : Nat) : Int), (decide ((List.getD l_1 (Int.toNat t_7) ((0 : Int), ((0 : Int), (0 : Int)))).1 < (List.getD l_1 (Int.toNat (IntKind.wrap .i64 (t_7 - (1 : Int)))) ((0 : Int), ((0 : Int), (0 : Int)))).2.1)) = false, 0 ≤ (IntKind.wrap .i64 (t_7 - (1 : Int))), (IntKind.wrap .i64 (t_7 - (1 : Int))) < (((List.length l_1) : Nat) : Int), ((List.getD l_1 (Int.toNat t_7) ((0 : Int), ((0 : Int), (0 : Int)))).1 == (List.getD l_1 (Int.toNat (IntKind.wrap .i64 (t_7 - (1 : Int)))) ((0 : Int), ((0 : Int), (0 : Int)))).2.1) = false] (by kernel_rfl) rfl rfl (ap2 b_26 (ap2 c_31.1 (ap2 c_31.2 (ap2 b_27 (ap2 c_31.1 (ap2 c_31.2 (ap1 b_29))))))) (by kernel_rfl) (by kernel_rfl) ?_
                  have H_85 := Option.some.inj (show some false = some q_70 from H_84); subst H_85
                  refine VL_nil ?_
                  exact QP_end false rfl [] hn (by kernel_rfl) (by kernel_rfl) rfl rfl rfl
            · have H_75 := of_f H_71 b_26
              refine V_draw hN hn (by kernel_rfl) [] [(43, false)] calls_nil 2 [0, 1, 12, 13, 14, 75] [0] ⟨[(0, .c (.h 0)), (1, .c (.val (.int .i64 (mn2 n_2 (20000 : Int))))), (12, .c (.h 0)), (13, .c (.val (.int .i64 (((List.length l_1) : Nat) : Int)))), (14, .c (.val (.int .i64 t_7))), (75, .c (.val (.bool false)))], [(0, .row (.pair (.int .i64) (.pair (.int .i64) (.int .i64))) l_1)], 2⟩ [(decide (t_7 > (0 : Int))) = false] (by kernel_rfl) rfl rfl (ap1 b_26) (by kernel_rfl) (by kernel_rfl) ?_
              have H_86 := Option.some.inj (show some false = some q_70 from H_75); subst H_86
              refine VL_nil ?_
              exact QP_end false rfl [] hn (by kernel_rfl) (by kernel_rfl) rfl rfl rfl
          · intro y_73 hy; subst hy
            skip
            skip
            refine VL_cond (y_73) (by kernel_rfl) ?_ ?_
            · intro b_34; have H_87 := of_t H_72 b_34
              refine V_run hN hn 2 2 [4] [0] ⟨[(4, .c (.val (.bool false)))], [(0, .row (.pair (.int .i64) (.pair (.int .i64) (.int .i64))) l_1)], 2⟩ [] (by kernel_rfl) rfl rfl ap0 ?_
              have H_89 := Option.some.inj (show some false = some r from H_87); subst H_89
              refine VL_ret ?_
              refine QB_ret ?_
              refine QL_ret ?_
              refine QB_ret ?_
              exact P_to [(4, .c (.val (.bool false)))] [(0, .row (.pair (.int .i64) (.pair (.int .i64) (.int .i64))) l_1)] [] hn (by kernel_rfl) (by kernel_rfl) rfl rfl rfl (QF_retS (by kernel_rfl) (by kernel_rfl) rfl)
            · intro b_34; have H_88 := of_f H_72 b_34
              refine V_run hN hn 1 2 [0, 1, 12, 13, 14, 75] [0] ⟨[(0, .c (.h 0)), (1, .c (.val (.int .i64 (mn2 n_2 (20000 : Int))))), (12, .c (.h 0)), (13, .c (.val (.int .i64 (((List.length l_1) : Nat) : Int)))), (14, .c (.val (.int .i64 t_7))), (75, .c (.val (.bool y_73)))], [(0, .row (.pair (.int .i64) (.pair (.int .i64) (.int .i64))) l_1)], 2⟩ [] (by kernel_rfl) rfl rfl ap0 ?_
              refine VL_nil (QB_end ?_)
              refine V_run hN hn 1 2 [0, 1, 12, 13, 14] [0] ⟨[(0, .c (.h 0)), (1, .c (.val (.int .i64 (mn2 n_2 (20000 : Int))))), (12, .c (.h 0)), (13, .c (.val (.int .i64 (((List.length l_1) : Nat) : Int)))), (14, .c (.val (.int .i64 (IntKind.wrap .i64 (t_7 + (1 : Int))))))], [(0, .row (.pair (.int .i64) (.pair (.int .i64) (.int .i64))) l_1)], 2⟩ [] (by kernel_rfl) rfl rfl ap0 ?_
              refine VL_nil ?_
              exact V_roundEnd (IntKind.wrap .i64 (t_7 + (1 : Int))) H_88 [] hn (by kernel_rfl) (by kernel_rfl) rfl rfl rfl
    · intro b_10; have H_50 := of_f H_48 b_10
      refine VL_exit ?_
      refine QL_exit ?_
      refine QB_here ?_
      refine V_run hN hn 2 1 [4] [0] ⟨[(4, .c (.val (.bool true)))], [(0, .row (.pair (.int .i64) (.pair (.int .i64) (.int .i64))) l_1)], 1⟩ [] (by kernel_rfl) rfl rfl ap0 ?_
      have H_90 := Option.some.inj (show some true = some r from H_50); subst H_90
      refine VL_ret ?_
      exact P_to [(4, .c (.val (.bool true)))] [(0, .row (.pair (.int .i64) (.pair (.int .i64) (.int .i64))) l_1)] [] hn (by kernel_rfl) (by kernel_rfl) rfl rfl rfl (QF_retS (by kernel_rfl) (by kernel_rfl) rfl)

theorem spans_Put_rsggg_spec (K : Nat) (l_1 : (List (Int × (Int × Int)))) (s_2 : Int) (s_3 : Int) (s_4 : Int) (r : ((List (Int × (Int × Int))) × Int)) (H : spans_Put_nsggg K l_1 s_2 s_3 s_4 = some r) : Spec Try.prog 10 1 [.c (.h 0), .agg [.val (.int .i64 s_2), .val (.int .i64 s_3), .val (.int .i64 s_4)]] [(0, .row (.pair (.int .i64) (.pair (.int .i64) (.int .i64))) l_1)] (.tup [(false, [.h 10]), (false, [.val (.int .i64 r.2)])]) [(0, .row (.pair (.int .i64) (.pair (.int .i64) (.int .i64))) l_1), (10, .row (.pair (.int .i64) (.pair (.int .i64) (.int .i64))) r.1)] := by
  refine Spec_mk (fn := Try.f10) (c := (Try.f10.body).get!) Try.func10 (by kernel_rfl) rfl ?_
  intro C hN hn
  replace hN : C.N = 88 := hN
  unfold spans_Put_nsggg at H
  refine V_run hN hn 4 1 [0, 3] [0, 1] ⟨[(0, .c (.h 0)), (3, .c (.h 1))], [(0, .row (.pair (.int .i64) (.pair (.int .i64) (.int .i64))) l_1), (1, .box [.val (.int .i64 s_2), .val (.int .i64 s_3), .val (.int .i64 s_4)])], 2⟩ [] (by kernel_rfl) rfl rfl ap0 ?_
  obtain ⟨q_80, H_81, H_82⟩ := of_bind H
  refine V_cut (Y := Bool) (R := Bool) q_80 (fun y => y) (fun y => [(0, .c (.h 0)), (3, .c (.h 1)), (34, .c (.val (.bool y)))]) (fun y => [(0, .row (.pair (.int .i64) (.pair (.int .i64) (.int .i64))) l_1), (1, .box [.val (.int .i64 s_2), .val (.int .i64 s_3), .val (.int .i64 s_4)])]) ?_ ?_
  · skip
    obtain ⟨r_6, h_7, H_84⟩ := of_bind H_81
    rcases Bool.eq_false_or_eq_true ((!r_6)) with b_8 | b_8
    · have H_85 := of_t H_84 b_8
      refine V_reg hN hn [(1, ⟨13, 1, [.c (.h 0), .c (.val (.int .i64 (20000 : Int)))], [(0, .row (.pair (.int .i64) (.pair (.int .i64) (.int .i64))) l_1)], .c (.val (.bool r_6)), [(0, .row (.pair (.int .i64) (.pair (.int .i64) (.int .i64))) l_1)], [(0, 0)], 2⟩)] [(12, true)] (calls_cons (spans_Is_rg_spec K l_1 (20000 : Int) r_6 h_7) (by kernel_rfl) calls_nil) 2 [0, 3, 34] [0, 1] ⟨[(0, .c (.h 0)), (3, .c (.h 1)), (34, .c (.val (.bool true)))], [(0, .row (.pair (.int .i64) (.pair (.int .i64) (.int .i64))) l_1), (1, .box [.val (.int .i64 s_2), .val (.int .i64 s_3), .val (.int .i64 s_4)])], 2⟩ [(!r_6) = true] (by kernel_rfl) rfl rfl (ap1 b_8) (by kernel_rfl) (by kernel_rfl) ?_
      have H_87 := Option.some.inj (show some true = some q_80 from H_85); subst H_87
      refine VL_nil ?_
      exact QP_end true rfl [(1, 1)] hn (by kernel_rfl) (by kernel_rfl) rfl rfl rfl
    · have H_86 := of_f H_84 b_8
      obtain ⟨r_10, h_11, H_88⟩ := of_bind H_86
      rcases Bool.eq_false_or_eq_true ((!r_10)) with b_12 | b_12
      · have H_89 := of_t H_88 b_12
        refine V_reg hN hn [(1, ⟨13, 1, [.c (.h 0), .c (.val (.int .i64 (20000 : Int)))], [(0, .row (.pair (.int .i64) (.pair (.int .i64) (.int .i64))) l_1)], .c (.val (.bool r_6)), [(0, .row (.pair (.int .i64) (.pair (.int .i64) (.int .i64))) l_1)], [(0, 0)], 2⟩), (6, ⟨24, 0, [.c (.val (.int .i64 s_4)), .c (.val (.int .i64 (0 : Int))), .c (.val (.int .i64 (100 : Int)))], [], .c (.val (.bool r_10)), [], [], 2⟩)] [(12, false), (18, true)] (calls_cons (spans_Is_rg_spec K l_1 (20000 : Int) r_6 h_7) (by kernel_rfl) (calls_cons (spans_within_spec K s_4 (0 : Int) (100 : Int) r_10 h_11) (by kernel_rfl) calls_nil)) 2 [0, 3, 34] [0, 1] ⟨[(0, .c (.h 0)), (3, .c (.h 1)), (34, .c (.val (.bool true)))], [(0, .row (.pair (.int .i64) (.pair (.int .i64) (.int .i64))) l_1), (1, .box [.val (.int .i64 s_2), .val (.int .i64 s_3), .val (.int .i64 s_4)])], 2⟩ [(!r_6) = false, (!r_10) = true] (by kernel_rfl) rfl rfl (ap2 b_8 (ap1 b_12)) (by kernel_rfl) (by kernel_rfl) ?_
        have H_91 := Option.some.inj (show some true = some q_80 from H_89); subst H_91
        refine VL_nil ?_
        exact QP_end true rfl [(1, 1)] hn (by kernel_rfl) (by kernel_rfl) rfl rfl rfl
      · have H_90 := of_f H_88 b_12
        rcases Bool.eq_false_or_eq_true ((decide (s_2 < (0 : Int)))) with b_14 | b_14
        · have H_92 := of_t H_90 b_14
          refine V_reg hN hn [(1, ⟨13, 1, [.c (.h 0), .c (.val (.int .i64 (20000 : Int)))], [(0, .row (.pair (.int .i64) (.pair (.int .i64) (.int .i64))) l_1)], .c (.val (.bool r_6)), [(0, .row (.pair (.int .i64) (.pair (.int .i64) (.int .i64))) l_1)], [(0, 0)], 2⟩), (6, ⟨24, 0, [.c (.val (.int .i64 s_4)), .c (.val (.int .i64 (0 : Int))), .c (.val (.int .i64 (100 : Int)))], [], .c (.val (.bool r_10)), [], [], 2⟩)] [(12, false), (18, false), (23, true)] (calls_cons (spans_Is_rg_spec K l_1 (20000 : Int) r_6 h_7) (by kernel_rfl) (calls_cons (spans_within_spec K s_4 (0 : Int) (100 : Int) r_10 h_11) (by kernel_rfl) calls_nil)) 2 [0, 3, 34] [0, 1] ⟨[(0, .c (.h 0)), (3, .c (.h 1)), (34, .c (.val (.bool true)))], [(0, .row (.pair (.int .i64) (.pair (.int .i64) (.int .i64))) l_1), (1, .box [.val (.int .i64 s_2), .val (.int .i64 s_3), .val (.int .i64 s_4)])], 2⟩ [(!r_6) = false, (!r_10) = false, (decide (s_2 < (0 : Int))) = true] (by kernel_rfl) rfl rfl (ap2 b_8 (ap2 b_12 (ap1 b_14))) (by kernel_rfl) (by kernel_rfl) ?_
          have H_94 := Option.some.inj (show some true = some q_80 from H_92); subst H_94
          refine VL_nil ?_
          exact QP_end true rfl [(1, 1)] hn (by kernel_rfl) (by kernel_rfl) rfl rfl rfl
        · have H_93 := of_f H_90 b_14
          rcases Bool.eq_false_or_eq_true ((decide (s_2 > s_3))) with b_16 | b_16
          · have H_95 := of_t H_93 b_16
            refine V_reg hN hn [(1, ⟨13, 1, [.c (.h 0), .c (.val (.int .i64 (20000 : Int)))], [(0, .row (.pair (.int .i64) (.pair (.int .i64) (.int .i64))) l_1)], .c (.val (.bool r_6)), [(0, .row (.pair (.int .i64) (.pair (.int .i64) (.int .i64))) l_1)], [(0, 0)], 2⟩), (6, ⟨24, 0, [.c (.val (.int .i64 s_4)), .c (.val (.int .i64 (0 : Int))), .c (.val (.int .i64 (100 : Int)))], [], .c (.val (.bool r_10)), [], [], 2⟩)] [(12, false), (18, false), (23, false), (30, true)] (calls_cons (spans_Is_rg_spec K l_1 (20000 : Int) r_6 h_7) (by kernel_rfl) (calls_cons (spans_within_spec K s_4 (0 : Int) (100 : Int) r_10 h_11) (by kernel_rfl) calls_nil)) 2 [0, 3, 34] [0, 1] ⟨[(0, .c (.h 0)), (3, .c (.h 1)), (34, .c (.val (.bool true)))], [(0, .row (.pair (.int .i64) (.pair (.int .i64) (.int .i64))) l_1), (1, .box [.val (.int .i64 s_2), .val (.int .i64 s_3), .val (.int .i64 s_4)])], 2⟩ [(!r_6) = false, (!r_10) = false, (decide (s_2 < (0 : Int))) = false, (decide (s_2 > s_3)) = true] (by kernel_rfl) rfl rfl (ap2 b_8 (ap2 b_12 (ap2 b_14 (ap1 b_16)))) (by kernel_rfl) (by kernel_rfl) ?_
            have H_97 := Option.some.inj (show some true = some q_80 from H_95); subst H_97
            refine VL_nil ?_
            exact QP_end true rfl [(1, 1)] hn (by kernel_rfl) (by kernel_rfl) rfl rfl rfl
          · have H_96 := of_f H_93 b_16
            refine V_reg hN hn [(1, ⟨13, 1, [.c (.h 0), .c (.val (.int .i64 (20000 : Int)))], [(0, .row (.pair (.int .i64) (.pair (.int .i64) (.int .i64))) l_1)], .c (.val (.bool r_6)), [(0, .row (.pair (.int .i64) (.pair (.int .i64) (.int .i64))) l_1)], [(0, 0)], 2⟩), (6, ⟨24, 0, [.c (.val (.int .i64 s_4)), .c (.val (.int .i64 (0 : Int))), .c (.val (.int .i64 (100 : Int)))], [], .c (.val (.bool r_10)), [], [], 2⟩)] [(12, false), (18, false), (23, false), (30, false)] (calls_cons (spans_Is_rg_spec K l_1 (20000 : Int) r_6 h_7) (by kernel_rfl) (calls_cons (spans_within_spec K s_4 (0 : Int) (100 : Int) r_10 h_11) (by kernel_rfl) calls_nil)) 2 [0, 3, 34] [0, 1] ⟨[(0, .c (.h 0)), (3, .c (.h 1)), (34, .c (.val (.bool (decide (s_3 > (20000 : Int))))))], [(0, .row (.pair (.int .i64) (.pair (.int .i64) (.int .i64))) l_1), (1, .box [.val (.int .i64 s_2), .val (.int .i64 s_3), .val (.int .i64 s_4)])], 2⟩ [(!r_6) = false, (!r_10) = false, (decide (s_2 < (0 : Int))) = false, (decide (s_2 > s_3)) = false] (by kernel_rfl) rfl rfl (ap2 b_8 (ap2 b_12 (ap2 b_14 (ap1 b_16)))) (by kernel_rfl) (by kernel_rfl) ?_
            have H_98 := Option.some.inj (show some (decide (s_3 > (20000 : Int))) = some q_80 from H_96); subst H_98
            refine VL_nil ?_
            exact QP_end (decide (s_3 > (20000 : Int))) rfl [(1, 1)] hn (by kernel_rfl) (by kernel_rfl) rfl rfl rfl
  · intro y_83 hy; subst hy
    skip
    skip
    refine VL_cond (y_83) (by kernel_rfl) ?_ ?_
    · intro b_20; have H_99 := of_t H_82 b_20
      refine V_run hN hn 2 2 [4, 5] [0] ⟨[(4, .c (.val (.slice none 0 0))), (5, .c (.val (.int .i64 (12 : Int))))], [(0, .row (.pair (.int .i64) (.pair (.int .i64) (.int .i64))) l_1)], 2⟩ [] (by kernel_rfl) rfl rfl ap0 ?_
      have H_101 := Option.some.inj (show some (([] : List (Int × (Int × Int))), (12 : Int)) = some r from H_99); subst H_101
      refine VL_ret ?_
      refine P_ghost [.nilSlot 4 (.pair (.int .i64) (.pair (.int .i64) (.int .i64)))] 2 hn [4, 5] [0, 2] ⟨[(4, .c (.h 2)), (5, .c (.val (.int .i64 (12 : Int))))], [(0, .row (.pair (.int .i64) (.pair (.int .i64) (.int .i64))) l_1), (2, .row (.pair (.int .i64) (.pair (.int .i64) (.int .i64))) ([] : List (Int × (Int × Int))))], 3⟩ (by kernel_rfl) rfl rfl ?_
      exact P_to [(4, .c (.h 10)), (5, .c (.val (.int .i64 (12 : Int))))] [(0, .row (.pair (.int .i64) (.pair (.int .i64) (.int .i64))) l_1), (10, .row (.pair (.int .i64) (.pair (.int .i64) (.int .i64))) ([] : List (Int × (Int × Int))))] [(10, 2)] hn (by kernel_rfl) (by kernel_rfl) rfl rfl rfl (QF_retS (by kernel_rfl) (by kernel_rfl) rfl)
    · intro b_20; have H_100 := of_f H_82 b_20
      refine V_run hN hn 6 2 [3, 6, 35, 36, 37] [0, 1, 2] ⟨[(3, .c (.h 1)), (6, .c (.h 2)), (35, .c (.h 0)), (36, .c (.val (.int .i64 (((List.length l_1) : Nat) : Int)))), (37, .c (.val (.int .i64 (0 : Int))))], [(0, .row (.pair (.int .i64) (.pair (.int .i64) (.int .i64))) l_1), (1, .box [.val (.int .i64 s_2), .val (.int .i64 s_3), .val (.int .i64 s_4)]), (2, .box [.val (.slice none 0 0)])], 3⟩ [] (by kernel_rfl) rfl rfl ap0 ?_
      obtain ⟨q_102, H_103, H_104⟩ := of_bind H_100
      refine V_cut (Y := (List (Int × (Int × Int)))) (R := (List (Int × (Int × Int)))) q_102 (fun y => y) (fun y => [(3, .c (.h 1)), (6, .c (.h 2))]) (fun y => [(0, .row (.pair (.int .i64) (.pair (.int .i64) (.int .i64))) l_1), (1, .box [.val (.int .i64 s_2), .val (.int .i64 s_3), .val (.int .i64 s_4)]), (2, .box [.h 6]), (6, .row (.pair (.int .i64) (.pair (.int .i64) (.int .i64))) y)]) ?_ ?_
      · skip
        refine VL_block ?_
        refine V_ghost [.nilCell 2 0 (.pair (.int .i64) (.pair (.int .i64) (.int .i64)))] 3 hn [3, 6, 35, 36, 37] [0, 1, 2, 3] ⟨[(3, .c (.h 1)), (6, .c (.h 2)), (35, .c (.h 0)), (36, .c (.val (.int .i64 (((List.length l_1) : Nat) : Int)))), (37, .c (.val (.int .i64 (0 : Int))))], [(0, .row (.pair (.int .i64) (.pair (.int .i64) (.int .i64))) l_1), (1, .box [.val (.int .i64 s_2), .val (.int .i64 s_3), .val (.int .i64 s_4)]), (2, .box [.h 3]), (3, .row (.pair (.int .i64) (.pair (.int .i64) (.int .i64))) ([] : List (Int × (Int × Int))))], 4⟩ (by kernel_rfl) rfl rfl ?_
        refine V_to [(3, .c (.h 1)), (6, .c (.h 2)), (35, .c (.h 0)), (36, .c (.val (.int .i64 (((List.length l_1) : Nat) : Int)))), (37, .c (.val (.int .i64 (0 : Int))))] [(0, .row (.pair (.int .i64) (.pair (.int .i64) (.int .i64))) l_1), (1, .box [.val (.int .i64 s_2), .val (.int .i64 s_3), .val (.int .i64 s_4)]), (2, .box [.h 6]), (6, .row (.pair (.int .i64) (.pair (.int .i64) (.int .i64))) ([] : List (Int × (Int × Int))))] [(1, 1), (2, 2), (6, 3)] hn (by kernel_rfl) (by kernel_rfl) rfl rfl rfl ?_
        refine VL_loop (X := ((List (Int × (Int × Int))) × Int)) (fun x => [(3, .c (.h 1)), (6, .c (.h 2)), (35, .c (.h 0)), (36, .c (.val (.int .i64 (((List.length l_1) : Nat) : Int)))), (37, .c (.val (.int .i64 x.2)))]) (fun x => [(0, .row (.pair (.int .i64) (.pair (.int .i64) (.int .i64))) l_1), (1, .box [.val (.int .i64 s_2), .val (.int .i64 s_3), .val (.int .i64 s_4)]), (2, .box [.h 6]), (6, .row (.pair (.int .i64) (.pair (.int .i64) (.int .i64))) x.1)]) (fun k x => spans_Put_nsggg.l0 K l_1 s_2 s_3 k x.1 x.2 = some q_102) K (([] : List (Int × (Int × Int))), (0 : Int)) H_103 (fun _ h => no_none h) ?_
        intro k_44 x_44 H_106
        obtain ⟨x_43, t_23⟩ := x_44
        have H_107 : spans_Put_nsggg.l0 K l_1 s_2 s_3 (k_44 + 1) x_43 t_23 = some q_102 := H_106
        rw [spans_Put_nsggg.l0] at H_107
        refine V_run hN hn 3 7 [3, 6, 35, 36, 37, 38] [0, 1, 2, 6] ⟨[(3, .c (.h 1)), (6, .c (.h 2)), (35, .c (.h 0)), (36, .c (.val (.int .i64 (((List.length l_1) : Nat) : Int)))), (37, .c (.val (.int .i64 t_23))), (38, .c (.val (.bool (decide (t_23 < (((List.length l_1) : Nat) : Int))))))], [(0, .row (.pair (.int .i64) (.pair (.int .i64) (.int .i64))) l_1), (1, .box [.val (.int .i64 s_2), .val (.int .i64 s_3), .val (.int .i64 s_4)]), (2, .box [.h 6]), (6, .row (.pair (.int .i64) (.pair (.int .i64) (.int .i64))) x_43)], 7⟩ [] (by kernel_rfl) rfl rfl ap0 ?_
        refine VL_cond ((decide (t_23 < (((List.length l_1) : Nat) : Int)))) (by kernel_rfl) ?_ ?_
        · intro b_46; have H_108 := of_t H_107 b_46
          refine V_run hN hn 2 7 [3, 6, 35, 36, 37, 38] [0, 1, 2, 6] ⟨[(3, .c (.h 1)), (6, .c (.h 2)), (35, .c (.h 0)), (36, .c (.val (.int .i64 (((List.length l_1) : Nat) : Int)))), (37, .c (.val (.int .i64 t_23))), (38, .c (.val (.bool (decide (t_23 < (((List.length l_1) : Nat) : Int))))))], [(0, .row (.pair (.int .i64) (.pair (.int .i64) (.int .i64))) l_1), (1, .box [.val (.int .i64 s_2), .val (.int .i64 s_3), .val (.int .i64 s_4)]), (2, .box [.h 6]), (6, .row (.pair (.int .i64) (.pair (.int .i64) (.int .i64))) x_43)], 7⟩ [] (by kernel_rfl) rfl rfl ap0 ?_
          refine VL_block ?_
          obtain ⟨c_48, H_110⟩ := of_if H_108
          refine V_run hN hn 5 7 [3, 6, 8, 35, 36, 37, 45] [0, 1, 2, 6, 7] ⟨[(3, .c (.h 1)), (6, .c (.h 2)), (8, .c (.h 7)), (35, .c (.h 0)), (36, .c (.val (.int .i64 (((List.length l_1) : Nat) : Int)))), (37, .c (.val (.int .i64 t_23))), (45, .c (.val (.bool (s_2 == s_3))))], [(0, .row (.pair (.int .i64) (.pair (.int .i64) (.int .i64))) l_1), (1, .box [.val (.int .i64 s_2), .val (.int .i64 s_3), .val (.int .i64 s_4)]), (2, .box [.h 6]), (6, .row (.pair (.int .i64) (.pair (.int .i64) (.int .i64))) x_43), (7, .box [.val (.int .i64 (List.getD l_1 (Int.toNat t_23) ((0 : Int), ((0 : Int), (0 : Int)))).1), .val (.int .i64 (List.getD l_1 (Int.toNat t_23) ((0 : Int), ((0 : Int), (0 : Int)))).2.1), .val (.int .i64 (List.getD l_1 (Int.toNat t_23) ((0 : Int), ((0 : Int), (0 : Int)))).2.2)])], 8⟩ [0 ≤ t_23, t_23 < (((List.length l_1) : Nat) : Int)] (by kernel_rfl) rfl rfl (ap2 c_48.1 (ap1 c_48.2)) ?_
          refine VL_cond ((s_2 == s_3)) (by kernel_rfl) ?_ ?_
          · intro b_49; have H_111 := of_t H_110 b_49
            refine V_run hN hn 1 8 [3, 6, 8, 35, 36, 37, 45] [0, 1, 2, 6, 7] ⟨[(3, .c (.h 1)), (6, .c (.h 2)), (8, .c (.h 7)), (35, .c (.h 0)), (36, .c (.val (.int .i64 (((List.length l_1) : Nat) : Int)))), (37, .c (.val (.int .i64 t_23))), (45, .c (.val (.bool (s_2 == s_3))))], [(0, .row (.pair (.int .i64) (.pair (.int .i64) (.int .i64))) l_1), (1, .box [.val (.int .i64 s_2), .val (.int .i64 s_3), .val (.int .i64 s_4)]), (2, .box [.h 6]), (6, .row (.pair (.int .i64) (.pair (.int .i64) (.int .i64))) x_43), (7, .box [.val (.int .i64 (List.getD l_1 (Int.toNat t_23) ((0 : Int), ((0 : Int), (0 : Int)))).1), .val (.int .i64 (List.getD l_1 (Int.toNat t_23) ((0 : Int), ((0 : Int), (0 : Int)))).2.1), .val (.int .i64 (List.getD l_1 (Int.toNat t_23) ((0 : Int), ((0 : Int), (0 : Int)))).2.2)])], 8⟩ [] (by kernel_rfl) rfl rfl ap0 ?_
            obtain ⟨r_51, h_52, H_113⟩ := of_bind H_111
            refine V_reg hN hn [(6, ⟨25, 2, [.c (.h 0), .c (.val (.int .i64 (List.getD l_1 (Int.toNat t_23) ((0 : Int), ((0 : Int), (0 : Int)))).1)), .c (.val (.int .i64 (List.getD l_1 (Int.toNat t_23) ((0 : Int), ((0 : Int), (0 : Int)))).2.1)), .c (.val (.int .i64 (List.getD l_1 (Int.toNat t_23) ((0 : Int), ((0 : Int), (0 : Int)))).2.2))], [(0, .box [.h 1]), (1, .row (.pair (.int .i64) (.pair (.int .i64) (.int .i64))) x_43)], .tup [], [(0, .box [.h 4]), (4, .row (.pair (.int .i64) (.pair (.int .i64) (.int .i64))) r_51)], [(0, 2), (1, 6), (4, 8)], 9⟩)] [] (calls_cons (spans_row_add_bggg_b0cf7_spec K x_43 (List.getD l_1 (Int.toNat t_23) ((0 : Int), ((0 : Int), (0 : Int)))).1 (List.getD l_1 (Int.toNat t_23) ((0 : Int), ((0 : Int), (0 : Int)))).2.1 (List.getD l_1 (Int.toNat t_23) ((0 : Int), ((0 : Int), (0 : Int)))).2.2 r_51 h_52) (by kernel_rfl) calls_nil) 8 [3, 6, 35, 36, 37] [0, 1, 2, 8] ⟨[(3, .c (.h 1)), (6, .c (.h 2)), (35, .c (.h 0)), (36, .c (.val (.int .i64 (((List.length l_1) : Nat) : Int)))), (37, .c (.val (.int .i64 t_23)))], [(0, .row (.pair (.int .i64) (.pair (.int .i64) (.int .i64))) l_1), (1, .box [.val (.int .i64 s_2), .val (.int .i64 s_3), .val (.int .i64 s_4)]), (2, .box [.h 8]), (8, .row (.pair (.int .i64) (.pair (.int .i64) (.int .i64))) r_51)], 9⟩ [] (by kernel_rfl) rfl rfl ap0 (by kernel_rfl) (by kernel_rfl) ?_
            refine VL_exit ?_
            refine QB_here ?_
            refine V_run hN hn 1 9 [3, 6, 35, 36, 37] [0, 1, 2, 8] ⟨[(3, .c (.h 1)), (6, .c (.h 2)), (35, .c (.h 0)), (36, .c (.val (.int .i64 (((List.length l_1) : Nat) : Int)))), (37, .c (.val (.int .i64 (IntKind.wrap .i64 (t_23 + (1 : Int))))))], [(0, .row (.pair (.int .i64) (.pair (.int .i64) (.int .i64))) l_1), (1, .box [.val (.int .i64 s_2), .val (.int .i64 s_3), .val (.int .i64 s_4)]), (2, .box [.h 8]), (8, .row (.pair (.int .i64) (.pair (.int .i64) (.int .i64))) r_51)], 9⟩ [] (by kernel_rfl) rfl rfl ap0 ?_
            refine VL_nil ?_
            exact V_roundEnd (r_51, (IntKind.wrap .i64 (t_23 + (1 : Int)))) H_113 [(1, 1), (2, 2), (6, 8)] hn (by kernel_rfl) (by kernel_rfl) rfl rfl rfl
          · intro b_49; have H_112 := of_f H_110 b_49
            refine V_run hN hn 2 8 [3, 6, 8, 35, 36, 37, 45] [0, 1, 2, 6, 7] ⟨[(3, .c (.h 1)), (6, .c (.h 2)), (8, .c (.h 7)), (35, .c (.h 0)), (36, .c (.val (.int .i64 (((List.length l_1) : Nat) : Int)))), (37, .c (.val (.int .i64 t_23))), (45, .c (.val (.bool (s_2 == s_3))))], [(0, .row (.pair (.int .i64) (.pair (.int .i64) (.int .i64))) l_1), (1, .box [.val (.int .i64 s_2), .val (.int .i64 s_3), .val (.int .i64 s_4)]), (2, .box [.h 6]), (6, .row (.pair (.int .i64) (.pair (.int .i64) (.int .i64))) x_43), (7, .box [.val (.int .i64 (List.getD l_1 (Int.toNat t_23) ((0 : Int), ((0 : Int), (0 : Int)))).1), .val (.int .i64 (List.getD l_1 (Int.toNat t_23) ((0 : Int), ((0 : Int), (0 : Int)))).2.1), .val (.int .i64 (List.getD l_1 (Int.toNat t_23) ((0 : Int), ((0 : Int), (0 : Int)))).2.2)])], 8⟩ [] (by kernel_rfl) rfl rfl ap0 ?_
            obtain ⟨r_56, h_57, H_114⟩ := of_bind H_112
            refine V_reg hN hn [(9, ⟨25, 2, [.c (.h 0), .c (.val (.int .i64 (List.getD l_1 (Int.toNat t_23) ((0 : Int), ((0 : Int), (0 : Int)))).1)), .c (.val (.int .i64 (mn2 (List.getD l_1 (Int.toNat t_23) ((0 : Int), ((0 : Int), (0 : Int)))).2.1 s_2))), .c (.val (.int .i64 (List.getD l_1 (Int.toNat t_23) ((0 : Int), ((0 : Int), (0 : Int)))).2.2))], [(0, .box [.h 1]), (1, .row (.pair (.int .i64) (.pair (.int .i64) (.int .i64))) x_43)], .tup [], [(0, .box [.h 4]), (4, .row (.pair (.int .i64) (.pair (.int .i64) (.int .i64))) r_56)], [(0, 2), (1, 6), (4, 8)], 9⟩)] [] (calls_cons (spans_row_add_bggg_b0cf7_spec K x_43 (List.getD l_1 (Int.toNat t_23) ((0 : Int), ((0 : Int), (0 : Int)))).1 (mn2 (List.getD l_1 (Int.toNat t_23) ((0 : Int), ((0 : Int), (0 : Int)))).2.1 s_2) (List.getD l_1 (Int.toNat t_23) ((0 : Int), ((0 : Int), (0 : Int)))).2.2 r_56 h_57) (by kernel_rfl) calls_nil) 8 [3, 6, 8, 35, 36, 37] [0, 1, 2, 7, 8] ⟨[(3, .c (.h 1)), (6, .c (.h 2)), (8, .c (.h 7)), (35, .c (.h 0)), (36, .c (.val (.int .i64 (((List.length l_1) : Nat) : Int)))), (37, .c (.val (.int .i64 t_23)))], [(0, .row (.pair (.int .i64) (.pair (.int .i64) (.int .i64))) l_1), (1, .box [.val (.int .i64 s_2), .val (.int .i64 s_3), .val (.int .i64 s_4)]), (2, .box [.h 8]), (7, .box [.val (.int .i64 (List.getD l_1 (Int.toNat t_23) ((0 : Int), ((0 : Int), (0 : Int)))).1), .val (.int .i64 (List.getD l_1 (Int.toNat t_23) ((0 : Int), ((0 : Int), (0 : Int)))).2.1), .val (.int .i64 (List.getD l_1 (Int.toNat t_23) ((0 : Int), ((0 : Int), (0 : Int)))).2.2)]), (8, .row (.pair (.int .i64) (.pair (.int .i64) (.int .i64))) r_56)], 9⟩ [] (by kernel_rfl) rfl rfl ap0 (by kernel_rfl) (by kernel_rfl) ?_
            obtain ⟨r_59, h_60, H_115⟩ := of_bind H_114
            refine V_reg hN hn [(9, ⟨25, 2, [.c (.h 0), .c (.val (.int .i64 (mx2 (List.getD l_1 (Int.toNat t_23) ((0 : Int), ((0 : Int), (0 : Int)))).1 s_3))), .c (.val (.int .i64 (List.getD l_1 (Int.toNat t_23) ((0 : Int), ((0 : Int), (0 : Int)))).2.1)), .c (.val (.int .i64 (List.getD l_1 (Int.toNat t_23) ((0 : Int), ((0 : Int), (0 : Int)))).2.2))], [(0, .box [.h 1]), (1, .row (.pair (.int .i64) (.pair (.int .i64) (.int .i64))) r_56)], .tup [], [(0, .box [.h 4]), (4, .row (.pair (.int .i64) (.pair (.int .i64) (.int .i64))) r_59)], [(0, 2), (1, 8), (4, 9)], 10⟩)] [] (calls_cons (spans_row_add_bggg_b0cf7_spec K r_56 (mx2 (List.getD l_1 (Int.toNat t_23) ((0 : Int), ((0 : Int), (0 : Int)))).1 s_3) (List.getD l_1 (Int.toNat t_23) ((0 : Int), ((0 : Int), (0 : Int)))).2.1 (List.getD l_1 (Int.toNat t_23) ((0 : Int), ((0 : Int), (0 : Int)))).2.2 r_59 h_60) (by kernel_rfl) calls_nil) 9 [3, 6, 35, 36, 37] [0, 1, 2, 9] ⟨[(3, .c (.h 1)), (6, .c (.h 2)), (35, .c (.h 0)), (36, .c (.val (.int .i64 (((List.length l_1) : Nat) : Int)))), (37, .c (.val (.int .i64 t_23)))], [(0, .row (.pair (.int .i64) (.pair (.int .i64) (.int .i64))) l_1), (1, .box [.val (.int .i64 s_2), .val (.int .i64 s_3), .val (.int .i64 s_4)]), (2, .box [.h 9]), (9, .row (.pair (.int .i64) (.pair (.int .i64) (.int .i64))) r_59)], 10⟩ [] (by kernel_rfl) rfl rfl ap0 (by kernel_rfl) (by kernel_rfl) ?_
            refine VL_nil (QB_end ?_)
            refine V_run hN hn 1 10 [3, 6, 35, 36, 37] [0, 1, 2, 9] ⟨[(3, .c (.h 1)), (6, .c (.h 2)), (35, .c (.h 0)), (36, .c (.val (.int .i64 (((List.length l_1) : Nat) : Int)))), (37, .c (.val (.int .i64 (IntKind.wrap .i64 (t_23 + (1 : Int))))))], [(0, .row (.pair (.int .i64) (.pair (.int .i64) (.int .i64))) l_1), (1, .box [.val (.int .i64 s_2), .val (.int .i64 s_3), .val (.int .i64 s_4)]), (2, .box [.h 9]), (9, .row (.pair (.int .i64) (.pair (.int .i64) (.int .i64))) r_59)], 10⟩ [] (by kernel_rfl) rfl rfl ap0 ?_
            refine VL_nil ?_
            exact V_roundEnd (r_59, (IntKind.wrap .i64 (t_23 + (1 : Int)))) H_115 [(1, 1), (2, 2), (6, 9)] hn (by kernel_rfl) (by kernel_rfl) rfl rfl rfl
        · intro b_46; have H_109 := of_f H_107 b_46
          refine VL_exit ?_
          refine QL_exit ?_
          refine QB_here ?_
          have H_116 := Option.some.inj (show some x_43 = some q_102 from H_109); subst H_116
          refine VL_nil ?_
          exact QP_end x_43 rfl [(1, 1), (2, 2), (6, 6)] hn (by kernel_rfl) (by kernel_rfl) rfl rfl rfl
      · intro y_105 hy; subst hy
        skip
        skip
        refine V_run hN hn 3 7 [3, 6, 76] [0, 1, 2, 6] ⟨[(3, .c (.h 1)), (6, .c (.h 2)), (76, .c (.val (.bool (decide (s_4 > (0 : Int))))))], [(0, .row (.pair (.int .i64) (.pair (.int .i64) (.int .i64))) l_1), (1, .box [.val (.int .i64 s_2), .val (.int .i64 s_3), .val (.int .i64 s_4)]), (2, .box [.h 6]), (6, .row (.pair (.int .i64) (.pair (.int .i64) (.int .i64))) y_105)], 7⟩ [] (by kernel_rfl) rfl rfl ap0 ?_
        obtain ⟨q_117, H_118, H_119⟩ := of_bind H_104
        refine V_cut (Y := (List (Int × (Int × Int)))) (R := (List (Int × (Int × Int)))) q_117 (fun y => y) (fun y => [(6, .c (.h 2))]) (fun y => [(0, .row (.pair (.int .i64) (.pair (.int .i64) (.int .i64))) l_1), (2, .box [.h 8]), (8, .row (.pair (.int .i64) (.pair (.int .i64) (.int .i64))) y)]) ?_ ?_
        · skip
          refine VL_cond ((decide (s_4 > (0 : Int)))) (by kernel_rfl) ?_ ?_
          · intro b_65; have H_121 := of_t H_118 b_65
            obtain ⟨r_66, h_67, H_123⟩ := of_bind H_121
            refine V_reg hN hn [(6, ⟨25, 2, [.c (.h 0), .c (.val (.int .i64 s_2)), .c (.val (.int .i64 s_3)), .c (.val (.int .i64 s_4))], [(0, .box [.h 1]), (1, .row (.pair (.int .i64) (.pair (.int .i64) (.int .i64))) y_105)], .tup [], [(0, .box [.h 4]), (4, .row (.pair (.int .i64) (.pair (.int .i64) (.int .i64))) r_66)], [(0, 2), (1, 6), (4, 7)], 8⟩)] [] (calls_cons (spans_row_add_bggg_b0cf7_spec K y_105 s_2 s_3 s_4 r_66 h_67) (by kernel_rfl) calls_nil) 7 [6] [0, 2, 7] ⟨[(6, .c (.h 2))], [(0, .row (.pair (.int .i64) (.pair (.int .i64) (.int .i64))) l_1), (2, .box [.h 7]), (7, .row (.pair (.int .i64) (.pair (.int .i64) (.int .i64))) r_66)], 8⟩ [] (by kernel_rfl) rfl rfl ap0 (by kernel_rfl) (by kernel_rfl) ?_
            have H_124 := Option.some.inj (show some r_66 = some q_117 from H_123); subst H_124
            refine VL_nil ?_
            exact QP_end r_66 rfl [(2, 2), (8, 7)] hn (by kernel_rfl) (by kernel_rfl) rfl rfl rfl
          · intro b_65; have H_122 := of_f H_118 b_65
            refine V_run hN hn 1 7 [3, 6, 76] [0, 1, 2, 6] ⟨[(3, .c (.h 1)), (6, .c (.h 2)), (76, .c (.val (.bool (decide (s_4 > (0 : Int))))))], [(0, .row (.pair (.int .i64) (.pair (.int .i64) (.int .i64))) l_1), (1, .box [.val (.int .i64 s_2), .val (.int .i64 s_3), .val (.int .i64 s_4)]), (2, .box [.h 6]), (6, .row (.pair (.int .i64) (.pair (.int .i64) (.int .i64))) y_105)], 7⟩ [] (by kernel_rfl) rfl rfl ap0 ?_
            have H_125 := Option.some.inj (show some y_105 = some q_117 from H_122); subst H_125
            refine VL_nil ?_
            exact QP_end y_105 rfl [(2, 2), (8, 6)] hn (by kernel_rfl) (by kernel_rfl) rfl rfl rfl
        · intro y_120 hy; subst hy
          skip
          skip
          refine V_run hN hn 1 9 [6] [0, 2, 8] ⟨[(6, .c (.h 2))], [(0, .row (.pair (.int .i64) (.pair (.int .i64) (.int .i64))) l_1), (2, .box [.h 8]), (8, .row (.pair (.int .i64) (.pair (.int .i64) (.int .i64))) y_120)], 9⟩ [] (by kernel_rfl) rfl rfl ap0 ?_
          obtain ⟨r_72, h_73, H_126⟩ := of_bind H_119
          refine V_reg hN hn [(1, ⟨26, 1, [.c (.h 0)], [(0, .row (.pair (.int .i64) (.pair (.int .i64) (.int .i64))) y_120)], .tup [(false, [.h 7]), (false, [.val (.int .i64 r_72.2.1)])], [(0, .row (.pair (.int .i64) (.pair (.int .i64) (.int .i64))) r_72.2.2), (7, .row (.pair (.int .i64) (.pair (.int .i64) (.int .i64))) r_72.1)], [(0, 8), (7, 9)], 10⟩)] [] (calls_cons (spans_told_r_spec K y_120 r_72 h_73) (by kernel_rfl) calls_nil) 9 [4, 5] [0, 9] ⟨[(4, .c (.h 9)), (5, .c (.val (.int .i64 r_72.2.1)))], [(0, .row (.pair (.int .i64) (.pair (.int .i64) (.int .i64))) l_1), (9, .row (.pair (.int .i64) (.pair (.int .i64) (.int .i64))) r_72.1)], 10⟩ [] (by kernel_rfl) rfl rfl ap0 (by kernel_rfl) (by kernel_rfl) ?_
          have H_127 := Option.some.inj (show some (r_72.1, r_72.2.1) = some r from H_126); subst H_127
          refine VL_ret ?_
          exact P_to [(4, .c (.h 10)), (5, .c (.val (.int .i64 r_72.2.1)))] [(0, .row (.pair (.int .i64) (.pair (.int .i64) (.int .i64))) l_1), (10, .row (.pair (.int .i64) (.pair (.int .i64) (.int .i64))) r_72.1)] [(10, 9)] hn (by kernel_rfl) (by kernel_rfl) rfl rfl rfl (QF_retS (by kernel_rfl) (by kernel_rfl) rfl)

theorem spans_In_rsgg_spec (K : Nat) (l_1 : (List (Int × (Int × Int)))) (i_2 : Int) (i_3 : Int) (r : (List (Int × (Int × Int)))) (H : spans_In_rsgg K l_1 i_2 i_3 = some r) : Spec Try.prog 14 1 [.c (.h 0), .agg [.val (.int .i64 i_2), .val (.int .i64 i_3)]] [(0, .row (.pair (.int .i64) (.pair (.int .i64) (.int .i64))) l_1)] (.c (.h 6)) [(0, .row (.pair (.int .i64) (.pair (.int .i64) (.int .i64))) l_1), (6, .row (.pair (.int .i64) (.pair (.int .i64) (.int .i64))) r)] := by
  refine Spec_mk (fn := Try.f14) (c := (Try.f14.body).get!) Try.func14 (by kernel_rfl) rfl ?_
  intro C hN hn
  replace hN : C.N = 39 := hN
  unfold spans_In_rsgg at H
  refine V_run hN hn 7 1 [3, 5, 10, 11, 12] [0, 1] ⟨[(3, .c (.h 1)), (5, .c (.val (.slice none 0 0))), (10, .c (.h 0)), (11, .c (.val (.int .i64 (((List.length l_1) : Nat) : Int)))), (12, .c (.val (.int .i64 (0 : Int))))], [(0, .row (.pair (.int .i64) (.pair (.int .i64) (.int .i64))) l_1), (1, .box [.val (.int .i64 i_2), .val (.int .i64 i_3)])], 2⟩ [] (by kernel_rfl) rfl rfl ap0 ?_
  refine VL_block ?_
  refine V_ghost [.nilSlot 5 (.pair (.int .i64) (.pair (.int .i64) (.int .i64)))] 2 hn [3, 5, 10, 11, 12] [0, 1, 2] ⟨[(3, .c (.h 1)), (5, .c (.h 2)), (10, .c (.h 0)), (11, .c (.val (.int .i64 (((List.length l_1) : Nat) : Int)))), (12, .c (.val (.int .i64 (0 : Int))))], [(0, .row (.pair (.int .i64) (.pair (.int .i64) (.int .i64))) l_1), (1, .box [.val (.int .i64 i_2), .val (.int .i64 i_3)]), (2, .row (.pair (.int .i64) (.pair (.int .i64) (.int .i64))) ([] : List (Int × (Int × Int))))], 3⟩ (by kernel_rfl) rfl rfl ?_
  refine V_to [(3, .c (.h 1)), (5, .c (.h 6)), (10, .c (.h 0)), (11, .c (.val (.int .i64 (((List.length l_1) : Nat) : Int)))), (12, .c (.val (.int .i64 (0 : Int))))] [(0, .row (.pair (.int .i64) (.pair (.int .i64) (.int .i64))) l_1), (1, .box [.val (.int .i64 i_2), .val (.int .i64 i_3)]), (6, .row (.pair (.int .i64) (.pair (.int .i64) (.int .i64))) ([] : List (Int × (Int × Int))))] [(1, 1), (6, 2)] hn (by kernel_rfl) (by kernel_rfl) rfl rfl rfl ?_
  refine VL_loop (X := ((List (Int × (Int × Int))) × Int)) (fun x => [(3, .c (.h 1)), (5, .c (.h 6)), (10, .c (.h 0)), (11, .c (.val (.int .i64 (((List.length l_1) : Nat) : Int)))), (12, .c (.val (.int .i64 x.2)))]) (fun x => [(0, .row (.pair (.int .i64) (.pair (.int .i64) (.int .i64))) l_1), (1, .box [.val (.int .i64 i_2), .val (.int .i64 i_3)]), (6, .row (.pair (.int .i64) (.pair (.int .i64) (.int .i64))) x.1)]) (fun k x => spans_In_rsgg.l0 K l_1 i_2 i_3 k x.1 x.2 = some r) K (([] : List (Int × (Int × Int))), (0 : Int)) H (fun _ h => no_none h) ?_
  intro k_20 x_20 H_34
  obtain ⟨out_19, t_5⟩ := x_20
  have H_35 : spans_In_rsgg.l0 K l_1 i_2 i_3 (k_20 + 1) out_19 t_5 = some r := H_34
  rw [spans_In_rsgg.l0] at H_35
  refine V_run hN hn 3 7 [3, 5, 10, 11, 12, 13] [0, 1, 6] ⟨[(3, .c (.h 1)), (5, .c (.h 6)), (10, .c (.h 0)), (11, .c (.val (.int .i64 (((List.length l_1) : Nat) : Int)))), (12, .c (.val (.int .i64 t_5))), (13, .c (.val (.bool (decide (t_5 < (((List.length l_1) : Nat) : Int))))))], [(0, .row (.pair (.int .i64) (.pair (.int .i64) (.int .i64))) l_1), (1, .box [.val (.int .i64 i_2), .val (.int .i64 i_3)]), (6, .row (.pair (.int .i64) (.pair (.int .i64) (.int .i64))) out_19)], 7⟩ [] (by kernel_rfl) rfl rfl ap0 ?_
  refine VL_cond ((decide (t_5 < (((List.length l_1) : Nat) : Int)))) (by kernel_rfl) ?_ ?_
  · intro b_22; have H_36 := of_t H_35 b_22
    refine V_run hN hn 2 7 [3, 5, 10, 11, 12, 13] [0, 1, 6] ⟨[(3, .c (.h 1)), (5, .c (.h 6)), (10, .c (.h 0)), (11, .c (.val (.int .i64 (((List.length l_1) : Nat) : Int)))), (12, .c (.val (.int .i64 t_5))), (13, .c (.val (.bool (decide (t_5 < (((List.length l_1) : Nat) : Int))))))], [(0, .row (.pair (.int .i64) (.pair (.int .i64) (.int .i64))) l_1), (1, .box [.val (.int .i64 i_2), .val (.int .i64 i_3)]), (6, .row (.pair (.int .i64) (.pair (.int .i64) (.int .i64))) out_19)], 7⟩ [] (by kernel_rfl) rfl rfl ap0 ?_
    refine VL_block ?_
    obtain ⟨c_24, H_38⟩ := of_if H_36
    refine V_run hN hn 3 7 [3, 5, 7, 10, 11, 12] [0, 1, 6, 7] ⟨[(3, .c (.h 1)), (5, .c (.h 6)), (7, .c (.h 7)), (10, .c (.h 0)), (11, .c (.val (.int .i64 (((List.length l_1) : Nat) : Int)))), (12, .c (.val (.int .i64 t_5)))], [(0, .row (.pair (.int .i64) (.pair (.int .i64) (.int .i64))) l_1), (1, .box [.val (.int .i64 i_2), .val (.int .i64 i_3)]), (6, .row (.pair (.int .i64) (.pair (.int .i64) (.int .i64))) out_19), (7, .box [.val (.int .i64 (List.getD l_1 (Int.toNat t_5) ((0 : Int), ((0 : Int), (0 : Int)))).1), .val (.int .i64 (List.getD l_1 (Int.toNat t_5) ((0 : Int), ((0 : Int), (0 : Int)))).2.1), .val (.int .i64 (List.getD l_1 (Int.toNat t_5) ((0 : Int), ((0 : Int), (0 : Int)))).2.2)])], 8⟩ [0 ≤ t_5, t_5 < (((List.length l_1) : Nat) : Int)] (by kernel_rfl) rfl rfl (ap2 c_24.1 (ap1 c_24.2)) ?_
    refine V_draw hN hn (by kernel_rfl) [] [] calls_nil 8 [3, 5, 7, 8, 9, 10, 11, 12] [0, 1, 6, 7] ⟨[(3, .c (.h 1)), (5, .c (.h 6)), (7, .c (.h 7)), (8, .c (.val (.int .i64 (mx2 (List.getD l_1 (Int.toNat t_5) ((0 : Int), ((0 : Int), (0 : Int)))).1 i_2)))), (9, .c (.val (.int .i64 (mn2 (List.getD l_1 (Int.toNat t_5) ((0 : Int), ((0 : Int), (0 : Int)))).2.1 i_3)))), (10, .c (.h 0)), (11, .c (.val (.int .i64 (((List.length l_1) : Nat) : Int)))), (12, .c (.val (.int .i64 t_5)))], [(0, .row (.pair (.int .i64) (.pair (.int .i64) (.int .i64))) l_1), (1, .box [.val (.int .i64 i_2), .val (.int .i64 i_3)]), (6, .row (.pair (.int .i64) (.pair (.int .i64) (.int .i64))) out_19), (7, .box [.val (.int .i64 (List.getD l_1 (Int.toNat t_5) ((0 : Int), ((0 : Int), (0 : Int)))).1), .val (.int .i64 (List.getD l_1 (Int.toNat t_5) ((0 : Int), ((0 : Int), (0 : Int)))).2.1), .val (.int .i64 (List.getD l_1 (Int.toNat t_5) ((0 : Int), ((0 : Int), (0 : Int)))).2.2)])], 8⟩ [] (by kernel_rfl) rfl rfl ap0 (by kernel_rfl) (by kernel_rfl) ?_
    refine V_run hN hn 2 8 [3, 5, 7, 8, 9, 10, 11, 12, 28] [0, 1, 6, 7] ⟨[(3, .c (.h 1)), (5, .c (.h 6)), (7, .c (.h 7)), (8, .c (.val (.int .i64 (mx2 (List.getD l_1 (Int.toNat t_5) ((0 : Int), ((0 : Int), (0 : Int)))).1 i_2)))), (9, .c (.val (.int .i64 (mn2 (List.getD l_1 (Int.toNat t_5) ((0 : Int), ((0 : Int), (0 : Int)))).2.1 i_3)))), (10, .c (.h 0)), (11, .c (.val (.int .i64 (((List.length l_1) : Nat) : Int)))), (12, .c (.val (.int .i64 t_5))), (28, .c (.val (.bool (decide ((mx2 (List.getD l_1 (Int.toNat t_5) ((0 : Int), ((0 : Int), (0 : Int)))).1 i_2) < (mn2 (List.getD l_1 (Int.toNat t_5) ((0 : Int), ((0 : Int), (0 : Int)))).2.1 i_3))))))], [(0, .row (.pair (.int .i64) (.pair (.int .i64) (.int .i64))) l_1), (1, .box [.val (.int .i64 i_2), .val (.int .i64 i_3)]), (6, .row (.pair (.int .i64) (.pair (.int .i64) (.int .i64))) out_19), (7, .box [.val (.int .i64 (List.getD l_1 (Int.toNat t_5) ((0 : Int), ((0 : Int), (0 : Int)))).1), .val (.int .i64 (List.getD l_1 (Int.toNat t_5) ((0 : Int), ((0 : Int), (0 : Int)))).2.1), .val (.int .i64 (List.getD l_1 (Int.toNat t_5) ((0 : Int), ((0 : Int), (0 : Int)))).2.2)])], 8⟩ [] (by kernel_rfl) rfl rfl ap0 ?_
    refine VL_cond ((decide ((mx2 (List.getD l_1 (Int.toNat t_5) ((0 : Int), ((0 : Int), (0 : Int)))).1 i_2) < (mn2 (List.getD l_1 (Int.toNat t_5) ((0 : Int), ((0 : Int), (0 : Int)))).2.1 i_3)))) (by kernel_rfl) ?_ ?_
    · intro b_27; have H_39 := of_t H_38 b_27
      obtain ⟨c_28, H_41⟩ := of_if H_39
      refine V_run hN hn 1 8 [3, 5, 10, 11, 12] [0, 1, 9] ⟨[(3, .c (.h 1)), (5, .c (.h 9)), (10, .c (.h 0)), (11, .c (.val (.int .i64 (((List.length l_1) : Nat) : Int)))), (12, .c (.val (.int .i64 t_5)))], [(0, .row (.pair (.int .i64) (.pair (.int .i64) (.int .i64))) l_1), (1, .box [.val (.int .i64 i_2), .val (.int .i64 i_3)]), (9, .row (.pair (.int .i64) (.pair (.int .i64) (.int .i64))) (out_19 ++ ([((mx2 (List.getD l_1 (Int.toNat t_5) ((0 : Int), ((0 : Int), (0 : Int)))).1 i_2), ((mn2 (List.getD l_1 (Int.toNat t_5) ((0 : Int), ((0 : Int), (0 : Int)))).2.1 i_3), (List.getD l_1 (Int.toNat t_5) ((0 : Int), ((0 : Int), (0 : Int)))).2.2))] : List (Int × (Int × Int)))))], 10⟩ [(List.length out_19 + List.length ([((mx2 (List.getD l_1 (Int.toNat t_5) ((0 : Int), ((0 : Int), (0 : Int)))).1 i_2), ((mn2 (List.getD l_1 (Int.toNat t_5) ((0 : Int), ((0 : Int), (0 : Int)))).2.1 i_3), (List.getD l_1 (Int.toNat t_5) ((0 : Int), ((0 : Int), (0 : Int)))).2.2))] : List (Int × (Int × Int)))) * 24 ≤ 140737488355328] (by kernel_rfl) rfl rfl (ap1 c_28) ?_
      refine VL_nil (QB_end ?_)
      refine V_run hN hn 1 10 [3, 5, 10, 11, 12] [0, 1, 9] ⟨[(3, .c (.h 1)), (5, .c (.h 9)), (10, .c (.h 0)), (11, .c (.val (.int .i64 (((List.length l_1) : Nat) : Int)))), (12, .c (.val (.int .i64 (IntKind.wrap .i64 (t_5 + (1 : Int))))))], [(0, .row (.pair (.int .i64) (.pair (.int .i64) (.int .i64))) l_1), (1, .box [.val (.int .i64 i_2), .val (.int .i64 i_3)]), (9, .row (.pair (.int .i64) (.pair (.int .i64) (.int .i64))) (out_19 ++ ([((mx2 (List.getD l_1 (Int.toNat t_5) ((0 : Int), ((0 : Int), (0 : Int)))).1 i_2), ((mn2 (List.getD l_1 (Int.toNat t_5) ((0 : Int), ((0 : Int), (0 : Int)))).2.1 i_3), (List.getD l_1 (Int.toNat t_5) ((0 : Int), ((0 : Int), (0 : Int)))).2.2))] : List (Int × (Int × Int)))))], 10⟩ [] (by kernel_rfl) rfl rfl ap0 ?_
      refine VL_nil ?_
      exact V_roundEnd ((out_19 ++ ([((mx2 (List.getD l_1 (Int.toNat t_5) ((0 : Int), ((0 : Int), (0 : Int)))).1 i_2), ((mn2 (List.getD l_1 (Int.toNat t_5) ((0 : Int), ((0 : Int), (0 : Int)))).2.1 i_3), (List.getD l_1 (Int.toNat t_5) ((0 : Int), ((0 : Int), (0 : Int)))).2.2))] : List (Int × (Int × Int)))), (IntKind.wrap .i64 (t_5 + (1 : Int)))) H_41 [(1, 1), (6, 9)] hn (by kernel_rfl) (by kernel_rfl) rfl rfl rfl
    · intro b_27; have H_40 := of_f H_38 b_27
      refine V_run hN hn 1 8 [3, 5, 7, 8, 9, 10, 11, 12, 28] [0, 1, 6, 7] ⟨[(3, .c (.h 1)), (5, .c (.h 6)), (7, .c (.h 7)), (8, .c (.val (.int .i64 (mx2 (List.getD l_1 (Int.toNat t_5) ((0 : Int), ((0 : Int), (0 : Int)))).1 i_2)))), (9, .c (.val (.int .i64 (mn2 (List.getD l_1 (Int.toNat t_5) ((0 : Int), ((0 : Int), (0 : Int)))).2.1 i_3)))), (10, .c (.h 0)), (11, .c (.val (.int .i64 (((List.length l_1) : Nat) : Int)))), (12, .c (.val (.int .i64 t_5))), (28, .c (.val (.bool (decide ((mx2 (List.getD l_1 (Int.toNat t_5) ((0 : Int), ((0 : Int), (0 : Int)))).1 i_2) < (mn2 (List.getD l_1 (Int.toNat t_5) ((0 : Int), ((0 : Int), (0 : Int)))).2.1 i_3))))))], [(0, .row (.pair (.int .i64) (.pair (.int .i64) (.int .i64))) l_1), (1, .box [.val (.int .i64 i_2), .val (.int .i64 i_3)]), (6, .row (.pair (.int .i64) (.pair (.int .i64) (.int .i64))) out_19), (7, .box [.val (.int .i64 (List.getD l_1 (Int.toNat t_5) ((0 : Int), ((0 : Int), (0 : Int)))).1), .val (.int .i64 (List.getD l_1 (Int.toNat t_5) ((0 : Int), ((0 : Int), (0 : Int)))).2.1), .val (.int .i64 (List.getD l_1 (Int.toNat t_5) ((0 : Int), ((0 : Int), (0 : Int)))).2.2)])], 8⟩ [] (by kernel_rfl) rfl rfl ap0 ?_
      refine VL_nil (QB_end ?_)
      refine V_run hN hn 1 8 [3, 5, 10, 11, 12] [0, 1, 6] ⟨[(3, .c (.h 1)), (5, .c (.h 6)), (10, .c (.h 0)), (11, .c (.val (.int .i64 (((List.length l_1) : Nat) : Int)))), (12, .c (.val (.int .i64 (IntKind.wrap .i64 (t_5 + (1 : Int))))))], [(0, .row (.pair (.int .i64) (.pair (.int .i64) (.int .i64))) l_1), (1, .box [.val (.int .i64 i_2), .val (.int .i64 i_3)]), (6, .row (.pair (.int .i64) (.pair (.int .i64) (.int .i64))) out_19)], 8⟩ [] (by kernel_rfl) rfl rfl ap0 ?_
      refine VL_nil ?_
      exact V_roundEnd (out_19, (IntKind.wrap .i64 (t_5 + (1 : Int)))) H_40 [(1, 1), (6, 6)] hn (by kernel_rfl) (by kernel_rfl) rfl rfl rfl
  · intro b_22; have H_37 := of_f H_35 b_22
    refine VL_exit ?_
    refine QL_exit ?_
    refine QB_here ?_
    refine V_run hN hn 2 7 [4] [0, 6] ⟨[(4, .c (.h 6))], [(0, .row (.pair (.int .i64) (.pair (.int .i64) (.int .i64))) l_1), (6, .row (.pair (.int .i64) (.pair (.int .i64) (.int .i64))) out_19)], 7⟩ [] (by kernel_rfl) rfl rfl ap0 ?_
    have H_42 := Option.some.inj (show some out_19 = some r from H_37); subst H_42
    refine VL_ret ?_
    exact P_to [(4, .c (.h 6))] [(0, .row (.pair (.int .i64) (.pair (.int .i64) (.int .i64))) l_1), (6, .row (.pair (.int .i64) (.pair (.int .i64) (.int .i64))) out_19)] [(6, 6)] hn (by kernel_rfl) (by kernel_rfl) rfl rfl rfl (QF_retS (by kernel_rfl) (by kernel_rfl) rfl)

end Go.Pal
