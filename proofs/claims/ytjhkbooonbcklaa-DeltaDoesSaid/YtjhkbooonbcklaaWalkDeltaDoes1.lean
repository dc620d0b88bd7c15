/- The Go functions that DeltaDoes reaches compute what the plain functions say: part 1, printed by a program of this workplace. -/
import Derived.Test.YtjhkbooonbcklaaChecked
import Derived.Test.YtjhkbooonbcklaaWalkDeltaDoes0
namespace Go.Pal
open Go Go.Proofs
set_option maxRecDepth 100000
set_option linter.unusedVariables false

theorem delta_long_spec (K : Nat) (base_1 : Int) (l_2 : (List (Int × (Int × ByteArray)))) (r : Int) (H : delta_long_gr K base_1 l_2 = some r) : Spec Try.prog 41 0 [.c (.val (.int .i64 base_1)), .c (.imm (.slice (.pair (.int .i64) (.pair (.int .i64) .str))) l_2)] [] (.c (.val (.int .i64 r))) [] := by
  refine Spec_mk (fn := Try.f41) (c := (Try.f41.body).get!) Try.func41 (by kernel_rfl) rfl ?_
  intro C hN hn
  replace hN : C.N = 43 := hN
  unfold delta_long_gr at H
  refine V_run hN hn 7 0 [1, 5, 12, 13, 14] [] ⟨[(1, .c (.imm (.slice (.pair (.int .i64) (.pair (.int .i64) .str))) l_2)), (5, .c (.val (.int .i64 (IntKind.wrap .i64 ((20000 : Int) - base_1))))), (12, .c (.imm (.slice (.pair (.int .i64) (.pair (.int .i64) .str))) l_2)), (13, .c (.val (.int .i64 (((List.length l_2) : Nat) : Int)))), (14, .c (.val (.int .i64 (0 : Int))))], [], 0⟩ [] (by kernel_rfl) rfl rfl ap0 ?_
  obtain ⟨q_28, H_29, H_30⟩ := of_bind H
  refine V_cut (Y := Int) (R := Int) q_28 (fun y => y) (fun y => [(1, .c (.imm (.slice (.pair (.int .i64) (.pair (.int .i64) .str))) l_2)), (5, .c (.val (.int .i64 y)))]) (fun y => []) ?_ ?_
  · skip
    refine VL_block ?_
    refine V_to [(1, .c (.imm (.slice (.pair (.int .i64) (.pair (.int .i64) .str))) l_2)), (5, .c (.val (.int .i64 (IntKind.wrap .i64 ((20000 : Int) - base_1))))), (12, .c (.imm (.slice (.pair (.int .i64) (.pair (.int .i64) .str))) l_2)), (13, .c (.val (.int .i64 (((List.length l_2) : Nat) : Int)))), (14, .c (.val (.int .i64 (0 : Int))))] [] [] hn (by kernel_rfl) (by kernel_rfl) rfl rfl rfl ?_
    refine VL_loop (X := (Int × Int)) (fun x => [(1, .c (.imm (.slice (.pair (.int .i64) (.pair (.int .i64) .str))) l_2)), (5, .c (.val (.int .i64 x.1))), (12, .c (.imm (.slice (.pair (.int .i64) (.pair (.int .i64) .str))) l_2)), (13, .c (.val (.int .i64 (((List.length l_2) : Nat) : Int)))), (14, .c (.val (.int .i64 x.2)))]) (fun x => []) (fun k x => delta_long_gr.l0 K l_2 k x.1 x.2 = some q_28) K ((IntKind.wrap .i64 ((20000 : Int) - base_1)), (0 : Int)) H_29 (fun _ h => no_none h) ?_
    intro k_6 x_6 H_32
    obtain ⟨left_4, t_5⟩ := x_6
    have H_33 : delta_long_gr.l0 K l_2 (k_6 + 1) left_4 t_5 = some q_28 := H_32
    rw [delta_long_gr.l0] at H_33
    refine V_run hN hn 3 0 [1, 5, 12, 13, 14, 15] [] ⟨[(1, .c (.imm (.slice (.pair (.int .i64) (.pair (.int .i64) .str))) l_2)), (5, .c (.val (.int .i64 left_4))), (12, .c (.imm (.slice (.pair (.int .i64) (.pair (.int .i64) .str))) l_2)), (13, .c (.val (.int .i64 (((List.length l_2) : Nat) : Int)))), (14, .c (.val (.int .i64 t_5))), (15, .c (.val (.bool (decide (t_5 < (((List.length l_2) : Nat) : Int))))))], [], 0⟩ [] (by kernel_rfl) rfl rfl ap0 ?_
    refine VL_cond ((decide (t_5 < (((List.length l_2) : Nat) : Int)))) (by kernel_rfl) ?_ ?_
    · intro b_8; have H_34 := of_t H_33 b_8
      refine V_run hN hn 2 0 [1, 5, 12, 13, 14, 15] [] ⟨[(1, .c (.imm (.slice (.pair (.int .i64) (.pair (.int .i64) .str))) l_2)), (5, .c (.val (.int .i64 left_4))), (12, .c (.imm (.slice (.pair (.int .i64) (.pair (.int .i64) .str))) l_2)), (13, .c (.val (.int .i64 (((List.length l_2) : Nat) : Int)))), (14, .c (.val (.int .i64 t_5))), (15, .c (.val (.bool (decide (t_5 < (((List.length l_2) : Nat) : Int))))))], [], 0⟩ [] (by kernel_rfl) rfl rfl ap0 ?_
      refine VL_block ?_
      obtain ⟨c_10, H_36⟩ := of_if H_34
      refine V_run hN hn 3 0 [1, 5, 12, 13, 14] [] ⟨[(1, .c (.imm (.slice (.pair (.int .i64) (.pair (.int .i64) .str))) l_2)), (5, .c (.val (.int .i64 (IntKind.wrap .i64 (left_4 + (IntKind.wrap .i64 ((List.getD l_2 (Int.toNat t_5) ((0 : Int), ((0 : Int), ByteArray.empty))).2.1 - (List.getD l_2 (Int.toNat t_5) ((0 : Int), ((0 : Int), ByteArray.empty))).1))))))), (12, .c (.imm (.slice (.pair (.int .i64) (.pair (.int .i64) .str))) l_2)), (13, .c (.val (.int .i64 (((List.length l_2) : Nat) : Int)))), (14, .c (.val (.int .i64 t_5)))], [], 1⟩ [0 ≤ t_5, t_5 < (((List.length l_2) : Nat) : Int)] (by kernel_rfl) rfl rfl (ap2 c_10.1 (ap1 c_10.2)) ?_
      refine VL_nil (QB_end ?_)
      refine V_run hN hn 1 1 [1, 5, 12, 13, 14] [] ⟨[(1, .c (.imm (.slice (.pair (.int .i64) (.pair (.int .i64) .str))) l_2)), (5, .c (.val (.int .i64 (IntKind.wrap .i64 (left_4 + (IntKind.wrap .i64 ((List.getD l_2 (Int.toNat t_5) ((0 : Int), ((0 : Int), ByteArray.empty))).2.1 - (List.getD l_2 (Int.toNat t_5) ((0 : Int), ((0 : Int), ByteArray.empty))).1))))))), (12, .c (.imm (.slice (.pair (.int .i64) (.pair (.int .i64) .str))) l_2)), (13, .c (.val (.int .i64 (((List.length l_2) : Nat) : Int)))), (14, .c (.val (.int .i64 (IntKind.wrap .i64 (t_5 + (1 : Int))))))], [], 1⟩ [] (by kernel_rfl) rfl rfl ap0 ?_
      refine VL_nil ?_
      exact V_roundEnd ((IntKind.wrap .i64 (left_4 + (IntKind.wrap .i64 ((List.getD l_2 (Int.toNat t_5) ((0 : Int), ((0 : Int), ByteArray.empty))).2.1 - (List.getD l_2 (Int.toNat t_5) ((0 : Int), ((0 : Int), ByteArray.empty))).1)))), (IntKind.wrap .i64 (t_5 + (1 : Int)))) H_36 [] hn (by kernel_rfl) (by kernel_rfl) rfl rfl rfl
    · intro b_8; have H_35 := of_f H_33 b_8
      refine VL_exit ?_
      refine QL_exit ?_
      refine QB_here ?_
      have H_37 := Option.some.inj (show some left_4 = some q_28 from H_35); subst H_37
      refine VL_nil ?_
      exact QP_end left_4 rfl [] hn (by kernel_rfl) (by kernel_rfl) rfl rfl rfl
  · intro y_31 hy; subst hy
    skip
    skip
    refine V_run hN hn 3 0 [5, 26, 27, 28] [] ⟨[(5, .c (.val (.int .i64 y_31))), (26, .c (.imm (.slice (.pair (.int .i64) (.pair (.int .i64) .str))) l_2)), (27, .c (.val (.int .i64 (((List.length l_2) : Nat) : Int)))), (28, .c (.val (.int .i64 (0 : Int))))], [], 0⟩ [] (by kernel_rfl) rfl rfl ap0 ?_
    refine VL_block ?_
    refine V_to [(5, .c (.val (.int .i64 y_31))), (26, .c (.imm (.slice (.pair (.int .i64) (.pair (.int .i64) .str))) l_2)), (27, .c (.val (.int .i64 (((List.length l_2) : Nat) : Int)))), (28, .c (.val (.int .i64 (0 : Int))))] [] [] hn (by kernel_rfl) (by kernel_rfl) rfl rfl rfl ?_
    refine VL_loop (X := (Int × Int)) (fun x => [(5, .c (.val (.int .i64 x.1))), (26, .c (.imm (.slice (.pair (.int .i64) (.pair (.int .i64) .str))) l_2)), (27, .c (.val (.int .i64 (((List.length l_2) : Nat) : Int)))), (28, .c (.val (.int .i64 x.2)))]) (fun x => []) (fun k x => delta_long_gr.l1 K l_2 k x.1 x.2 = some r) K (y_31, (0 : Int)) H_30 (fun _ h => no_none h) ?_
    intro k_16 x_16 H_38
    obtain ⟨left_14, t_15⟩ := x_16
    have H_39 : delta_long_gr.l1 K l_2 (k_16 + 1) left_14 t_15 = some r := H_38
    rw [delta_long_gr.l1] at H_39
    refine V_run hN hn 3 0 [5, 26, 27, 28, 29] [] ⟨[(5, .c (.val (.int .i64 left_14))), (26, .c (.imm (.slice (.pair (.int .i64) (.pair (.int .i64) .str))) l_2)), (27, .c (.val (.int .i64 (((List.length l_2) : Nat) : Int)))), (28, .c (.val (.int .i64 t_15))), (29, .c (.val (.bool (decide (t_15 < (((List.length l_2) : Nat) : Int))))))], [], 0⟩ [] (by kernel_rfl) rfl rfl ap0 ?_
    refine VL_cond ((decide (t_15 < (((List.length l_2) : Nat) : Int)))) (by kernel_rfl) ?_ ?_
    · intro b_18; have H_40 := of_t H_39 b_18
      refine V_run hN hn 2 0 [5, 26, 27, 28, 29] [] ⟨[(5, .c (.val (.int .i64 left_14))), (26, .c (.imm (.slice (.pair (.int .i64) (.pair (.int .i64) .str))) l_2)), (27, .c (.val (.int .i64 (((List.length l_2) : Nat) : Int)))), (28, .c (.val (.int .i64 t_15))), (29, .c (.val (.bool (decide (t_15 < (((List.length l_2) : Nat) : Int))))))], [], 0⟩ [] (by kernel_rfl) rfl rfl ap0 ?_
      refine VL_block ?_
      obtain ⟨c_20, H_42⟩ := of_if H_40
      refine V_run hN hn 5 0 [5, 9, 26, 27, 28, 36] [0] ⟨[(5, .c (.val (.int .i64 left_14))), (9, .c (.h 0)), (26, .c (.imm (.slice (.pair (.int .i64) (.pair (.int .i64) .str))) l_2)), (27, .c (.val (.int .i64 (((List.length l_2) : Nat) : Int)))), (28, .c (.val (.int .i64 t_15))), (36, .c (.val (.bool (decide ((((ByteArray.size (List.getD l_2 (Int.toNat t_15) ((0 : Int), ((0 : Int), ByteArray.empty))).2.2) : Nat) : Int) > left_14)))))], [(0, .box [.val (.int .i64 (List.getD l_2 (Int.toNat t_15) ((0 : Int), ((0 : Int), ByteArray.empty))).1), .val (.int .i64 (List.getD l_2 (Int.toNat t_15) ((0 : Int), ((0 : Int), ByteArray.empty))).2.1), .val (.string (List.getD l_2 (Int.toNat t_15) ((0 : Int), ((0 : Int), ByteArray.empty))).2.2)])], 1⟩ [0 ≤ t_15, t_15 < (((List.length l_2) : Nat) : Int)] (by kernel_rfl) rfl rfl (ap2 c_20.1 (ap1 c_20.2)) ?_
      refine VL_cond ((decide ((((ByteArray.size (List.getD l_2 (Int.toNat t_15) ((0 : Int), ((0 : Int), ByteArray.empty))).2.2) : Nat) : Int) > left_14))) (by kernel_rfl) ?_ ?_
      · intro b_21; have H_43 := of_t H_42 b_21
        refine V_run hN hn 2 1 [4] [] ⟨[(4, .c (.val (.int .i64 (13 : Int))))], [], 1⟩ [] (by kernel_rfl) rfl rfl ap0 ?_
        have H_45 := Option.some.inj (show some (13 : Int) = some r from H_43); subst H_45
        refine VL_ret ?_
        refine QB_ret ?_
        refine QL_ret ?_
        refine QB_ret ?_
        exact P_to [(4, .c (.val (.int .i64 (13 : Int))))] [] [] hn (by kernel_rfl) (by kernel_rfl) rfl rfl rfl (QF_retS (by kernel_rfl) (by kernel_rfl) rfl)
      · intro b_21; have H_44 := of_f H_42 b_21
        refine V_run hN hn 2 1 [5, 26, 27, 28] [] ⟨[(5, .c (.val (.int .i64 (IntKind.wrap .i64 (left_14 - (((ByteArray.size (List.getD l_2 (Int.toNat t_15) ((0 : Int), ((0 : Int), ByteArray.empty))).2.2) : Nat) : Int)))))), (26, .c (.imm (.slice (.pair (.int .i64) (.pair (.int .i64) .str))) l_2)), (27, .c (.val (.int .i64 (((List.length l_2) : Nat) : Int)))), (28, .c (.val (.int .i64 t_15)))], [], 1⟩ [] (by kernel_rfl) rfl rfl ap0 ?_
        refine VL_nil (QB_end ?_)
        refine V_run hN hn 1 1 [5, 26, 27, 28] [] ⟨[(5, .c (.val (.int .i64 (IntKind.wrap .i64 (left_14 - (((ByteArray.size (List.getD l_2 (Int.toNat t_15) ((0 : Int), ((0 : Int), ByteArray.empty))).2.2) : Nat) : Int)))))), (26, .c (.imm (.slice (.pair (.int .i64) (.pair (.int .i64) .str))) l_2)), (27, .c (.val (.int .i64 (((List.length l_2) : Nat) : Int)))), (28, .c (.val (.int .i64 (IntKind.wrap .i64 (t_15 + (1 : Int))))))], [], 1⟩ [] (by kernel_rfl) rfl rfl ap0 ?_
        refine VL_nil ?_
        exact V_roundEnd ((IntKind.wrap .i64 (left_14 - (((ByteArray.size (List.getD l_2 (Int.toNat t_15) ((0 : Int), ((0 : Int), ByteArray.empty))).2.2) : Nat) : Int))), (IntKind.wrap .i64 (t_15 + (1 : Int)))) H_44 [] hn (by kernel_rfl) (by kernel_rfl) rfl rfl rfl
    · intro b_18; have H_41 := of_f H_39 b_18
      refine VL_exit ?_
      refine QL_exit ?_
      refine QB_here ?_
      refine V_run hN hn 2 0 [4] [] ⟨[(4, .c (.val (.int .i64 (0 : Int))))], [], 0⟩ [] (by kernel_rfl) rfl rfl ap0 ?_
      have H_46 := Option.some.inj (show some (0 : Int) = some r from H_41); subst H_46
      refine VL_ret ?_
      exact P_to [(4, .c (.val (.int .i64 (0 : Int))))] [] [] hn (by kernel_rfl) (by kernel_rfl) rfl rfl rfl (QF_retS (by kernel_rfl) (by kernel_rfl) rfl)

theorem delta_check_spec (K : Nat) (base_1 : Int) (l_2 : (List (Int × (Int × ByteArray)))) (r : Int) (H : delta_check_gr K base_1 l_2 = some r) : Spec Try.prog 30 0 [.c (.val (.int .i64 base_1)), .c (.imm (.slice (.pair (.int .i64) (.pair (.int .i64) .str))) l_2)] [] (.c (.val (.int .i64 r))) [] := by
  refine Spec_mk (fn := Try.f30) (c := (Try.f30.body).get!) Try.func30 (by kernel_rfl) rfl ?_
  intro C hN hn
  replace hN : C.N = 55 := hN
  unfold delta_check_gr at H
  refine V_run hN hn 4 0 [0, 1] [] ⟨[(0, .c (.val (.int .i64 base_1))), (1, .c (.imm (.slice (.pair (.int .i64) (.pair (.int .i64) .str))) l_2))], [], 0⟩ [] (by kernel_rfl) rfl rfl ap0 ?_
  obtain ⟨q_59, H_60, H_61⟩ := of_bind H
  refine V_cut (Y := Bool) (R := Bool) q_59 (fun y => y) (fun y => [(0, .c (.val (.int .i64 base_1))), (1, .c (.imm (.slice (.pair (.int .i64) (.pair (.int .i64) .str))) l_2)), (14, .c (.val (.bool y)))]) (fun y => []) ?_ ?_
  · skip
    rcases Bool.eq_false_or_eq_true ((decide (base_1 < (0 : Int)))) with b_4 | b_4
    · have H_63 := of_t H_60 b_4
      refine V_reg hN hn [] [(11, true)] calls_nil 0 [0, 1, 14] [] ⟨[(0, .c (.val (.int .i64 base_1))), (1, .c (.imm (.slice (.pair (.int .i64) (.pair (.int .i64) .str))) l_2)), (14, .c (.val (.bool true)))], [], 0⟩ [(decide (base_1 < (0 : Int))) = true] (by kernel_rfl) rfl rfl (ap1 b_4) (by kernel_rfl) (by kernel_rfl) ?_
      have H_65 := Option.some.inj (show some true = some q_59 from H_63); subst H_65
      refine VL_nil ?_
      exact QP_end true rfl [] hn (by kernel_rfl) (by kernel_rfl) rfl rfl rfl
    · have H_64 := of_f H_60 b_4
      refine V_reg hN hn [] [(11, false)] calls_nil 0 [0, 1, 14] [] ⟨[(0, .c (.val (.int .i64 base_1))), (1, .c (.imm (.slice (.pair (.int .i64) (.pair (.int .i64) .str))) l_2)), (14, .c (.val (.bool (decide (base_1 > (20000 : Int))))))], [], 0⟩ [(decide (base_1 < (0 : Int))) = false] (by kernel_rfl) rfl rfl (ap1 b_4) (by kernel_rfl) (by kernel_rfl) ?_
      have H_66 := Option.some.inj (show some (decide (base_1 > (20000 : Int))) = some q_59 from H_64); subst H_66
      refine VL_nil ?_
      exact QP_end (decide (base_1 > (20000 : Int))) rfl [] hn (by kernel_rfl) (by kernel_rfl) rfl rfl rfl
  · intro y_62 hy; subst hy
    skip
    skip
    refine VL_cond (y_62) (by kernel_rfl) ?_ ?_
    · intro b_8; have H_67 := of_t H_61 b_8
      refine V_run hN hn 2 0 [4] [] ⟨[(4, .c (.val (.int .i64 (10 : Int))))], [], 0⟩ [] (by kernel_rfl) rfl rfl ap0 ?_
      have H_69 := Option.some.inj (show some (10 : Int) = some r from H_67); subst H_69
      refine VL_ret ?_
      exact P_to [(4, .c (.val (.int .i64 (10 : Int))))] [] [] hn (by kernel_rfl) (by kernel_rfl) rfl rfl rfl (QF_retS (by kernel_rfl) (by kernel_rfl) rfl)
    · intro b_8; have H_68 := of_f H_61 b_8
      refine V_run hN hn 4 0 [0, 1, 15, 16, 17] [] ⟨[(0, .c (.val (.int .i64 base_1))), (1, .c (.imm (.slice (.pair (.int .i64) (.pair (.int .i64) .str))) l_2)), (15, .c (.imm (.slice (.pair (.int .i64) (.pair (.int .i64) .str))) l_2)), (16, .c (.val (.int .i64 (((List.length l_2) : Nat) : Int)))), (17, .c (.val (.int .i64 (0 : Int))))], [], 0⟩ [] (by kernel_rfl) rfl rfl ap0 ?_
      obtain ⟨q_70, H_71, H_72⟩ := of_bind H_68
      refine V_cut (Y := Unit) (R := (Int ⊕ Unit)) q_70 (fun y => (Sum.inr y)) (fun y => [(0, .c (.val (.int .i64 base_1))), (1, .c (.imm (.slice (.pair (.int .i64) (.pair (.int .i64) .str))) l_2))]) (fun y => []) ?_ ?_
      · skip
        refine VL_block ?_
        refine V_to [(0, .c (.val (.int .i64 base_1))), (1, .c (.imm (.slice (.pair (.int .i64) (.pair (.int .i64) .str))) l_2)), (15, .c (.imm (.slice (.pair (.int .i64) (.pair (.int .i64) .str))) l_2)), (16, .c (.val (.int .i64 (((List.length l_2) : Nat) : Int)))), (17, .c (.val (.int .i64 (0 : Int))))] [] [] hn (by kernel_rfl) (by kernel_rfl) rfl rfl rfl ?_
        refine VL_loop (X := Int) (fun x => [(0, .c (.val (.int .i64 base_1))), (1, .c (.imm (.slice (.pair (.int .i64) (.pair (.int .i64) .str))) l_2)), (15, .c (.imm (.slice (.pair (.int .i64) (.pair (.int .i64) .str))) l_2)), (16, .c (.val (.int .i64 (((List.length l_2) : Nat) : Int)))), (17, .c (.val (.int .i64 x)))]) (fun x => []) (fun k x => delta_check_gr.l0 K l_2 base_1 k x = some q_70) K (0 : Int) H_71 (fun _ h => no_none h) ?_
        intro k_12 t_11 H_74
        have H_75 : delta_check_gr.l0 K l_2 base_1 (k_12 + 1) t_11 = some q_70 := H_74
        rw [delta_check_gr.l0] at H_75
        refine V_run hN hn 3 0 [0, 1, 15, 16, 17, 18] [] ⟨[(0, .c (.val (.int .i64 base_1))), (1, .c (.imm (.slice (.pair (.int .i64) (.pair (.int .i64) .str))) l_2)), (15, .c (.imm (.slice (.pair (.int .i64) (.pair (.int .i64) .str))) l_2)), (16, .c (.val (.int .i64 (((List.length l_2) : Nat) : Int)))), (17, .c (.val (.int .i64 t_11))), (18, .c (.val (.bool (decide (t_11 < (((List.length l_2) : Nat) : Int))))))], [], 0⟩ [] (by kernel_rfl) rfl rfl ap0 ?_
        refine VL_cond ((decide (t_11 < (((List.length l_2) : Nat) : Int)))) (by kernel_rfl) ?_ ?_
        · intro b_14; have H_76 := of_t H_75 b_14
          refine V_run hN hn 2 0 [0, 1, 15, 16, 17, 18] [] ⟨[(0, .c (.val (.int .i64 base_1))), (1, .c (.imm (.slice (.pair (.int .i64) (.pair (.int .i64) .str))) l_2)), (15, .c (.imm (.slice (.pair (.int .i64) (.pair (.int .i64) .str))) l_2)), (16, .c (.val (.int .i64 (((List.length l_2) : Nat) : Int)))), (17, .c (.val (.int .i64 t_11))), (18, .c (.val (.bool (decide (t_11 < (((List.length l_2) : Nat) : Int))))))], [], 0⟩ [] (by kernel_rfl) rfl rfl ap0 ?_
          refine VL_block ?_
          obtain ⟨c_16, H_78⟩ := of_if H_76
          refine V_run hN hn 3 0 [0, 1, 6, 15, 16, 17] [0] ⟨[(0, .c (.val (.int .i64 base_1))), (1, .c (.imm (.slice (.pair (.int .i64) (.pair (.int .i64) .str))) l_2)), (6, .c (.h 0)), (15, .c (.imm (.slice (.pair (.int .i64) (.pair (.int .i64) .str))) l_2)), (16, .c (.val (.int .i64 (((List.length l_2) : Nat) : Int)))), (17, .c (.val (.int .i64 t_11)))], [(0, .box [.val (.int .i64 (List.getD l_2 (Int.toNat t_11) ((0 : Int), ((0 : Int), ByteArray.empty))).1), .val (.int .i64 (List.getD l_2 (Int.toNat t_11) ((0 : Int), ((0 : Int), ByteArray.empty))).2.1), .val (.string (List.getD l_2 (Int.toNat t_11) ((0 : Int), ((0 : Int), ByteArray.empty))).2.2)])], 1⟩ [0 ≤ t_11, t_11 < (((List.length l_2) : Nat) : Int)] (by kernel_rfl) rfl rfl (ap2 c_16.1 (ap1 c_16.2)) ?_
          obtain ⟨q_79, H_80, H_81⟩ := of_bind H_78
          refine V_cut (Y := Bool) (R := Bool) q_79 (fun y => y) (fun y => [(0, .c (.val (.int .i64 base_1))), (1, .c (.imm (.slice (.pair (.int .i64) (.pair (.int .i64) .str))) l_2)), (15, .c (.imm (.slice (.pair (.int .i64) (.pair (.int .i64) .str))) l_2)), (16, .c (.val (.int .i64 (((List.length l_2) : Nat) : Int)))), (17, .c (.val (.int .i64 t_11))), (36, .c (.val (.bool y)))]) (fun y => []) ?_ ?_
          · skip
            rcases Bool.eq_false_or_eq_true ((decide ((List.getD l_2 (Int.toNat t_11) ((0 : Int), ((0 : Int), ByteArray.empty))).1 < (0 : Int)))) with b_17 | b_17
            · have H_83 := of_t H_80 b_17
              refine V_reg hN hn [] [(24, true)] calls_nil 1 [0, 1, 15, 16, 17, 36] [] ⟨[(0, .c (.val (.int .i64 base_1))), (1, .c (.imm (.slice (.pair (.int .i64) (.pair (.int .i64) .str))) l_2)), (15, .c (.imm (.slice (.pair (.int .i64) (.pair (.int .i64) .str))) l_2)), (16, .c (.val (.int .i64 (((List.length l_2) : Nat) : Int)))), (17, .c (.val (.int .i64 t_11))), (36, .c (.val (.bool true)))], [], 1⟩ [(decide ((List.getD l_2 (Int.toNat t_11) ((0 : Int), ((0 : Int), ByteArray.empty))).1 < (0 : Int))) = true] (by kernel_rfl) rfl rfl (ap1 b_17) (by kernel_rfl) (by kernel_rfl) ?_
              have H_85 := Option.some.inj (show some true = some q_79 from H_83); subst H_85
              refine VL_nil ?_
              exact QP_end true rfl [] hn (by kernel_rfl) (by kernel_rfl) rfl rfl rfl
            · have H_84 := of_f H_80 b_17
              rcases Bool.eq_false_or_eq_true ((decide ((List.getD l_2 (Int.toNat t_11) ((0 : Int), ((0 : Int), ByteArray.empty))).1 > (List.getD l_2 (Int.toNat t_11) ((0 : Int), ((0 : Int), ByteArray.empty))).2.1))) with b_19 | b_19
              · have H_86 := of_t H_84 b_19
                refine V_reg hN hn [] [(24, false), (31, true)] calls_nil 1 [0, 1, 15, 16, 17, 36] [] ⟨[(0, .c (.val (.int .i64 base_1))), (1, .c (.imm (.slice (.pair (.int .i64) (.pair (.int .i64) .str))) l_2)), (15, .c (.imm (.slice (.pair (.int .i64) (.pair (.int .i64) .str))) l_2)), (16, .c (.val (.int .i64 (((List.length l_2) : Nat) : Int)))), (17, .c (.val (.int .i64 t_11))), (36, .c (.val (.bool true)))], [], 1⟩ [(decide ((List.getD l_2 (Int.toNat t_11) ((0 : Int), ((0 : Int), ByteArray.empty))).1 < (0 : Int))) = false, (decide ((List.getD l_2 (Int.toNat t_11) ((0 : Int), ((0 : Int), ByteArray.empty))).1 > (List.getD l_2 (Int.toNat t_11) ((0 : Int), ((0 : Int), ByteArray.empty))).2.1)) = true] (by kernel_rfl) rfl rfl (ap2 b_17 (ap1 b_19)) (by kernel_rfl) (by kernel_rfl) ?_
                have H_88 := Option.some.inj (show some true = some q_79 from H_86); subst H_88
                refine VL_nil ?_
                exact QP_end true rfl [] hn (by kernel_rfl) (by kernel_rfl) rfl rfl rfl
              · have H_87 := of_f H_84 b_19
                refine V_reg hN hn [] [(24, false), (31, false)] calls_nil 1 [0, 1, 15, 16, 17, 36] [] ⟨[(0, .c (.val (.int .i64 base_1))), (1, .c (.imm (.slice (.pair (.int .i64) (.pair (.int .i64) .str))) l_2)), (15, .c (.imm (.slice (.pair (.int .i64) (.pair (.int .i64) .str))) l_2)), (16, .c (.val (.int .i64 (((List.length l_2) : Nat) : Int)))), (17, .c (.val (.int .i64 t_11))), (36, .c (.val (.bool (decide ((List.getD l_2 (Int.toNat t_11) ((0 : Int), ((0 : Int), ByteArray.empty))).2.1 > base_1)))))], [], 1⟩ [(decide ((List.getD l_2 (Int.toNat t_11) ((0 : Int), ((0 : Int), ByteArray.empty))).1 < (0 : Int))) = false, (decide ((List.getD l_2 (Int.toNat t_11) ((0 : Int), ((0 : Int), ByteArray.empty))).1 > (List.getD l_2 (Int.toNat t_11) ((0 : Int), ((0 : Int), ByteArray.empty))).2.1)) = false] (by kernel_rfl) rfl rfl (ap2 b_17 (ap1 b_19)) (by kernel_rfl) (by kernel_rfl) ?_
                have H_89 := Option.some.inj (show some (decide ((List.getD l_2 (Int.toNat t_11) ((0 : Int), ((0 : Int), ByteArray.empty))).2.1 > base_1)) = some q_79 from H_87); subst H_89
                refine VL_nil ?_
                exact QP_end (decide ((List.getD l_2 (Int.toNat t_11) ((0 : Int), ((0 : Int), ByteArray.empty))).2.1 > base_1)) rfl [] hn (by kernel_rfl) (by kernel_rfl) rfl rfl rfl
          · intro y_82 hy; subst hy
            skip
            skip
            refine VL_cond (y_82) (by kernel_rfl) ?_ ?_
            · intro b_23; have H_90 := of_t H_81 b_23
              refine V_run hN hn 2 1 [4] [] ⟨[(4, .c (.val (.int .i64 (10 : Int))))], [], 1⟩ [] (by kernel_rfl) rfl rfl ap0 ?_
              have H_92 := Option.some.inj (show some (Sum.inl (10 : Int)) = some q_70 from H_90); subst H_92
              have H_93 := Option.some.inj (show some (10 : Int) = some r from H_72); subst H_93
              refine VL_ret ?_
              refine QB_ret ?_
              refine QL_ret ?_
              refine QB_ret ?_
              refine QP_ret ?_
              exact P_to [(4, .c (.val (.int .i64 (10 : Int))))] [] [] hn (by kernel_rfl) (by kernel_rfl) rfl rfl rfl (QF_retS (by kernel_rfl) (by kernel_rfl) rfl)
            · intro b_23; have H_91 := of_f H_81 b_23
              refine V_run hN hn 1 1 [0, 1, 15, 16, 17, 36] [] ⟨[(0, .c (.val (.int .i64 base_1))), (1, .c (.imm (.slice (.pair (.int .i64) (.pair (.int .i64) .str))) l_2)), (15, .c (.imm (.slice (.pair (.int .i64) (.pair (.int .i64) .str))) l_2)), (16, .c (.val (.int .i64 (((List.length l_2) : Nat) : Int)))), (17, .c (.val (.int .i64 t_11))), (36, .c (.val (.bool y_82)))], [], 1⟩ [] (by kernel_rfl) rfl rfl ap0 ?_
              refine VL_nil (QB_end ?_)
              refine V_run hN hn 1 1 [0, 1, 15, 16, 17] [] ⟨[(0, .c (.val (.int .i64 base_1))), (1, .c (.imm (.slice (.pair (.int .i64) (.pair (.int .i64) .str))) l_2)), (15, .c (.imm (.slice (.pair (.int .i64) (.pair (.int .i64) .str))) l_2)), (16, .c (.val (.int .i64 (((List.length l_2) : Nat) : Int)))), (17, .c (.val (.int .i64 (IntKind.wrap .i64 (t_11 + (1 : Int))))))], [], 1⟩ [] (by kernel_rfl) rfl rfl ap0 ?_
              refine VL_nil ?_
              exact V_roundEnd (IntKind.wrap .i64 (t_11 + (1 : Int))) H_91 [] hn (by kernel_rfl) (by kernel_rfl) rfl rfl rfl
        · intro b_14; have H_77 := of_f H_75 b_14
          refine VL_exit ?_
          refine QL_exit ?_
          refine QB_here ?_
          have H_94 := Option.some.inj (show some (Sum.inr ()) = some q_70 from H_77); subst H_94
          refine VL_nil ?_
          exact QP_end () rfl [] hn (by kernel_rfl) (by kernel_rfl) rfl rfl rfl
      · intro y_73 hy; subst hy
        skip
        refine V_run hN hn 2 0 [0, 1] [] ⟨[(0, .c (.val (.int .i64 base_1))), (1, .c (.imm (.slice (.pair (.int .i64) (.pair (.int .i64) .str))) l_2))], [], 0⟩ [] (by kernel_rfl) rfl rfl ap0 ?_
        obtain ⟨r_28, h_29, H_95⟩ := of_bind H_72
        refine V_reg hN hn [(1, ⟨40, 0, [.c (.imm (.slice (.pair (.int .i64) (.pair (.int .i64) .str))) l_2)], [], .c (.val (.bool r_28)), [], [], 0⟩)] [] (calls_cons (delta_Ordered_spec K l_2 r_28 h_29) (by kernel_rfl) calls_nil) 0 [0, 1, 40] [] ⟨[(0, .c (.val (.int .i64 base_1))), (1, .c (.imm (.slice (.pair (.int .i64) (.pair (.int .i64) .str))) l_2)), (40, .c (.val (.bool (!r_28))))], [], 0⟩ [] (by kernel_rfl) rfl rfl ap0 (by kernel_rfl) (by kernel_rfl) ?_
        refine VL_cond ((!r_28)) (by kernel_rfl) ?_ ?_
        · intro b_31; have H_96 := of_t H_95 b_31
          refine V_run hN hn 2 0 [4] [] ⟨[(4, .c (.val (.int .i64 (180 : Int))))], [], 0⟩ [] (by kernel_rfl) rfl rfl ap0 ?_
          have H_98 := Option.some.inj (show some (180 : Int) = some r from H_96); subst H_98
          refine VL_ret ?_
          exact P_to [(4, .c (.val (.int .i64 (180 : Int))))] [] [] hn (by kernel_rfl) (by kernel_rfl) rfl rfl rfl (QF_retS (by kernel_rfl) (by kernel_rfl) rfl)
        · intro b_31; have H_97 := of_f H_95 b_31
          refine V_run hN hn 4 0 [0, 1, 41, 42, 43] [] ⟨[(0, .c (.val (.int .i64 base_1))), (1, .c (.imm (.slice (.pair (.int .i64) (.pair (.int .i64) .str))) l_2)), (41, .c (.imm (.slice (.pair (.int .i64) (.pair (.int .i64) .str))) l_2)), (42, .c (.val (.int .i64 (((List.length l_2) : Nat) : Int)))), (43, .c (.val (.int .i64 (0 : Int))))], [], 0⟩ [] (by kernel_rfl) rfl rfl ap0 ?_
          obtain ⟨q_99, H_100, H_101⟩ := of_bind H_97
          refine V_cut (Y := Unit) (R := (Int ⊕ Unit)) q_99 (fun y => (Sum.inr y)) (fun y => [(0, .c (.val (.int .i64 base_1))), (1, .c (.imm (.slice (.pair (.int .i64) (.pair (.int .i64) .str))) l_2))]) (fun y => []) ?_ ?_
          · skip
            refine VL_block ?_
            refine V_to [(0, .c (.val (.int .i64 base_1))), (1, .c (.imm (.slice (.pair (.int .i64) (.pair (.int .i64) .str))) l_2)), (41, .c (.imm (.slice (.pair (.int .i64) (.pair (.int .i64) .str))) l_2)), (42, .c (.val (.int .i64 (((List.length l_2) : Nat) : Int)))), (43, .c (.val (.int .i64 (0 : Int))))] [] [] hn (by kernel_rfl) (by kernel_rfl) rfl rfl rfl ?_
            refine VL_loop (X := Int) (fun x => [(0, .c (.val (.int .i64 base_1))), (1, .c (.imm (.slice (.pair (.int .i64) (.pair (.int .i64) .str))) l_2)), (41, .c (.imm (.slice (.pair (.int .i64) (.pair (.int .i64) .str))) l_2)), (42, .c (.val (.int .i64 (((List.length l_2) : Nat) : Int)))), (43, .c (.val (.int .i64 x)))]) (fun x => []) (fun k x => delta_check_gr.l1 K l_2 k x = some q_99) K (0 : Int) H_100 (fun _ h => no_none h) ?_
            intro k_35 t_34 H_103
            have H_104 : delta_check_gr.l1 K l_2 (k_35 + 1) t_34 = some q_99 := H_103
            rw [delta_check_gr.l1] at H_104
            refine V_run hN hn 3 0 [0, 1, 41, 42, 43, 44] [] ⟨[(0, .c (.val (.int .i64 base_1))), (1, .c (.imm (.slice (.pair (.int .i64) (.pair (.int .i64) .str))) l_2)), (41, .c (.imm (.slice (.pair (.int .i64) (.pair (.int .i64) .str))) l_2)), (42, .c (.val (.int .i64 (((List.length l_2) : Nat) : Int)))), (43, .c (.val (.int .i64 t_34))), (44, .c (.val (.bool (decide (t_34 < (((List.length l_2) : Nat) : Int))))))], [], 0⟩ [] (by kernel_rfl) rfl rfl ap0 ?_
            refine VL_cond ((decide (t_34 < (((List.length l_2) : Nat) : Int)))) (by kernel_rfl) ?_ ?_
            · intro b_37; have H_105 := of_t H_104 b_37
              refine V_run hN hn 2 0 [0, 1, 41, 42, 43, 44] [] ⟨[(0, .c (.val (.int .i64 base_1))), (1, .c (.imm (.slice (.pair (.int .i64) (.pair (.int .i64) .str))) l_2)), (41, .c (.imm (.slice (.pair (.int .i64) (.pair (.int .i64) .str))) l_2)), (42, .c (.val (.int .i64 (((List.length l_2) : Nat) : Int)))), (43, .c (.val (.int .i64 t_34))), (44, .c (.val (.bool (decide (t_34 < (((List.length l_2) : Nat) : Int))))))], [], 0⟩ [] (by kernel_rfl) rfl rfl ap0 ?_
              refine VL_block ?_
              obtain ⟨c_39, H_107⟩ := of_if H_105
              refine V_run hN hn 3 0 [0, 1, 8, 41, 42, 43] [0] ⟨[(0, .c (.val (.int .i64 base_1))), (1, .c (.imm (.slice (.pair (.int .i64) (.pair (.int .i64) .str))) l_2)), (8, .c (.h 0)), (41, .c (.imm (.slice (.pair (.int .i64) (.pair (.int .i64) .str))) l_2)), (42, .c (.val (.int .i64 (((List.length l_2) : Nat) : Int)))), (43, .c (.val (.int .i64 t_34)))], [(0, .box [.val (.int .i64 (List.getD l_2 (Int.toNat t_34) ((0 : Int), ((0 : Int), ByteArray.empty))).1), .val (.int .i64 (List.getD l_2 (Int.toNat t_34) ((0 : Int), ((0 : Int), ByteArray.empty))).2.1), .val (.string (List.getD l_2 (Int.toNat t_34) ((0 : Int), ((0 : Int), ByteArray.empty))).2.2)])], 1⟩ [0 ≤ t_34, t_34 < (((List.length l_2) : Nat) : Int)] (by kernel_rfl) rfl rfl (ap2 c_39.1 (ap1 c_39.2)) ?_
              obtain ⟨r_40, h_41, H_108⟩ := of_bind H_107
              refine V_reg hN hn [(2, ⟨39, 0, [.c (.val (.string (List.getD l_2 (Int.toNat t_34) ((0 : Int), ((0 : Int), ByteArray.empty))).2.2))], [], .c (.val (.bool r_40)), [], [], 1⟩)] [] (calls_cons (utf_Valid_spec K (List.getD l_2 (Int.toNat t_34) ((0 : Int), ((0 : Int), ByteArray.empty))).2.2 r_40 h_41) (by kernel_rfl) calls_nil) 1 [0, 1, 41, 42, 43, 50] [] ⟨[(0, .c (.val (.int .i64 base_1))), (1, .c (.imm (.slice (.pair (.int .i64) (.pair (.int .i64) .str))) l_2)), (41, .c (.imm (.slice (.pair (.int .i64) (.pair (.int .i64) .str))) l_2)), (42, .c (.val (.int .i64 (((List.length l_2) : Nat) : Int)))), (43, .c (.val (.int .i64 t_34))), (50, .c (.val (.bool (!r_40))))], [], 1⟩ [] (by kernel_rfl) rfl rfl ap0 (by kernel_rfl) (by kernel_rfl) ?_
              refine VL_cond ((!r_40)) (by kernel_rfl) ?_ ?_
              · intro b_43; have H_109 := of_t H_108 b_43
                refine V_run hN hn 2 1 [4] [] ⟨[(4, .c (.val (.int .i64 (12 : Int))))], [], 1⟩ [] (by kernel_rfl) rfl rfl ap0 ?_
                have H_111 := Option.some.inj (show some (Sum.inl (12 : Int)) = some q_99 from H_109); subst H_111
                have H_112 := Option.some.inj (show some (12 : Int) = some r from H_101); subst H_112
                refine VL_ret ?_
                refine QB_ret ?_
                refine QL_ret ?_
                refine QB_ret ?_
                refine QP_ret ?_
                exact P_to [(4, .c (.val (.int .i64 (12 : Int))))] [] [] hn (by kernel_rfl) (by kernel_rfl) rfl rfl rfl (QF_retS (by kernel_rfl) (by kernel_rfl) rfl)
              · intro b_43; have H_110 := of_f H_108 b_43
                refine V_run hN hn 1 1 [0, 1, 41, 42, 43, 50] [] ⟨[(0, .c (.val (.int .i64 base_1))), (1, .c (.imm (.slice (.pair (.int .i64) (.pair (.int .i64) .str))) l_2)), (41, .c (.imm (.slice (.pair (.int .i64) (.pair (.int .i64) .str))) l_2)), (42, .c (.val (.int .i64 (((List.length l_2) : Nat) : Int)))), (43, .c (.val (.int .i64 t_34))), (50, .c (.val (.bool (!r_40))))], [], 1⟩ [] (by kernel_rfl) rfl rfl ap0 ?_
                refine VL_nil (QB_end ?_)
                refine V_run hN hn 1 1 [0, 1, 41, 42, 43] [] ⟨[(0, .c (.val (.int .i64 base_1))), (1, .c (.imm (.slice (.pair (.int .i64) (.pair (.int .i64) .str))) l_2)), (41, .c (.imm (.slice (.pair (.int .i64) (.pair (.int .i64) .str))) l_2)), (42, .c (.val (.int .i64 (((List.length l_2) : Nat) : Int)))), (43, .c (.val (.int .i64 (IntKind.wrap .i64 (t_34 + (1 : Int))))))], [], 1⟩ [] (by kernel_rfl) rfl rfl ap0 ?_
                refine VL_nil ?_
                exact V_roundEnd (IntKind.wrap .i64 (t_34 + (1 : Int))) H_110 [] hn (by kernel_rfl) (by kernel_rfl) rfl rfl rfl
            · intro b_37; have H_106 := of_f H_104 b_37
              refine VL_exit ?_
              refine QL_exit ?_
              refine QB_here ?_
              have H_113 := Option.some.inj (show some (Sum.inr ()) = some q_99 from H_106); subst H_113
              refine VL_nil ?_
              exact QP_end () rfl [] hn (by kernel_rfl) (by kernel_rfl) rfl rfl rfl
          · intro y_102 hy; subst hy
            skip
            refine V_run hN hn 1 0 [0, 1] [] ⟨[(0, .c (.val (.int .i64 base_1))), (1, .c (.imm (.slice (.pair (.int .i64) (.pair (.int .i64) .str))) l_2))], [], 0⟩ [] (by kernel_rfl) rfl rfl ap0 ?_
            obtain ⟨r_48, h_49, H_114⟩ := of_bind H_101
            refine V_reg hN hn [(2, ⟨41, 0, [.c (.val (.int .i64 base_1)), .c (.imm (.slice (.pair (.int .i64) (.pair (.int .i64) .str))) l_2)], [], .c (.val (.int .i64 r_48)), [], [], 0⟩)] [] (calls_cons (delta_long_spec K base_1 l_2 r_48 h_49) (by kernel_rfl) calls_nil) 0 [4] [] ⟨[(4, .c (.val (.int .i64 r_48)))], [], 0⟩ [] (by kernel_rfl) rfl rfl ap0 (by kernel_rfl) (by kernel_rfl) ?_
            have H_115 := Option.some.inj (show some r_48 = some r from H_114); subst H_115
            refine VL_ret ?_
            exact P_to [(4, .c (.val (.int .i64 r_48)))] [] [] hn (by kernel_rfl) (by kernel_rfl) rfl rfl rfl (QF_retS (by kernel_rfl) (by kernel_rfl) rfl)

theorem delta_Build_spec (K : Nat) (base_1 : Int) (l_2 : (List (Int × (Int × ByteArray)))) (r : (Int × (List (Int × (Int × ByteArray))) × Int)) (H : delta_Build_gr K base_1 l_2 = some r) : Spec Try.prog 22 0 [.c (.val (.int .i64 base_1)), .c (.imm (.slice (.pair (.int .i64) (.pair (.int .i64) .str))) l_2)] [] (.tup [(true, [.val (.int .i64 r.1), .imm (.slice (.pair (.int .i64) (.pair (.int .i64) .str))) r.2.1]), (false, [.val (.int .i64 r.2.2)])]) [] := by
  refine Spec_mk (fn := Try.f22) (c := (Try.f22.body).get!) Try.func22 (by kernel_rfl) rfl ?_
  intro C hN hn
  replace hN : C.N = 46 := hN
  unfold delta_Build_gr at H
  refine V_run hN hn 4 0 [0, 1, 4] [0] ⟨[(0, .c (.val (.int .i64 base_1))), (1, .c (.imm (.slice (.pair (.int .i64) (.pair (.int .i64) .str))) l_2)), (4, .c (.h 0))], [(0, .box [.val (.int .i64 (0 : Int)), .val (.slice none 0 0)])], 1⟩ [] (by kernel_rfl) rfl rfl ap0 ?_
  obtain ⟨r_4, h_5, H_60⟩ := of_bind H
  refine V_reg hN hn [(2, ⟨30, 0, [.c (.val (.int .i64 base_1)), .c (.imm (.slice (.pair (.int .i64) (.pair (.int .i64) .str))) l_2)], [], .c (.val (.int .i64 r_4)), [], [], 1⟩)] [] (calls_cons (delta_check_spec K base_1 l_2 r_4 h_5) (by kernel_rfl) calls_nil) 1 [0, 1, 4, 6] [0] ⟨[(0, .c (.val (.int .i64 base_1))), (1, .c (.imm (.slice (.pair (.int .i64) (.pair (.int .i64) .str))) l_2)), (4, .c (.h 0)), (6, .c (.val (.int .i64 r_4)))], [(0, .box [.val (.int .i64 (0 : Int)), .val (.slice none 0 0)])], 1⟩ [] (by kernel_rfl) rfl rfl ap0 (by kernel_rfl) (by kernel_rfl) ?_
  refine V_run hN hn 2 1 [0, 1, 4, 6, 15] [0] ⟨[(0, .c (.val (.int .i64 base_1))), (1, .c (.imm (.slice (.pair (.int .i64) (.pair (.int .i64) .str))) l_2)), (4, .c (.h 0)), (6, .c (.val (.int .i64 r_4))), (15, .c (.val (.bool (r_4 != (0 : Int)))))], [(0, .box [.val (.int .i64 (0 : Int)), .val (.slice none 0 0)])], 1⟩ [] (by kernel_rfl) rfl rfl ap0 ?_
  refine VL_cond ((r_4 != (0 : Int))) (by kernel_rfl) ?_ ?_
  · intro b_8; have H_61 := of_t H_60 b_8
    refine V_run hN hn 2 1 [4, 5] [0] ⟨[(4, .c (.h 0)), (5, .c (.val (.int .i64 r_4)))], [(0, .box [.val (.int .i64 (0 : Int)), .val (.slice none 0 0)])], 1⟩ [] (by kernel_rfl) rfl rfl ap0 ?_
    have H_63 := Option.some.inj (show some ((0 : Int), ([] : List (Int × (Int × ByteArray))), r_4) = some r from H_61); subst H_63
    refine VL_ret ?_
    refine P_ghost [.readCell 0 1 (.slice (.pair (.int .i64) (.pair (.int .i64) .str)))] 1 hn [4, 5] [0] ⟨[(4, .c (.h 0)), (5, .c (.val (.int .i64 r_4)))], [(0, .box [.val (.int .i64 (0 : Int)), .imm (.slice (.pair (.int .i64) (.pair (.int .i64) .str))) ([] : List (Int × (Int × ByteArray)))])], 1⟩ (by kernel_rfl) rfl rfl ?_
    exact P_to [(4, .c (.h 0)), (5, .c (.val (.int .i64 r_4)))] [(0, .box [.val (.int .i64 (0 : Int)), .imm (.slice (.pair (.int .i64) (.pair (.int .i64) .str))) ([] : List (Int × (Int × ByteArray)))])] [(0, 0)] hn (by kernel_rfl) (by kernel_rfl) rfl rfl rfl (QF_retS (by kernel_rfl) (by kernel_rfl) rfl)
  · intro b_8; have H_62 := of_f H_60 b_8
    refine V_run hN hn 2 1 [0, 1, 4, 6, 15] [0] ⟨[(0, .c (.val (.int .i64 base_1))), (1, .c (.imm (.slice (.pair (.int .i64) (.pair (.int .i64) .str))) l_2)), (4, .c (.h 0)), (6, .c (.val (.int .i64 r_4))), (15, .c (.val (.bool (r_4 != (0 : Int)))))], [(0, .box [.val (.int .i64 (0 : Int)), .val (.slice none 0 0)])], 1⟩ [] (by kernel_rfl) rfl rfl ap0 ?_
    obtain ⟨r_11, h_12, H_64⟩ := of_bind H_62
    refine V_reg hN hn [(1, ⟨31, 0, [.c (.val (.int .i64 base_1))], [], .c (.h 0), [(0, .box [.val (.int .i64 base_1), .val (.slice none 0 0)])], [(0, 1)], 2⟩)] [] (calls_cons (delta_NewMaker_spec K base_1 r_11 h_12) (by kernel_rfl) calls_nil) 1 [0, 1, 4, 7] [0, 1] ⟨[(0, .c (.val (.int .i64 base_1))), (1, .c (.imm (.slice (.pair (.int .i64) (.pair (.int .i64) .str))) l_2)), (4, .c (.h 0)), (7, .c (.h 1))], [(0, .box [.val (.int .i64 (0 : Int)), .val (.slice none 0 0)]), (1, .box [.val (.int .i64 base_1), .val (.slice none 0 0)])], 2⟩ [] (by kernel_rfl) rfl rfl ap0 (by kernel_rfl) (by kernel_rfl) ?_
    refine V_run hN hn 5 2 [0, 4, 7, 8, 20, 21, 22] [0, 1] ⟨[(0, .c (.val (.int .i64 base_1))), (4, .c (.h 0)), (7, .c (.h 1)), (8, .c (.val (.int .i64 (0 : Int)))), (20, .c (.imm (.slice (.pair (.int .i64) (.pair (.int .i64) .str))) l_2)), (21, .c (.val (.int .i64 (((List.length l_2) : Nat) : Int)))), (22, .c (.val (.int .i64 (0 : Int))))], [(0, .box [.val (.int .i64 (0 : Int)), .val (.slice none 0 0)]), (1, .box [.val (.int .i64 base_1), .val (.slice none 0 0)])], 2⟩ [] (by kernel_rfl) rfl rfl ap0 ?_
    obtain ⟨q_65, H_66, H_67⟩ := of_bind H_64
    refine V_cut (Y := ((List (Int × (Int × ByteArray))) × Int)) (R := ((List (Int × (Int × ByteArray))) × Int)) q_65 (fun y => y) (fun y => [(0, .c (.val (.int .i64 base_1))), (4, .c (.h 0)), (7, .c (.h 1)), (8, .c (.val (.int .i64 y.2)))]) (fun y => [(0, .box [.val (.int .i64 (0 : Int)), .val (.slice none 0 0)]), (1, .box [.val (.int .i64 base_1), .h 5]), (5, .row (.pair (.int .i64) (.pair (.int .i64) .str)) y.1)]) ?_ ?_
    · skip
      refine VL_block ?_
      refine V_ghost [.nilCell 1 1 (.pair (.int .i64) (.pair (.int .i64) .str))] 2 hn [0, 4, 7, 8, 20, 21, 22] [0, 1, 2] ⟨[(0, .c (.val (.int .i64 base_1))), (4, .c (.h 0)), (7, .c (.h 1)), (8, .c (.val (.int .i64 (0 : Int)))), (20, .c (.imm (.slice (.pair (.int .i64) (.pair (.int .i64) .str))) l_2)), (21, .c (.val (.int .i64 (((List.length l_2) : Nat) : Int)))), (22, .c (.val (.int .i64 (0 : Int))))], [(0, .box [.val (.int .i64 (0 : Int)), .val (.slice none 0 0)]), (1, .box [.val (.int .i64 base_1), .h 2]), (2, .row (.pair (.int .i64) (.pair (.int .i64) .str)) ([] : List (Int × (Int × ByteArray))))], 3⟩ (by kernel_rfl) rfl rfl ?_
      refine V_to [(0, .c (.val (.int .i64 base_1))), (4, .c (.h 0)), (7, .c (.h 1)), (8, .c (.val (.int .i64 (0 : Int)))), (20, .c (.imm (.slice (.pair (.int .i64) (.pair (.int .i64) .str))) l_2)), (21, .c (.val (.int .i64 (((List.length l_2) : Nat) : Int)))), (22, .c (.val (.int .i64 (0 : Int))))] [(0, .box [.val (.int .i64 (0 : Int)), .val (.slice none 0 0)]), (1, .box [.val (.int .i64 base_1), .h 5]), (5, .row (.pair (.int .i64) (.pair (.int .i64) .str)) ([] : List (Int × (Int × ByteArray))))] [(0, 0), (1, 1), (5, 2)] hn (by kernel_rfl) (by kernel_rfl) rfl rfl rfl ?_
      refine VL_loop (X := ((List (Int × (Int × ByteArray))) × Int × Int)) (fun x => [(0, .c (.val (.int .i64 base_1))), (4, .c (.h 0)), (7, .c (.h 1)), (8, .c (.val (.int .i64 x.2.1))), (20, .c (.imm (.slice (.pair (.int .i64) (.pair (.int .i64) .str))) l_2)), (21, .c (.val (.int .i64 (((List.length l_2) : Nat) : Int)))), (22, .c (.val (.int .i64 x.2.2)))]) (fun x => [(0, .box [.val (.int .i64 (0 : Int)), .val (.slice none 0 0)]), (1, .box [.val (.int .i64 base_1), .h 5]), (5, .row (.pair (.int .i64) (.pair (.int .i64) .str)) x.1)]) (fun k x => delta_Build_gr.l0 K l_2 base_1 k x.1 x.2.1 x.2.2 = some q_65) K (([] : List (Int × (Int × ByteArray))), (0 : Int), (0 : Int)) H_66 (fun _ h => no_none h) ?_
      intro k_32 x_32 H_69
      obtain ⟨x_31, at_15, t_16⟩ := x_32
      have H_70 : delta_Build_gr.l0 K l_2 base_1 (k_32 + 1) x_31 at_15 t_16 = some q_65 := H_69
      rw [delta_Build_gr.l0] at H_70
      refine V_run hN hn 3 6 [0, 4, 7, 8, 20, 21, 22, 23] [0, 1, 5] ⟨[(0, .c (.val (.int .i64 base_1))), (4, .c (.h 0)), (7, .c (.h 1)), (8, .c (.val (.int .i64 at_15))), (20, .c (.imm (.slice (.pair (.int .i64) (.pair (.int .i64) .str))) l_2)), (21, .c (.val (.int .i64 (((List.length l_2) : Nat) : Int)))), (22, .c (.val (.int .i64 t_16))), (23, .c (.val (.bool (decide (t_16 < (((List.length l_2) : Nat) : Int))))))], [(0, .box [.val (.int .i64 (0 : Int)), .val (.slice none 0 0)]), (1, .box [.val (.int .i64 base_1), .h 5]), (5, .row (.pair (.int .i64) (.pair (.int .i64) .str)) x_31)], 6⟩ [] (by kernel_rfl) rfl rfl ap0 ?_
      refine VL_cond ((decide (t_16 < (((List.length l_2) : Nat) : Int)))) (by kernel_rfl) ?_ ?_
      · intro b_34; have H_71 := of_t H_70 b_34
        refine V_run hN hn 2 6 [0, 4, 7, 8, 20, 21, 22, 23] [0, 1, 5] ⟨[(0, .c (.val (.int .i64 base_1))), (4, .c (.h 0)), (7, .c (.h 1)), (8, .c (.val (.int .i64 at_15))), (20, .c (.imm (.slice (.pair (.int .i64) (.pair (.int .i64) .str))) l_2)), (21, .c (.val (.int .i64 (((List.length l_2) : Nat) : Int)))), (22, .c (.val (.int .i64 t_16))), (23, .c (.val (.bool (decide (t_16 < (((List.length l_2) : Nat) : Int))))))], [(0, .box [.val (.int .i64 (0 : Int)), .val (.slice none 0 0)]), (1, .box [.val (.int .i64 base_1), .h 5]), (5, .row (.pair (.int .i64) (.pair (.int .i64) .str)) x_31)], 6⟩ [] (by kernel_rfl) rfl rfl ap0 ?_
        refine VL_block ?_
        obtain ⟨c_36, H_73⟩ := of_if H_71
        refine V_run hN hn 3 6 [0, 4, 7, 8, 10, 20, 21, 22] [0, 1, 5, 6] ⟨[(0, .c (.val (.int .i64 base_1))), (4, .c (.h 0)), (7, .c (.h 1)), (8, .c (.val (.int .i64 at_15))), (10, .c (.h 6)), (20, .c (.imm (.slice (.pair (.int .i64) (.pair (.int .i64) .str))) l_2)), (21, .c (.val (.int .i64 (((List.length l_2) : Nat) : Int)))), (22, .c (.val (.int .i64 t_16)))], [(0, .box [.val (.int .i64 (0 : Int)), .val (.slice none 0 0)]), (1, .box [.val (.int .i64 base_1), .h 5]), (5, .row (.pair (.int .i64) (.pair (.int .i64) .str)) x_31), (6, .box [.val (.int .i64 (List.getD l_2 (Int.toNat t_16) ((0 : Int), ((0 : Int), ByteArray.empty))).1), .val (.int .i64 (List.getD l_2 (Int.toNat t_16) ((0 : Int), ((0 : Int), ByteArray.empty))).2.1), .val (.string (List.getD l_2 (Int.toNat t_16) ((0 : Int), ((0 : Int), ByteArray.empty))).2.2)])], 7⟩ [0 ≤ t_16, t_16 < (((List.length l_2) : Nat) : Int)] (by kernel_rfl) rfl rfl (ap2 c_36.1 (ap1 c_36.2)) ?_
        obtain ⟨r_37, h_38, H_74⟩ := of_bind H_73
        refine V_reg hN hn [(4, ⟨32, 2, [.c (.h 0), .c (.val (.int .i64 at_15)), .c (.val (.int .i64 (List.getD l_2 (Int.toNat t_16) ((0 : Int), ((0 : Int), ByteArray.empty))).1))], [(0, .box [.val (.int .i64 base_1), .h 1]), (1, .row (.pair (.int .i64) (.pair (.int .i64) .str)) x_31)], .tup [], [(0, .box [.val (.int .i64 base_1), .h 4]), (4, .row (.pair (.int .i64) (.pair (.int .i64) .str)) r_37)], [(0, 1), (1, 5), (4, 7)], 8⟩)] [] (calls_cons (delta_Maker_Copy_bgg_11dec_spec K base_1 x_31 at_15 (List.getD l_2 (Int.toNat t_16) ((0 : Int), ((0 : Int), ByteArray.empty))).1 r_37 h_38) (by kernel_rfl) calls_nil) 7 [0, 4, 7, 10, 20, 21, 22] [0, 1, 6, 7] ⟨[(0, .c (.val (.int .i64 base_1))), (4, .c (.h 0)), (7, .c (.h 1)), (10, .c (.h 6)), (20, .c (.imm (.slice (.pair (.int .i64) (.pair (.int .i64) .str))) l_2)), (21, .c (.val (.int .i64 (((List.length l_2) : Nat) : Int)))), (22, .c (.val (.int .i64 t_16)))], [(0, .box [.val (.int .i64 (0 : Int)), .val (.slice none 0 0)]), (1, .box [.val (.int .i64 base_1), .h 7]), (6, .box [.val (.int .i64 (List.getD l_2 (Int.toNat t_16) ((0 : Int), ((0 : Int), ByteArray.empty))).1), .val (.int .i64 (List.getD l_2 (Int.toNat t_16) ((0 : Int), ((0 : Int), ByteArray.empty))).2.1), .val (.string (List.getD l_2 (Int.toNat t_16) ((0 : Int), ((0 : Int), ByteArray.empty))).2.2)]), (7, .row (.pair (.int .i64) (.pair (.int .i64) .str)) r_37)], 8⟩ [] (by kernel_rfl) rfl rfl ap0 (by kernel_rfl) (by kernel_rfl) ?_
        refine V_run hN hn 1 8 [0, 4, 7, 10, 20, 21, 22] [0, 1, 6, 7] ⟨[(0, .c (.val (.int .i64 base_1))), (4, .c (.h 0)), (7, .c (.h 1)), (10, .c (.h 6)), (20, .c (.imm (.slice (.pair (.int .i64) (.pair (.int .i64) .str))) l_2)), (21, .c (.val (.int .i64 (((List.length l_2) : Nat) : Int)))), (22, .c (.val (.int .i64 t_16)))], [(0, .box [.val (.int .i64 (0 : Int)), .val (.slice none 0 0)]), (1, .box [.val (.int .i64 base_1), .h 7]), (6, .box [.val (.int .i64 (List.getD l_2 (Int.toNat t_16) ((0 : Int), ((0 : Int), ByteArray.empty))).1), .val (.int .i64 (List.getD l_2 (Int.toNat t_16) ((0 : Int), ((0 : Int), ByteArray.empty))).2.1), .val (.string (List.getD l_2 (Int.toNat t_16) ((0 : Int), ((0 : Int), ByteArray.empty))).2.2)]), (7, .row (.pair (.int .i64) (.pair (.int .i64) .str)) r_37)], 8⟩ [] (by kernel_rfl) rfl rfl ap0 ?_
        obtain ⟨r_41, h_42, H_75⟩ := of_bind H_74
        refine V_reg hN hn [(3, ⟨33, 2, [.c (.h 0), .c (.val (.string (List.getD l_2 (Int.toNat t_16) ((0 : Int), ((0 : Int), ByteArray.empty))).2.2))], [(0, .box [.val (.int .i64 base_1), .h 1]), (1, .row (.pair (.int .i64) (.pair (.int .i64) .str)) r_37)], .tup [], [(0, .box [.val (.int .i64 base_1), .h 4]), (4, .row (.pair (.int .i64) (.pair (.int .i64) .str)) r_41)], [(0, 1), (1, 7), (4, 8)], 9⟩)] [] (calls_cons (delta_Maker_Put_bg_92925_spec K base_1 r_37 (List.getD l_2 (Int.toNat t_16) ((0 : Int), ((0 : Int), ByteArray.empty))).2.2 r_41 h_42) (by kernel_rfl) calls_nil) 8 [0, 4, 7, 10, 20, 21, 22] [0, 1, 6, 8] ⟨[(0, .c (.val (.int .i64 base_1))), (4, .c (.h 0)), (7, .c (.h 1)), (10, .c (.h 6)), (20, .c (.imm (.slice (.pair (.int .i64) (.pair (.int .i64) .str))) l_2)), (21, .c (.val (.int .i64 (((List.length l_2) : Nat) : Int)))), (22, .c (.val (.int .i64 t_16)))], [(0, .box [.val (.int .i64 (0 : Int)), .val (.slice none 0 0)]), (1, .box [.val (.int .i64 base_1), .h 8]), (6, .box [.val (.int .i64 (List.getD l_2 (Int.toNat t_16) ((0 : Int), ((0 : Int), ByteArray.empty))).1), .val (.int .i64 (List.getD l_2 (Int.toNat t_16) ((0 : Int), ((0 : Int), ByteArray.empty))).2.1), .val (.string (List.getD l_2 (Int.toNat t_16) ((0 : Int), ((0 : Int), ByteArray.empty))).2.2)]), (8, .row (.pair (.int .i64) (.pair (.int .i64) .str)) r_41)], 9⟩ [] (by kernel_rfl) rfl rfl ap0 (by kernel_rfl) (by kernel_rfl) ?_
        refine V_run hN hn 1 9 [0, 4, 7, 8, 20, 21, 22] [0, 1, 8] ⟨[(0, .c (.val (.int .i64 base_1))), (4, .c (.h 0)), (7, .c (.h 1)), (8, .c (.val (.int .i64 (List.getD l_2 (Int.toNat t_16) ((0 : Int), ((0 : Int), ByteArray.empty))).2.1))), (20, .c (.imm (.slice (.pair (.int .i64) (.pair (.int .i64) .str))) l_2)), (21, .c (.val (.int .i64 (((List.length l_2) : Nat) : Int)))), (22, .c (.val (.int .i64 t_16)))], [(0, .box [.val (.int .i64 (0 : Int)), .val (.slice none 0 0)]), (1, .box [.val (.int .i64 base_1), .h 8]), (8, .row (.pair (.int .i64) (.pair (.int .i64) .str)) r_41)], 9⟩ [] (by kernel_rfl) rfl rfl ap0 ?_
        refine VL_nil (QB_end ?_)
        refine V_run hN hn 1 9 [0, 4, 7, 8, 20, 21, 22] [0, 1, 8] ⟨[(0, .c (.val (.int .i64 base_1))), (4, .c (.h 0)), (7, .c (.h 1)), (8, .c (.val (.int .i64 (List.getD l_2 (Int.toNat t_16) ((0 : Int), ((0 : Int), ByteArray.empty))).2.1))), (20, .c (.imm (.slice (.pair (.int .i64) (.pair (.int .i64) .str))) l_2)), (21, .c (.val (.int .i64 (((List.length l_2) : Nat) : Int)))), (22, .c (.val (.int .i64 (IntKind.wrap .i64 (t_16 + (1 : Int))))))], [(0, .box [.val (.int .i64 (0 : Int)), .val (.slice none 0 0)]), (1, .box [.val (.int .i64 base_1), .h 8]), (8, .row (.pair (.int .i64) (.pair (.int .i64) .str)) r_41)], 9⟩ [] (by kernel_rfl) rfl rfl ap0 ?_
        refine VL_nil ?_
        exact V_roundEnd (r_41, (List.getD l_2 (Int.toNat t_16) ((0 : Int), ((0 : Int), ByteArray.empty))).2.1, (IntKind.wrap .i64 (t_16 + (1 : Int)))) H_75 [(0, 0), (1, 1), (5, 8)] hn (by kernel_rfl) (by kernel_rfl) rfl rfl rfl
      · intro b_34; have H_72 := of_f H_70 b_34
        refine VL_exit ?_
        refine QL_exit ?_
        refine QB_here ?_
        have H_76 := Option.some.inj (show some (x_31, at_15) = some q_65 from H_72); subst H_76
        refine VL_nil ?_
        exact QP_end (x_31, at_15) rfl [(0, 0), (1, 1), (5, 5)] hn (by kernel_rfl) (by kernel_rfl) rfl rfl rfl
    · intro y_68 hy; subst hy
      obtain ⟨x_46, at_47⟩ := y_68
      refine V_run hN hn 1 6 [0, 4, 7, 8] [0, 1, 5] ⟨[(0, .c (.val (.int .i64 base_1))), (4, .c (.h 0)), (7, .c (.h 1)), (8, .c (.val (.int .i64 at_47)))], [(0, .box [.val (.int .i64 (0 : Int)), .val (.slice none 0 0)]), (1, .box [.val (.int .i64 base_1), .h 5]), (5, .row (.pair (.int .i64) (.pair (.int .i64) .str)) x_46)], 6⟩ [] (by kernel_rfl) rfl rfl ap0 ?_
      obtain ⟨r_49, h_50, H_77⟩ := of_bind H_67
      refine V_reg hN hn [(3, ⟨32, 2, [.c (.h 0), .c (.val (.int .i64 at_47)), .c (.val (.int .i64 base_1))], [(0, .box [.val (.int .i64 base_1), .h 1]), (1, .row (.pair (.int .i64) (.pair (.int .i64) .str)) x_46)], .tup [], [(0, .box [.val (.int .i64 base_1), .h 4]), (4, .row (.pair (.int .i64) (.pair (.int .i64) .str)) r_49)], [(0, 1), (1, 5), (4, 6)], 7⟩)] [] (calls_cons (delta_Maker_Copy_bgg_11dec_spec K base_1 x_46 at_47 base_1 r_49 h_50) (by kernel_rfl) calls_nil) 6 [4, 7] [0, 1, 6] ⟨[(4, .c (.h 0)), (7, .c (.h 1))], [(0, .box [.val (.int .i64 (0 : Int)), .val (.slice none 0 0)]), (1, .box [.val (.int .i64 base_1), .h 6]), (6, .row (.pair (.int .i64) (.pair (.int .i64) .str)) r_49)], 7⟩ [] (by kernel_rfl) rfl rfl ap0 (by kernel_rfl) (by kernel_rfl) ?_
      refine V_run hN hn 1 7 [4, 7] [0, 1, 6] ⟨[(4, .c (.h 0)), (7, .c (.h 1))], [(0, .box [.val (.int .i64 (0 : Int)), .val (.slice none 0 0)]), (1, .box [.val (.int .i64 base_1), .h 6]), (6, .row (.pair (.int .i64) (.pair (.int .i64) .str)) r_49)], 7⟩ [] (by kernel_rfl) rfl rfl ap0 ?_
      refine V_ghost [.shut 6] 7 hn [4, 7] [0, 1] ⟨[(4, .c (.h 0)), (7, .c (.h 1))], [(0, .box [.val (.int .i64 (0 : Int)), .val (.slice none 0 0)]), (1, .box [.val (.int .i64 base_1), .imm (.slice (.pair (.int .i64) (.pair (.int .i64) .str))) r_49])], 7⟩ (by kernel_rfl) rfl rfl ?_
      obtain ⟨r_53, h_54, H_78⟩ := of_bind H_77
      refine V_reg hN hn [(1, ⟨34, 1, [.c (.h 0)], [(0, .box [.val (.int .i64 base_1), .imm (.slice (.pair (.int .i64) (.pair (.int .i64) .str))) r_49])], .tup [(true, [.val (.int .i64 r_53.1), .imm (.slice (.pair (.int .i64) (.pair (.int .i64) .str))) r_53.2.1]), (false, [.val (.int .i64 r_53.2.2)])], [(0, .box [.val (.int .i64 base_1), .imm (.slice (.pair (.int .i64) (.pair (.int .i64) .str))) r_49])], [(0, 1)], 7⟩)] [] (calls_cons (delta_Maker_Delta_b_ee1c6_spec K base_1 r_49 r_53 h_54) (by kernel_rfl) calls_nil) 7 [4, 5] [0] ⟨[(4, .c (.h 0)), (5, .c (.val (.int .i64 r_53.2.2)))], [(0, .box [.val (.int .i64 r_53.1), .imm (.slice (.pair (.int .i64) (.pair (.int .i64) .str))) r_53.2.1])], 7⟩ [] (by kernel_rfl) rfl rfl ap0 (by kernel_rfl) (by kernel_rfl) ?_
      have H_79 := Option.some.inj (show some (r_53.1, r_53.2.1, r_53.2.2) = some r from H_78); subst H_79
      refine VL_ret ?_
      exact P_to [(4, .c (.h 0)), (5, .c (.val (.int .i64 r_53.2.2)))] [(0, .box [.val (.int .i64 r_53.1), .imm (.slice (.pair (.int .i64) (.pair (.int .i64) .str))) r_53.2.1])] [(0, 0)] hn (by kernel_rfl) (by kernel_rfl) rfl rfl rfl (QF_retS (by kernel_rfl) (by kernel_rfl) rfl)

theorem palinodelaw11_DeltaDoes_spec (K : Nat) (s_1 : ByteArray) (l_2 : (List (Int × (Int × ByteArray)))) (r : Bool) (H : palinodelaw11_DeltaDoes K s_1 l_2 = some r) : Spec Try.prog 5 0 [.c (.val (.string s_1)), .c (.imm (.slice (.pair (.int .i64) (.pair (.int .i64) .str))) l_2)] [] (.c (.val (.bool r))) [] := by
  refine Spec_mk (fn := Try.f5) (c := (Try.f5.body).get!) Try.func5 (by kernel_rfl) rfl ?_
  intro C hN hn
  replace hN : C.N = 118 := hN
  unfold palinodelaw11_DeltaDoes at H
  refine V_run hN hn 4 0 [0, 1] [] ⟨[(0, .c (.val (.string s_1))), (1, .c (.imm (.slice (.pair (.int .i64) (.pair (.int .i64) .str))) l_2))], [], 0⟩ [] (by kernel_rfl) rfl rfl ap0 ?_
  obtain ⟨r_4, h_5, H_67⟩ := of_bind H
  refine V_reg hN hn [(0, ⟨9, 0, [], [], .c (.val (.bool r_4)), [], [], 0⟩)] [] (calls_cons (palinodelaw11_known_spec K  r_4 h_5) (by kernel_rfl) calls_nil) 0 [0, 1, 15] [] ⟨[(0, .c (.val (.string s_1))), (1, .c (.imm (.slice (.pair (.int .i64) (.pair (.int .i64) .str))) l_2)), (15, .c (.val (.bool (!r_4))))], [], 0⟩ [] (by kernel_rfl) rfl rfl ap0 (by kernel_rfl) (by kernel_rfl) ?_
  refine VL_cond ((!r_4)) (by kernel_rfl) ?_ ?_
  · intro b_7; have H_68 := of_t H_67 b_7
    refine V_run hN hn 2 0 [4] [] ⟨[(4, .c (.val (.bool false)))], [], 0⟩ [] (by kernel_rfl) rfl rfl ap0 ?_
    have H_70 := Option.some.inj (show some false = some r from H_68); subst H_70
    refine VL_ret ?_
    exact P_to [(4, .c (.val (.bool false)))] [] [] hn (by kernel_rfl) (by kernel_rfl) rfl rfl rfl (QF_retS (by kernel_rfl) (by kernel_rfl) rfl)
  · intro b_7; have H_69 := of_f H_67 b_7
    refine V_run hN hn 3 0 [0, 1, 15] [] ⟨[(0, .c (.val (.string s_1))), (1, .c (.imm (.slice (.pair (.int .i64) (.pair (.int .i64) .str))) l_2)), (15, .c (.val (.bool (!r_4))))], [], 0⟩ [] (by kernel_rfl) rfl rfl ap0 ?_
    obtain ⟨q_71, H_72, H_73⟩ := of_bind H_69
    refine V_cut (Y := Bool) (R := Bool) q_71 (fun y => y) (fun y => [(0, .c (.val (.string s_1))), (1, .c (.imm (.slice (.pair (.int .i64) (.pair (.int .i64) .str))) l_2)), (23, .c (.val (.bool y)))]) (fun y => []) ?_ ?_
    · skip
      rcases Bool.eq_false_or_eq_true ((decide ((((ByteArray.size s_1) : Nat) : Int) > (200 : Int)))) with b_10 | b_10
      · have H_75 := of_t H_72 b_10
        refine V_reg hN hn [] [(19, true)] calls_nil 0 [0, 1, 23] [] ⟨[(0, .c (.val (.string s_1))), (1, .c (.imm (.slice (.pair (.int .i64) (.pair (.int .i64) .str))) l_2)), (23, .c (.val (.bool true)))], [], 0⟩ [(decide ((((ByteArray.size s_1) : Nat) : Int) > (200 : Int))) = true] (by kernel_rfl) rfl rfl (ap1 b_10) (by kernel_rfl) (by kernel_rfl) ?_
        have H_77 := Option.some.inj (show some true = some q_71 from H_75); subst H_77
        refine VL_nil ?_
        exact QP_end true rfl [] hn (by kernel_rfl) (by kernel_rfl) rfl rfl rfl
      · have H_76 := of_f H_72 b_10
        obtain ⟨r_12, h_13, H_78⟩ := of_bind H_76
        refine V_reg hN hn [(5, ⟨21, 0, [.c (.imm (.slice (.pair (.int .i64) (.pair (.int .i64) .str))) l_2)], [], .c (.val (.bool r_12)), [], [], 0⟩)] [(19, false)] (calls_cons (palinodelaw11_fewChanges_spec K l_2 r_12 h_13) (by kernel_rfl) calls_nil) 0 [0, 1, 23] [] ⟨[(0, .c (.val (.string s_1))), (1, .c (.imm (.slice (.pair (.int .i64) (.pair (.int .i64) .str))) l_2)), (23, .c (.val (.bool (!r_12))))], [], 0⟩ [(decide ((((ByteArray.size s_1) : Nat) : Int) > (200 : Int))) = false] (by kernel_rfl) rfl rfl (ap1 b_10) (by kernel_rfl) (by kernel_rfl) ?_
        have H_79 := Option.some.inj (show some (!r_12) = some q_71 from H_78); subst H_79
        refine VL_nil ?_
        exact QP_end (!r_12) rfl [] hn (by kernel_rfl) (by kernel_rfl) rfl rfl rfl
    · intro y_74 hy; subst hy
      skip
      skip
      refine VL_cond (y_74) (by kernel_rfl) ?_ ?_
      · intro b_16; have H_80 := of_t H_73 b_16
        refine V_run hN hn 2 0 [4] [] ⟨[(4, .c (.val (.bool true)))], [], 0⟩ [] (by kernel_rfl) rfl rfl ap0 ?_
        have H_82 := Option.some.inj (show some true = some r from H_80); subst H_82
        refine VL_ret ?_
        exact P_to [(4, .c (.val (.bool true)))] [] [] hn (by kernel_rfl) (by kernel_rfl) rfl rfl rfl (QF_retS (by kernel_rfl) (by kernel_rfl) rfl)
      · intro b_16; have H_81 := of_f H_73 b_16
        refine V_run hN hn 2 0 [0, 1, 23] [] ⟨[(0, .c (.val (.string s_1))), (1, .c (.imm (.slice (.pair (.int .i64) (.pair (.int .i64) .str))) l_2)), (23, .c (.val (.bool y_74)))], [], 0⟩ [] (by kernel_rfl) rfl rfl ap0 ?_
        obtain ⟨r_19, h_20, H_83⟩ := of_bind H_81
        refine V_reg hN hn [(3, ⟨22, 0, [.c (.val (.int .i64 (((ByteArray.size s_1) : Nat) : Int))), .c (.imm (.slice (.pair (.int .i64) (.pair (.int .i64) .str))) l_2)], [], .tup [(true, [.val (.int .i64 r_19.1), .imm (.slice (.pair (.int .i64) (.pair (.int .i64) .str))) r_19.2.1]), (false, [.val (.int .i64 r_19.2.2)])], [], [], 0⟩)] [] (calls_cons (delta_Build_spec K (((ByteArray.size s_1) : Nat) : Int) l_2 r_19 h_20) (by kernel_rfl) calls_nil) 0 [0, 1, 5, 6] [0] ⟨[(0, .c (.val (.string s_1))), (1, .c (.imm (.slice (.pair (.int .i64) (.pair (.int .i64) .str))) l_2)), (5, .c (.h 0)), (6, .c (.val (.int .i64 r_19.2.2)))], [(0, .box [.val (.int .i64 r_19.1), .imm (.slice (.pair (.int .i64) (.pair (.int .i64) .str))) r_19.2.1])], 1⟩ [] (by kernel_rfl) rfl rfl ap0 (by kernel_rfl) (by kernel_rfl) ?_
        refine V_run hN hn 3 1 [0, 1, 5, 32] [0] ⟨[(0, .c (.val (.string s_1))), (1, .c (.imm (.slice (.pair (.int .i64) (.pair (.int .i64) .str))) l_2)), (5, .c (.h 0)), (32, .c (.val (.bool (r_19.2.2 != (0 : Int)))))], [(0, .box [.val (.int .i64 r_19.1), .imm (.slice (.pair (.int .i64) (.pair (.int .i64) .str))) r_19.2.1])], 1⟩ [] (by kernel_rfl) rfl rfl ap0 ?_
        refine VL_cond ((r_19.2.2 != (0 : Int))) (by kernel_rfl) ?_ ?_
        · intro b_23; have H_84 := of_t H_83 b_23
          refine V_run hN hn 2 1 [4] [] ⟨[(4, .c (.val (.bool true)))], [], 1⟩ [] (by kernel_rfl) rfl rfl ap0 ?_
          have H_86 := Option.some.inj (show some true = some r from H_84); subst H_86
          refine VL_ret ?_
          exact P_to [(4, .c (.val (.bool true)))] [] [] hn (by kernel_rfl) (by kernel_rfl) rfl rfl rfl (QF_retS (by kernel_rfl) (by kernel_rfl) rfl)
        · intro b_23; have H_85 := of_f H_83 b_23
          refine V_run hN hn 8 1 [0, 1, 5, 7, 8, 9, 10, 11] [0] ⟨[(0, .c (.val (.string s_1))), (1, .c (.imm (.slice (.pair (.int .i64) (.pair (.int .i64) .str))) l_2)), (5, .c (.h 0)), (7, .c (.val (.string (ByteArray.mk #[])))), (8, .c (.val (.int .i64 (0 : Int)))), (9, .c (.val (.int .i64 (0 : Int)))), (10, .c (.val (.int .i64 (0 : Int)))), (11, .c (.val (.int .i64 (0 : Int))))], [(0, .box [.val (.int .i64 r_19.1), .imm (.slice (.pair (.int .i64) (.pair (.int .i64) .str))) r_19.2.1])], 1⟩ [] (by kernel_rfl) rfl rfl ap0 ?_
          obtain ⟨q_87, H_88, H_89⟩ := of_bind H_85
          refine V_cut (Y := (ByteArray × Int × Int × Int)) (R := (ByteArray × Int × Int × Int)) q_87 (fun y => y) (fun y => [(0, .c (.val (.string s_1))), (5, .c (.h 0)), (7, .c (.val (.string y.1))), (8, .c (.val (.int .i64 y.2.1))), (9, .c (.val (.int .i64 y.2.2.1))), (10, .c (.val (.int .i64 y.2.2.2)))]) (fun y => [(0, .box [.val (.int .i64 r_19.1), .imm (.slice (.pair (.int .i64) (.pair (.int .i64) .str))) r_19.2.1])]) ?_ ?_
          · skip
            refine VL_block ?_
            refine V_to [(0, .c (.val (.string s_1))), (1, .c (.imm (.slice (.pair (.int .i64) (.pair (.int .i64) .str))) l_2)), (5, .c (.h 0)), (7, .c (.val (.string (ByteArray.mk #[])))), (8, .c (.val (.int .i64 (0 : Int)))), (9, .c (.val (.int .i64 (0 : Int)))), (10, .c (.val (.int .i64 (0 : Int)))), (11, .c (.val (.int .i64 (0 : Int))))] [(0, .box [.val (.int .i64 r_19.1), .imm (.slice (.pair (.int .i64) (.pair (.int .i64) .str))) r_19.2.1])] [(0, 0)] hn (by kernel_rfl) (by kernel_rfl) rfl rfl rfl ?_
            refine VL_loop (X := (ByteArray × Int × Int × Int × Int)) (fun x => [(0, .c (.val (.string s_1))), (1, .c (.imm (.slice (.pair (.int .i64) (.pair (.int .i64) .str))) l_2)), (5, .c (.h 0)), (7, .c (.val (.string x.1))), (8, .c (.val (.int .i64 x.2.1))), (9, .c (.val (.int .i64 x.2.2.1))), (10, .c (.val (.int .i64 x.2.2.2.1))), (11, .c (.val (.int .i64 x.2.2.2.2)))]) (fun x => [(0, .box [.val (.int .i64 r_19.1), .imm (.slice (.pair (.int .i64) (.pair (.int .i64) .str))) r_19.2.1])]) (fun k x => palinodelaw11_DeltaDoes.l0 K l_2 s_1 k x.1 x.2.1 x.2.2.1 x.2.2.2.1 x.2.2.2.2 = some q_87) K ((ByteArray.mk #[]), (0 : Int), (0 : Int), (0 : Int), (0 : Int)) H_88 (fun _ h => no_none h) ?_
            intro k_31 x_31 H_91
            obtain ⟨t_26, at_27, adds_28, drops_29, i_30⟩ := x_31
            have H_92 : palinodelaw11_DeltaDoes.l0 K l_2 s_1 (k_31 + 1) t_26 at_27 adds_28 drops_29 i_30 = some q_87 := H_91
            rw [palinodelaw11_DeltaDoes.l0] at H_92
            refine V_run hN hn 3 1 [0, 1, 5, 7, 8, 9, 10, 11, 36] [0] ⟨[(0, .c (.val (.string s_1))), (1, .c (.imm (.slice (.pair (.int .i64) (.pair (.int .i64) .str))) l_2)), (5, .c (.h 0)), (7, .c (.val (.string t_26))), (8, .c (.val (.int .i64 at_27))), (9, .c (.val (.int .i64 adds_28))), (10, .c (.val (.int .i64 drops_29))), (11, .c (.val (.int .i64 i_30))), (36, .c (.val (.bool (decide (i_30 < (((List.length l_2) : Nat) : Int))))))], [(0, .box [.val (.int .i64 r_19.1), .imm (.slice (.pair (.int .i64) (.pair (.int .i64) .str))) r_19.2.1])], 1⟩ [] (by kernel_rfl) rfl rfl ap0 ?_
            refine VL_cond ((decide (i_30 < (((List.length l_2) : Nat) : Int)))) (by kernel_rfl) ?_ ?_
            · intro b_33; have H_93 := of_t H_92 b_33
              refine V_run hN hn 2 1 [0, 1, 5, 7, 8, 9, 10, 11, 36] [0] ⟨[(0, .c (.val (.string s_1))), (1, .c (.imm (.slice (.pair (.int .i64) (.pair (.int .i64) .str))) l_2)), (5, .c (.h 0)), (7, .c (.val (.string t_26))), (8, .c (.val (.int .i64 at_27))), (9, .c (.val (.int .i64 adds_28))), (10, .c (.val (.int .i64 drops_29))), (11, .c (.val (.int .i64 i_30))), (36, .c (.val (.bool (decide (i_30 < (((List.length l_2) : Nat) : Int))))))], [(0, .box [.val (.int .i64 r_19.1), .imm (.slice (.pair (.int .i64) (.pair (.int .i64) .str))) r_19.2.1])], 1⟩ [] (by kernel_rfl) rfl rfl ap0 ?_
              refine VL_block ?_
              refine V_run hN hn 1 1 [0, 1, 5, 7, 8, 9, 10, 11, 36] [0] ⟨[(0, .c (.val (.string s_1))), (1, .c (.imm (.slice (.pair (.int .i64) (.pair (.int .i64) .str))) l_2)), (5, .c (.h 0)), (7, .c (.val (.string t_26))), (8, .c (.val (.int .i64 at_27))), (9, .c (.val (.int .i64 adds_28))), (10, .c (.val (.int .i64 drops_29))), (11, .c (.val (.int .i64 i_30))), (36, .c (.val (.bool (decide (i_30 < (((List.length l_2) : Nat) : Int))))))], [(0, .box [.val (.int .i64 r_19.1), .imm (.slice (.pair (.int .i64) (.pair (.int .i64) .str))) r_19.2.1])], 1⟩ [] (by kernel_rfl) rfl rfl ap0 ?_
              obtain ⟨c_36, H_95⟩ := of_if H_93
              refine V_draw hN hn (by kernel_rfl) [] [] calls_nil 1 [0, 1, 5, 7, 9, 10, 11] [0] ⟨[(0, .c (.val (.string s_1))), (1, .c (.imm (.slice (.pair (.int .i64) (.pair (.int .i64) .str))) l_2)), (5, .c (.h 0)), (7, .c (.val (.string ((t_26 ++ (ByteArray.extract s_1 (Int.toNat at_27) (Int.toNat (List.getD l_2 (Int.toNat i_30) ((0 : Int), ((0 : Int), ByteArray.empty))).1))) ++ (List.getD l_2 (Int.toNat i_30) ((0 : Int), ((0 : Int), ByteArray.empty))).2.2)))), (9, .c (.val (.int .i64 adds_28))), (10, .c (.val (.int .i64 drops_29))), (11, .c (.val (.int .i64 i_30)))], [(0, .box [.val (.int .i64 r_19.1), .imm (.slice (.pair (.int .i64) (.pair (.int .i64) .str))) r_19.2.1])], 1⟩ [0 ≤ i_30, i_30 < (((List.length l_2) : Nat) : Int), (0 : Int) ≤ at_27, at_27 ≤ (List.getD l_2 (Int.toNat i_30) ((0 : Int), ((0 : Int), ByteArray.empty))).1, (List.getD l_2 (Int.toNat i_30) ((0 : Int), ((0 : Int), ByteArray.empty))).1 ≤ (((ByteArray.size s_1) : Nat) : Int), ByteArray.size t_26 + ByteArray.size (ByteArray.extract s_1 (Int.toNat at_27) (Int.toNat (List.getD l_2 (Int.toNat i_30) ((0 : Int), ((0 : Int), ByteArray.empty))).1)) ≤ 9223372036854775807, 0 ≤ i_30, i_30 < (((List.length l_2) : Nat) : Int), ByteArray.size (t_26 ++ (ByteArray.extract s_1 (Int.toNat at_27) (Int.toNat (List.getD l_2 (Int.toNat i_30) ((0 : Int), ((0 : Int), ByteArray.empty))).1))) + ByteArray.size (List.getD l_2 (Int.toNat i_30) ((0 : Int), ((0 : Int), ByteArray.empty))).2.2 ≤ 9223372036854775807] (by kernel_rfl) rfl rfl (ap2 c_36.1 (ap2 c_36.2.1 (ap2 c_36.2.2.1 (ap2 c_36.2.2.2.1 (ap2 c_36.2.2.2.2.1 (ap2 c_36.2.2.2.2.2.1 (ap2 c_36.1 (ap2 c_36.2.1 (ap1 c_36.2.2.2.2.2.2))))))))) (by kernel_rfl) (by kernel_rfl) ?_
              refine V_run hN hn 2 1 [0, 1, 5, 7, 8, 9, 10, 11] [0] ⟨[(0, .c (.val (.string s_1))), (1, .c (.imm (.slice (.pair (.int .i64) (.pair (.int .i64) .str))) l_2)), (5, .c (.h 0)), (7, .c (.val (.string ((t_26 ++ (ByteArray.extract s_1 (Int.toNat at_27) (Int.toNat (List.getD l_2 (Int.toNat i_30) ((0 : Int), ((0 : Int), ByteArray.empty))).1))) ++ (List.getD l_2 (Int.toNat i_30) ((0 : Int), ((0 : Int), ByteArray.empty))).2.2)))), (8, .c (.val (.int .i64 (List.getD l_2 (Int.toNat i_30) ((0 : Int), ((0 : Int), ByteArray.empty))).2.1))), (9, .c (.val (.int .i64 adds_28))), (10, .c (.val (.int .i64 drops_29))), (11, .c (.val (.int .i64 i_30)))], [(0, .box [.val (.int .i64 r_19.1), .imm (.slice (.pair (.int .i64) (.pair (.int .i64) .str))) r_19.2.1])], 1⟩ [0 ≤ i_30, i_30 < (((List.length l_2) : Nat) : Int)] (by kernel_rfl) rfl rfl (ap2 c_36.1 (ap1 c_36.2.1)) ?_
              refine V_draw hN hn (by kernel_rfl) [] [] calls_nil 1 [0, 1, 5, 7, 8, 9, 10, 11] [0] ⟨[(0, .c (.val (.string s_1))), (1, .c (.imm (.slice (.pair (.int .i64) (.pair (.int .i64) .str))) l_2)), (5, .c (.h 0)), (7, .c (.val (.string ((t_26 ++ (ByteArray.extract s_1 (Int.toNat at_27) (Int.toNat (List.getD l_2 (Int.toNat i_30) ((0 : Int), ((0 : Int), ByteArray.empty))).1))) ++ (List.getD l_2 (Int.toNat i_30) ((0 : Int), ((0 : Int), ByteArray.empty))).2.2)))), (8, .c (.val (.int .i64 (List.getD l_2 (Int.toNat i_30) ((0 : Int), ((0 : Int), ByteArray.empty))).2.1))), (9, .c (.val (.int .i64 (IntKind.wrap .i64 (adds_28 + (((ByteArray.size (List.getD l_2 (Int.toNat i_30) ((0 : Int), ((0 : Int), ByteArray.empty))).2.2) : Nat) : Int)))))), (10, .c (.val (.int .i64 (IntKind.wrap .i64 ((IntKind.wrap .i64 (drops_29 + (List.getD l_2 (Int.toNat i_30) ((0 : Int), ((0 : Int), ByteArray.empty))).2.1)) - (List.getD l_2 (Int.toNat i_30) ((0 : Int), ((0 : Int), ByteArray.empty))).1))))), (11, .c (.val (.int .i64 i_30)))], [(0, .box [.val (.int .i64 r_19.1), .imm (.slice (.pair (.int .i64) (.pair (.int .i64) .str))) r_19.2.1])], 1⟩ [0 ≤ i_30, i_30 < (((List.length l_2) : Nat) : Int), 0 ≤ i_30, i_30 < (((List.length l_2) : Nat) : Int), 0 ≤ i_30, i_30 < (((List.length l_2) : Nat) : Int)] (by kernel_rfl) rfl rfl (ap2 c_36.1 (ap2 c_36.2.1 (ap2 c_36.1 (ap2 c_36.2.1 (ap2 c_36.1 (ap1 c_36.2.1)))))) (by kernel_rfl) (by kernel_rfl) ?_
              refine VL_nil (QB_end ?_)
              refine V_run hN hn 1 1 [0, 1, 5, 7, 8, 9, 10, 11] [0] ⟨[(0, .c (.val (.string s_1))), (1, .c (.imm (.slice (.pair (.int .i64) (.pair (.int .i64) .str))) l_2)), (5, .c (.h 0)), (7, .c (.val (.string ((t_26 ++ (ByteArray.extract s_1 (Int.toNat at_27) (Int.toNat (List.getD l_2 (Int.toNat i_30) ((0 : Int), ((0 : Int), ByteArray.empty))).1))) ++ (List.getD l_2 (Int.toNat i_30) ((0 : Int), ((0 : Int), ByteArray.empty))).2.2)))), (8, .c (.val (.int .i64 (List.getD l_2 (Int.toNat i_30) ((0 : Int), ((0 : Int), ByteArray.empty))).2.1))), (9, .c (.val (.int .i64 (IntKind.wrap .i64 (adds_28 + (((ByteArray.size (List.getD l_2 (Int.toNat i_30) ((0 : Int), ((0 : Int), ByteArray.empty))).2.2) : Nat) : Int)))))), (10, .c (.val (.int .i64 (IntKind.wrap .i64 ((IntKind.wrap .i64 (drops_29 + (List.getD l_2 (Int.toNat i_30) ((0 : Int), ((0 : Int), ByteArray.empty))).2.1)) - (List.getD l_2 (Int.toNat i_30) ((0 : Int), ((0 : Int), ByteArray.empty))).1))))), (11, .c (.val (.int .i64 (IntKind.wrap .i64 (i_30 + (1 : Int))))))], [(0, .box [.val (.int .i64 r_19.1), .imm (.slice (.pair (.int .i64) (.pair (.int .i64) .str))) r_19.2.1])], 1⟩ [] (by kernel_rfl) rfl rfl ap0 ?_
              refine VL_nil ?_
              exact V_roundEnd (((t_26 ++ (ByteArray.extract s_1 (Int.toNat at_27) (Int.toNat (List.getD l_2 (Int.toNat i_30) ((0 : Int), ((0 : Int), ByteArray.empty))).1))) ++ (List.getD l_2 (Int.toNat i_30) ((0 : Int), ((0 : Int), ByteArray.empty))).2.2), (List.getD l_2 (Int.toNat i_30) ((0 : Int), ((0 : Int), ByteArray.empty))).2.1, (IntKind.wrap .i64 (adds_28 + (((ByteArray.size (List.getD l_2 (Int.toNat i_30) ((0 : Int), ((0 : Int), ByteArray.empty))).2.2) : Nat) : Int))), (IntKind.wrap .i64 ((IntKind.wrap .i64 (drops_29 + (List.getD l_2 (Int.toNat i_30) ((0 : Int), ((0 : Int), ByteArray.empty))).2.1)) - (List.getD l_2 (Int.toNat i_30) ((0 : Int), ((0 : Int), ByteArray.empty))).1)), (IntKind.wrap .i64 (i_30 + (1 : Int)))) H_95 [(0, 0)] hn (by kernel_rfl) (by kernel_rfl) rfl rfl rfl
            · intro b_33; have H_94 := of_f H_92 b_33
              refine VL_exit ?_
              refine QL_exit ?_
              refine QB_here ?_
              have H_96 := Option.some.inj (show some (t_26, at_27, adds_28, drops_29) = some q_87 from H_94); subst H_96
              refine VL_nil ?_
              exact QP_end (t_26, at_27, adds_28, drops_29) rfl [(0, 0)] hn (by kernel_rfl) (by kernel_rfl) rfl rfl rfl
          · intro y_90 hy; subst hy
            obtain ⟨t_40, at_41, adds_42, drops_43⟩ := y_90
            obtain ⟨c_44, H_97⟩ := of_if H_89
            refine V_run hN hn 3 1 [0, 5, 7, 9, 10] [0] ⟨[(0, .c (.val (.string s_1))), (5, .c (.h 0)), (7, .c (.val (.string (t_40 ++ (ByteArray.extract s_1 (Int.toNat at_41) (ByteArray.size s_1)))))), (9, .c (.val (.int .i64 adds_42))), (10, .c (.val (.int .i64 drops_43)))], [(0, .box [.val (.int .i64 r_19.1), .imm (.slice (.pair (.int .i64) (.pair (.int .i64) .str))) r_19.2.1])], 1⟩ [(0 : Int) ≤ at_41, at_41 ≤ (((ByteArray.size s_1) : Nat) : Int), ByteArray.size t_40 + ByteArray.size (ByteArray.extract s_1 (Int.toNat at_41) (ByteArray.size s_1)) ≤ 9223372036854775807] (by kernel_rfl) rfl rfl (ap2 c_44.1 (ap2 c_44.2.1 (ap1 c_44.2.2))) ?_
            obtain ⟨r_45, h_46, H_98⟩ := of_bind H_97
            refine V_reg hN hn [(2, ⟨12, 0, [.agg [.val (.int .i64 r_19.1), .imm (.slice (.pair (.int .i64) (.pair (.int .i64) .str))) r_19.2.1], .c (.val (.string s_1))], [], .tup [(false, [.val (.string r_45.1)]), (false, [.val (.int .i64 r_45.2)])], [], [], 1⟩)] [] (calls_cons (delta_Apply_spec K r_19.1 r_19.2.1 s_1 r_45 h_46) (by kernel_rfl) calls_nil) 1 [5, 7, 9, 10, 12, 13] [0] ⟨[(5, .c (.h 0)), (7, .c (.val (.string (t_40 ++ (ByteArray.extract s_1 (Int.toNat at_41) (ByteArray.size s_1)))))), (9, .c (.val (.int .i64 adds_42))), (10, .c (.val (.int .i64 drops_43))), (12, .c (.val (.string r_45.1))), (13, .c (.val (.int .i64 r_45.2)))], [(0, .box [.val (.int .i64 r_19.1), .imm (.slice (.pair (.int .i64) (.pair (.int .i64) .str))) r_19.2.1])], 1⟩ [] (by kernel_rfl) rfl rfl ap0 (by kernel_rfl) (by kernel_rfl) ?_
            refine V_run hN hn 1 1 [5, 7, 9, 10, 12, 13] [0] ⟨[(5, .c (.h 0)), (7, .c (.val (.string (t_40 ++ (ByteArray.extract s_1 (Int.toNat at_41) (ByteArray.size s_1)))))), (9, .c (.val (.int .i64 adds_42))), (10, .c (.val (.int .i64 drops_43))), (12, .c (.val (.string r_45.1))), (13, .c (.val (.int .i64 r_45.2)))], [(0, .box [.val (.int .i64 r_19.1), .imm (.slice (.pair (.int .i64) (.pair (.int .i64) .str))) r_19.2.1])], 1⟩ [] (by kernel_rfl) rfl rfl ap0 ?_
            rcases Bool.eq_false_or_eq_true ((r_45.2 == (0 : Int))) with b_49 | b_49
            · have H_99 := of_t H_98 b_49
              rcases Bool.eq_false_or_eq_true ((ByteArray.toList r_45.1 == ByteArray.toList (t_40 ++ (ByteArray.extract s_1 (Int.toNat at_41) (ByteArray.size s_1))))) with b_50 | b_50
              · have H_101 := of_t H_99 b_50
                obtain ⟨r_51, h_52, H_103⟩ := of_bind H_101
                rcases Bool.eq_false_or_eq_true ((r_51 == adds_42)) with b_53 | b_53
                · have H_104 := of_t H_103 b_53
                  obtain ⟨r_54, h_55, H_106⟩ := of_bind H_104
                  rcases Bool.eq_false_or_eq_true ((r_54 == drops_43)) with b_56 | b_56
                  · have H_107 := of_t H_106 b_56
                    obtain ⟨r_57, h_58, H_109⟩ := of_bind H_107
                    refine V_reg hN hn [(9, ⟨17, 0, [.agg [.val (.int .i64 r_19.1), .imm (.slice (.pair (.int .i64) (.pair (.int .i64) .str))) r_19.2.1]], [], .c (.val (.int .i64 r_51)), [], [], 1⟩), (15, ⟨18, 0, [.agg [.val (.int .i64 r_19.1), .imm (.slice (.pair (.int .i64) (.pair (.int .i64) .str))) r_19.2.1]], [], .c (.val (.int .i64 r_54)), [], [], 1⟩), (21, ⟨16, 0, [.agg [.val (.int .i64 r_19.1), .imm (.slice (.pair (.int .i64) (.pair (.int .i64) .str))) r_19.2.1]], [], .c (.val (.int .i64 r_57)), [], [], 1⟩)] [(94, true), (99, true), (105, true), (111, true)] (calls_cons (delta_Adds_spec K r_19.1 r_19.2.1 r_51 h_52) (by kernel_rfl) (calls_cons (delta_Drops_spec K r_19.1 r_19.2.1 r_54 h_55) (by kernel_rfl) (calls_cons (delta_Size_spec K r_19.1 r_19.2.1 r_57 h_58) (by kernel_rfl) calls_nil))) 1 [4] [] ⟨[(4, .c (.val (.bool (r_57 == (((ByteArray.size (t_40 ++ (ByteArray.extract s_1 (Int.toNat at_41) (ByteArray.size s_1)))) : Nat) : Int)))))], [], 1⟩ [(r_45.2 == (0 : Int)) = true, (ByteArray.toList r_45.1 == ByteArray.toList (t_40 ++ (ByteArray.extract s_1 (Int.toNat at_41) (ByteArray.size s_1)))) = true, (r_51 == adds_42) = true, (r_54 == drops_43) = true] (by kernel_rfl) rfl rfl (ap2 b_49 (ap2 b_50 (ap2 b_53 (ap1 b_56)))) (by kernel_rfl) (by kernel_rfl) ?_
                    have H_110 := Option.some.inj (show some (r_57 == (((ByteArray.size (t_40 ++ (ByteArray.extract s_1 (Int.toNat at_41) (ByteArray.size s_1)))) : Nat) : Int)) = some r from H_109); subst H_110
                    refine VL_ret ?_
                    exact P_to [(4, .c (.val (.bool (r_57 == (((ByteArray.size (t_40 ++ (ByteArray.extract s_1 (Int.toNat at_41) (ByteArray.size s_1)))) : Nat) : Int)))))] [] [] hn (by kernel_rfl) (by kernel_rfl) rfl rfl rfl (QF_retS (by kernel_rfl) (by kernel_rfl) rfl)
                  · have H_108 := of_f H_106 b_56
                    refine V_reg hN hn [(9, ⟨17, 0, [.agg [.val (.int .i64 r_19.1), .imm (.slice (.pair (.int .i64) (.pair (.int .i64) .str))) r_19.2.1]], [], .c (.val (.int .i64 r_51)), [], [], 1⟩), (15, ⟨18, 0, [.agg [.val (.int .i64 r_19.1), .imm (.slice (.pair (.int .i64) (.pair (.int .i64) .str))) r_19.2.1]], [], .c (.val (.int .i64 r_54)), [], [], 1⟩)] [(94, true), (99, true), (105, true), (111, false)] (calls_cons (delta_Adds_spec K r_19.1 r_19.2.1 r_51 h_52) (by kernel_rfl) (calls_cons (delta_Drops_spec K r_19.1 r_19.2.1 r_54 h_55) (by kernel_rfl) calls_nil)) 1 [4] [] ⟨[(4, .c (.val (.bool false)))], [], 1⟩ [(r_45.2 == (0 : Int)) = true, (ByteArray.toList r_45.1 == ByteArray.toList (t_40 ++ (ByteArray.extract s_1 (Int.toNat at_41) (ByteArray.size s_1)))) = true, (r_51 == adds_42) = true, (r_54 == drops_43) = false] (by kernel_rfl) rfl rfl (ap2 b_49 (ap2 b_50 (ap2 b_53 (ap1 b_56)))) (by kernel_rfl) (by kernel_rfl) ?_
                    have H_111 := Option.some.inj (show some false = some r from H_108); subst H_111
                    refine VL_ret ?_
                    exact P_to [(4, .c (.val (.bool false)))] [] [] hn (by kernel_rfl) (by kernel_rfl) rfl rfl rfl (QF_retS (by kernel_rfl) (by kernel_rfl) rfl)
                · have H_105 := of_f H_103 b_53
                  refine V_reg hN hn [(9, ⟨17, 0, [.agg [.val (.int .i64 r_19.1), .imm (.slice (.pair (.int .i64) (.pair (.int .i64) .str))) r_19.2.1]], [], .c (.val (.int .i64 r_51)), [], [], 1⟩)] [(94, true), (99, true), (105, false)] (calls_cons (delta_Adds_spec K r_19.1 r_19.2.1 r_51 h_52) (by kernel_rfl) calls_nil) 1 [4] [] ⟨[(4, .c (.val (.bool false)))], [], 1⟩ [(r_45.2 == (0 : Int)) = true, (ByteArray.toList r_45.1 == ByteArray.toList (t_40 ++ (ByteArray.extract s_1 (Int.toNat at_41) (ByteArray.size s_1)))) = true, (r_51 == adds_42) = false] (by kernel_rfl) rfl rfl (ap2 b_49 (ap2 b_50 (ap1 b_53))) (by kernel_rfl) (by kernel_rfl) ?_
                  have H_112 := Option.some.inj (show some false = some r from H_105); subst H_112
                  refine VL_ret ?_
                  exact P_to [(4, .c (.val (.bool false)))] [] [] hn (by kernel_rfl) (by kernel_rfl) rfl rfl rfl (QF_retS (by kernel_rfl) (by kernel_rfl) rfl)
              · have H_102 := of_f H_99 b_50
                refine V_reg hN hn [] [(94, true), (99, false)] calls_nil 1 [4] [] ⟨[(4, .c (.val (.bool false)))], [], 1⟩ [(r_45.2 == (0 : Int)) = true, (ByteArray.toList r_45.1 == ByteArray.toList (t_40 ++ (ByteArray.extract s_1 (Int.toNat at_41) (ByteArray.size s_1)))) = false] (by kernel_rfl) rfl rfl (ap2 b_49 (ap1 b_50)) (by kernel_rfl) (by kernel_rfl) ?_
                have H_113 := Option.some.inj (show some false = some r from H_102); subst H_113
                refine VL_ret ?_
                exact P_to [(4, .c (.val (.bool false)))] [] [] hn (by kernel_rfl) (by kernel_rfl) rfl rfl rfl (QF_retS (by kernel_rfl) (by kernel_rfl) rfl)
            · have H_100 := of_f H_98 b_49
              refine V_reg hN hn [] [(94, false)] calls_nil 1 [4] [] ⟨[(4, .c (.val (.bool false)))], [], 1⟩ [(r_45.2 == (0 : Int)) = false] (by kernel_rfl) rfl rfl (ap1 b_49) (by kernel_rfl) (by kernel_rfl) ?_
              have H_114 := Option.some.inj (show some false = some r from H_100); subst H_114
              refine VL_ret ?_
              exact P_to [(4, .c (.val (.bool false)))] [] [] hn (by kernel_rfl) (by kernel_rfl) rfl rfl rfl (QF_retS (by kernel_rfl) (by kernel_rfl) rfl)

end Go.Pal
