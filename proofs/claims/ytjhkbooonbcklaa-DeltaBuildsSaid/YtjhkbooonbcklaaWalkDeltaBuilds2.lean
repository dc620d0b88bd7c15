/- The Go functions that DeltaBuilds reaches compute what the plain functions say: part 2, printed by a program of this workplace. -/
import Derived.Test.YtjhkbooonbcklaaChecked
import Derived.Test.YtjhkbooonbcklaaWalkDeltaBuilds1
namespace Go.Pal
open Go Go.Proofs
set_option maxRecDepth 100000
set_option linter.unusedVariables false

theorem delta_Drops_sgr_spec (K : Nat) (d_1 : Int) (d_2 : (List (Int × (Int × ByteArray)))) (r : Int) (H : delta_Drops K d_1 d_2 = some r) : Spec Try.prog 18 1 [.agg [.val (.int .i64 d_1), .h 0]] [(0, .row (.pair (.int .i64) (.pair (.int .i64) .str)) d_2)] (.c (.val (.int .i64 r))) [(0, .row (.pair (.int .i64) (.pair (.int .i64) .str)) d_2)] := by
  refine Spec_mk (fn := Try.f18) (c := (Try.f18.body).get!) Try.func18 (by kernel_rfl) rfl ?_
  intro C hN hn
  replace hN : C.N = 17 := hN
  unfold delta_Drops at H
  refine V_run hN hn 4 1 [1] [0, 1] ⟨[(1, .c (.h 1))], [(0, .row (.pair (.int .i64) (.pair (.int .i64) .str)) d_2), (1, .box [.val (.int .i64 d_1), .h 0])], 2⟩ [] (by kernel_rfl) rfl rfl ap0 ?_
  obtain ⟨r_4, h_5, H_15⟩ := of_bind H
  refine V_reg hN hn [(1, ⟨13, 1, [.agg [.val (.int .i64 d_1), .h 0]], [(0, .row (.pair (.int .i64) (.pair (.int .i64) .str)) d_2)], .c (.val (.bool r_4)), [(0, .row (.pair (.int .i64) (.pair (.int .i64) .str)) d_2)], [(0, 0)], 2⟩)] [] (calls_cons (delta_Is_sgr_spec K d_1 d_2 r_4 h_5) (by kernel_rfl) calls_nil) 2 [1, 7] [0, 1] ⟨[(1, .c (.h 1)), (7, .c (.val (.bool (!r_4))))], [(0, .row (.pair (.int .i64) (.pair (.int .i64) .str)) d_2), (1, .box [.val (.int .i64 d_1), .h 0])], 2⟩ [] (by kernel_rfl) rfl rfl ap0 (by kernel_rfl) (by kernel_rfl) ?_
  refine VL_cond ((!r_4)) (by kernel_rfl) ?_ ?_
  · intro b_7; have H_16 := of_t H_15 b_7
    refine V_run hN hn 2 2 [2] [0] ⟨[(2, .c (.val (.int .i64 (0 : Int))))], [(0, .row (.pair (.int .i64) (.pair (.int .i64) .str)) d_2)], 2⟩ [] (by kernel_rfl) rfl rfl ap0 ?_
    have H_18 := Option.some.inj (show some (0 : Int) = some r from H_16); subst H_18
    refine VL_ret ?_
    exact P_to [(2, .c (.val (.int .i64 (0 : Int))))] [(0, .row (.pair (.int .i64) (.pair (.int .i64) .str)) d_2)] [] hn (by kernel_rfl) (by kernel_rfl) rfl rfl rfl (QF_retS (by kernel_rfl) (by kernel_rfl) rfl)
  · intro b_7; have H_17 := of_f H_15 b_7
    refine V_run hN hn 2 2 [1, 7] [0, 1] ⟨[(1, .c (.h 1)), (7, .c (.val (.bool (!r_4))))], [(0, .row (.pair (.int .i64) (.pair (.int .i64) .str)) d_2), (1, .box [.val (.int .i64 d_1), .h 0])], 2⟩ [] (by kernel_rfl) rfl rfl ap0 ?_
    obtain ⟨r_10, h_11, H_19⟩ := of_bind H_17
    refine V_reg hN hn [(1, ⟨29, 1, [.agg [.val (.int .i64 d_1), .h 0]], [(0, .row (.pair (.int .i64) (.pair (.int .i64) .str)) d_2)], .tup [(false, [.val (.int .i64 r_10.1)]), (false, [.val (.int .i64 r_10.2)])], [(0, .row (.pair (.int .i64) (.pair (.int .i64) .str)) d_2)], [(0, 0)], 2⟩)] [] (calls_cons (delta_sums_sgr_spec K d_1 d_2 r_10 h_11) (by kernel_rfl) calls_nil) 2 [1, 3] [0, 1] ⟨[(1, .c (.h 1)), (3, .c (.val (.int .i64 r_10.1)))], [(0, .row (.pair (.int .i64) (.pair (.int .i64) .str)) d_2), (1, .box [.val (.int .i64 d_1), .h 0])], 2⟩ [] (by kernel_rfl) rfl rfl ap0 (by kernel_rfl) (by kernel_rfl) ?_
    refine V_run hN hn 2 2 [2] [0] ⟨[(2, .c (.val (.int .i64 (IntKind.wrap .i64 (d_1 - r_10.1)))))], [(0, .row (.pair (.int .i64) (.pair (.int .i64) .str)) d_2)], 2⟩ [] (by kernel_rfl) rfl rfl ap0 ?_
    have H_20 := Option.some.inj (show some (IntKind.wrap .i64 (d_1 - r_10.1)) = some r from H_19); subst H_20
    refine VL_ret ?_
    exact P_to [(2, .c (.val (.int .i64 (IntKind.wrap .i64 (d_1 - r_10.1)))))] [(0, .row (.pair (.int .i64) (.pair (.int .i64) .str)) d_2)] [] hn (by kernel_rfl) (by kernel_rfl) rfl rfl rfl (QF_retS (by kernel_rfl) (by kernel_rfl) rfl)

theorem palinoderef11_Same_sggsgr_spec (K : Nat) (a_1 : Int) (a_2 : (List (Int × (Int × ByteArray)))) (b_3 : Int) (b_4 : (List (Int × (Int × ByteArray)))) (r : Bool) (H : palinoderef11_Same K a_1 a_2 b_3 b_4 = some r) : Spec Try.prog 15 1 [.agg [.val (.int .i64 a_1), .imm (.slice (.pair (.int .i64) (.pair (.int .i64) .str))) a_2], .agg [.val (.int .i64 b_3), .h 0]] [(0, .row (.pair (.int .i64) (.pair (.int .i64) .str)) b_4)] (.c (.val (.bool r))) [(0, .row (.pair (.int .i64) (.pair (.int .i64) .str)) b_4)] := by
  refine Spec_mk (fn := Try.f15) (c := (Try.f15.body).get!) Try.func15 (by kernel_rfl) rfl ?_
  intro C hN hn
  replace hN : C.N = 38 := hN
  unfold palinoderef11_Same at H
  refine V_run hN hn 4 1 [2, 3] [0, 1, 2] ⟨[(2, .c (.h 1)), (3, .c (.h 2))], [(0, .row (.pair (.int .i64) (.pair (.int .i64) .str)) b_4), (1, .box [.val (.int .i64 a_1), .imm (.slice (.pair (.int .i64) (.pair (.int .i64) .str))) a_2]), (2, .box [.val (.int .i64 b_3), .h 0])], 3⟩ [] (by kernel_rfl) rfl rfl ap0 ?_
  obtain ⟨q_27, H_28, H_29⟩ := of_bind H
  refine V_cut (Y := Bool) (R := Bool) q_27 (fun y => y) (fun y => [(2, .c (.h 1)), (3, .c (.h 2)), (19, .c (.val (.bool y)))]) (fun y => [(0, .row (.pair (.int .i64) (.pair (.int .i64) .str)) b_4), (1, .box [.val (.int .i64 a_1), .imm (.slice (.pair (.int .i64) (.pair (.int .i64) .str))) a_2]), (2, .box [.val (.int .i64 b_3), .h 0])]) ?_ ?_
  · skip
    rcases Bool.eq_false_or_eq_true ((a_1 != b_3)) with b_6 | b_6
    · have H_31 := of_t H_28 b_6
      refine V_reg hN hn [] [(11, true)] calls_nil 3 [2, 3, 19] [0, 1, 2] ⟨[(2, .c (.h 1)), (3, .c (.h 2)), (19, .c (.val (.bool true)))], [(0, .row (.pair (.int .i64) (.pair (.int .i64) .str)) b_4), (1, .box [.val (.int .i64 a_1), .imm (.slice (.pair (.int .i64) (.pair (.int .i64) .str))) a_2]), (2, .box [.val (.int .i64 b_3), .h 0])], 3⟩ [(a_1 != b_3) = true] (by kernel_rfl) rfl rfl (ap1 b_6) (by kernel_rfl) (by kernel_rfl) ?_
      have H_33 := Option.some.inj (show some true = some q_27 from H_31); subst H_33
      refine VL_nil ?_
      exact QP_end true rfl [(1, 1), (2, 2)] hn (by kernel_rfl) (by kernel_rfl) rfl rfl rfl
    · have H_32 := of_f H_28 b_6
      refine V_reg hN hn [] [(11, false)] calls_nil 3 [2, 3, 19] [0, 1, 2] ⟨[(2, .c (.h 1)), (3, .c (.h 2)), (19, .c (.val (.bool ((((List.length a_2) : Nat) : Int) != (((List.length b_4) : Nat) : Int)))))], [(0, .row (.pair (.int .i64) (.pair (.int .i64) .str)) b_4), (1, .box [.val (.int .i64 a_1), .imm (.slice (.pair (.int .i64) (.pair (.int .i64) .str))) a_2]), (2, .box [.val (.int .i64 b_3), .h 0])], 3⟩ [(a_1 != b_3) = false] (by kernel_rfl) rfl rfl (ap1 b_6) (by kernel_rfl) (by kernel_rfl) ?_
      have H_34 := Option.some.inj (show some ((((List.length a_2) : Nat) : Int) != (((List.length b_4) : Nat) : Int)) = some q_27 from H_32); subst H_34
      refine VL_nil ?_
      exact QP_end ((((List.length a_2) : Nat) : Int) != (((List.length b_4) : Nat) : Int)) rfl [(1, 1), (2, 2)] hn (by kernel_rfl) (by kernel_rfl) rfl rfl rfl
  · intro y_30 hy; subst hy
    skip
    skip
    refine VL_cond (y_30) (by kernel_rfl) ?_ ?_
    · intro b_10; have H_35 := of_t H_29 b_10
      refine V_run hN hn 2 3 [4] [0] ⟨[(4, .c (.val (.bool false)))], [(0, .row (.pair (.int .i64) (.pair (.int .i64) .str)) b_4)], 3⟩ [] (by kernel_rfl) rfl rfl ap0 ?_
      have H_37 := Option.some.inj (show some false = some r from H_35); subst H_37
      refine VL_ret ?_
      exact P_to [(4, .c (.val (.bool false)))] [(0, .row (.pair (.int .i64) (.pair (.int .i64) .str)) b_4)] [] hn (by kernel_rfl) (by kernel_rfl) rfl rfl rfl (QF_retS (by kernel_rfl) (by kernel_rfl) rfl)
    · intro b_10; have H_36 := of_f H_29 b_10
      refine V_run hN hn 4 3 [2, 3, 5] [0, 1, 2] ⟨[(2, .c (.h 1)), (3, .c (.h 2)), (5, .c (.val (.int .i64 (0 : Int))))], [(0, .row (.pair (.int .i64) (.pair (.int .i64) .str)) b_4), (1, .box [.val (.int .i64 a_1), .imm (.slice (.pair (.int .i64) (.pair (.int .i64) .str))) a_2]), (2, .box [.val (.int .i64 b_3), .h 0])], 3⟩ [] (by kernel_rfl) rfl rfl ap0 ?_
      refine VL_block ?_
      refine V_to [(2, .c (.h 1)), (3, .c (.h 2)), (5, .c (.val (.int .i64 (0 : Int))))] [(0, .row (.pair (.int .i64) (.pair (.int .i64) .str)) b_4), (1, .box [.val (.int .i64 a_1), .imm (.slice (.pair (.int .i64) (.pair (.int .i64) .str))) a_2]), (2, .box [.val (.int .i64 b_3), .h 0])] [(1, 1), (2, 2)] hn (by kernel_rfl) (by kernel_rfl) rfl rfl rfl ?_
      refine VL_loop (X := Int) (fun x => [(2, .c (.h 1)), (3, .c (.h 2)), (5, .c (.val (.int .i64 x)))]) (fun x => [(0, .row (.pair (.int .i64) (.pair (.int .i64) .str)) b_4), (1, .box [.val (.int .i64 a_1), .imm (.slice (.pair (.int .i64) (.pair (.int .i64) .str))) a_2]), (2, .box [.val (.int .i64 b_3), .h 0])]) (fun k x => palinoderef11_Same.l0 K a_2 b_4 k x = some r) K (0 : Int) H_36 (fun _ h => no_none h) ?_
      intro k_14 i_13 H_38
      have H_39 : palinoderef11_Same.l0 K a_2 b_4 (k_14 + 1) i_13 = some r := H_38
      rw [palinoderef11_Same.l0] at H_39
      refine V_run hN hn 3 3 [2, 3, 5, 24] [0, 1, 2] ⟨[(2, .c (.h 1)), (3, .c (.h 2)), (5, .c (.val (.int .i64 i_13))), (24, .c (.val (.bool (decide (i_13 < (((List.length a_2) : Nat) : Int))))))], [(0, .row (.pair (.int .i64) (.pair (.int .i64) .str)) b_4), (1, .box [.val (.int .i64 a_1), .imm (.slice (.pair (.int .i64) (.pair (.int .i64) .str))) a_2]), (2, .box [.val (.int .i64 b_3), .h 0])], 3⟩ [] (by kernel_rfl) rfl rfl ap0 ?_
      refine VL_cond ((decide (i_13 < (((List.length a_2) : Nat) : Int)))) (by kernel_rfl) ?_ ?_
      · intro b_16; have H_40 := of_t H_39 b_16
        refine V_run hN hn 2 3 [2, 3, 5, 24] [0, 1, 2] ⟨[(2, .c (.h 1)), (3, .c (.h 2)), (5, .c (.val (.int .i64 i_13))), (24, .c (.val (.bool (decide (i_13 < (((List.length a_2) : Nat) : Int))))))], [(0, .row (.pair (.int .i64) (.pair (.int .i64) .str)) b_4), (1, .box [.val (.int .i64 a_1), .imm (.slice (.pair (.int .i64) (.pair (.int .i64) .str))) a_2]), (2, .box [.val (.int .i64 b_3), .h 0])], 3⟩ [] (by kernel_rfl) rfl rfl ap0 ?_
        refine VL_block ?_
        refine V_run hN hn 1 3 [2, 3, 5, 24] [0, 1, 2] ⟨[(2, .c (.h 1)), (3, .c (.h 2)), (5, .c (.val (.int .i64 i_13))), (24, .c (.val (.bool (decide (i_13 < (((List.length a_2) : Nat) : Int))))))], [(0, .row (.pair (.int .i64) (.pair (.int .i64) .str)) b_4), (1, .box [.val (.int .i64 a_1), .imm (.slice (.pair (.int .i64) (.pair (.int .i64) .str))) a_2]), (2, .box [.val (.int .i64 b_3), .h 0])], 3⟩ [] (by kernel_rfl) rfl rfl ap0 ?_
        obtain ⟨c_19, H_42⟩ := of_if H_40
        refine V_draw hN hn (by kernel_rfl) [] [] calls_nil 3 [2, 3, 5, 37] [0, 1, 2] ⟨[(2, .c (.h 1)), (3, .c (.h 2)), (5, .c (.val (.int .i64 i_13))), (37, .c (.val (.bool (!(((List.getD a_2 (Int.toNat i_13) ((0 : Int), ((0 : Int), ByteArray.empty))).1 == (List.getD b_4 (Int.toNat i_13) ((0 : Int), ((0 : Int), ByteArray.empty))).1) && (((List.getD a_2 (Int.toNat i_13) ((0 : Int), ((0 : Int), ByteArray.empty))).2.1 == (List.getD b_4 (Int.toNat i_13) ((0 : Int), ((0 : Int), ByteArray.empty))).2.1) && (ByteArray.toList (List.getD a_2 (Int.toNat i_13) ((0 : Int), ((0 : Int), ByteArray.empty))).2.2 == ByteArray.toList (List.getD b_4 (Int.toNat i_13) ((0 : Int), ((0 : Int), ByteArray.empty))).2.2)))))))], [(0, .row (.pair (.int .i64) (.pair (.int .i64) .str)) b_4), (1, .box [.val (.int .i64 a_1), .imm (.slice (.pair (.int .i64) (.pair (.int .i64) .str))) a_2]), (2, .box [.val (.int .i64 b_3), .h 0])], 3⟩ [0 ≤ i_13, i_13 < (((List.length a_2) : Nat) : Int), 0 ≤ i_13, i_13 < (((List.length b_4) : Nat) : Int)] (by kernel_rfl) rfl rfl (ap2 c_19.1 (ap2 c_19.2.1 (ap2 c_19.1 (ap1 c_19.2.2)))) (by kernel_rfl) (by kernel_rfl) ?_
        refine VL_cond ((!(((List.getD a_2 (Int.toNat i_13) ((0 : Int), ((0 : Int), ByteArray.empty))).1 == (List.getD b_4 (Int.toNat i_13) ((0 : Int), ((0 : Int), ByteArray.empty))).1) && (((List.getD a_2 (Int.toNat i_13) ((0 : Int), ((0 : Int), ByteArray.empty))).2.1 == (List.getD b_4 (Int.toNat i_13) ((0 : Int), ((0 : Int), ByteArray.empty))).2.1) && (ByteArray.toList (List.getD a_2 (Int.toNat i_13) ((0 : Int), ((0 : Int), ByteArray.empty))).2.2 == ByteArray.toList (List.getD b_4 (Int.toNat i_13) ((0 : Int), ((0 : Int), ByteArray.empty))).2.2))))) (by kernel_rfl) ?_ ?_
        · intro b_20; have H_43 := of_t H_42 b_20
          refine V_run hN hn 2 3 [4] [0] ⟨[(4, .c (.val (.bool false)))], [(0, .row (.pair (.int .i64) (.pair (.int .i64) .str)) b_4)], 3⟩ [] (by kernel_rfl) rfl rfl ap0 ?_
          have H_45 := Option.some.inj (show some false = some r from H_43); subst H_45
          refine VL_ret ?_
          refine QB_ret ?_
          refine QL_ret ?_
          refine QB_ret ?_
          exact P_to [(4, .c (.val (.bool false)))] [(0, .row (.pair (.int .i64) (.pair (.int .i64) .str)) b_4)] [] hn (by kernel_rfl) (by kernel_rfl) rfl rfl rfl (QF_retS (by kernel_rfl) (by kernel_rfl) rfl)
        · intro b_20; have H_44 := of_f H_42 b_20
          refine V_run hN hn 1 3 [2, 3, 5, 37] [0, 1, 2] ⟨[(2, .c (.h 1)), (3, .c (.h 2)), (5, .c (.val (.int .i64 i_13))), (37, .c (.val (.bool (!(((List.getD a_2 (Int.toNat i_13) ((0 : Int), ((0 : Int), ByteArray.empty))).1 == (List.getD b_4 (Int.toNat i_13) ((0 : Int), ((0 : Int), ByteArray.empty))).1) && (((List.getD a_2 (Int.toNat i_13) ((0 : Int), ((0 : Int), ByteArray.empty))).2.1 == (List.getD b_4 (Int.toNat i_13) ((0 : Int), ((0 : Int), ByteArray.empty))).2.1) && (ByteArray.toList (List.getD a_2 (Int.toNat i_13) ((0 : Int), ((0 : Int), ByteArray.empty))).2.2 == ByteArray.toList (List.getD b_4 (Int.toNat i_13) ((0 : Int), ((0 : Int), ByteArray.empty))).2.2)))))))], [(0, .row (.pair (.int .i64) (.pair (.int .i64) .str)) b_4), (1, .box [.val (.int .i64 a_1), .imm (.slice (.pair (.int .i64) (.pair (.int .i64) .str))) a_2]), (2, .box [.val (.int .i64 b_3), .h 0])], 3⟩ [] (by kernel_rfl) rfl rfl ap0 ?_
          refine VL_nil (QB_end ?_)
          refine V_run hN hn 1 3 [2, 3, 5] [0, 1, 2] ⟨[(2, .c (.h 1)), (3, .c (.h 2)), (5, .c (.val (.int .i64 (IntKind.wrap .i64 (i_13 + (1 : Int))))))], [(0, .row (.pair (.int .i64) (.pair (.int .i64) .str)) b_4), (1, .box [.val (.int .i64 a_1), .imm (.slice (.pair (.int .i64) (.pair (.int .i64) .str))) a_2]), (2, .box [.val (.int .i64 b_3), .h 0])], 3⟩ [] (by kernel_rfl) rfl rfl ap0 ?_
          refine VL_nil ?_
          exact V_roundEnd (IntKind.wrap .i64 (i_13 + (1 : Int))) H_44 [(1, 1), (2, 2)] hn (by kernel_rfl) (by kernel_rfl) rfl rfl rfl
      · intro b_16; have H_41 := of_f H_39 b_16
        refine VL_exit ?_
        refine QL_exit ?_
        refine QB_here ?_
        refine V_run hN hn 2 3 [4] [0] ⟨[(4, .c (.val (.bool true)))], [(0, .row (.pair (.int .i64) (.pair (.int .i64) .str)) b_4)], 3⟩ [] (by kernel_rfl) rfl rfl ap0 ?_
        have H_46 := Option.some.inj (show some true = some r from H_41); subst H_46
        refine VL_ret ?_
        exact P_to [(4, .c (.val (.bool true)))] [(0, .row (.pair (.int .i64) (.pair (.int .i64) .str)) b_4)] [] hn (by kernel_rfl) (by kernel_rfl) rfl rfl rfl (QF_retS (by kernel_rfl) (by kernel_rfl) rfl)

theorem palinodelaw11_DeltaBuilds_spec (K : Nat) (base_1 : Int) (l_2 : (List (Int × (Int × ByteArray)))) (r : Bool) (H : palinodelaw11_DeltaBuilds K base_1 l_2 = some r) : Spec Try.prog 4 0 [.c (.val (.int .i64 base_1)), .c (.imm (.slice (.pair (.int .i64) (.pair (.int .i64) .str))) l_2)] [] (.c (.val (.bool r))) [] := by
  refine Spec_mk (fn := Try.f4) (c := (Try.f4.body).get!) Try.func4 (by kernel_rfl) rfl ?_
  intro C hN hn
  replace hN : C.N = 84 := hN
  unfold palinodelaw11_DeltaBuilds at H
  refine V_run hN hn 4 0 [0, 1] [] ⟨[(0, .c (.val (.int .i64 base_1))), (1, .c (.imm (.slice (.pair (.int .i64) (.pair (.int .i64) .str))) l_2))], [], 0⟩ [] (by kernel_rfl) rfl rfl ap0 ?_
  obtain ⟨r_4, h_5, H_88⟩ := of_bind H
  refine V_reg hN hn [(0, ⟨9, 0, [], [], .c (.val (.bool r_4)), [], [], 0⟩)] [] (calls_cons (palinodelaw11_known_spec K  r_4 h_5) (by kernel_rfl) calls_nil) 0 [0, 1, 12] [] ⟨[(0, .c (.val (.int .i64 base_1))), (1, .c (.imm (.slice (.pair (.int .i64) (.pair (.int .i64) .str))) l_2)), (12, .c (.val (.bool (!r_4))))], [], 0⟩ [] (by kernel_rfl) rfl rfl ap0 (by kernel_rfl) (by kernel_rfl) ?_
  refine VL_cond ((!r_4)) (by kernel_rfl) ?_ ?_
  · intro b_7; have H_89 := of_t H_88 b_7
    refine V_run hN hn 2 0 [4] [] ⟨[(4, .c (.val (.bool false)))], [], 0⟩ [] (by kernel_rfl) rfl rfl ap0 ?_
    have H_91 := Option.some.inj (show some false = some r from H_89); subst H_91
    refine VL_ret ?_
    exact P_to [(4, .c (.val (.bool false)))] [] [] hn (by kernel_rfl) (by kernel_rfl) rfl rfl rfl (QF_retS (by kernel_rfl) (by kernel_rfl) rfl)
  · intro b_7; have H_90 := of_f H_88 b_7
    refine V_run hN hn 3 0 [0, 1, 12] [] ⟨[(0, .c (.val (.int .i64 base_1))), (1, .c (.imm (.slice (.pair (.int .i64) (.pair (.int .i64) .str))) l_2)), (12, .c (.val (.bool (!r_4))))], [], 0⟩ [] (by kernel_rfl) rfl rfl ap0 ?_
    obtain ⟨q_92, H_93, H_94⟩ := of_bind H_90
    refine V_cut (Y := Bool) (R := Bool) q_92 (fun y => y) (fun y => [(0, .c (.val (.int .i64 base_1))), (1, .c (.imm (.slice (.pair (.int .i64) (.pair (.int .i64) .str))) l_2)), (23, .c (.val (.bool y)))]) (fun y => []) ?_ ?_
    · skip
      rcases Bool.eq_false_or_eq_true ((decide (base_1 > (400 : Int)))) with b_10 | b_10
      · have H_96 := of_t H_93 b_10
        rcases Bool.eq_false_or_eq_true ((decide (base_1 ≤ (20000 : Int)))) with b_11 | b_11
        · have H_98 := of_t H_96 b_11
          refine V_reg hN hn [] [(15, true), (19, true)] calls_nil 0 [0, 1, 23] [] ⟨[(0, .c (.val (.int .i64 base_1))), (1, .c (.imm (.slice (.pair (.int .i64) (.pair (.int .i64) .str))) l_2)), (23, .c (.val (.bool true)))], [], 0⟩ [(decide (base_1 > (400 : Int))) = true, (decide (base_1 ≤ (20000 : Int))) = true] (by kernel_rfl) rfl rfl (ap2 b_10 (ap1 b_11)) (by kernel_rfl) (by kernel_rfl) ?_
          have H_100 := Option.some.inj (show some true = some q_92 from H_98); subst H_100
          refine VL_nil ?_
          exact QP_end true rfl [] hn (by kernel_rfl) (by kernel_rfl) rfl rfl rfl
        · have H_99 := of_f H_96 b_11
          obtain ⟨r_13, h_14, H_101⟩ := of_bind H_99
          refine V_reg hN hn [(8, ⟨21, 0, [.c (.imm (.slice (.pair (.int .i64) (.pair (.int .i64) .str))) l_2)], [], .c (.val (.bool r_13)), [], [], 0⟩)] [(15, true), (19, false)] (calls_cons (palinodelaw11_fewChanges_spec K l_2 r_13 h_14) (by kernel_rfl) calls_nil) 0 [0, 1, 23] [] ⟨[(0, .c (.val (.int .i64 base_1))), (1, .c (.imm (.slice (.pair (.int .i64) (.pair (.int .i64) .str))) l_2)), (23, .c (.val (.bool (!r_13))))], [], 0⟩ [(decide (base_1 > (400 : Int))) = true, (decide (base_1 ≤ (20000 : Int))) = false] (by kernel_rfl) rfl rfl (ap2 b_10 (ap1 b_11)) (by kernel_rfl) (by kernel_rfl) ?_
          have H_102 := Option.some.inj (show some (!r_13) = some q_92 from H_101); subst H_102
          refine VL_nil ?_
          exact QP_end (!r_13) rfl [] hn (by kernel_rfl) (by kernel_rfl) rfl rfl rfl
      · have H_97 := of_f H_93 b_10
        obtain ⟨r_16, h_17, H_103⟩ := of_bind H_97
        refine V_reg hN hn [(8, ⟨21, 0, [.c (.imm (.slice (.pair (.int .i64) (.pair (.int .i64) .str))) l_2)], [], .c (.val (.bool r_16)), [], [], 0⟩)] [(15, false)] (calls_cons (palinodelaw11_fewChanges_spec K l_2 r_16 h_17) (by kernel_rfl) calls_nil) 0 [0, 1, 23] [] ⟨[(0, .c (.val (.int .i64 base_1))), (1, .c (.imm (.slice (.pair (.int .i64) (.pair (.int .i64) .str))) l_2)), (23, .c (.val (.bool (!r_16))))], [], 0⟩ [(decide (base_1 > (400 : Int))) = false] (by kernel_rfl) rfl rfl (ap1 b_10) (by kernel_rfl) (by kernel_rfl) ?_
        have H_104 := Option.some.inj (show some (!r_16) = some q_92 from H_103); subst H_104
        refine VL_nil ?_
        exact QP_end (!r_16) rfl [] hn (by kernel_rfl) (by kernel_rfl) rfl rfl rfl
    · intro y_95 hy; subst hy
      skip
      skip
      refine VL_cond (y_95) (by kernel_rfl) ?_ ?_
      · intro b_20; have H_105 := of_t H_94 b_20
        refine V_run hN hn 2 0 [4] [] ⟨[(4, .c (.val (.bool true)))], [], 0⟩ [] (by kernel_rfl) rfl rfl ap0 ?_
        have H_107 := Option.some.inj (show some true = some r from H_105); subst H_107
        refine VL_ret ?_
        exact P_to [(4, .c (.val (.bool true)))] [] [] hn (by kernel_rfl) (by kernel_rfl) rfl rfl rfl (QF_retS (by kernel_rfl) (by kernel_rfl) rfl)
      · intro b_20; have H_106 := of_f H_94 b_20
        refine V_run hN hn 2 0 [0, 1, 23] [] ⟨[(0, .c (.val (.int .i64 base_1))), (1, .c (.imm (.slice (.pair (.int .i64) (.pair (.int .i64) .str))) l_2)), (23, .c (.val (.bool y_95)))], [], 0⟩ [] (by kernel_rfl) rfl rfl ap0 ?_
        obtain ⟨r_23, h_24, H_108⟩ := of_bind H_106
        refine V_reg hN hn [(2, ⟨22, 0, [.c (.val (.int .i64 base_1)), .c (.imm (.slice (.pair (.int .i64) (.pair (.int .i64) .str))) l_2)], [], .tup [(true, [.val (.int .i64 r_23.1), .imm (.slice (.pair (.int .i64) (.pair (.int .i64) .str))) r_23.2.1]), (false, [.val (.int .i64 r_23.2.2)])], [], [], 0⟩)] [] (calls_cons (delta_Build_spec K base_1 l_2 r_23 h_24) (by kernel_rfl) calls_nil) 0 [0, 1, 5, 6] [0] ⟨[(0, .c (.val (.int .i64 base_1))), (1, .c (.imm (.slice (.pair (.int .i64) (.pair (.int .i64) .str))) l_2)), (5, .c (.h 0)), (6, .c (.val (.int .i64 r_23.2.2)))], [(0, .box [.val (.int .i64 r_23.1), .imm (.slice (.pair (.int .i64) (.pair (.int .i64) .str))) r_23.2.1])], 1⟩ [] (by kernel_rfl) rfl rfl ap0 (by kernel_rfl) (by kernel_rfl) ?_
        refine V_run hN hn 1 1 [0, 1, 5, 6] [0] ⟨[(0, .c (.val (.int .i64 base_1))), (1, .c (.imm (.slice (.pair (.int .i64) (.pair (.int .i64) .str))) l_2)), (5, .c (.h 0)), (6, .c (.val (.int .i64 r_23.2.2)))], [(0, .box [.val (.int .i64 r_23.1), .imm (.slice (.pair (.int .i64) (.pair (.int .i64) .str))) r_23.2.1])], 1⟩ [] (by kernel_rfl) rfl rfl ap0 ?_
        obtain ⟨r_27, h_28, H_109⟩ := of_bind H_108
        refine V_reg hN hn [(2, ⟨23, 0, [.c (.val (.int .i64 base_1)), .c (.imm (.slice (.pair (.int .i64) (.pair (.int .i64) .str))) l_2)], [], .tup [(true, [.val (.int .i64 r_27.1), .h 3]), (false, [.val (.int .i64 r_27.2.2)])], [(3, .row (.pair (.int .i64) (.pair (.int .i64) .str)) r_27.2.1)], [(3, 1)], 2⟩)] [] (calls_cons (palinoderef11_Build_spec K base_1 l_2 r_27 h_28) (by kernel_rfl) calls_nil) 1 [0, 5, 6, 7, 8] [0, 1, 2] ⟨[(0, .c (.val (.int .i64 base_1))), (5, .c (.h 0)), (6, .c (.val (.int .i64 r_23.2.2))), (7, .c (.h 2)), (8, .c (.val (.int .i64 r_27.2.2)))], [(0, .box [.val (.int .i64 r_23.1), .imm (.slice (.pair (.int .i64) (.pair (.int .i64) .str))) r_23.2.1]), (1, .row (.pair (.int .i64) (.pair (.int .i64) .str)) r_27.2.1), (2, .box [.val (.int .i64 r_27.1), .h 1])], 3⟩ [] (by kernel_rfl) rfl rfl ap0 (by kernel_rfl) (by kernel_rfl) ?_
        refine V_run hN hn 1 3 [0, 5, 6, 7, 8] [0, 1, 2] ⟨[(0, .c (.val (.int .i64 base_1))), (5, .c (.h 0)), (6, .c (.val (.int .i64 r_23.2.2))), (7, .c (.h 2)), (8, .c (.val (.int .i64 r_27.2.2)))], [(0, .box [.val (.int .i64 r_23.1), .imm (.slice (.pair (.int .i64) (.pair (.int .i64) .str))) r_23.2.1]), (1, .row (.pair (.int .i64) (.pair (.int .i64) .str)) r_27.2.1), (2, .box [.val (.int .i64 r_27.1), .h 1])], 3⟩ [] (by kernel_rfl) rfl rfl ap0 ?_
        obtain ⟨r_31, h_32, H_110⟩ := of_bind H_109
        refine V_reg hN hn [(1, ⟨24, 0, [.c (.val (.int .i64 base_1))], [], .agg [.val (.int .i64 r_31.1), .h 2], [(2, .row (.pair (.int .i64) (.pair (.int .i64) .str)) r_31.2)], [(2, 3)], 4⟩)] [] (calls_cons (delta_Keep_spec K base_1 r_31 h_32) (by kernel_rfl) calls_nil) 3 [0, 5, 6, 7, 8, 9] [0, 1, 2, 3, 4] ⟨[(0, .c (.val (.int .i64 base_1))), (5, .c (.h 0)), (6, .c (.val (.int .i64 r_23.2.2))), (7, .c (.h 2)), (8, .c (.val (.int .i64 r_27.2.2))), (9, .c (.h 4))], [(0, .box [.val (.int .i64 r_23.1), .imm (.slice (.pair (.int .i64) (.pair (.int .i64) .str))) r_23.2.1]), (1, .row (.pair (.int .i64) (.pair (.int .i64) .str)) r_27.2.1), (2, .box [.val (.int .i64 r_27.1), .h 1]), (3, .row (.pair (.int .i64) (.pair (.int .i64) .str)) r_31.2), (4, .box [.val (.int .i64 r_31.1), .h 3])], 5⟩ [] (by kernel_rfl) rfl rfl ap0 (by kernel_rfl) (by kernel_rfl) ?_
        refine V_run hN hn 3 5 [5, 6, 7, 8, 9, 10] [0, 1, 2, 3, 4] ⟨[(5, .c (.h 0)), (6, .c (.val (.int .i64 r_23.2.2))), (7, .c (.h 2)), (8, .c (.val (.int .i64 r_27.2.2))), (9, .c (.h 4)), (10, .c (.val (.int .i64 (mx2 (0 : Int) (mn2 base_1 (20000 : Int))))))], [(0, .box [.val (.int .i64 r_23.1), .imm (.slice (.pair (.int .i64) (.pair (.int .i64) .str))) r_23.2.1]), (1, .row (.pair (.int .i64) (.pair (.int .i64) .str)) r_27.2.1), (2, .box [.val (.int .i64 r_27.1), .h 1]), (3, .row (.pair (.int .i64) (.pair (.int .i64) .str)) r_31.2), (4, .box [.val (.int .i64 r_31.1), .h 3])], 5⟩ [] (by kernel_rfl) rfl rfl ap0 ?_
        rcases Bool.eq_false_or_eq_true ((r_23.2.2 == r_27.2.2)) with b_35 | b_35
        · have H_111 := of_t H_110 b_35
          rcases Bool.eq_false_or_eq_true ((r_23.2.2 != (0 : Int))) with b_36 | b_36
          · have H_113 := of_t H_111 b_36
            rcases Bool.eq_false_or_eq_true (((((List.length r_23.2.1) : Nat) : Int) == (0 : Int))) with b_37 | b_37
            · have H_115 := of_t H_113 b_37
              rcases Bool.eq_false_or_eq_true ((r_31.1 == (mx2 (0 : Int) (mn2 base_1 (20000 : Int))))) with b_38 | b_38
              · have H_117 := of_t H_115 b_38
                obtain ⟨r_39, h_40, H_119⟩ := of_bind H_117
                rcases Bool.eq_false_or_eq_true ((r_39 == (mx2 (0 : Int) (mn2 base_1 (20000 : Int))))) with b_41 | b_41
                · have H_120 := of_t H_119 b_41
                  obtain ⟨r_42, h_43, H_122⟩ := of_bind H_120
                  refine V_reg hN hn [(34, ⟨16, 1, [.agg [.val (.int .i64 r_31.1), .h 0]], [(0, .row (.pair (.int .i64) (.pair (.int .i64) .str)) r_31.2)], .c (.val (.int .i64 r_39)), [(0, .row (.pair (.int .i64) (.pair (.int .i64) .str)) r_31.2)], [(0, 3)], 5⟩), (40, ⟨18, 1, [.agg [.val (.int .i64 r_31.1), .h 0]], [(0, .row (.pair (.int .i64) (.pair (.int .i64) .str)) r_31.2)], .c (.val (.int .i64 r_42)), [(0, .row (.pair (.int .i64) (.pair (.int .i64) .str)) r_31.2)], [(0, 3)], 5⟩)] [(44, true), (47, true), (53, true), (73, true), (79, true)] (calls_cons (delta_Size_sgr_spec K r_31.1 r_31.2 r_39 h_40) (by kernel_rfl) (calls_cons (delta_Drops_sgr_spec K r_31.1 r_31.2 r_42 h_43) (by kernel_rfl) calls_nil)) 5 [4] [] ⟨[(4, .c (.val (.bool (r_42 == (0 : Int)))))], [], 5⟩ [(r_23.2.2 == r_27.2.2) = true, (r_23.2.2 != (0 : Int)) = true, ((((List.length r_23.2.1) : Nat) : Int) == (0 : Int)) = true, (r_31.1 == (mx2 (0 : Int) (mn2 base_1 (20000 : Int)))) = true, (r_39 == (mx2 (0 : Int) (mn2 base_1 (20000 : Int)))) = true] (by kernel_rfl) rfl rfl (ap2 b_35 (ap2 b_36 (ap2 b_37 (ap2 b_38 (ap1 b_41))))) (by kernel_rfl) (by kernel_rfl) ?_
                  have H_123 := Option.some.inj (show some (r_42 == (0 : Int)) = some r from H_122); subst H_123
                  refine VL_ret ?_
                  exact P_to [(4, .c (.val (.bool (r_42 == (0 : Int)))))] [] [] hn (by kernel_rfl) (by kernel_rfl) rfl rfl rfl (QF_retS (by kernel_rfl) (by kernel_rfl) rfl)
                · have H_121 := of_f H_119 b_41
                  refine V_reg hN hn [(34, ⟨16, 1, [.agg [.val (.int .i64 r_31.1), .h 0]], [(0, .row (.pair (.int .i64) (.pair (.int .i64) .str)) r_31.2)], .c (.val (.int .i64 r_39)), [(0, .row (.pair (.int .i64) (.pair (.int .i64) .str)) r_31.2)], [(0, 3)], 5⟩)] [(44, true), (47, true), (53, true), (73, true), (79, false)] (calls_cons (delta_Size_sgr_spec K r_31.1 r_31.2 r_39 h_40) (by kernel_rfl) calls_nil) 5 [4] [] ⟨[(4, .c (.val (.bool false)))], [], 5⟩ [(r_23.2.2 == r_27.2.2) = true, (r_23.2.2 != (0 : Int)) = true, ((((List.length r_23.2.1) : Nat) : Int) == (0 : Int)) = true, (r_31.1 == (mx2 (0 : Int) (mn2 base_1 (20000 : Int)))) = true, (r_39 == (mx2 (0 : Int) (mn2 base_1 (20000 : Int)))) = false] (by kernel_rfl) rfl rfl (ap2 b_35 (ap2 b_36 (ap2 b_37 (ap2 b_38 (ap1 b_41))))) (by kernel_rfl) (by kernel_rfl) ?_
                  have H_124 := Option.some.inj (show some false = some r from H_121); subst H_124
                  refine VL_ret ?_
                  exact P_to [(4, .c (.val (.bool false)))] [] [] hn (by kernel_rfl) (by kernel_rfl) rfl rfl rfl (QF_retS (by kernel_rfl) (by kernel_rfl) rfl)
              · have H_118 := of_f H_115 b_38
                refine V_reg hN hn [] [(44, true), (47, true), (53, true), (73, false)] calls_nil 5 [4] [] ⟨[(4, .c (.val (.bool false)))], [], 5⟩ [(r_23.2.2 == r_27.2.2) = true, (r_23.2.2 != (0 : Int)) = true, ((((List.length r_23.2.1) : Nat) : Int) == (0 : Int)) = true, (r_31.1 == (mx2 (0 : Int) (mn2 base_1 (20000 : Int)))) = false] (by kernel_rfl) rfl rfl (ap2 b_35 (ap2 b_36 (ap2 b_37 (ap1 b_38)))) (by kernel_rfl) (by kernel_rfl) ?_
                have H_125 := Option.some.inj (show some false = some r from H_118); subst H_125
                refine VL_ret ?_
                exact P_to [(4, .c (.val (.bool false)))] [] [] hn (by kernel_rfl) (by kernel_rfl) rfl rfl rfl (QF_retS (by kernel_rfl) (by kernel_rfl) rfl)
            · have H_116 := of_f H_113 b_37
              rcases Bool.eq_false_or_eq_true ((r_23.2.2 == (0 : Int))) with b_47 | b_47
              · have H_126 := of_t H_116 b_47
                obtain ⟨r_48, h_49, H_128⟩ := of_bind H_126
                rcases Bool.eq_false_or_eq_true (r_48) with b_50 | b_50
                · have H_129 := of_t H_128 b_50
                  obtain ⟨r_51, h_52, H_131⟩ := of_bind H_129
                  rcases Bool.eq_false_or_eq_true (r_51) with b_53 | b_53
                  · have H_132 := of_t H_131 b_53
                    rcases Bool.eq_false_or_eq_true ((r_31.1 == (mx2 (0 : Int) (mn2 base_1 (20000 : Int))))) with b_54 | b_54
                    · have H_134 := of_t H_132 b_54
                      obtain ⟨r_55, h_56, H_136⟩ := of_bind H_134
                      rcases Bool.eq_false_or_eq_true ((r_55 == (mx2 (0 : Int) (mn2 base_1 (20000 : Int))))) with b_57 | b_57
                      · have H_137 := of_t H_136 b_57
                        obtain ⟨r_58, h_59, H_139⟩ := of_bind H_137
                        refine V_reg hN hn [(18, ⟨15, 1, [.agg [.val (.int .i64 r_23.1), .imm (.slice (.pair (.int .i64) (.pair (.int .i64) .str))) r_23.2.1], .agg [.val (.int .i64 r_27.1), .h 0]], [(0, .row (.pair (.int .i64) (.pair (.int .i64) .str)) r_27.2.1)], .c (.val (.bool r_48)), [(0, .row (.pair (.int .i64) (.pair (.int .i64) .str)) r_27.2.1)], [(0, 1)], 5⟩), (22, ⟨11, 0, [.agg [.val (.int .i64 r_23.1), .imm (.slice (.pair (.int .i64) (.pair (.int .i64) .str))) r_23.2.1]], [], .c (.val (.bool r_51)), [], [], 5⟩), (34, ⟨16, 1, [.agg [.val (.int .i64 r_31.1), .h 0]], [(0, .row (.pair (.int .i64) (.pair (.int .i64) .str)) r_31.2)], .c (.val (.int .i64 r_55)), [(0, .row (.pair (.int .i64) (.pair (.int .i64) .str)) r_31.2)], [(0, 3)], 5⟩), (40, ⟨18, 1, [.agg [.val (.int .i64 r_31.1), .h 0]], [(0, .row (.pair (.int .i64) (.pair (.int .i64) .str)) r_31.2)], .c (.val (.int .i64 r_58)), [(0, .row (.pair (.int .i64) (.pair (.int .i64) .str)) r_31.2)], [(0, 3)], 5⟩)] [(44, true), (47, true), (53, false), (56, true), (61, true), (67, true), (73, true), (79, true)] (calls_cons (palinoderef11_Same_sggsgr_spec K r_23.1 r_23.2.1 r_27.1 r_27.2.1 r_48 h_49) (by kernel_rfl) (calls_cons (palinoderef11_Is_spec K r_23.1 r_23.2.1 r_51 h_52) (by kernel_rfl) (calls_cons (delta_Size_sgr_spec K r_31.1 r_31.2 r_55 h_56) (by kernel_rfl) (calls_cons (delta_Drops_sgr_spec K r_31.1 r_31.2 r_58 h_59) (by kernel_rfl) calls_nil)))) 5 [4] [] ⟨[(4, .c (.val (.bool (r_58 == (0 : Int)))))], [], 5⟩ [(r_23.2.2 == r_27.2.2) = true, (r_23.2.2 != (0 : Int)) = true, ((((List.length r_23.2.1) : Nat) : Int) == (0 : Int)) = false, (r_23.2.2 == (0 : Int)) = true, r_48 = true, r_51 = true, (r_31.1 == (mx2 (0 : Int) (mn2 base_1 (20000 : Int)))) = true, (r_55 == (mx2 (0 : Int) (mn2 base_1 (20000 : Int)))) = true] (by kernel_rfl) rfl rfl (ap2 b_35 (ap2 b_36 (ap2 b_37 (ap2 b_47 (ap2 b_50 (ap2 b_53 (ap2 b_54 (ap1 b_57)))))))) (by kernel_rfl) (by kernel_rfl) ?_
                        have H_140 := Option.some.inj (show some (r_58 == (0 : Int)) = some r from H_139); subst H_140
                        refine VL_ret ?_
                        exact P_to [(4, .c (.val (.bool (r_58 == (0 : Int)))))] [] [] hn (by kernel_rfl) (by kernel_rfl) rfl rfl rfl (QF_retS (by kernel_rfl) (by kernel_rfl) rfl)
                      · have H_138 := of_f H_136 b_57
                        refine V_reg hN hn [(18, ⟨15, 1, [.agg [.val (.int .i64 r_23.1), .imm (.slice (.pair (.int .i64) (.pair (.int .i64) .str))) r_23.2.1], .agg [.val (.int .i64 r_27.1), .h 0]], [(0, .row (.pair (.int .i64) (.pair (.int .i64) .str)) r_27.2.1)], .c (.val (.bool r_48)), [(0, .row (.pair (.int .i64) (.pair (.int .i64) .str)) r_27.2.1)], [(0, 1)], 5⟩), (22, ⟨11, 0, [.agg [.val (.int .i64 r_23.1), .imm (.slice (.pair (.int .i64) (.pair (.int .i64) .str))) r_23.2.1]], [], .c (.val (.bool r_51)), [], [], 5⟩), (34, ⟨16, 1, [.agg [.val (.int .i64 r_31.1), .h 0]], [(0, .row (.pair (.int .i64) (.pair (.int .i64) .str)) r_31.2)], .c (.val (.int .i64 r_55)), [(0, .row (.pair (.int .i64) (.pair (.int .i64) .str)) r_31.2)], [(0, 3)], 5⟩)] [(44, true), (47, true), (53, false), (56, true), (61, true), (67, true), (73, true), (79, false)] (calls_cons (palinoderef11_Same_sggsgr_spec K r_23.1 r_23.2.1 r_27.1 r_27.2.1 r_48 h_49) (by kernel_rfl) (calls_cons (palinoderef11_Is_spec K r_23.1 r_23.2.1 r_51 h_52) (by kernel_rfl) (calls_cons (delta_Size_sgr_spec K r_31.1 r_31.2 r_55 h_56) (by kernel_rfl) calls_nil))) 5 [4] [] ⟨[(4, .c (.val (.bool false)))], [], 5⟩ [(r_23.2.2 == r_27.2.2) = true, (r_23.2.2 != (0 : Int)) = true, ((((List.length r_23.2.1) : Nat) : Int) == (0 : Int)) = false, (r_23.2.2 == (0 : Int)) = true, r_48 = true, r_51 = true, (r_31.1 == (mx2 (0 : Int) (mn2 base_1 (20000 : Int)))) = true, (r_55 == (mx2 (0 : Int) (mn2 base_1 (20000 : Int)))) = false] (by kernel_rfl) rfl rfl (ap2 b_35 (ap2 b_36 (ap2 b_37 (ap2 b_47 (ap2 b_50 (ap2 b_53 (ap2 b_54 (ap1 b_57)))))))) (by kernel_rfl) (by kernel_rfl) ?_
                        have H_141 := Option.some.inj (show some false = some r from H_138); subst H_141
                        refine VL_ret ?_
                        exact P_to [(4, .c (.val (.bool false)))] [] [] hn (by kernel_rfl) (by kernel_rfl) rfl rfl rfl (QF_retS (by kernel_rfl) (by kernel_rfl) rfl)
                    · have H_135 := of_f H_132 b_54
                      refine V_reg hN hn [(18, ⟨15, 1, [.agg [.val (.int .i64 r_23.1), .imm (.slice (.pair (.int .i64) (.pair (.int .i64) .str))) r_23.2.1], .agg [.val (.int .i64 r_27.1), .h 0]], [(0, .row (.pair (.int .i64) (.pair (.int .i64) .str)) r_27.2.1)], .c (.val (.bool r_48)), [(0, .row (.pair (.int .i64) (.pair (.int .i64) .str)) r_27.2.1)], [(0, 1)], 5⟩), (22, ⟨11, 0, [.agg [.val (.int .i64 r_23.1), .imm (.slice (.pair (.int .i64) (.pair (.int .i64) .str))) r_23.2.1]], [], .c (.val (.bool r_51)), [], [], 5⟩)] [(44, true), (47, true), (53, false), (56, true), (61, true), (67, true), (73, false)] (calls_cons (palinoderef11_Same_sggsgr_spec K r_23.1 r_23.2.1 r_27.1 r_27.2.1 r_48 h_49) (by kernel_rfl) (calls_cons (palinoderef11_Is_spec K r_23.1 r_23.2.1 r_51 h_52) (by kernel_rfl) calls_nil)) 5 [4] [] ⟨[(4, .c (.val (.bool false)))], [], 5⟩ [(r_23.2.2 == r_27.2.2) = true, (r_23.2.2 != (0 : Int)) = true, ((((List.length r_23.2.1) : Nat) : Int) == (0 : Int)) = false, (r_23.2.2 == (0 : Int)) = true, r_48 = true, r_51 = true, (r_31.1 == (mx2 (0 : Int) (mn2 base_1 (20000 : Int)))) = false] (by kernel_rfl) rfl rfl (ap2 b_35 (ap2 b_36 (ap2 b_37 (ap2 b_47 (ap2 b_50 (ap2 b_53 (ap1 b_54))))))) (by kernel_rfl) (by kernel_rfl) ?_
                      have H_142 := Option.some.inj (show some false = some r from H_135); subst H_142
                      refine VL_ret ?_
                      exact P_to [(4, .c (.val (.bool false)))] [] [] hn (by kernel_rfl) (by kernel_rfl) rfl rfl rfl (QF_retS (by kernel_rfl) (by kernel_rfl) rfl)
                  · have H_133 := of_f H_131 b_53
                    refine V_reg hN hn [(18, ⟨15, 1, [.agg [.val (.int .i64 r_23.1), .imm (.slice (.pair (.int .i64) (.pair (.int .i64) .str))) r_23.2.1], .agg [.val (.int .i64 r_27.1), .h 0]], [(0, .row (.pair (.int .i64) (.pair (.int .i64) .str)) r_27.2.1)], .c (.val (.bool r_48)), [(0, .row (.pair (.int .i64) (.pair (.int .i64) .str)) r_27.2.1)], [(0, 1)], 5⟩), (22, ⟨11, 0, [.agg [.val (.int .i64 r_23.1), .imm (.slice (.pair (.int .i64) (.pair (.int .i64) .str))) r_23.2.1]], [], .c (.val (.bool r_51)), [], [], 5⟩)] [(44, true), (47, true), (53, false), (56, true), (61, true), (67, false)] (calls_cons (palinoderef11_Same_sggsgr_spec K r_23.1 r_23.2.1 r_27.1 r_27.2.1 r_48 h_49) (by kernel_rfl) (calls_cons (palinoderef11_Is_spec K r_23.1 r_23.2.1 r_51 h_52) (by kernel_rfl) calls_nil)) 5 [4] [] ⟨[(4, .c (.val (.bool false)))], [], 5⟩ [(r_23.2.2 == r_27.2.2) = true, (r_23.2.2 != (0 : Int)) = true, ((((List.length r_23.2.1) : Nat) : Int) == (0 : Int)) = false, (r_23.2.2 == (0 : Int)) = true, r_48 = true, r_51 = false] (by kernel_rfl) rfl rfl (ap2 b_35 (ap2 b_36 (ap2 b_37 (ap2 b_47 (ap2 b_50 (ap1 b_53)))))) (by kernel_rfl) (by kernel_rfl) ?_
                    have H_143 := Option.some.inj (show some false = some r from H_133); subst H_143
                    refine VL_ret ?_
                    exact P_to [(4, .c (.val (.bool false)))] [] [] hn (by kernel_rfl) (by kernel_rfl) rfl rfl rfl (QF_retS (by kernel_rfl) (by kernel_rfl) rfl)
                · have H_130 := of_f H_128 b_50
                  refine V_reg hN hn [(18, ⟨15, 1, [.agg [.val (.int .i64 r_23.1), .imm (.slice (.pair (.int .i64) (.pair (.int .i64) .str))) r_23.2.1], .agg [.val (.int .i64 r_27.1), .h 0]], [(0, .row (.pair (.int .i64) (.pair (.int .i64) .str)) r_27.2.1)], .c (.val (.bool r_48)), [(0, .row (.pair (.int .i64) (.pair (.int .i64) .str)) r_27.2.1)], [(0, 1)], 5⟩)] [(44, true), (47, true), (53, false), (56, true), (61, false)] (calls_cons (palinoderef11_Same_sggsgr_spec K r_23.1 r_23.2.1 r_27.1 r_27.2.1 r_48 h_49) (by kernel_rfl) calls_nil) 5 [4] [] ⟨[(4, .c (.val (.bool false)))], [], 5⟩ [(r_23.2.2 == r_27.2.2) = true, (r_23.2.2 != (0 : Int)) = true, ((((List.length r_23.2.1) : Nat) : Int) == (0 : Int)) = false, (r_23.2.2 == (0 : Int)) = true, r_48 = false] (by kernel_rfl) rfl rfl (ap2 b_35 (ap2 b_36 (ap2 b_37 (ap2 b_47 (ap1 b_50))))) (by kernel_rfl) (by kernel_rfl) ?_
                  have H_144 := Option.some.inj (show some false = some r from H_130); subst H_144
                  refine VL_ret ?_
                  exact P_to [(4, .c (.val (.bool false)))] [] [] hn (by kernel_rfl) (by kernel_rfl) rfl rfl rfl (QF_retS (by kernel_rfl) (by kernel_rfl) rfl)
              · have H_127 := of_f H_116 b_47
                refine V_reg hN hn [] [(44, true), (47, true), (53, false), (56, false)] calls_nil 5 [4] [] ⟨[(4, .c (.val (.bool false)))], [], 5⟩ [(r_23.2.2 == r_27.2.2) = true, (r_23.2.2 != (0 : Int)) = true, ((((List.length r_23.2.1) : Nat) : Int) == (0 : Int)) = false, (r_23.2.2 == (0 : Int)) = false] (by kernel_rfl) rfl rfl (ap2 b_35 (ap2 b_36 (ap2 b_37 (ap1 b_47)))) (by kernel_rfl) (by kernel_rfl) ?_
                have H_145 := Option.some.inj (show some false = some r from H_127); subst H_145
                refine VL_ret ?_
                exact P_to [(4, .c (.val (.bool false)))] [] [] hn (by kernel_rfl) (by kernel_rfl) rfl rfl rfl (QF_retS (by kernel_rfl) (by kernel_rfl) rfl)
          · have H_114 := of_f H_111 b_36
            rcases Bool.eq_false_or_eq_true ((r_23.2.2 == (0 : Int))) with b_66 | b_66
            · have H_146 := of_t H_114 b_66
              obtain ⟨r_67, h_68, H_148⟩ := of_bind H_146
              rcases Bool.eq_false_or_eq_true (r_67) with b_69 | b_69
              · have H_149 := of_t H_148 b_69
                obtain ⟨r_70, h_71, H_151⟩ := of_bind H_149
                rcases Bool.eq_false_or_eq_true (r_70) with b_72 | b_72
                · have H_152 := of_t H_151 b_72
                  rcases Bool.eq_false_or_eq_true ((r_31.1 == (mx2 (0 : Int) (mn2 base_1 (20000 : Int))))) with b_73 | b_73
                  · have H_154 := of_t H_152 b_73
                    obtain ⟨r_74, h_75, H_156⟩ := of_bind H_154
                    rcases Bool.eq_false_or_eq_true ((r_74 == (mx2 (0 : Int) (mn2 base_1 (20000 : Int))))) with b_76 | b_76
                    · have H_157 := of_t H_156 b_76
                      obtain ⟨r_77, h_78, H_159⟩ := of_bind H_157
                      refine V_reg hN hn [(18, ⟨15, 1, [.agg [.val (.int .i64 r_23.1), .imm (.slice (.pair (.int .i64) (.pair (.int .i64) .str))) r_23.2.1], .agg [.val (.int .i64 r_27.1), .h 0]], [(0, .row (.pair (.int .i64) (.pair (.int .i64) .str)) r_27.2.1)], .c (.val (.bool r_67)), [(0, .row (.pair (.int .i64) (.pair (.int .i64) .str)) r_27.2.1)], [(0, 1)], 5⟩), (22, ⟨11, 0, [.agg [.val (.int .i64 r_23.1), .imm (.slice (.pair (.int .i64) (.pair (.int .i64) .str))) r_23.2.1]], [], .c (.val (.bool r_70)), [], [], 5⟩), (34, ⟨16, 1, [.agg [.val (.int .i64 r_31.1), .h 0]], [(0, .row (.pair (.int .i64) (.pair (.int .i64) .str)) r_31.2)], .c (.val (.int .i64 r_74)), [(0, .row (.pair (.int .i64) (.pair (.int .i64) .str)) r_31.2)], [(0, 3)], 5⟩), (40, ⟨18, 1, [.agg [.val (.int .i64 r_31.1), .h 0]], [(0, .row (.pair (.int .i64) (.pair (.int .i64) .str)) r_31.2)], .c (.val (.int .i64 r_77)), [(0, .row (.pair (.int .i64) (.pair (.int .i64) .str)) r_31.2)], [(0, 3)], 5⟩)] [(44, true), (47, false), (56, true), (61, true), (67, true), (73, true), (79, true)] (calls_cons (palinoderef11_Same_sggsgr_spec K r_23.1 r_23.2.1 r_27.1 r_27.2.1 r_67 h_68) (by kernel_rfl) (calls_cons (palinoderef11_Is_spec K r_23.1 r_23.2.1 r_70 h_71) (by kernel_rfl) (calls_cons (delta_Size_sgr_spec K r_31.1 r_31.2 r_74 h_75) (by kernel_rfl) (calls_cons (delta_Drops_sgr_spec K r_31.1 r_31.2 r_77 h_78) (by kernel_rfl) calls_nil)))) 5 [4] [] ⟨[(4, .c (.val (.bool (r_77 == (0 : Int)))))], [], 5⟩ [(r_23.2.2 == r_27.2.2) = true, (r_23.2.2 != (0 : Int)) = false, (r_23.2.2 == (0 : Int)) = true, r_67 = true, r_70 = true, (r_31.1 == (mx2 (0 : Int) (mn2 base_1 (20000 : Int)))) = true, (r_74 == (mx2 (0 : Int) (mn2 base_1 (20000 : Int)))) = true] (by kernel_rfl) rfl rfl (ap2 b_35 (ap2 b_36 (ap2 b_66 (ap2 b_69 (ap2 b_72 (ap2 b_73 (ap1 b_76))))))) (by kernel_rfl) (by kernel_rfl) ?_
                      have H_160 := Option.some.inj (show some (r_77 == (0 : Int)) = some r from H_159); subst H_160
                      refine VL_ret ?_
                      exact P_to [(4, .c (.val (.bool (r_77 == (0 : Int)))))] [] [] hn (by kernel_rfl) (by kernel_rfl) rfl rfl rfl (QF_retS (by kernel_rfl) (by kernel_rfl) rfl)
                    · have H_158 := of_f H_156 b_76
                      refine V_reg hN hn [(18, ⟨15, 1, [.agg [.val (.int .i64 r_23.1), .imm (.slice (.pair (.int .i64) (.pair (.int .i64) .str))) r_23.2.1], .agg [.val (.int .i64 r_27.1), .h 0]], [(0, .row (.pair (.int .i64) (.pair (.int .i64) .str)) r_27.2.1)], .c (.val (.bool r_67)), [(0, .row (.pair (.int .i64) (.pair (.int .i64) .str)) r_27.2.1)], [(0, 1)], 5⟩), (22, ⟨11, 0, [.agg [.val (.int .i64 r_23.1), .imm (.slice (.pair (.int .i64) (.pair (.int .i64) .str))) r_23.2.1]], [], .c (.val (.bool r_70)), [], [], 5⟩), (34, ⟨16, 1, [.agg [.val (.int .i64 r_31.1), .h 0]], [(0, .row (.pair (.int .i64) (.pair (.int .i64) .str)) r_31.2)], .c (.val (.int .i64 r_74)), [(0, .row (.pair (.int .i64) (.pair (.int .i64) .str)) r_31.2)], [(0, 3)], 5⟩)] [(44, true), (47, false), (56, true), (61, true), (67, true), (73, true), (79, false)] (calls_cons (palinoderef11_Same_sggsgr_spec K r_23.1 r_23.2.1 r_27.1 r_27.2.1 r_67 h_68) (by kernel_rfl) (calls_cons (palinoderef11_Is_spec K r_23.1 r_23.2.1 r_70 h_71) (by kernel_rfl) (calls_cons (delta_Size_sgr_spec K r_31.1 r_31.2 r_74 h_75) (by kernel_rfl) calls_nil))) 5 [4] [] ⟨[(4, .c (.val (.bool false)))], [], 5⟩ [(r_23.2.2 == r_27.2.2) = true, (r_23.2.2 != (0 : Int)) = false, (r_23.2.2 == (0 : Int)) = true, r_67 = true, r_70 = true, (r_31.1 == (mx2 (0 : Int) (mn2 base_1 (20000 : Int)))) = true, (r_74 == (mx2 (0 : Int) (mn2 base_1 (20000 : Int)))) = false] (by kernel_rfl) rfl rfl (ap2 b_35 (ap2 b_36 (ap2 b_66 (ap2 b_69 (ap2 b_72 (ap2 b_73 (ap1 b_76))))))) (by kernel_rfl) (by kernel_rfl) ?_
                      have H_161 := Option.some.inj (show some false = some r from H_158); subst H_161
                      refine VL_ret ?_
                      exact P_to [(4, .c (.val (.bool false)))] [] [] hn (by kernel_rfl) (by kernel_rfl) rfl rfl rfl (QF_retS (by kernel_rfl) (by kernel_rfl) rfl)
                  · have H_155 := of_f H_152 b_73
                    refine V_reg hN hn [(18, ⟨15, 1, [.agg [.val (.int .i64 r_23.1), .imm (.slice (.pair (.int .i64) (.pair (.int .i64) .str))) r_23.2.1], .agg [.val (.int .i64 r_27.1), .h 0]], [(0, .row (.pair (.int .i64) (.pair (.int .i64) .str)) r_27.2.1)], .c (.val (.bool r_67)), [(0, .row (.pair (.int .i64) (.pair (.int .i64) .str)) r_27.2.1)], [(0, 1)], 5⟩), (22, ⟨11, 0, [.agg [.val (.int .i64 r_23.1), .imm (.slice (.pair (.int .i64) (.pair (.int .i64) .str))) r_23.2.1]], [], .c (.val (.bool r_70)), [], [], 5⟩)] [(44, true), (47, false), (56, true), (61, true), (67, true), (73, false)] (calls_cons (palinoderef11_Same_sggsgr_spec K r_23.1 r_23.2.1 r_27.1 r_27.2.1 r_67 h_68) (by kernel_rfl) (calls_cons (palinoderef11_Is_spec K r_23.1 r_23.2.1 r_70 h_71) (by kernel_rfl) calls_nil)) 5 [4] [] ⟨[(4, .c (.val (.bool false)))], [], 5⟩ [(r_23.2.2 == r_27.2.2) = true, (r_23.2.2 != (0 : Int)) = false, (r_23.2.2 == (0 : Int)) = true, r_67 = true, r_70 = true, (r_31.1 == (mx2 (0 : Int) (mn2 base_1 (20000 : Int)))) = false] (by kernel_rfl) rfl rfl (ap2 b_35 (ap2 b_36 (ap2 b_66 (ap2 b_69 (ap2 b_72 (ap1 b_73)))))) (by kernel_rfl) (by kernel_rfl) ?_
                    have H_162 := Option.some.inj (show some false = some r from H_155); subst H_162
                    refine VL_ret ?_
                    exact P_to [(4, .c (.val (.bool false)))] [] [] hn (by kernel_rfl) (by kernel_rfl) rfl rfl rfl (QF_retS (by kernel_rfl) (by kernel_rfl) rfl)
                · have H_153 := of_f H_151 b_72
                  refine V_reg hN hn [(18, ⟨15, 1, [.agg [.val (.int .i64 r_23.1), .imm (.slice (.pair (.int .i64) (.pair (.int .i64) .str))) r_23.2.1], .agg [.val (.int .i64 r_27.1), .h 0]], [(0, .row (.pair (.int .i64) (.pair (.int .i64) .str)) r_27.2.1)], .c (.val (.bool r_67)), [(0, .row (.pair (.int .i64) (.pair (.int .i64) .str)) r_27.2.1)], [(0, 1)], 5⟩), (22, ⟨11, 0, [.agg [.val (.int .i64 r_23.1), .imm (.slice (.pair (.int .i64) (.pair (.int .i64) .str))) r_23.2.1]], [], .c (.val (.bool r_70)), [], [], 5⟩)] [(44, true), (47, false), (56, true), (61, true), (67, false)] (calls_cons (palinoderef11_Same_sggsgr_spec K r_23.1 r_23.2.1 r_27.1 r_27.2.1 r_67 h_68) (by kernel_rfl) (calls_cons (palinoderef11_Is_spec K r_23.1 r_23.2.1 r_70 h_71) (by kernel_rfl) calls_nil)) 5 [4] [] ⟨[(4, .c (.val (.bool false)))], [], 5⟩ [(r_23.2.2 == r_27.2.2) = true, (r_23.2.2 != (0 : Int)) = false, (r_23.2.2 == (0 : Int)) = true, r_67 = true, r_70 = false] (by kernel_rfl) rfl rfl (ap2 b_35 (ap2 b_36 (ap2 b_66 (ap2 b_69 (ap1 b_72))))) (by kernel_rfl) (by kernel_rfl) ?_
                  have H_163 := Option.some.inj (show some false = some r from H_153); subst H_163
                  refine VL_ret ?_
                  exact P_to [(4, .c (.val (.bool false)))] [] [] hn (by kernel_rfl) (by kernel_rfl) rfl rfl rfl (QF_retS (by kernel_rfl) (by kernel_rfl) rfl)
              · have H_150 := of_f H_148 b_69
                refine V_reg hN hn [(18, ⟨15, 1, [.agg [.val (.int .i64 r_23.1), .imm (.slice (.pair (.int .i64) (.pair (.int .i64) .str))) r_23.2.1], .agg [.val (.int .i64 r_27.1), .h 0]], [(0, .row (.pair (.int .i64) (.pair (.int .i64) .str)) r_27.2.1)], .c (.val (.bool r_67)), [(0, .row (.pair (.int .i64) (.pair (.int .i64) .str)) r_27.2.1)], [(0, 1)], 5⟩)] [(44, true), (47, false), (56, true), (61, false)] (calls_cons (palinoderef11_Same_sggsgr_spec K r_23.1 r_23.2.1 r_27.1 r_27.2.1 r_67 h_68) (by kernel_rfl) calls_nil) 5 [4] [] ⟨[(4, .c (.val (.bool false)))], [], 5⟩ [(r_23.2.2 == r_27.2.2) = true, (r_23.2.2 != (0 : Int)) = false, (r_23.2.2 == (0 : Int)) = true, r_67 = false] (by kernel_rfl) rfl rfl (ap2 b_35 (ap2 b_36 (ap2 b_66 (ap1 b_69)))) (by kernel_rfl) (by kernel_rfl) ?_
                have H_164 := Option.some.inj (show some false = some r from H_150); subst H_164
                refine VL_ret ?_
                exact P_to [(4, .c (.val (.bool false)))] [] [] hn (by kernel_rfl) (by kernel_rfl) rfl rfl rfl (QF_retS (by kernel_rfl) (by kernel_rfl) rfl)
            · have H_147 := of_f H_114 b_66
              refine V_reg hN hn [] [(44, true), (47, false), (56, false)] calls_nil 5 [4] [] ⟨[(4, .c (.val (.bool false)))], [], 5⟩ [(r_23.2.2 == r_27.2.2) = true, (r_23.2.2 != (0 : Int)) = false, (r_23.2.2 == (0 : Int)) = false] (by kernel_rfl) rfl rfl (ap2 b_35 (ap2 b_36 (ap1 b_66))) (by kernel_rfl) (by kernel_rfl) ?_
              have H_165 := Option.some.inj (show some false = some r from H_147); subst H_165
              refine VL_ret ?_
              exact P_to [(4, .c (.val (.bool false)))] [] [] hn (by kernel_rfl) (by kernel_rfl) rfl rfl rfl (QF_retS (by kernel_rfl) (by kernel_rfl) rfl)
        · have H_112 := of_f H_110 b_35
          refine V_reg hN hn [] [(44, false)] calls_nil 5 [4] [] ⟨[(4, .c (.val (.bool false)))], [], 5⟩ [(r_23.2.2 == r_27.2.2) = false] (by kernel_rfl) rfl rfl (ap1 b_35) (by kernel_rfl) (by kernel_rfl) ?_
          have H_166 := Option.some.inj (show some false = some r from H_112); subst H_166
          refine VL_ret ?_
          exact P_to [(4, .c (.val (.bool false)))] [] [] hn (by kernel_rfl) (by kernel_rfl) rfl rfl rfl (QF_retS (by kernel_rfl) (by kernel_rfl) rfl)

end Go.Pal
