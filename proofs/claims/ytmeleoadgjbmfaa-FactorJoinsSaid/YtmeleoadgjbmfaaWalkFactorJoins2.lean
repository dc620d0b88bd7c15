/- The Go functions that FactorJoins reaches compute what the plain functions say: part 2, printed by a program of this workplace. -/
import Derived.Test.YtmeleoadgjbmfaaChecked
import Derived.Test.YtmeleoadgjbmfaaWalkFactorJoins1
namespace Go.Pal
open Go Go.Proofs
set_option maxRecDepth 100000
set_option linter.unusedVariables false

theorem palinoderef11_Same_sggsgr_spec (K : Nat) (a_1 : Int) (a_2 : (List (Int × (Int × ByteArray)))) (b_3 : Int) (b_4 : (List (Int × (Int × ByteArray)))) (r : Bool) (H : palinoderef11_Same_sggsgr K a_1 a_2 b_3 b_4 = some r) : Spec Try.prog 18 1 [.agg [.val (.int .i64 a_1), .imm (.slice (.pair (.int .i64) (.pair (.int .i64) .str))) a_2], .agg [.val (.int .i64 b_3), .h 0]] [(0, .row (.pair (.int .i64) (.pair (.int .i64) .str)) b_4)] (.c (.val (.bool r))) [(0, .row (.pair (.int .i64) (.pair (.int .i64) .str)) b_4)] := by
  refine Spec_mk (fn := Try.f18) (c := (Try.f18.body).get!) Try.func18 (by kernel_rfl) rfl ?_
  intro C hN hn
  replace hN : C.N = 38 := hN
  unfold palinoderef11_Same_sggsgr at H
  refine V_run hN hn 4 1 [2, 3] [0, 1, 2] ⟨[(2, .c (.h 1)), (3, .c (.h 2))], [(0, .row (.pair (.int .i64) (.pair (.int .i64) .str)) b_4), (1, .box [.val (.int .i64 a_1), .imm (.slice (.pair (.int .i64) (.pair (.int .i64) .str))) a_2]), (2, .box [.val (.int .i64 b_3), .h 0])], 3⟩ [] (by kernel_rfl) rfl rfl ap0 ?_
  obtain ⟨q_27, H_28, H_29⟩ := of_bind H
  refine V_cut (Y := Bool) (R := Bool) q_27 (fun y => y) (fun y => [(2, .c (.h 1)), (3, .c (.h 2)), (19, .c (.val (.bool y)))]) (fun y => [(0, .row (.pair (.int .i64) (.pair (.int .i64) .str)) b_4), (1, .box [.val (.int .i64 a_1), .imm (.slice (.pair (.int .i64) (.pair (.int .i64) .str))) a_2]), (2, .box [.val (.int .i64 b_3), .h 0])]) ?_ ?_
  · skip
    rcases Bool.eq_false_or_eq_true ((a_1 != b_3)) with b_6 | b_6
    · have H_31 := of_t H_28 b_6
      refine V_reg hN hn [] [(11, true)] calls_nil 3 [2, 3, 19] [0, 1, 2] ⟨[(2, .c (.h 1)), (3, .c (.h 2)), (19, .c (.val (.bool true)))], [(0, .row (.pair (.int .i64) (.pair (.int .i64) .str)) b_4), (1, .box [.val (.int .i64 a_1), .imm (.slice (.pair (.int .i64) (.pair (.int .i64) .str))) a_2]), (2, .box [.val (.int .i64 b_3), .h 0])], 3⟩ [(a_1 != b_3) = true] (by kernel_rfl) rfl rfl (ap1 b_6) (by kernel_rfl) (by kernel_rfl) ?_
      have H_33 := Option.some.inj (show some true = some q_27 from H_31); subst H_33
      refine VL_nil ?_
      exact QP_end true rfl [(1, 1), (2, 2)] hn (by kernel_rfl) (by kernel_rfl) rfl rfl rfl
    · have H_32 := of_f H_28 b_6
      refine V_reg hN hn [] [(11, false)] calls_nil 3 [2, 3, 19] [0, 1, 2] ⟨[(2, .c (.h 1)), (3, .c (.h 2)), (19, .c (.val (.bool ((((List.length a_2) : Nat) : Int) != (((List.length b_4) : Nat) : Int)))))], [(0, .row (.pair (.int .i64) (.pair (.int .i64) .str)) b_4), (1, .box [.val (.int .i64 a_1), .imm (.slice (.pair (.int .i64) (.pair (.int .i64) .str))) a_2]), (2, .box [.val (.int .i64 b_3), .h 0])], 3⟩ [(a_1 != b_3) = false] (by kernel_rfl) rfl rfl (ap1 b_6) (by kernel_rfl) (by kernel_rfl) ?_
      have H_34 := Option.some.inj (show some ((((List.length a_2) : Nat) : Int) != (((List.length b_4) : Nat) : Int)) = some q_27 from H_32); subst H_34
      refine VL_nil ?_
      exact QP_end ((((List.length a_2) : Nat) : Int) != (((List.length b_4) : Nat) : Int)) rfl [(1, 1), (2, 2)] hn (by kernel_rfl) (by kernel_rfl) rfl rfl rfl
  · intro y_30 hy; subst hy
    skip
    skip
    refine VL_cond (y_30) (by kernel_rfl) ?_ ?_
    · intro b_10; have H_35 := of_t H_29 b_10
      refine V_run hN hn 2 3 [4] [0] ⟨[(4, .c (.val (.bool false)))], [(0, .row (.pair (.int .i64) (.pair (.int .i64) .str)) b_4)], 3⟩ [] (by kernel_rfl) rfl rfl ap0 ?_
      have H_37 := Option.some.inj (show some false = some r from H_35); subst H_37
      refine VL_ret ?_
      exact P_to [(4, .c (.val (.bool false)))] [(0, .row (.pair (.int .i64) (.pair (.int .i64) .str)) b_4)] [] hn (by kernel_rfl) (by kernel_rfl) rfl rfl rfl (QF_retS (by kernel_rfl) (by kernel_rfl) rfl)
    · intro b_10; have H_36 := of_f H_29 b_10
      refine V_run hN hn 4 3 [2, 3, 5] [0, 1, 2] ⟨[(2, .c (.h 1)), (3, .c (.h 2)), (5, .c (.val (.int .i64 (0 : Int))))], [(0, .row (.pair (.int .i64) (.pair (.int .i64) .str)) b_4), (1, .box [.val (.int .i64 a_1), .imm (.slice (.pair (.int .i64) (.pair (.int .i64) .str))) a_2]), (2, .box [.val (.int .i64 b_3), .h 0])], 3⟩ [] (by kernel_rfl) rfl rfl ap0 ?_
      refine VL_block ?_
      refine V_to [(2, .c (.h 1)), (3, .c (.h 2)), (5, .c (.val (.int .i64 (0 : Int))))] [(0, .row (.pair (.int .i64) (.pair (.int .i64) .str)) b_4), (1, .box [.val (.int .i64 a_1), .imm (.slice (.pair (.int .i64) (.pair (.int .i64) .str))) a_2]), (2, .box [.val (.int .i64 b_3), .h 0])] [(1, 1), (2, 2)] hn (by kernel_rfl) (by kernel_rfl) rfl rfl rfl ?_
      refine VL_loop (X := Int) (fun x => [(2, .c (.h 1)), (3, .c (.h 2)), (5, .c (.val (.int .i64 x)))]) (fun x => [(0, .row (.pair (.int .i64) (.pair (.int .i64) .str)) b_4), (1, .box [.val (.int .i64 a_1), .imm (.slice (.pair (.int .i64) (.pair (.int .i64) .str))) a_2]), (2, .box [.val (.int .i64 b_3), .h 0])]) (fun k x => palinoderef11_Same_sggsgr.l0 K a_2 b_4 k x = some r) K (0 : Int) H_36 (fun _ h => no_none h) ?_
      intro k_14 i_13 H_38
      have H_39 : palinoderef11_Same_sggsgr.l0 K a_2 b_4 (k_14 + 1) i_13 = some r := H_38
      rw [palinoderef11_Same_sggsgr.l0] at H_39
      refine V_run hN hn 3 3 [2, 3, 5, 24] [0, 1, 2] ⟨[(2, .c (.h 1)), (3, .c (.h 2)), (5, .c (.val (.int .i64 i_13))), (24, .c (.val (.bool (decide (i_13 < (((List.length a_2) : Nat) : Int))))))], [(0, .row (.pair (.int .i64) (.pair (.int .i64) .str)) b_4), (1, .box [.val (.int .i64 a_1), .imm (.slice (.pair (.int .i64) (.pair (.int .i64) .str))) a_2]), (2, .box [.val (.int .i64 b_3), .h 0])], 3⟩ [] (by kernel_rfl) rfl rfl ap0 ?_
      refine VL_cond ((decide (i_13 < (((List.length a_2) : Nat) : Int)))) (by kernel_rfl) ?_ ?_
      · intro b_16; have H_40 := of_t H_39 b_16
        refine V_run hN hn 2 3 [2, 3, 5, 24] [0, 1, 2] ⟨[(2, .c (.h 1)), (3, .c (.h 2)), (5, .c (.val (.int .i64 i_13))), (24, .c (.val (.bool (decide (i_13 < (((List.length a_2) : Nat) : Int))))))], [(0, .row (.pair (.int .i64) (.pair (.int .i64) .str)) b_4), (1, .box [.val (.int .i64 a_1), .imm (.slice (.pair (.int .i64) (.pair (.int .i64) .str))) a_2]), (2, .box [.val (.int .i64 b_3), .h 0])], 3⟩ [] (by kernel_rfl) rfl rfl ap0 ?_
        refine VL_block ?_
        refine V_run hN hn 1 3 [2, 3, 5, 24] [0, 1, 2] ⟨[(2, .c (.h 1)), (3, .c (.h 2)), (5, .c (.val (.int .i64 i_13))), (24, .c (.val (.bool (decide (i_13 < (((List.length a_2) : Nat) : Int))))))], [(0, .row (.pair (.int .i64) (.pair (.int .i64) .str)) b_4), (1, .box [.val (.int .i64 a_1), .imm (.slice (.pair (.int .i64) (.pair (.int .i64) .str))) a_2]), (2, .box [.val (.int .i64 b_3), .h 0])], 3⟩ [] (by kernel_rfl) rfl rfl ap0 ?_
        obtain ⟨c_19, H_42⟩ := of_if H_40
        refine V_draw hN hn (by kernel_rfl) [] [] calls_nil 3 [2, 3, 5, 37] [0, 1, 2] ⟨[(2, .c (.h 1)), (3, .c (.h 2)), (5, .c (.val (.int .i64 i_13))), (37, .c (.val (.bool (!(((List.getD a_2 (Int.toNat i_13) ((0 : Int), ((0 : Int), ByteArray.empty))).1 == (List.getD b_4 (Int.toNat i_13) ((0 : Int), ((0 : Int), ByteArray.empty))).1) && (((List.getD a_2 (Int.toNat i_13) ((0 : Int), ((0 : Int), ByteArray.empty))).2.1 == (List.getD b_4 (Int.toNat i_13) ((0 : Int), ((0 : Int), ByteArray.empty))).2.1) && (ByteArray.toList (List.getD a_2 (Int.toNat i_13) ((0 : Int), ((0 : Int), ByteArray.empty))).2.2 == ByteArray.toList (List.getD b_4 (Int.toNat i_13) ((0 : Int), ((0 : Int), ByteArray.empty))).2.2)))))))], [(0, .row (.pair (.int .i64) (.pair (.int .i64) .str)) b_4), (1, .box [.val (.int .i64 a_1), .imm (.slice (.pair (.int .i64) (.pair (.int .i64) .str))) a_2]), (2, .box [.val (.int .i64 b_3), .h 0])], 3⟩ [0 ≤ i_13, i_13 < (((List.length a_2) : Nat) : Int), 0 ≤ i_13, i_13 < (((List.length b_4) : Nat) : Int)] (by kernel_rfl) rfl rfl (ap2 c_19.1 (ap2 c_19.2.1 (ap2 c_19.1 (ap1 c_19.2.2)))) (by kernel_rfl) (by kernel_rfl) ?_
        refine VL_cond ((!(((List.getD a_2 (Int.toNat i_13) ((0 : Int), ((0 : Int), ByteArray.empty))).1 == (List.getD b_4 (Int.toNat i_13) ((0 : Int), ((0 : Int), ByteArray.empty))).1) && (((List.getD a_2 (Int.toNat i_13) ((0 : Int), ((0 : Int), ByteArray.empty))).2.1 == (List.getD b_4 (Int.toNat i_13) ((0 : Int), ((0 : Int), ByteArray.empty))).2.1) && (ByteArray.toList (List.getD a_2 (Int.toNat i_13) ((0 : Int), ((0 : Int), ByteArray.empty))).2.2 == ByteArray.toList (List.getD b_4 (Int.toNat i_13) ((0 : Int), ((0 : Int), ByteArray.empty))).2.2))))) (by kernel_rfl) ?_ ?_
        · intro b_20; have H_43 := of_t H_42 b_20
          refine V_run hN hn 2 3 [4] [0] ⟨[(4, .c (.val (.bool false)))], [(0, .row (.pair (.int .i64) (.pair (.int .i64) .str)) b_4)], 3⟩ [] (by kernel_rfl) rfl rfl ap0 ?_
          have H_45 := Option.some.inj (show some false = some r from H_43); subst H_45
          refine VL_ret ?_
          refine QB_ret ?_
          refine QL_ret ?_
          refine QB_ret ?_
          exact P_to [(4, .c (.val (.bool false)))] [(0, .row (.pair (.int .i64) (.pair (.int .i64) .str)) b_4)] [] hn (by kernel_rfl) (by kernel_rfl) rfl rfl rfl (QF_retS (by kernel_rfl) (by kernel_rfl) rfl)
        · intro b_20; have H_44 := of_f H_42 b_20
          refine V_run hN hn 1 3 [2, 3, 5, 37] [0, 1, 2] ⟨[(2, .c (.h 1)), (3, .c (.h 2)), (5, .c (.val (.int .i64 i_13))), (37, .c (.val (.bool (!(((List.getD a_2 (Int.toNat i_13) ((0 : Int), ((0 : Int), ByteArray.empty))).1 == (List.getD b_4 (Int.toNat i_13) ((0 : Int), ((0 : Int), ByteArray.empty))).1) && (((List.getD a_2 (Int.toNat i_13) ((0 : Int), ((0 : Int), ByteArray.empty))).2.1 == (List.getD b_4 (Int.toNat i_13) ((0 : Int), ((0 : Int), ByteArray.empty))).2.1) && (ByteArray.toList (List.getD a_2 (Int.toNat i_13) ((0 : Int), ((0 : Int), ByteArray.empty))).2.2 == ByteArray.toList (List.getD b_4 (Int.toNat i_13) ((0 : Int), ((0 : Int), ByteArray.empty))).2.2)))))))], [(0, .row (.pair (.int .i64) (.pair (.int .i64) .str)) b_4), (1, .box [.val (.int .i64 a_1), .imm (.slice (.pair (.int .i64) (.pair (.int .i64) .str))) a_2]), (2, .box [.val (.int .i64 b_3), .h 0])], 3⟩ [] (by kernel_rfl) rfl rfl ap0 ?_
          refine VL_nil (QB_end ?_)
          refine V_run hN hn 1 3 [2, 3, 5] [0, 1, 2] ⟨[(2, .c (.h 1)), (3, .c (.h 2)), (5, .c (.val (.int .i64 (IntKind.wrap .i64 (i_13 + (1 : Int))))))], [(0, .row (.pair (.int .i64) (.pair (.int .i64) .str)) b_4), (1, .box [.val (.int .i64 a_1), .imm (.slice (.pair (.int .i64) (.pair (.int .i64) .str))) a_2]), (2, .box [.val (.int .i64 b_3), .h 0])], 3⟩ [] (by kernel_rfl) rfl rfl ap0 ?_
          refine VL_nil ?_
          exact V_roundEnd (IntKind.wrap .i64 (i_13 + (1 : Int))) H_44 [(1, 1), (2, 2)] hn (by kernel_rfl) (by kernel_rfl) rfl rfl rfl
      · intro b_16; have H_41 := of_f H_39 b_16
        refine VL_exit ?_
        refine QL_exit ?_
        refine QB_here ?_
        refine V_run hN hn 2 3 [4] [0] ⟨[(4, .c (.val (.bool true)))], [(0, .row (.pair (.int .i64) (.pair (.int .i64) .str)) b_4)], 3⟩ [] (by kernel_rfl) rfl rfl ap0 ?_
        have H_46 := Option.some.inj (show some true = some r from H_41); subst H_46
        refine VL_ret ?_
        exact P_to [(4, .c (.val (.bool true)))] [(0, .row (.pair (.int .i64) (.pair (.int .i64) .str)) b_4)] [] hn (by kernel_rfl) (by kernel_rfl) rfl rfl rfl (QF_retS (by kernel_rfl) (by kernel_rfl) rfl)

theorem palinoderef7_Segs_r_spec (K : Nat) (l_1 : (List Int)) (r : (List (Int × Int))) (H : palinoderef7_Segs_r K l_1 = some r) : Spec Try.prog 26 1 [.c (.h 0)] [(0, .row (.int .i64) l_1)] (.c (.h 4)) [(0, .row (.int .i64) l_1), (4, .row (.pair (.int .i64) (.int .i64)) r)] := by
  refine Spec_mk (fn := Try.f26) (c := (Try.f26.body).get!) Try.func26 (by kernel_rfl) rfl ?_
  intro C hN hn
  replace hN : C.N = 47 := hN
  unfold palinoderef7_Segs_r at H
  refine V_run hN hn 7 1 [0, 3, 4] [0] ⟨[(0, .c (.h 0)), (3, .c (.val (.slice none 0 0))), (4, .c (.val (.int .i64 (0 : Int))))], [(0, .row (.int .i64) l_1)], 1⟩ [] (by kernel_rfl) rfl rfl ap0 ?_
  refine VL_block ?_
  refine V_ghost [.nilSlot 3 (.pair (.int .i64) (.int .i64))] 1 hn [0, 3, 4] [0, 1] ⟨[(0, .c (.h 0)), (3, .c (.h 1)), (4, .c (.val (.int .i64 (0 : Int))))], [(0, .row (.int .i64) l_1), (1, .row (.pair (.int .i64) (.int .i64)) ([] : List (Int × Int)))], 2⟩ (by kernel_rfl) rfl rfl ?_
  refine V_to [(0, .c (.h 0)), (3, .c (.h 4)), (4, .c (.val (.int .i64 (0 : Int))))] [(0, .row (.int .i64) l_1), (4, .row (.pair (.int .i64) (.int .i64)) ([] : List (Int × Int)))] [(4, 1)] hn (by kernel_rfl) (by kernel_rfl) rfl rfl rfl ?_
  refine VL_loop (X := ((List (Int × Int)) × Int)) (fun x => [(0, .c (.h 0)), (3, .c (.h 4)), (4, .c (.val (.int .i64 x.2)))]) (fun x => [(0, .row (.int .i64) l_1), (4, .row (.pair (.int .i64) (.int .i64)) x.1)]) (fun k x => palinoderef7_Segs_r.l0 K l_1 k x.1 x.2 = some r) K (([] : List (Int × Int)), (0 : Int)) H (fun _ h => no_none h) ?_
  intro k_20 x_20 H_38
  obtain ⟨out_19, i_3⟩ := x_20
  have H_39 : palinoderef7_Segs_r.l0 K l_1 (k_20 + 1) out_19 i_3 = some r := H_38
  rw [palinoderef7_Segs_r.l0] at H_39
  refine V_run hN hn 3 5 [0, 3, 4, 9] [0, 4] ⟨[(0, .c (.h 0)), (3, .c (.h 4)), (4, .c (.val (.int .i64 i_3))), (9, .c (.val (.bool (decide (i_3 < (((List.length l_1) : Nat) : Int))))))], [(0, .row (.int .i64) l_1), (4, .row (.pair (.int .i64) (.int .i64)) out_19)], 5⟩ [] (by kernel_rfl) rfl rfl ap0 ?_
  refine VL_cond ((decide (i_3 < (((List.length l_1) : Nat) : Int)))) (by kernel_rfl) ?_ ?_
  · intro b_22; have H_40 := of_t H_39 b_22
    refine V_run hN hn 2 5 [0, 3, 4, 9] [0, 4] ⟨[(0, .c (.h 0)), (3, .c (.h 4)), (4, .c (.val (.int .i64 i_3))), (9, .c (.val (.bool (decide (i_3 < (((List.length l_1) : Nat) : Int))))))], [(0, .row (.int .i64) l_1), (4, .row (.pair (.int .i64) (.int .i64)) out_19)], 5⟩ [] (by kernel_rfl) rfl rfl ap0 ?_
    refine VL_block ?_
    refine V_run hN hn 3 5 [0, 3, 4, 5] [0, 4] ⟨[(0, .c (.h 0)), (3, .c (.h 4)), (4, .c (.val (.int .i64 i_3))), (5, .c (.val (.int .i64 (((List.length out_19) : Nat) : Int))))], [(0, .row (.int .i64) l_1), (4, .row (.pair (.int .i64) (.int .i64)) out_19)], 5⟩ [] (by kernel_rfl) rfl rfl ap0 ?_
    obtain ⟨q_42, H_43, H_44⟩ := of_bind H_40
    refine V_cut (Y := Bool) (R := Bool) q_42 (fun y => y) (fun y => [(0, .c (.h 0)), (3, .c (.h 4)), (4, .c (.val (.int .i64 i_3))), (5, .c (.val (.int .i64 (((List.length out_19) : Nat) : Int)))), (28, .c (.val (.bool y)))]) (fun y => [(0, .row (.int .i64) l_1), (4, .row (.pair (.int .i64) (.int .i64)) out_19)]) ?_ ?_
    · skip
      rcases Bool.eq_false_or_eq_true ((decide ((((List.length out_19) : Nat) : Int) > (0 : Int)))) with b_25 | b_25
      · have H_46 := of_t H_43 b_25
        obtain ⟨c_26, H_48⟩ := of_if H_46
        refine V_draw hN hn (by kernel_rfl) [] [(16, true)] calls_nil 5 [0, 3, 4, 5, 28] [0, 4] ⟨[(0, .c (.h 0)), (3, .c (.h 4)), (4, .c (.val (.int .i64 i_3))), (5, .c (.val (.int .i64 (((List.length out_19) : Nat) : Int)))), (28, .c (.val (.bool ((List.getD out_19 (Int.toNat (IntKind.wrap .i64 ((((List.length out_19) : Nat) : Int) - (1 : Int)))) ((0 : Int), (0 : Int))).2 == (List.getD l_1 (Int.toNat i_3) (0 : Int))))))], [(0, .row (.int .i64) l_1), (4, .row (.pair (.int .i64) (.int .i64)) out_19)], 5⟩ [(decide ((((List.length out_19) : Nat) : Int) > (0 : Int))) = true, 0 ≤ (IntKind.wrap .i64 ((((List.length out_19) : Nat) : Int) - (1 : Int))), (IntKind.wrap .i64 ((((List.length out_19) : Nat) : Int) - (1 : Int))) < (((List.length out_19) : Nat) : Int), 0 ≤ i_3, i_3 < (((List.length l_1) : Nat) : Int)] (by kernel_rfl) rfl rfl (ap2 b_25 (ap2 c_26.1 (ap2 c_26.2.1 (ap2 c_26.2.2.1 (ap1 c_26.2.2.2))))) (by kernel_rfl) (by kernel_rfl) ?_
        have H_49 := Option.some.inj (show some ((List.getD out_19 (Int.toNat (IntKind.wrap .i64 ((((List.length out_19) : Nat) : Int) - (1 : Int)))) ((0 : Int), (0 : Int))).2 == (List.getD l_1 (Int.toNat i_3) (0 : Int))) = some q_42 from H_48); subst H_49
        refine VL_nil ?_
        exact QP_end ((List.getD out_19 (Int.toNat (IntKind.wrap .i64 ((((List.length out_19) : Nat) : Int) - (1 : Int)))) ((0 : Int), (0 : Int))).2 == (List.getD l_1 (Int.toNat i_3) (0 : Int))) rfl [(4, 4)] hn (by kernel_rfl) (by kernel_rfl) rfl rfl rfl
      · have H_47 := of_f H_43 b_25
        refine V_draw hN hn (by kernel_rfl) [] [(16, false)] calls_nil 5 [0, 3, 4, 5, 28] [0, 4] ⟨[(0, .c (.h 0)), (3, .c (.h 4)), (4, .c (.val (.int .i64 i_3))), (5, .c (.val (.int .i64 (((List.length out_19) : Nat) : Int)))), (28, .c (.val (.bool false)))], [(0, .row (.int .i64) l_1), (4, .row (.pair (.int .i64) (.int .i64)) out_19)], 5⟩ [(decide ((((List.length out_19) : Nat) : Int) > (0 : Int))) = false] (by kernel_rfl) rfl rfl (ap1 b_25) (by kernel_rfl) (by kernel_rfl) ?_
        have H_50 := Option.some.inj (show some false = some q_42 from H_47); subst H_50
        refine VL_nil ?_
        exact QP_end false rfl [(4, 4)] hn (by kernel_rfl) (by kernel_rfl) rfl rfl rfl
    · intro y_45 hy; subst hy
      skip
      skip
      refine VL_cond (y_45) (by kernel_rfl) ?_ ?_
      · intro b_29; have H_51 := of_t H_44 b_29
        obtain ⟨c_30, H_53⟩ := of_if H_51
        refine V_run hN hn 1 5 [0, 3, 4] [0, 4] ⟨[(0, .c (.h 0)), (3, .c (.h 4)), (4, .c (.val (.int .i64 i_3)))], [(0, .row (.int .i64) l_1), (4, .row (.pair (.int .i64) (.int .i64)) (List.set out_19 (Int.toNat (IntKind.wrap .i64 ((((List.length out_19) : Nat) : Int) - (1 : Int)))) ((IntKind.wrap .i64 ((List.getD out_19 (Int.toNat (IntKind.wrap .i64 ((((List.length out_19) : Nat) : Int) - (1 : Int)))) ((0 : Int), (0 : Int))).1 + (1 : Int))), (List.getD out_19 (Int.toNat (IntKind.wrap .i64 ((((List.length out_19) : Nat) : Int) - (1 : Int)))) ((0 : Int), (0 : Int))).2)))], 5⟩ [0 ≤ (IntKind.wrap .i64 ((((List.length out_19) : Nat) : Int) - (1 : Int))), (IntKind.wrap .i64 ((((List.length out_19) : Nat) : Int) - (1 : Int))) < (((List.length out_19) : Nat) : Int), 0 ≤ (IntKind.wrap .i64 ((((List.length out_19) : Nat) : Int) - (1 : Int))), (IntKind.wrap .i64 ((((List.length out_19) : Nat) : Int) - (1 : Int))) < (((List.length out_19) : Nat) : Int)] (by kernel_rfl) rfl rfl (ap2 c_30.1 (ap2 c_30.2 (ap2 c_30.1 (ap1 c_30.2)))) ?_
        refine VL_nil (QB_end ?_)
        refine V_run hN hn 1 5 [0, 3, 4] [0, 4] ⟨[(0, .c (.h 0)), (3, .c (.h 4)), (4, .c (.val (.int .i64 (IntKind.wrap .i64 (i_3 + (1 : Int))))))], [(0, .row (.int .i64) l_1), (4, .row (.pair (.int .i64) (.int .i64)) (List.set out_19 (Int.toNat (IntKind.wrap .i64 ((((List.length out_19) : Nat) : Int) - (1 : Int)))) ((IntKind.wrap .i64 ((List.getD out_19 (Int.toNat (IntKind.wrap .i64 ((((List.length out_19) : Nat) : Int) - (1 : Int)))) ((0 : Int), (0 : Int))).1 + (1 : Int))), (List.getD out_19 (Int.toNat (IntKind.wrap .i64 ((((List.length out_19) : Nat) : Int) - (1 : Int)))) ((0 : Int), (0 : Int))).2)))], 5⟩ [] (by kernel_rfl) rfl rfl ap0 ?_
        refine VL_nil ?_
        exact V_roundEnd ((List.set out_19 (Int.toNat (IntKind.wrap .i64 ((((List.length out_19) : Nat) : Int) - (1 : Int)))) ((IntKind.wrap .i64 ((List.getD out_19 (Int.toNat (IntKind.wrap .i64 ((((List.length out_19) : Nat) : Int) - (1 : Int)))) ((0 : Int), (0 : Int))).1 + (1 : Int))), (List.getD out_19 (Int.toNat (IntKind.wrap .i64 ((((List.length out_19) : Nat) : Int) - (1 : Int)))) ((0 : Int), (0 : Int))).2)), (IntKind.wrap .i64 (i_3 + (1 : Int)))) H_53 [(4, 4)] hn (by kernel_rfl) (by kernel_rfl) rfl rfl rfl
      · intro b_29; have H_52 := of_f H_44 b_29
        obtain ⟨c_32, H_54⟩ := of_if H_52
        refine V_run hN hn 1 5 [0, 3, 4] [0, 6] ⟨[(0, .c (.h 0)), (3, .c (.h 6)), (4, .c (.val (.int .i64 i_3)))], [(0, .row (.int .i64) l_1), (6, .row (.pair (.int .i64) (.int .i64)) (out_19 ++ ([((1 : Int), (List.getD l_1 (Int.toNat i_3) (0 : Int)))] : List (Int × Int))))], 7⟩ [0 ≤ i_3, i_3 < (((List.length l_1) : Nat) : Int), (List.length out_19 + List.length ([((1 : Int), (List.getD l_1 (Int.toNat i_3) (0 : Int)))] : List (Int × Int))) * 16 ≤ 140737488355328] (by kernel_rfl) rfl rfl (ap2 c_32.1 (ap2 c_32.2.1 (ap1 c_32.2.2))) ?_
        refine VL_nil (QB_end ?_)
        refine V_run hN hn 1 7 [0, 3, 4] [0, 6] ⟨[(0, .c (.h 0)), (3, .c (.h 6)), (4, .c (.val (.int .i64 (IntKind.wrap .i64 (i_3 + (1 : Int))))))], [(0, .row (.int .i64) l_1), (6, .row (.pair (.int .i64) (.int .i64)) (out_19 ++ ([((1 : Int), (List.getD l_1 (Int.toNat i_3) (0 : Int)))] : List (Int × Int))))], 7⟩ [] (by kernel_rfl) rfl rfl ap0 ?_
        refine VL_nil ?_
        exact V_roundEnd ((out_19 ++ ([((1 : Int), (List.getD l_1 (Int.toNat i_3) (0 : Int)))] : List (Int × Int))), (IntKind.wrap .i64 (i_3 + (1 : Int)))) H_54 [(4, 6)] hn (by kernel_rfl) (by kernel_rfl) rfl rfl rfl
  · intro b_22; have H_41 := of_f H_39 b_22
    refine VL_exit ?_
    refine QL_exit ?_
    refine QB_here ?_
    refine V_run hN hn 2 5 [2] [0, 4] ⟨[(2, .c (.h 4))], [(0, .row (.int .i64) l_1), (4, .row (.pair (.int .i64) (.int .i64)) out_19)], 5⟩ [] (by kernel_rfl) rfl rfl ap0 ?_
    have H_55 := Option.some.inj (show some out_19 = some r from H_41); subst H_55
    refine VL_ret ?_
    exact P_to [(2, .c (.h 4))] [(0, .row (.int .i64) l_1), (4, .row (.pair (.int .i64) (.int .i64)) out_19)] [(4, 4)] hn (by kernel_rfl) (by kernel_rfl) rfl rfl rfl (QF_retS (by kernel_rfl) (by kernel_rfl) rfl)

theorem subset_isCount_spec (K : Nat) (n_1 : Int) (r : Bool) (H : subset_isCount K n_1 = some r) : Spec Try.prog 49 0 [.c (.val (.int .i64 n_1))] [] (.c (.val (.bool r))) [] := by
  refine Spec_mk (fn := Try.f49) (c := (Try.f49.body).get!) Try.func49 (by kernel_rfl) rfl ?_
  intro C hN hn
  replace hN : C.N = 9 := hN
  unfold subset_isCount at H
  refine V_run hN hn 3 0 [0] [] ⟨[(0, .c (.val (.int .i64 n_1)))], [], 0⟩ [] (by kernel_rfl) rfl rfl ap0 ?_
  rcases Bool.eq_false_or_eq_true ((decide (n_1 ≥ (0 : Int)))) with b_3 | b_3
  · have H_7 := of_t H b_3
    refine V_reg hN hn [] [(5, true)] calls_nil 0 [2] [] ⟨[(2, .c (.val (.bool (decide (n_1 ≤ (100 : Int))))))], [], 0⟩ [(decide (n_1 ≥ (0 : Int))) = true] (by kernel_rfl) rfl rfl (ap1 b_3) (by kernel_rfl) (by kernel_rfl) ?_
    have H_9 := Option.some.inj (show some (decide (n_1 ≤ (100 : Int))) = some r from H_7); subst H_9
    refine VL_ret ?_
    exact P_to [(2, .c (.val (.bool (decide (n_1 ≤ (100 : Int))))))] [] [] hn (by kernel_rfl) (by kernel_rfl) rfl rfl rfl (QF_retS (by kernel_rfl) (by kernel_rfl) rfl)
  · have H_8 := of_f H b_3
    refine V_reg hN hn [] [(5, false)] calls_nil 0 [2] [] ⟨[(2, .c (.val (.bool false)))], [], 0⟩ [(decide (n_1 ≥ (0 : Int))) = false] (by kernel_rfl) rfl rfl (ap1 b_3) (by kernel_rfl) (by kernel_rfl) ?_
    have H_10 := Option.some.inj (show some false = some r from H_8); subst H_10
    refine VL_ret ?_
    exact P_to [(2, .c (.val (.bool false)))] [] [] hn (by kernel_rfl) (by kernel_rfl) rfl rfl rfl (QF_retS (by kernel_rfl) (by kernel_rfl) rfl)

theorem subset_Of_r_spec (K : Nat) (segs_1 : (List (Int × Int))) (r : ((Option ((List (Int × Int)) × Int)) × Int)) (H : subset_Of_r K segs_1 = some r) : Spec Try.prog 25 1 [.c (.h 0)] [(0, .row (.pair (.int .i64) (.int .i64)) segs_1)] (.tup [(false, [.imm (.opt (.pair (.slice (.pair (.int .i64) (.int .i64))) (.int .i64))) r.1]), (false, [.val (.int .i64 r.2)])]) [(0, .row (.pair (.int .i64) (.int .i64)) segs_1)] := by
  refine Spec_mk (fn := Try.f25) (c := (Try.f25.body).get!) Try.func25 (by kernel_rfl) rfl ?_
  intro C hN hn
  replace hN : C.N = 42 := hN
  unfold subset_Of_r at H
  refine V_run hN hn 5 1 [0, 6, 7, 8] [0] ⟨[(0, .c (.h 0)), (6, .c (.h 0)), (7, .c (.val (.int .i64 (((List.length segs_1) : Nat) : Int)))), (8, .c (.val (.int .i64 (0 : Int))))], [(0, .row (.pair (.int .i64) (.int .i64)) segs_1)], 1⟩ [] (by kernel_rfl) rfl rfl ap0 ?_
  obtain ⟨q_33, H_34, H_35⟩ := of_bind H
  refine V_cut (Y := Unit) (R := (((Option ((List (Int × Int)) × Int)) × Int) ⊕ Unit)) q_33 (fun y => (Sum.inr y)) (fun y => [(0, .c (.h 0))]) (fun y => [(0, .row (.pair (.int .i64) (.int .i64)) segs_1)]) ?_ ?_
  · skip
    refine VL_block ?_
    refine V_to [(0, .c (.h 0)), (6, .c (.h 0)), (7, .c (.val (.int .i64 (((List.length segs_1) : Nat) : Int)))), (8, .c (.val (.int .i64 (0 : Int))))] [(0, .row (.pair (.int .i64) (.int .i64)) segs_1)] [] hn (by kernel_rfl) (by kernel_rfl) rfl rfl rfl ?_
    refine VL_loop (X := Int) (fun x => [(0, .c (.h 0)), (6, .c (.h 0)), (7, .c (.val (.int .i64 (((List.length segs_1) : Nat) : Int)))), (8, .c (.val (.int .i64 x)))]) (fun x => [(0, .row (.pair (.int .i64) (.int .i64)) segs_1)]) (fun k x => subset_Of_r.l0 K segs_1 k x = some q_33) K (0 : Int) H_34 (fun _ h => no_none h) ?_
    intro k_4 t_3 H_37
    have H_38 : subset_Of_r.l0 K segs_1 (k_4 + 1) t_3 = some q_33 := H_37
    rw [subset_Of_r.l0] at H_38
    refine V_run hN hn 3 1 [0, 6, 7, 8, 9] [0] ⟨[(0, .c (.h 0)), (6, .c (.h 0)), (7, .c (.val (.int .i64 (((List.length segs_1) : Nat) : Int)))), (8, .c (.val (.int .i64 t_3))), (9, .c (.val (.bool (decide (t_3 < (((List.length segs_1) : Nat) : Int))))))], [(0, .row (.pair (.int .i64) (.int .i64)) segs_1)], 1⟩ [] (by kernel_rfl) rfl rfl ap0 ?_
    refine VL_cond ((decide (t_3 < (((List.length segs_1) : Nat) : Int)))) (by kernel_rfl) ?_ ?_
    · intro b_6; have H_39 := of_t H_38 b_6
      refine V_run hN hn 2 1 [0, 6, 7, 8, 9] [0] ⟨[(0, .c (.h 0)), (6, .c (.h 0)), (7, .c (.val (.int .i64 (((List.length segs_1) : Nat) : Int)))), (8, .c (.val (.int .i64 t_3))), (9, .c (.val (.bool (decide (t_3 < (((List.length segs_1) : Nat) : Int))))))], [(0, .row (.pair (.int .i64) (.int .i64)) segs_1)], 1⟩ [] (by kernel_rfl) rfl rfl ap0 ?_
      refine VL_block ?_
      obtain ⟨c_8, H_41⟩ := of_if H_39
      refine V_run hN hn 3 1 [0, 4, 5, 6, 7, 8] [0, 1] ⟨[(0, .c (.h 0)), (4, .c (.val (.int .i64 t_3))), (5, .c (.h 1)), (6, .c (.h 0)), (7, .c (.val (.int .i64 (((List.length segs_1) : Nat) : Int)))), (8, .c (.val (.int .i64 t_3)))], [(0, .row (.pair (.int .i64) (.int .i64)) segs_1), (1, .box [.val (.int .i64 (List.getD segs_1 (Int.toNat t_3) ((0 : Int), (0 : Int))).1), .val (.int .i64 (List.getD segs_1 (Int.toNat t_3) ((0 : Int), (0 : Int))).2)])], 2⟩ [0 ≤ t_3, t_3 < (((List.length segs_1) : Nat) : Int)] (by kernel_rfl) rfl rfl (ap2 c_8.1 (ap1 c_8.2)) ?_
      obtain ⟨q_42, H_43, H_44⟩ := of_bind H_41
      refine V_cut (Y := Bool) (R := Bool) q_42 (fun y => y) (fun y => [(0, .c (.h 0)), (6, .c (.h 0)), (7, .c (.val (.int .i64 (((List.length segs_1) : Nat) : Int)))), (8, .c (.val (.int .i64 t_3))), (36, .c (.val (.bool y)))]) (fun y => [(0, .row (.pair (.int .i64) (.int .i64)) segs_1)]) ?_ ?_
      · skip
        rcases Bool.eq_false_or_eq_true ((decide ((List.getD segs_1 (Int.toNat t_3) ((0 : Int), (0 : Int))).1 < (1 : Int)))) with b_9 | b_9
        · have H_46 := of_t H_43 b_9
          refine V_draw hN hn (by kernel_rfl) [] [(16, true)] calls_nil 2 [0, 6, 7, 8, 36] [0] ⟨[(0, .c (.h 0)), (6, .c (.h 0)), (7, .c (.val (.int .i64 (((List.length segs_1) : Nat) : Int)))), (8, .c (.val (.int .i64 t_3))), (36, .c (.val (.bool true)))], [(0, .row (.pair (.int .i64) (.int .i64)) segs_1)], 2⟩ [(decide ((List.getD segs_1 (Int.toNat t_3) ((0 : Int), (0 : Int))).1 < (1 : Int))) = true] (by kernel_rfl) rfl rfl (ap1 b_9) (by kernel_rfl) (by kernel_rfl) ?_
          have H_48 := Option.some.inj (show some true = some q_42 from H_46); subst H_48
          refine VL_nil ?_
          exact QP_end true rfl [] hn (by kernel_rfl) (by kernel_rfl) rfl rfl rfl
        · have H_47 := of_f H_43 b_9
          obtain ⟨r_11, h_12, H_49⟩ := of_bind H_47
          rcases Bool.eq_false_or_eq_true ((!r_11)) with b_13 | b_13
          · have H_50 := of_t H_49 b_13
            refine V_draw hN hn (by kernel_rfl) [(6, ⟨49, 0, [.c (.val (.int .i64 (List.getD segs_1 (Int.toNat t_3) ((0 : Int), (0 : Int))).2))], [], .c (.val (.bool r_11)), [], [], 2⟩)] [(16, false), (22, true)] (calls_cons (subset_isCount_spec K (List.getD segs_1 (Int.toNat t_3) ((0 : Int), (0 : Int))).2 r_11 h_12) (by kernel_rfl) calls_nil) 2 [0, 6, 7, 8, 36] [0] ⟨[(0, .c (.h 0)), (6, .c (.h 0)), (7, .c (.val (.int .i64 (((List.length segs_1) : Nat) : Int)))), (8, .c (.val (.int .i64 t_3))), (36, .c (.val (.bool true)))], [(0, .row (.pair (.int .i64) (.int .i64)) segs_1)], 2⟩ [(decide ((List.getD segs_1 (Int.toNat t_3) ((0 : Int), (0 : Int))).1 < (1 : Int))) = false, (!r_11) = true] (by kernel_rfl) rfl rfl (ap2 b_9 (ap1 b_13)) (by kernel_rfl) (by kernel_rfl) ?_
            have H_52 := Option.some.inj (show some true = some q_42 from H_50); subst H_52
            refine VL_nil ?_
            exact QP_end true rfl [] hn (by kernel_rfl) (by kernel_rfl) rfl rfl rfl
          · have H_51 := of_f H_49 b_13
            rcases Bool.eq_false_or_eq_true ((decide (t_3 > (0 : Int)))) with b_15 | b_15
            · have H_53 := of_t H_51 b_15
              obtain ⟨c_16, H_55⟩ := of_if H_53
              refine V_draw hN hn (by kernel_rfl) [(6, ⟨49, 0, [.c (.val (.int .i64 (List.getD segs_1 (Int.toNat t_3) ((0 : Int), (0 : Int))).2))], [], .c (.val (.bool r_11)), [], [], 2⟩)] [(16, false), (22, false), (25, true)] (calls_cons (subset_isCount_spec K (List.getD segs_1 (Int.toNat t_3) ((0 : Int), (0 : Int))).2 r_11 h_12) (by kernel_rfl) calls_nil) 2 [0, 6, 7, 8, 36] [0] ⟨[(0, .c (.h 0)), (6, .c (.h 0)), (7, .c (.val (.int .i64 (((List.length segs_1) : Nat) : Int)))), (8, .c (.val (.int .i64 t_3))), (36, .c (.val (.bool ((List.getD segs_1 (Int.toNat t_3) ((0 : Int), (0 : Int))).2 == (List.getD segs_1 (Int.toNat (IntKind.wrap .i64 (t_3 - (1 : Int)))) ((0 : Int), (0 : Int))).2))))], [(0, .row (.pair (.int .i64) (.int .i64)) segs_1)], 2⟩ [(decide ((List.getD segs_1 (Int.toNat t_3) ((0 : Int), (0 : Int))).1 < (1 : Int))) = false, (!r_11) = false, (decide (t_3 > (0 : Int))) = true, 0 ≤ (IntKind.wrap .i64 (t_3 - (1 : Int))), (IntKind.wrap .i64 (t_3 - (1 : Int))) < (((List.length segs_1) : Nat) : Int)] (by kernel_rfl) rfl rfl (ap2 b_9 (ap2 b_13 (ap2 b_15 (ap2 c_16.1 (ap1 c_16.2))))) (by kernel_rfl) (by kernel_rfl) ?_
              have H_56 := Option.some.inj (show some ((List.getD segs_1 (Int.toNat t_3) ((0 : Int), (0 : Int))).2 == (List.getD segs_1 (Int.toNat (IntKind.wrap .i64 (t_3 - (1 : Int)))) ((0 : Int), (0 : Int))).2) = some q_42 from H_55); subst H_56
              refine VL_nil ?_
              exact QP_end ((List.getD segs_1 (Int.toNat t_3) ((0 : Int), (0 : Int))).2 == (List.getD segs_1 (Int.toNat (IntKind.wrap .i64 (t_3 - (1 : Int)))) ((0 : Int), (0 : Int))).2) rfl [] hn (by kernel_rfl) (by kernel_rfl) rfl rfl rfl
            · have H_54 := of_f H_51 b_15
              refine V_draw hN hn (by kernel_rfl) [(6, ⟨49, 0, [.c (.val (.int .i64 (List.getD segs_1 (Int.toNat t_3) ((0 : Int), (0 : Int))).2))], [], .c (.val (.bool r_11)), [], [], 2⟩)] [(16, false), (22, false), (25, false)] (calls_cons (subset_isCount_spec K (List.getD segs_1 (Int.toNat t_3) ((0 : Int), (0 : Int))).2 r_11 h_12) (by kernel_rfl) calls_nil) 2 [0, 6, 7, 8, 36] [0] ⟨[(0, .c (.h 0)), (6, .c (.h 0)), (7, .c (.val (.int .i64 (((List.length segs_1) : Nat) : Int)))), (8, .c (.val (.int .i64 t_3))), (36, .c (.val (.bool false)))], [(0, .row (.pair (.int .i64) (.int .i64)) segs_1)], 2⟩ [(decide ((List.getD segs_1 (Int.toNat t_3) ((0 : Int), (0 : Int))).1 < (1 : Int))) = false, (!r_11) = false, (decide (t_3 > (0 : Int))) = false] (by kernel_rfl) rfl rfl (ap2 b_9 (ap2 b_13 (ap1 b_15))) (by kernel_rfl) (by kernel_rfl) ?_
              have H_57 := Option.some.inj (show some false = some q_42 from H_54); subst H_57
              refine VL_nil ?_
              exact QP_end false rfl [] hn (by kernel_rfl) (by kernel_rfl) rfl rfl rfl
      · intro y_45 hy; subst hy
        skip
        skip
        refine VL_cond (y_45) (by kernel_rfl) ?_ ?_
        · intro b_19; have H_58 := of_t H_44 b_19
          refine V_run hN hn 2 2 [2, 3] [0] ⟨[(2, .c (.val (.pointer none))), (3, .c (.val (.int .i64 (12 : Int))))], [(0, .row (.pair (.int .i64) (.int .i64)) segs_1)], 2⟩ [] (by kernel_rfl) rfl rfl ap0 ?_
          have H_60 := Option.some.inj (show some (Sum.inl ((none : (Option ((List (Int × Int)) × Int))), (12 : Int))) = some q_33 from H_58); subst H_60
          have H_61 := Option.some.inj (show some ((none : (Option ((List (Int × Int)) × Int))), (12 : Int)) = some r from H_35); subst H_61
          refine VL_ret ?_
          refine QB_ret ?_
          refine QL_ret ?_
          refine QB_ret ?_
          refine QP_ret ?_
          refine P_ghost [.read 2 (.opt (.pair (.slice (.pair (.int .i64) (.int .i64))) (.int .i64)))] 2 hn [2, 3] [0] ⟨[(2, .c (.imm (.opt (.pair (.slice (.pair (.int .i64) (.int .i64))) (.int .i64))) (none : (Option ((List (Int × Int)) × Int))))), (3, .c (.val (.int .i64 (12 : Int))))], [(0, .row (.pair (.int .i64) (.int .i64)) segs_1)], 2⟩ (by kernel_rfl) rfl rfl ?_
          exact P_to [(2, .c (.imm (.opt (.pair (.slice (.pair (.int .i64) (.int .i64))) (.int .i64))) (none : (Option ((List (Int × Int)) × Int))))), (3, .c (.val (.int .i64 (12 : Int))))] [(0, .row (.pair (.int .i64) (.int .i64)) segs_1)] [] hn (by kernel_rfl) (by kernel_rfl) rfl rfl rfl (QF_retS (by kernel_rfl) (by kernel_rfl) rfl)
        · intro b_19; have H_59 := of_f H_44 b_19
          refine V_run hN hn 1 2 [0, 6, 7, 8, 36] [0] ⟨[(0, .c (.h 0)), (6, .c (.h 0)), (7, .c (.val (.int .i64 (((List.length segs_1) : Nat) : Int)))), (8, .c (.val (.int .i64 t_3))), (36, .c (.val (.bool y_45)))], [(0, .row (.pair (.int .i64) (.int .i64)) segs_1)], 2⟩ [] (by kernel_rfl) rfl rfl ap0 ?_
          refine VL_nil (QB_end ?_)
          refine V_run hN hn 1 2 [0, 6, 7, 8] [0] ⟨[(0, .c (.h 0)), (6, .c (.h 0)), (7, .c (.val (.int .i64 (((List.length segs_1) : Nat) : Int)))), (8, .c (.val (.int .i64 (IntKind.wrap .i64 (t_3 + (1 : Int))))))], [(0, .row (.pair (.int .i64) (.int .i64)) segs_1)], 2⟩ [] (by kernel_rfl) rfl rfl ap0 ?_
          refine VL_nil ?_
          exact V_roundEnd (IntKind.wrap .i64 (t_3 + (1 : Int))) H_59 [] hn (by kernel_rfl) (by kernel_rfl) rfl rfl rfl
    · intro b_6; have H_40 := of_f H_38 b_6
      refine VL_exit ?_
      refine QL_exit ?_
      refine QB_here ?_
      have H_62 := Option.some.inj (show some (Sum.inr ()) = some q_33 from H_40); subst H_62
      refine VL_nil ?_
      exact QP_end () rfl [] hn (by kernel_rfl) (by kernel_rfl) rfl rfl rfl
  · intro y_36 hy; subst hy
    skip
    refine V_run hN hn 1 1 [0] [0] ⟨[(0, .c (.h 0))], [(0, .row (.pair (.int .i64) (.int .i64)) segs_1)], 1⟩ [] (by kernel_rfl) rfl rfl ap0 ?_
    obtain ⟨r_24, h_25, H_63⟩ := of_bind H_35
    refine V_reg hN hn [(1, ⟨45, 1, [.c (.h 0)], [(0, .row (.pair (.int .i64) (.int .i64)) segs_1)], .tup [(false, [.imm (.opt (.pair (.slice (.pair (.int .i64) (.int .i64))) (.int .i64))) r_24.1]), (false, [.val (.int .i64 r_24.2)])], [(0, .row (.pair (.int .i64) (.int .i64)) segs_1)], [(0, 0)], 1⟩)] [] (calls_cons (subset_Pack_r_spec K segs_1 r_24 h_25) (by kernel_rfl) calls_nil) 1 [2, 3] [0] ⟨[(2, .c (.imm (.opt (.pair (.slice (.pair (.int .i64) (.int .i64))) (.int .i64))) r_24.1)), (3, .c (.val (.int .i64 r_24.2)))], [(0, .row (.pair (.int .i64) (.int .i64)) segs_1)], 1⟩ [] (by kernel_rfl) rfl rfl ap0 (by kernel_rfl) (by kernel_rfl) ?_
    have H_64 := Option.some.inj (show some (r_24.1, r_24.2) = some r from H_63); subst H_64
    refine VL_ret ?_
    exact P_to [(2, .c (.imm (.opt (.pair (.slice (.pair (.int .i64) (.int .i64))) (.int .i64))) r_24.1)), (3, .c (.val (.int .i64 r_24.2)))] [(0, .row (.pair (.int .i64) (.int .i64)) segs_1)] [] hn (by kernel_rfl) (by kernel_rfl) rfl rfl rfl (QF_retS (by kernel_rfl) (by kernel_rfl) rfl)

theorem palinoderef11_Kept_spec (K : Nat) (d_1 : Int) (d_2 : (List (Int × (Int × ByteArray)))) (r : (List Bool)) (H : palinoderef11_Kept K d_1 d_2 = some r) : Spec Try.prog 28 0 [.agg [.val (.int .i64 d_1), .imm (.slice (.pair (.int .i64) (.pair (.int .i64) .str))) d_2]] [] (.c (.h 1)) [(1, .row .bool r)] := by
  refine Spec_mk (fn := Try.f28) (c := (Try.f28.body).get!) Try.func28 (by kernel_rfl) rfl ?_
  intro C hN hn
  replace hN : C.N = 36 := hN
  unfold palinoderef11_Kept at H
  obtain ⟨c_3, H_53⟩ := of_if H
  refine V_run hN hn 7 0 [1, 3, 4] [0, 1] ⟨[(1, .c (.h 0)), (3, .c (.h 1)), (4, .c (.val (.int .i64 (0 : Int))))], [(0, .box [.val (.int .i64 d_1), .imm (.slice (.pair (.int .i64) (.pair (.int .i64) .str))) d_2]), (1, .row .bool (List.replicate (Int.toNat d_1) false))], 2⟩ [(0 : Int) ≤ d_1, d_1 ≤ d_1, d_1 * 1 ≤ (140737488355328 : Int), d_1 ≤ (9223372036854775807 : Int)] (by kernel_rfl) rfl rfl (ap2 c_3.1 (ap2 c_3.2.1 (ap2 c_3.2.2.1 (ap1 c_3.2.2.2)))) ?_
  refine VL_block ?_
  refine V_to [(1, .c (.h 0)), (3, .c (.h 1)), (4, .c (.val (.int .i64 (0 : Int))))] [(0, .box [.val (.int .i64 d_1), .imm (.slice (.pair (.int .i64) (.pair (.int .i64) .str))) d_2]), (1, .row .bool (List.replicate (Int.toNat d_1) false))] [(0, 0), (1, 1)] hn (by kernel_rfl) (by kernel_rfl) rfl rfl rfl ?_
  refine VL_loop (X := ((List Bool) × Int)) (fun x => [(1, .c (.h 0)), (3, .c (.h 1)), (4, .c (.val (.int .i64 x.2)))]) (fun x => [(0, .box [.val (.int .i64 d_1), .imm (.slice (.pair (.int .i64) (.pair (.int .i64) .str))) d_2]), (1, .row .bool x.1)]) (fun k x => palinoderef11_Kept.l0 K d_2 k x.1 x.2 = some r) K ((List.replicate (Int.toNat d_1) false), (0 : Int)) H_53 (fun _ h => no_none h) ?_
  intro k_28 x_28 H_54
  obtain ⟨out_27, i_4⟩ := x_28
  have H_55 : palinoderef11_Kept.l0 K d_2 (k_28 + 1) out_27 i_4 = some r := H_54
  rw [palinoderef11_Kept.l0] at H_55
  refine V_run hN hn 3 2 [1, 3, 4, 13] [0, 1] ⟨[(1, .c (.h 0)), (3, .c (.h 1)), (4, .c (.val (.int .i64 i_4))), (13, .c (.val (.bool (decide (i_4 < (((List.length d_2) : Nat) : Int))))))], [(0, .box [.val (.int .i64 d_1), .imm (.slice (.pair (.int .i64) (.pair (.int .i64) .str))) d_2]), (1, .row .bool out_27)], 2⟩ [] (by kernel_rfl) rfl rfl ap0 ?_
  refine VL_cond ((decide (i_4 < (((List.length d_2) : Nat) : Int)))) (by kernel_rfl) ?_ ?_
  · intro b_30; have H_56 := of_t H_55 b_30
    refine V_run hN hn 2 2 [1, 3, 4, 13] [0, 1] ⟨[(1, .c (.h 0)), (3, .c (.h 1)), (4, .c (.val (.int .i64 i_4))), (13, .c (.val (.bool (decide (i_4 < (((List.length d_2) : Nat) : Int))))))], [(0, .box [.val (.int .i64 d_1), .imm (.slice (.pair (.int .i64) (.pair (.int .i64) .str))) d_2]), (1, .row .bool out_27)], 2⟩ [] (by kernel_rfl) rfl rfl ap0 ?_
    obtain ⟨q_58, H_59, H_60⟩ := of_bind H_56
    refine V_cut (Y := (List Bool)) (R := (List Bool)) q_58 (fun y => y) (fun y => [(1, .c (.h 0)), (3, .c (.h 1)), (4, .c (.val (.int .i64 i_4)))]) (fun y => [(0, .box [.val (.int .i64 d_1), .imm (.slice (.pair (.int .i64) (.pair (.int .i64) .str))) d_2]), (1, .row .bool y)]) ?_ ?_
    · skip
      refine VL_block ?_
      obtain ⟨c_32, H_62⟩ := of_if H_59
      refine V_run hN hn 2 2 [1, 3, 4, 5] [0, 1] ⟨[(1, .c (.h 0)), (3, .c (.h 1)), (4, .c (.val (.int .i64 i_4))), (5, .c (.val (.int .i64 (List.getD d_2 (Int.toNat i_4) ((0 : Int), ((0 : Int), ByteArray.empty))).1)))], [(0, .box [.val (.int .i64 d_1), .imm (.slice (.pair (.int .i64) (.pair (.int .i64) .str))) d_2]), (1, .row .bool out_27)], 2⟩ [0 ≤ i_4, i_4 < (((List.length d_2) : Nat) : Int)] (by kernel_rfl) rfl rfl (ap2 c_32.1 (ap1 c_32.2)) ?_
      refine VL_block ?_
      refine V_to [(1, .c (.h 0)), (3, .c (.h 1)), (4, .c (.val (.int .i64 i_4))), (5, .c (.val (.int .i64 (List.getD d_2 (Int.toNat i_4) ((0 : Int), ((0 : Int), ByteArray.empty))).1)))] [(0, .box [.val (.int .i64 d_1), .imm (.slice (.pair (.int .i64) (.pair (.int .i64) .str))) d_2]), (1, .row .bool out_27)] [(0, 0), (1, 1)] hn (by kernel_rfl) (by kernel_rfl) rfl rfl rfl ?_
      refine VL_loop (X := ((List Bool) × Int)) (fun x => [(1, .c (.h 0)), (3, .c (.h 1)), (4, .c (.val (.int .i64 i_4))), (5, .c (.val (.int .i64 x.2)))]) (fun x => [(0, .box [.val (.int .i64 d_1), .imm (.slice (.pair (.int .i64) (.pair (.int .i64) .str))) d_2]), (1, .row .bool x.1)]) (fun k x => palinoderef11_Kept.l1 K d_2 i_4 k x.1 x.2 = some q_58) K (out_27, (List.getD d_2 (Int.toNat i_4) ((0 : Int), ((0 : Int), ByteArray.empty))).1) H_62 (fun _ h => no_none h) ?_
      intro k_41 x_41 H_63
      obtain ⟨out_40, k_33⟩ := x_41
      have H_64 : palinoderef11_Kept.l1 K d_2 i_4 (k_41 + 1) out_40 k_33 = some q_58 := H_63
      rw [palinoderef11_Kept.l1] at H_64
      refine V_run hN hn 3 2 [1, 3, 4, 5, 29] [0, 1] ⟨[(1, .c (.h 0)), (3, .c (.h 1)), (4, .c (.val (.int .i64 i_4))), (5, .c (.val (.int .i64 k_33))), (29, .c (.val (.bool (decide (k_33 < (List.getD d_2 (Int.toNat i_4) ((0 : Int), ((0 : Int), ByteArray.empty))).2.1)))))], [(0, .box [.val (.int .i64 d_1), .imm (.slice (.pair (.int .i64) (.pair (.int .i64) .str))) d_2]), (1, .row .bool out_40)], 2⟩ [0 ≤ i_4, i_4 < (((List.length d_2) : Nat) : Int)] (by kernel_rfl) rfl rfl (ap2 c_32.1 (ap1 c_32.2)) ?_
      refine VL_cond ((decide (k_33 < (List.getD d_2 (Int.toNat i_4) ((0 : Int), ((0 : Int), ByteArray.empty))).2.1))) (by kernel_rfl) ?_ ?_
      · intro b_43; have H_65 := of_t H_64 b_43
        refine V_run hN hn 2 2 [1, 3, 4, 5, 29] [0, 1] ⟨[(1, .c (.h 0)), (3, .c (.h 1)), (4, .c (.val (.int .i64 i_4))), (5, .c (.val (.int .i64 k_33))), (29, .c (.val (.bool (decide (k_33 < (List.getD d_2 (Int.toNat i_4) ((0 : Int), ((0 : Int), ByteArray.empty))).2.1)))))], [(0, .box [.val (.int .i64 d_1), .imm (.slice (.pair (.int .i64) (.pair (.int .i64) .str))) d_2]), (1, .row .bool out_40)], 2⟩ [] (by kernel_rfl) rfl rfl ap0 ?_
        refine VL_block ?_
        obtain ⟨c_45, H_67⟩ := of_if H_65
        refine V_run hN hn 1 2 [1, 3, 4, 5] [0, 1] ⟨[(1, .c (.h 0)), (3, .c (.h 1)), (4, .c (.val (.int .i64 i_4))), (5, .c (.val (.int .i64 k_33)))], [(0, .box [.val (.int .i64 d_1), .imm (.slice (.pair (.int .i64) (.pair (.int .i64) .str))) d_2]), (1, .row .bool (List.set out_40 (Int.toNat k_33) true))], 2⟩ [0 ≤ k_33, k_33 < (((List.length out_40) : Nat) : Int)] (by kernel_rfl) rfl rfl (ap2 c_45.1 (ap1 c_45.2)) ?_
        refine VL_nil (QB_end ?_)
        refine V_run hN hn 1 2 [1, 3, 4, 5] [0, 1] ⟨[(1, .c (.h 0)), (3, .c (.h 1)), (4, .c (.val (.int .i64 i_4))), (5, .c (.val (.int .i64 (IntKind.wrap .i64 (k_33 + (1 : Int))))))], [(0, .box [.val (.int .i64 d_1), .imm (.slice (.pair (.int .i64) (.pair (.int .i64) .str))) d_2]), (1, .row .bool (List.set out_40 (Int.toNat k_33) true))], 2⟩ [] (by kernel_rfl) rfl rfl ap0 ?_
        refine VL_nil ?_
        exact V_roundEnd ((List.set out_40 (Int.toNat k_33) true), (IntKind.wrap .i64 (k_33 + (1 : Int)))) H_67 [(0, 0), (1, 1)] hn (by kernel_rfl) (by kernel_rfl) rfl rfl rfl
      · intro b_43; have H_66 := of_f H_64 b_43
        refine VL_exit ?_
        refine QL_exit ?_
        refine QB_here ?_
        refine VL_nil (QB_end ?_)
        have H_68 := Option.some.inj (show some out_40 = some q_58 from H_66); subst H_68
        refine VL_nil ?_
        exact QP_end out_40 rfl [(0, 0), (1, 1)] hn (by kernel_rfl) (by kernel_rfl) rfl rfl rfl
    · intro y_61 hy; subst hy
      skip
      skip
      refine V_run hN hn 1 2 [1, 3, 4] [0, 1] ⟨[(1, .c (.h 0)), (3, .c (.h 1)), (4, .c (.val (.int .i64 (IntKind.wrap .i64 (i_4 + (1 : Int))))))], [(0, .box [.val (.int .i64 d_1), .imm (.slice (.pair (.int .i64) (.pair (.int .i64) .str))) d_2]), (1, .row .bool y_61)], 2⟩ [] (by kernel_rfl) rfl rfl ap0 ?_
      refine VL_nil ?_
      exact V_roundEnd (y_61, (IntKind.wrap .i64 (i_4 + (1 : Int)))) H_60 [(0, 0), (1, 1)] hn (by kernel_rfl) (by kernel_rfl) rfl rfl rfl
  · intro b_30; have H_57 := of_f H_55 b_30
    refine VL_exit ?_
    refine QL_exit ?_
    refine QB_here ?_
    refine V_run hN hn 2 2 [2] [1] ⟨[(2, .c (.h 1))], [(1, .row .bool out_27)], 2⟩ [] (by kernel_rfl) rfl rfl ap0 ?_
    have H_69 := Option.some.inj (show some out_27 = some r from H_57); subst H_69
    refine VL_ret ?_
    exact P_to [(2, .c (.h 1))] [(1, .row .bool out_27)] [(1, 1)] hn (by kernel_rfl) (by kernel_rfl) rfl rfl rfl (QF_retS (by kernel_rfl) (by kernel_rfl) rfl)

theorem palinoderef11_Join_rr_spec (K : Nat) (l_1 : (List (Int × Int))) (del_2 : (List Int)) (r : (List (Int × Int))) (H : palinoderef11_Join_rr K l_1 del_2 = some r) : Spec Try.prog 29 2 [.c (.h 0), .c (.h 1)] [(0, .row (.pair (.int .i64) (.int .u8)) l_1), (1, .row (.int .i64) del_2)] (.c (.h 5)) [(0, .row (.pair (.int .i64) (.int .u8)) l_1), (1, .row (.int .i64) del_2), (5, .row (.pair (.int .i64) (.int .u8)) r)] := by
  refine Spec_mk (fn := Try.f29) (c := (Try.f29.body).get!) Try.func29 (by kernel_rfl) rfl ?_
  intro C hN hn
  replace hN : C.N = 38 := hN
  unfold palinoderef11_Join_rr at H
  refine V_run hN hn 7 2 [0, 1, 5, 6] [0, 1] ⟨[(0, .c (.h 0)), (1, .c (.h 1)), (5, .c (.val (.slice none 0 0))), (6, .c (.val (.int .i64 (0 : Int))))], [(0, .row (.pair (.int .i64) (.int .u8)) l_1), (1, .row (.int .i64) del_2)], 2⟩ [] (by kernel_rfl) rfl rfl ap0 ?_
  refine VL_block ?_
  refine V_ghost [.nilSlot 5 (.pair (.int .i64) (.int .u8))] 2 hn [0, 1, 5, 6] [0, 1, 2] ⟨[(0, .c (.h 0)), (1, .c (.h 1)), (5, .c (.h 2)), (6, .c (.val (.int .i64 (0 : Int))))], [(0, .row (.pair (.int .i64) (.int .u8)) l_1), (1, .row (.int .i64) del_2), (2, .row (.pair (.int .i64) (.int .u8)) ([] : List (Int × Int)))], 3⟩ (by kernel_rfl) rfl rfl ?_
  refine V_to [(0, .c (.h 0)), (1, .c (.h 1)), (5, .c (.h 5)), (6, .c (.val (.int .i64 (0 : Int))))] [(0, .row (.pair (.int .i64) (.int .u8)) l_1), (1, .row (.int .i64) del_2), (5, .row (.pair (.int .i64) (.int .u8)) ([] : List (Int × Int)))] [(5, 2)] hn (by kernel_rfl) (by kernel_rfl) rfl rfl rfl ?_
  refine VL_loop (X := ((List (Int × Int)) × Int)) (fun x => [(0, .c (.h 0)), (1, .c (.h 1)), (5, .c (.h 5)), (6, .c (.val (.int .i64 x.2)))]) (fun x => [(0, .row (.pair (.int .i64) (.int .u8)) l_1), (1, .row (.int .i64) del_2), (5, .row (.pair (.int .i64) (.int .u8)) x.1)]) (fun k x => palinoderef11_Join_rr.l0 K l_1 del_2 k x.1 x.2 = some r) K (([] : List (Int × Int)), (0 : Int)) H (fun _ h => no_none h) ?_
  intro k_21 x_21 H_39
  obtain ⟨out_20, i_4⟩ := x_21
  have H_40 : palinoderef11_Join_rr.l0 K l_1 del_2 (k_21 + 1) out_20 i_4 = some r := H_39
  rw [palinoderef11_Join_rr.l0] at H_40
  refine V_run hN hn 3 6 [0, 1, 5, 6, 10] [0, 1, 5] ⟨[(0, .c (.h 0)), (1, .c (.h 1)), (5, .c (.h 5)), (6, .c (.val (.int .i64 i_4))), (10, .c (.val (.bool (decide (i_4 < (((List.length l_1) : Nat) : Int))))))], [(0, .row (.pair (.int .i64) (.int .u8)) l_1), (1, .row (.int .i64) del_2), (5, .row (.pair (.int .i64) (.int .u8)) out_20)], 6⟩ [] (by kernel_rfl) rfl rfl ap0 ?_
  refine VL_cond ((decide (i_4 < (((List.length l_1) : Nat) : Int)))) (by kernel_rfl) ?_ ?_
  · intro b_23; have H_41 := of_t H_40 b_23
    refine V_run hN hn 2 6 [0, 1, 5, 6, 10] [0, 1, 5] ⟨[(0, .c (.h 0)), (1, .c (.h 1)), (5, .c (.h 5)), (6, .c (.val (.int .i64 i_4))), (10, .c (.val (.bool (decide (i_4 < (((List.length l_1) : Nat) : Int))))))], [(0, .row (.pair (.int .i64) (.int .u8)) l_1), (1, .row (.int .i64) del_2), (5, .row (.pair (.int .i64) (.int .u8)) out_20)], 6⟩ [] (by kernel_rfl) rfl rfl ap0 ?_
    refine VL_block ?_
    refine V_run hN hn 1 6 [0, 1, 5, 6, 10] [0, 1, 5] ⟨[(0, .c (.h 0)), (1, .c (.h 1)), (5, .c (.h 5)), (6, .c (.val (.int .i64 i_4))), (10, .c (.val (.bool (decide (i_4 < (((List.length l_1) : Nat) : Int))))))], [(0, .row (.pair (.int .i64) (.int .u8)) l_1), (1, .row (.int .i64) del_2), (5, .row (.pair (.int .i64) (.int .u8)) out_20)], 6⟩ [] (by kernel_rfl) rfl rfl ap0 ?_
    obtain ⟨q_43, H_44, H_45⟩ := of_bind H_41
    refine V_cut (Y := Bool) (R := Bool) q_43 (fun y => y) (fun y => [(0, .c (.h 0)), (1, .c (.h 1)), (5, .c (.h 5)), (6, .c (.val (.int .i64 i_4))), (29, .c (.val (.bool y)))]) (fun y => [(0, .row (.pair (.int .i64) (.int .u8)) l_1), (1, .row (.int .i64) del_2), (5, .row (.pair (.int .i64) (.int .u8)) out_20)]) ?_ ?_
    · skip
      rcases Bool.eq_false_or_eq_true ((decide ((List.getD l_1 (Int.toNat i_4) ((0 : Int), (0 : Int))).1 < (0 : Int)))) with b_26 | b_26
      · have H_47 := of_t H_44 b_26
        obtain ⟨c_27, H_49⟩ := of_if H_47
        refine V_reg hN hn [] [(19, true)] calls_nil 6 [0, 1, 5, 6, 29] [0, 1, 5] ⟨[(0, .c (.h 0)), (1, .c (.h 1)), (5, .c (.h 5)), (6, .c (.val (.int .i64 i_4))), (29, .c (.val (.bool true)))], [(0, .row (.pair (.int .i64) (.int .u8)) l_1), (1, .row (.int .i64) del_2), (5, .row (.pair (.int .i64) (.int .u8)) out_20)], 6⟩ [0 ≤ i_4, i_4 < (((List.length l_1) : Nat) : Int), (decide ((List.getD l_1 (Int.toNat i_4) ((0 : Int), (0 : Int))).1 < (0 : Int))) = true] (by kernel_rfl) rfl rfl (ap2 c_27.1 (ap2 c_27.2 (ap1 b_26))) (by kernel_rfl) (by kernel_rfl) ?_
        have H_50 := Option.some.inj (show some true = some q_43 from H_49); subst H_50
        refine VL_nil ?_
        exact QP_end true rfl [(5, 5)] hn (by kernel_rfl) (by kernel_rfl) rfl rfl rfl
      · have H_48 := of_f H_44 b_26
        obtain ⟨c_28, H_51⟩ := of_if H_48
        refine V_reg hN hn [] [(19, false)] calls_nil 6 [0, 1, 5, 6, 29] [0, 1, 5] ⟨[(0, .c (.h 0)), (1, .c (.h 1)), (5, .c (.h 5)), (6, .c (.val (.int .i64 i_4))), (29, .c (.val (.bool ((List.getD del_2 (Int.toNat (List.getD l_1 (Int.toNat i_4) ((0 : Int), (0 : Int))).1) (0 : Int)) == (0 : Int)))))], [(0, .row (.pair (.int .i64) (.int .u8)) l_1), (1, .row (.int .i64) del_2), (5, .row (.pair (.int .i64) (.int .u8)) out_20)], 6⟩ [0 ≤ i_4, i_4 < (((List.length l_1) : Nat) : Int), (decide ((List.getD l_1 (Int.toNat i_4) ((0 : Int), (0 : Int))).1 < (0 : Int))) = false, 0 ≤ i_4, i_4 < (((List.length l_1) : Nat) : Int), 0 ≤ (List.getD l_1 (Int.toNat i_4) ((0 : Int), (0 : Int))).1, (List.getD l_1 (Int.toNat i_4) ((0 : Int), (0 : Int))).1 < (((List.length del_2) : Nat) : Int)] (by kernel_rfl) rfl rfl (ap2 c_28.1 (ap2 c_28.2.1 (ap2 b_26 (ap2 c_28.1 (ap2 c_28.2.1 (ap2 c_28.2.2.1 (ap1 c_28.2.2.2))))))) (by kernel_rfl) (by kernel_rfl) ?_
        have H_52 := Option.some.inj (show some ((List.getD del_2 (Int.toNat (List.getD l_1 (Int.toNat i_4) ((0 : Int), (0 : Int))).1) (0 : Int)) == (0 : Int)) = some q_43 from H_51); subst H_52
        refine VL_nil ?_
        exact QP_end ((List.getD del_2 (Int.toNat (List.getD l_1 (Int.toNat i_4) ((0 : Int), (0 : Int))).1) (0 : Int)) == (0 : Int)) rfl [(5, 5)] hn (by kernel_rfl) (by kernel_rfl) rfl rfl rfl
    · intro y_46 hy; subst hy
      skip
      skip
      refine VL_cond (y_46) (by kernel_rfl) ?_ ?_
      · intro b_30; have H_53 := of_t H_45 b_30
        obtain ⟨c_31, H_55⟩ := of_if H_53
        refine V_run hN hn 1 6 [0, 1, 5, 6] [0, 1, 7] ⟨[(0, .c (.h 0)), (1, .c (.h 1)), (5, .c (.h 7)), (6, .c (.val (.int .i64 i_4)))], [(0, .row (.pair (.int .i64) (.int .u8)) l_1), (1, .row (.int .i64) del_2), (7, .row (.pair (.int .i64) (.int .u8)) (out_20 ++ ([((List.getD l_1 (Int.toNat i_4) ((0 : Int), (0 : Int))).1, (List.getD l_1 (Int.toNat i_4) ((0 : Int), (0 : Int))).2)] : List (Int × Int))))], 8⟩ [0 ≤ i_4, i_4 < (((List.length l_1) : Nat) : Int), (List.length out_20 + List.length ([((List.getD l_1 (Int.toNat i_4) ((0 : Int), (0 : Int))).1, (List.getD l_1 (Int.toNat i_4) ((0 : Int), (0 : Int))).2)] : List (Int × Int))) * 16 ≤ 140737488355328] (by kernel_rfl) rfl rfl (ap2 c_31.1 (ap2 c_31.2.1 (ap1 c_31.2.2))) ?_
        refine VL_nil (QB_end ?_)
        refine V_run hN hn 1 8 [0, 1, 5, 6] [0, 1, 7] ⟨[(0, .c (.h 0)), (1, .c (.h 1)), (5, .c (.h 7)), (6, .c (.val (.int .i64 (IntKind.wrap .i64 (i_4 + (1 : Int))))))], [(0, .row (.pair (.int .i64) (.int .u8)) l_1), (1, .row (.int .i64) del_2), (7, .row (.pair (.int .i64) (.int .u8)) (out_20 ++ ([((List.getD l_1 (Int.toNat i_4) ((0 : Int), (0 : Int))).1, (List.getD l_1 (Int.toNat i_4) ((0 : Int), (0 : Int))).2)] : List (Int × Int))))], 8⟩ [] (by kernel_rfl) rfl rfl ap0 ?_
        refine VL_nil ?_
        exact V_roundEnd ((out_20 ++ ([((List.getD l_1 (Int.toNat i_4) ((0 : Int), (0 : Int))).1, (List.getD l_1 (Int.toNat i_4) ((0 : Int), (0 : Int))).2)] : List (Int × Int))), (IntKind.wrap .i64 (i_4 + (1 : Int)))) H_55 [(5, 7)] hn (by kernel_rfl) (by kernel_rfl) rfl rfl rfl
      · intro b_30; have H_54 := of_f H_45 b_30
        refine V_run hN hn 1 6 [0, 1, 5, 6, 29] [0, 1, 5] ⟨[(0, .c (.h 0)), (1, .c (.h 1)), (5, .c (.h 5)), (6, .c (.val (.int .i64 i_4))), (29, .c (.val (.bool y_46)))], [(0, .row (.pair (.int .i64) (.int .u8)) l_1), (1, .row (.int .i64) del_2), (5, .row (.pair (.int .i64) (.int .u8)) out_20)], 6⟩ [] (by kernel_rfl) rfl rfl ap0 ?_
        refine VL_nil (QB_end ?_)
        refine V_run hN hn 1 6 [0, 1, 5, 6] [0, 1, 5] ⟨[(0, .c (.h 0)), (1, .c (.h 1)), (5, .c (.h 5)), (6, .c (.val (.int .i64 (IntKind.wrap .i64 (i_4 + (1 : Int))))))], [(0, .row (.pair (.int .i64) (.int .u8)) l_1), (1, .row (.int .i64) del_2), (5, .row (.pair (.int .i64) (.int .u8)) out_20)], 6⟩ [] (by kernel_rfl) rfl rfl ap0 ?_
        refine VL_nil ?_
        exact V_roundEnd (out_20, (IntKind.wrap .i64 (i_4 + (1 : Int)))) H_54 [(5, 5)] hn (by kernel_rfl) (by kernel_rfl) rfl rfl rfl
  · intro b_23; have H_42 := of_f H_40 b_23
    refine VL_exit ?_
    refine QL_exit ?_
    refine QB_here ?_
    refine V_run hN hn 2 6 [4] [0, 1, 5] ⟨[(4, .c (.h 5))], [(0, .row (.pair (.int .i64) (.int .u8)) l_1), (1, .row (.int .i64) del_2), (5, .row (.pair (.int .i64) (.int .u8)) out_20)], 6⟩ [] (by kernel_rfl) rfl rfl ap0 ?_
    have H_56 := Option.some.inj (show some out_20 = some r from H_42); subst H_56
    refine VL_ret ?_
    exact P_to [(4, .c (.h 5))] [(0, .row (.pair (.int .i64) (.int .u8)) l_1), (1, .row (.int .i64) del_2), (5, .row (.pair (.int .i64) (.int .u8)) out_20)] [(5, 5)] hn (by kernel_rfl) (by kernel_rfl) rfl rfl rfl (QF_retS (by kernel_rfl) (by kernel_rfl) rfl)

theorem palinodelaw12_FactorJoins_spec (K : Nat) (ins_1 : Int) (ins_2 : (List (Int × (Int × ByteArray)))) (del_3 : (List Int)) (r : Bool) (H : palinodelaw12_FactorJoins K ins_1 ins_2 del_3 = some r) : Spec Try.prog 5 0 [.agg [.val (.int .i64 ins_1), .imm (.slice (.pair (.int .i64) (.pair (.int .i64) .str))) ins_2], .c (.imm (.slice (.int .u8)) del_3)] [] (.c (.val (.bool r))) [] := by
  refine Spec_mk (fn := Try.f5) (c := (Try.f5.body).get!) Try.func5 (by kernel_rfl) rfl ?_
  intro C hN hn
  replace hN : C.N = 126 := hN
  unfold palinodelaw12_FactorJoins at H
  refine V_run hN hn 4 0 [1, 2] [0] ⟨[(1, .c (.imm (.slice (.int .u8)) del_3)), (2, .c (.h 0))], [(0, .box [.val (.int .i64 ins_1), .imm (.slice (.pair (.int .i64) (.pair (.int .i64) .str))) ins_2])], 1⟩ [] (by kernel_rfl) rfl rfl ap0 ?_
  obtain ⟨r_5, h_6, H_104⟩ := of_bind H
  refine V_reg hN hn [(0, ⟨8, 0, [], [], .c (.val (.bool r_5)), [], [], 1⟩)] [] (calls_cons (palinodelaw12_known_spec K  r_5 h_6) (by kernel_rfl) calls_nil) 1 [1, 2, 17] [0] ⟨[(1, .c (.imm (.slice (.int .u8)) del_3)), (2, .c (.h 0)), (17, .c (.val (.bool (!r_5))))], [(0, .box [.val (.int .i64 ins_1), .imm (.slice (.pair (.int .i64) (.pair (.int .i64) .str))) ins_2])], 1⟩ [] (by kernel_rfl) rfl rfl ap0 (by kernel_rfl) (by kernel_rfl) ?_
  refine VL_cond ((!r_5)) (by kernel_rfl) ?_ ?_
  · intro b_8; have H_105 := of_t H_104 b_8
    refine V_run hN hn 2 1 [4] [] ⟨[(4, .c (.val (.bool false)))], [], 1⟩ [] (by kernel_rfl) rfl rfl ap0 ?_
    have H_107 := Option.some.inj (show some false = some r from H_105); subst H_107
    refine VL_ret ?_
    exact P_to [(4, .c (.val (.bool false)))] [] [] hn (by kernel_rfl) (by kernel_rfl) rfl rfl rfl (QF_retS (by kernel_rfl) (by kernel_rfl) rfl)
  · intro b_8; have H_106 := of_f H_104 b_8
    refine V_run hN hn 3 1 [1, 2, 17] [0] ⟨[(1, .c (.imm (.slice (.int .u8)) del_3)), (2, .c (.h 0)), (17, .c (.val (.bool (!r_5))))], [(0, .box [.val (.int .i64 ins_1), .imm (.slice (.pair (.int .i64) (.pair (.int .i64) .str))) ins_2])], 1⟩ [] (by kernel_rfl) rfl rfl ap0 ?_
    obtain ⟨q_108, H_109, H_110⟩ := of_bind H_106
    refine V_cut (Y := Bool) (R := Bool) q_108 (fun y => y) (fun y => [(1, .c (.imm (.slice (.int .u8)) del_3)), (2, .c (.h 0)), (25, .c (.val (.bool y)))]) (fun y => [(0, .box [.val (.int .i64 ins_1), .imm (.slice (.pair (.int .i64) (.pair (.int .i64) .str))) ins_2])]) ?_ ?_
    · skip
      obtain ⟨r_11, h_12, H_112⟩ := of_bind H_109
      rcases Bool.eq_false_or_eq_true ((!r_11)) with b_13 | b_13
      · have H_113 := of_t H_112 b_13
        refine V_reg hN hn [(1, ⟨9, 0, [.agg [.val (.int .i64 ins_1), .imm (.slice (.pair (.int .i64) (.pair (.int .i64) .str))) ins_2]], [], .c (.val (.bool r_11)), [], [], 1⟩)] [(21, true)] (calls_cons (palinodelaw12_few_spec K ins_1 ins_2 r_11 h_12) (by kernel_rfl) calls_nil) 1 [1, 2, 25] [0] ⟨[(1, .c (.imm (.slice (.int .u8)) del_3)), (2, .c (.h 0)), (25, .c (.val (.bool true)))], [(0, .box [.val (.int .i64 ins_1), .imm (.slice (.pair (.int .i64) (.pair (.int .i64) .str))) ins_2])], 1⟩ [(!r_11) = true] (by kernel_rfl) rfl rfl (ap1 b_13) (by kernel_rfl) (by kernel_rfl) ?_
        have H_115 := Option.some.inj (show some true = some q_108 from H_113); subst H_115
        refine VL_nil ?_
        exact QP_end true rfl [(0, 0)] hn (by kernel_rfl) (by kernel_rfl) rfl rfl rfl
      · have H_114 := of_f H_112 b_13
        refine V_reg hN hn [(1, ⟨9, 0, [.agg [.val (.int .i64 ins_1), .imm (.slice (.pair (.int .i64) (.pair (.int .i64) .str))) ins_2]], [], .c (.val (.bool r_11)), [], [], 1⟩)] [(21, false)] (calls_cons (palinodelaw12_few_spec K ins_1 ins_2 r_11 h_12) (by kernel_rfl) calls_nil) 1 [1, 2, 25] [0] ⟨[(1, .c (.imm (.slice (.int .u8)) del_3)), (2, .c (.h 0)), (25, .c (.val (.bool (decide ((((List.length del_3) : Nat) : Int) > (400 : Int))))))], [(0, .box [.val (.int .i64 ins_1), .imm (.slice (.pair (.int .i64) (.pair (.int .i64) .str))) ins_2])], 1⟩ [(!r_11) = false] (by kernel_rfl) rfl rfl (ap1 b_13) (by kernel_rfl) (by kernel_rfl) ?_
        have H_116 := Option.some.inj (show some (decide ((((List.length del_3) : Nat) : Int) > (400 : Int))) = some q_108 from H_114); subst H_116
        refine VL_nil ?_
        exact QP_end (decide ((((List.length del_3) : Nat) : Int) > (400 : Int))) rfl [(0, 0)] hn (by kernel_rfl) (by kernel_rfl) rfl rfl rfl
    · intro y_111 hy; subst hy
      skip
      skip
      refine VL_cond (y_111) (by kernel_rfl) ?_ ?_
      · intro b_17; have H_117 := of_t H_110 b_17
        refine V_run hN hn 2 1 [4] [] ⟨[(4, .c (.val (.bool true)))], [], 1⟩ [] (by kernel_rfl) rfl rfl ap0 ?_
        have H_119 := Option.some.inj (show some true = some r from H_117); subst H_119
        refine VL_ret ?_
        exact P_to [(4, .c (.val (.bool true)))] [] [] hn (by kernel_rfl) (by kernel_rfl) rfl rfl rfl (QF_retS (by kernel_rfl) (by kernel_rfl) rfl)
      · intro b_17; have H_118 := of_f H_110 b_17
        refine V_run hN hn 6 1 [1, 2, 5, 6] [0] ⟨[(1, .c (.imm (.slice (.int .u8)) del_3)), (2, .c (.h 0)), (5, .c (.val (.slice none 0 0))), (6, .c (.val (.int .i64 (0 : Int))))], [(0, .box [.val (.int .i64 ins_1), .imm (.slice (.pair (.int .i64) (.pair (.int .i64) .str))) ins_2])], 1⟩ [] (by kernel_rfl) rfl rfl ap0 ?_
        obtain ⟨q_120, H_121, H_122⟩ := of_bind H_118
        refine V_cut (Y := (List Int)) (R := (List Int)) q_120 (fun y => y) (fun y => [(2, .c (.h 0)), (5, .c (.h 4))]) (fun y => [(0, .box [.val (.int .i64 ins_1), .imm (.slice (.pair (.int .i64) (.pair (.int .i64) .str))) ins_2]), (4, .row (.int .i64) y)]) ?_ ?_
        · skip
          refine VL_block ?_
          refine V_ghost [.nilSlot 5 (.int .i64)] 1 hn [1, 2, 5, 6] [0, 1] ⟨[(1, .c (.imm (.slice (.int .u8)) del_3)), (2, .c (.h 0)), (5, .c (.h 1)), (6, .c (.val (.int .i64 (0 : Int))))], [(0, .box [.val (.int .i64 ins_1), .imm (.slice (.pair (.int .i64) (.pair (.int .i64) .str))) ins_2]), (1, .row (.int .i64) ([] : List Int))], 2⟩ (by kernel_rfl) rfl rfl ?_
          refine V_to [(1, .c (.imm (.slice (.int .u8)) del_3)), (2, .c (.h 0)), (5, .c (.h 4)), (6, .c (.val (.int .i64 (0 : Int))))] [(0, .box [.val (.int .i64 ins_1), .imm (.slice (.pair (.int .i64) (.pair (.int .i64) .str))) ins_2]), (4, .row (.int .i64) ([] : List Int))] [(0, 0), (4, 1)] hn (by kernel_rfl) (by kernel_rfl) rfl rfl rfl ?_
          refine VL_loop (X := ((List Int) × Int)) (fun x => [(1, .c (.imm (.slice (.int .u8)) del_3)), (2, .c (.h 0)), (5, .c (.h 4)), (6, .c (.val (.int .i64 x.2)))]) (fun x => [(0, .box [.val (.int .i64 ins_1), .imm (.slice (.pair (.int .i64) (.pair (.int .i64) .str))) ins_2]), (4, .row (.int .i64) x.1)]) (fun k x => palinodelaw12_FactorJoins.l0 K del_3 k x.1 x.2 = some q_120) K (([] : List Int), (0 : Int)) H_121 (fun _ h => no_none h) ?_
          intro k_28 x_28 H_124
          obtain ⟨l_27, i_20⟩ := x_28
          have H_125 : palinodelaw12_FactorJoins.l0 K del_3 (k_28 + 1) l_27 i_20 = some q_120 := H_124
          rw [palinodelaw12_FactorJoins.l0] at H_125
          refine V_run hN hn 3 5 [1, 2, 5, 6, 29] [0, 4] ⟨[(1, .c (.imm (.slice (.int .u8)) del_3)), (2, .c (.h 0)), (5, .c (.h 4)), (6, .c (.val (.int .i64 i_20))), (29, .c (.val (.bool (decide (i_20 < (((List.length del_3) : Nat) : Int))))))], [(0, .box [.val (.int .i64 ins_1), .imm (.slice (.pair (.int .i64) (.pair (.int .i64) .str))) ins_2]), (4, .row (.int .i64) l_27)], 5⟩ [] (by kernel_rfl) rfl rfl ap0 ?_
          refine VL_cond ((decide (i_20 < (((List.length del_3) : Nat) : Int)))) (by kernel_rfl) ?_ ?_
          · intro b_30; have H_126 := of_t H_125 b_30
            refine V_run hN hn 2 5 [1, 2, 5, 6, 29] [0, 4] ⟨[(1, .c (.imm (.slice (.int .u8)) del_3)), (2, .c (.h 0)), (5, .c (.h 4)), (6, .c (.val (.int .i64 i_20))), (29, .c (.val (.bool (decide (i_20 < (((List.length del_3) : Nat) : Int))))))], [(0, .box [.val (.int .i64 ins_1), .imm (.slice (.pair (.int .i64) (.pair (.int .i64) .str))) ins_2]), (4, .row (.int .i64) l_27)], 5⟩ [] (by kernel_rfl) rfl rfl ap0 ?_
            refine VL_block ?_
            obtain ⟨c_32, H_128⟩ := of_if H_126
            refine V_draw hN hn (by kernel_rfl) [] [] calls_nil 5 [1, 2, 5, 6] [0, 6] ⟨[(1, .c (.imm (.slice (.int .u8)) del_3)), (2, .c (.h 0)), (5, .c (.h 6)), (6, .c (.val (.int .i64 i_20)))], [(0, .box [.val (.int .i64 ins_1), .imm (.slice (.pair (.int .i64) (.pair (.int .i64) .str))) ins_2]), (6, .row (.int .i64) (l_27 ++ ([(IntKind.wrap .i64 ((IntKind.wrap .i64 (Int.tmod (List.getD del_3 (Int.toNat i_20) (0 : Int)) (3 : Int))) * (IntKind.wrap .i64 (Int.tmod (IntKind.wrap .u8 (Int.tdiv (List.getD del_3 (Int.toNat i_20) (0 : Int)) (3 : Int))) (2 : Int)))))] : List Int)))], 7⟩ [0 ≤ i_20, i_20 < (((List.length del_3) : Nat) : Int), (3 : Int) ≠ (0 : Int), 0 ≤ i_20, i_20 < (((List.length del_3) : Nat) : Int), (3 : Int) ≠ (0 : Int), (2 : Int) ≠ (0 : Int), (List.length l_27 + List.length ([(IntKind.wrap .i64 ((IntKind.wrap .i64 (Int.tmod (List.getD del_3 (Int.toNat i_20) (0 : Int)) (3 : Int))) * (IntKind.wrap .i64 (Int.tmod (IntKind.wrap .u8 (Int.tdiv (List.getD del_3 (Int.toNat i_20) (0 : Int)) (3 : Int))) (2 : Int)))))] : List Int)) * 8 ≤ 140737488355328] (by kernel_rfl) rfl rfl (ap2 c_32.1 (ap2 c_32.2.1 (ap2 (by decide) (ap2 c_32.1 (ap2 c_32.2.1 (ap2 (by decide) (ap2 (by decide) (ap1 c_32.2.2)))))))) (by kernel_rfl) (by kernel_rfl) ?_
            refine VL_nil (QB_end ?_)
            refine V_run hN hn 1 7 [1, 2, 5, 6] [0, 6] ⟨[(1, .c (.imm (.slice (.int .u8)) del_3)), (2, .c (.h 0)), (5, .c (.h 6)), (6, .c (.val (.int .i64 (IntKind.wrap .i64 (i_20 + (1 : Int))))))], [(0, .box [.val (.int .i64 ins_1), .imm (.slice (.pair (.int .i64) (.pair (.int .i64) .str))) ins_2]), (6, .row (.int .i64) (l_27 ++ ([(IntKind.wrap .i64 ((IntKind.wrap .i64 (Int.tmod (List.getD del_3 (Int.toNat i_20) (0 : Int)) (3 : Int))) * (IntKind.wrap .i64 (Int.tmod (IntKind.wrap .u8 (Int.tdiv (List.getD del_3 (Int.toNat i_20) (0 : Int)) (3 : Int))) (2 : Int)))))] : List Int)))], 7⟩ [] (by kernel_rfl) rfl rfl ap0 ?_
            refine VL_nil ?_
            exact V_roundEnd ((l_27 ++ ([(IntKind.wrap .i64 ((IntKind.wrap .i64 (Int.tmod (List.getD del_3 (Int.toNat i_20) (0 : Int)) (3 : Int))) * (IntKind.wrap .i64 (Int.tmod (IntKind.wrap .u8 (Int.tdiv (List.getD del_3 (Int.toNat i_20) (0 : Int)) (3 : Int))) (2 : Int)))))] : List Int)), (IntKind.wrap .i64 (i_20 + (1 : Int)))) H_128 [(0, 0), (4, 6)] hn (by kernel_rfl) (by kernel_rfl) rfl rfl rfl
          · intro b_30; have H_127 := of_f H_125 b_30
            refine VL_exit ?_
            refine QL_exit ?_
            refine QB_here ?_
            have H_129 := Option.some.inj (show some l_27 = some q_120 from H_127); subst H_129
            refine VL_nil ?_
            exact QP_end l_27 rfl [(0, 0), (4, 4)] hn (by kernel_rfl) (by kernel_rfl) rfl rfl rfl
        · intro y_123 hy; subst hy
          skip
          skip
          refine V_run hN hn 1 5 [2, 5] [0, 4] ⟨[(2, .c (.h 0)), (5, .c (.h 4))], [(0, .box [.val (.int .i64 ins_1), .imm (.slice (.pair (.int .i64) (.pair (.int .i64) .str))) ins_2]), (4, .row (.int .i64) y_123)], 5⟩ [] (by kernel_rfl) rfl rfl ap0 ?_
          obtain ⟨r_36, h_37, H_130⟩ := of_bind H_122
          obtain ⟨r_38, h_39, H_131⟩ := of_bind H_130
          refine V_reg hN hn [(1, ⟨26, 1, [.c (.h 0)], [(0, .row (.int .i64) y_123)], .c (.h 4), [(0, .row (.int .i64) y_123), (4, .row (.pair (.int .i64) (.int .i64)) r_36)], [(0, 4), (4, 5)], 6⟩), (2, ⟨25, 1, [.c (.h 0)], [(0, .row (.pair (.int .i64) (.int .i64)) r_36)], .tup [(false, [.imm (.opt (.pair (.slice (.pair (.int .i64) (.int .i64))) (.int .i64))) r_38.1]), (false, [.val (.int .i64 r_38.2)])], [(0, .row (.pair (.int .i64) (.int .i64)) r_36)], [(0, 5)], 6⟩)] [] (calls_cons (palinoderef7_Segs_r_spec K y_123 r_36 h_37) (by kernel_rfl) (calls_cons (subset_Of_r_spec K r_36 r_38 h_39) (by kernel_rfl) calls_nil)) 5 [2, 5, 7, 8] [0, 4] ⟨[(2, .c (.h 0)), (5, .c (.h 4)), (7, .c (.imm (.opt (.pair (.slice (.pair (.int .i64) (.int .i64))) (.int .i64))) r_38.1)), (8, .c (.val (.int .i64 r_38.2)))], [(0, .box [.val (.int .i64 ins_1), .imm (.slice (.pair (.int .i64) (.pair (.int .i64) .str))) ins_2]), (4, .row (.int .i64) y_123)], 6⟩ [] (by kernel_rfl) rfl rfl ap0 (by kernel_rfl) (by kernel_rfl) ?_
          refine V_run hN hn 3 6 [2, 5, 7, 56] [0, 4] ⟨[(2, .c (.h 0)), (5, .c (.h 4)), (7, .c (.imm (.opt (.pair (.slice (.pair (.int .i64) (.int .i64))) (.int .i64))) r_38.1)), (56, .c (.val (.bool (r_38.2 != (0 : Int)))))], [(0, .box [.val (.int .i64 ins_1), .imm (.slice (.pair (.int .i64) (.pair (.int .i64) .str))) ins_2]), (4, .row (.int .i64) y_123)], 6⟩ [] (by kernel_rfl) rfl rfl ap0 ?_
          refine VL_cond ((r_38.2 != (0 : Int))) (by kernel_rfl) ?_ ?_
          · intro b_42; have H_132 := of_t H_131 b_42
            refine V_run hN hn 2 6 [4] [] ⟨[(4, .c (.val (.bool true)))], [], 6⟩ [] (by kernel_rfl) rfl rfl ap0 ?_
            have H_134 := Option.some.inj (show some true = some r from H_132); subst H_134
            refine VL_ret ?_
            exact P_to [(4, .c (.val (.bool true)))] [] [] hn (by kernel_rfl) (by kernel_rfl) rfl rfl rfl (QF_retS (by kernel_rfl) (by kernel_rfl) rfl)
          · intro b_42; have H_133 := of_f H_131 b_42
            refine V_run hN hn 2 6 [2, 5, 7, 56] [0, 4] ⟨[(2, .c (.h 0)), (5, .c (.h 4)), (7, .c (.imm (.opt (.pair (.slice (.pair (.int .i64) (.int .i64))) (.int .i64))) r_38.1)), (56, .c (.val (.bool (r_38.2 != (0 : Int)))))], [(0, .box [.val (.int .i64 ins_1), .imm (.slice (.pair (.int .i64) (.pair (.int .i64) .str))) ins_2]), (4, .row (.int .i64) y_123)], 6⟩ [] (by kernel_rfl) rfl rfl ap0 ?_
            obtain ⟨r_45, h_46, H_135⟩ := of_bind H_133
            refine V_reg hN hn [(2, ⟨27, 0, [.agg [.val (.int .i64 ins_1), .imm (.slice (.pair (.int .i64) (.pair (.int .i64) .str))) ins_2], .c (.imm (.opt (.pair (.slice (.pair (.int .i64) (.int .i64))) (.int .i64))) r_38.1)], [], .tup [(true, [.val (.int .i64 r_45.1), .imm (.slice (.pair (.int .i64) (.pair (.int .i64) .str))) r_45.2.1]), (false, [.val (.int .i64 r_45.2.2)])], [], [], 6⟩)] [] (calls_cons (factor_Join_spec K ins_1 ins_2 r_38.1 r_45 h_46) (by kernel_rfl) calls_nil) 6 [2, 5, 9, 10] [0, 4, 6] ⟨[(2, .c (.h 0)), (5, .c (.h 4)), (9, .c (.h 6)), (10, .c (.val (.int .i64 r_45.2.2)))], [(0, .box [.val (.int .i64 ins_1), .imm (.slice (.pair (.int .i64) (.pair (.int .i64) .str))) ins_2]), (4, .row (.int .i64) y_123), (6, .box [.val (.int .i64 r_45.1), .imm (.slice (.pair (.int .i64) (.pair (.int .i64) .str))) r_45.2.1])], 7⟩ [] (by kernel_rfl) rfl rfl ap0 (by kernel_rfl) (by kernel_rfl) ?_
            refine V_run hN hn 1 7 [2, 5, 9, 10] [0, 4, 6] ⟨[(2, .c (.h 0)), (5, .c (.h 4)), (9, .c (.h 6)), (10, .c (.val (.int .i64 r_45.2.2)))], [(0, .box [.val (.int .i64 ins_1), .imm (.slice (.pair (.int .i64) (.pair (.int .i64) .str))) ins_2]), (4, .row (.int .i64) y_123), (6, .box [.val (.int .i64 r_45.1), .imm (.slice (.pair (.int .i64) (.pair (.int .i64) .str))) r_45.2.1])], 7⟩ [] (by kernel_rfl) rfl rfl ap0 ?_
            obtain ⟨r_49, h_50, H_136⟩ := of_bind H_135
            refine V_reg hN hn [(1, ⟨13, 0, [.agg [.val (.int .i64 ins_1), .imm (.slice (.pair (.int .i64) (.pair (.int .i64) .str))) ins_2]], [], .c (.val (.bool r_49)), [], [], 7⟩)] [] (calls_cons (palinoderef11_Is_spec K ins_1 ins_2 r_49 h_50) (by kernel_rfl) calls_nil) 7 [2, 5, 9, 10, 11] [0, 4, 6] ⟨[(2, .c (.h 0)), (5, .c (.h 4)), (9, .c (.h 6)), (10, .c (.val (.int .i64 r_45.2.2))), (11, .c (.val (.bool r_49)))], [(0, .box [.val (.int .i64 ins_1), .imm (.slice (.pair (.int .i64) (.pair (.int .i64) .str))) ins_2]), (4, .row (.int .i64) y_123), (6, .box [.val (.int .i64 r_45.1), .imm (.slice (.pair (.int .i64) (.pair (.int .i64) .str))) r_45.2.1])], 7⟩ [] (by kernel_rfl) rfl rfl ap0 (by kernel_rfl) (by kernel_rfl) ?_
            refine V_run hN hn 3 7 [2, 5, 9, 10, 11, 65] [0, 4, 6] ⟨[(2, .c (.h 0)), (5, .c (.h 4)), (9, .c (.h 6)), (10, .c (.val (.int .i64 r_45.2.2))), (11, .c (.val (.bool r_49))), (65, .c (.val (.bool r_49)))], [(0, .box [.val (.int .i64 ins_1), .imm (.slice (.pair (.int .i64) (.pair (.int .i64) .str))) ins_2]), (4, .row (.int .i64) y_123), (6, .box [.val (.int .i64 r_45.1), .imm (.slice (.pair (.int .i64) (.pair (.int .i64) .str))) r_45.2.1])], 7⟩ [] (by kernel_rfl) rfl rfl ap0 ?_
            obtain ⟨q_137, H_138, H_139⟩ := of_bind H_136
            refine V_cut (Y := Bool) (R := Bool) q_137 (fun y => y) (fun y => [(2, .c (.h 0)), (5, .c (.h 4)), (9, .c (.h 6)), (10, .c (.val (.int .i64 r_45.2.2))), (11, .c (.val (.bool y)))]) (fun y => [(0, .box [.val (.int .i64 ins_1), .imm (.slice (.pair (.int .i64) (.pair (.int .i64) .str))) ins_2]), (4, .row (.int .i64) y_123), (6, .box [.val (.int .i64 r_45.1), .imm (.slice (.pair (.int .i64) (.pair (.int .i64) .str))) r_45.2.1])]) ?_ ?_
            · skip
              refine VL_cond (r_49) (by kernel_rfl) ?_ ?_
              · intro b_53; have H_141 := of_t H_138 b_53
                refine V_run hN hn 1 7 [2, 5, 9, 10, 11, 65] [0, 4, 6] ⟨[(2, .c (.h 0)), (5, .c (.h 4)), (9, .c (.h 6)), (10, .c (.val (.int .i64 r_45.2.2))), (11, .c (.val (.bool r_49))), (65, .c (.val (.bool r_49)))], [(0, .box [.val (.int .i64 ins_1), .imm (.slice (.pair (.int .i64) (.pair (.int .i64) .str))) ins_2]), (4, .row (.int .i64) y_123), (6, .box [.val (.int .i64 r_45.1), .imm (.slice (.pair (.int .i64) (.pair (.int .i64) .str))) r_45.2.1])], 7⟩ [] (by kernel_rfl) rfl rfl ap0 ?_
                obtain ⟨r_55, h_56, H_143⟩ := of_bind H_141
                refine V_reg hN hn [(1, ⟨28, 0, [.agg [.val (.int .i64 ins_1), .imm (.slice (.pair (.int .i64) (.pair (.int .i64) .str))) ins_2]], [], .c (.h 1), [(1, .row .bool r_55)], [(1, 7)], 8⟩)] [] (calls_cons (palinoderef11_Kept_spec K ins_1 ins_2 r_55 h_56) (by kernel_rfl) calls_nil) 7 [2, 5, 9, 10, 11, 12] [0, 4, 6, 7] ⟨[(2, .c (.h 0)), (5, .c (.h 4)), (9, .c (.h 6)), (10, .c (.val (.int .i64 r_45.2.2))), (11, .c (.val (.bool r_49))), (12, .c (.h 7))], [(0, .box [.val (.int .i64 ins_1), .imm (.slice (.pair (.int .i64) (.pair (.int .i64) .str))) ins_2]), (4, .row (.int .i64) y_123), (6, .box [.val (.int .i64 r_45.1), .imm (.slice (.pair (.int .i64) (.pair (.int .i64) .str))) r_45.2.1]), (7, .row .bool r_55)], 8⟩ [] (by kernel_rfl) rfl rfl ap0 (by kernel_rfl) (by kernel_rfl) ?_
                refine V_run hN hn 2 8 [2, 5, 9, 10, 11, 12, 13] [0, 4, 6, 7] ⟨[(2, .c (.h 0)), (5, .c (.h 4)), (9, .c (.h 6)), (10, .c (.val (.int .i64 r_45.2.2))), (11, .c (.val (.bool r_49))), (12, .c (.h 7)), (13, .c (.val (.int .i64 (0 : Int))))], [(0, .box [.val (.int .i64 ins_1), .imm (.slice (.pair (.int .i64) (.pair (.int .i64) .str))) ins_2]), (4, .row (.int .i64) y_123), (6, .box [.val (.int .i64 r_45.1), .imm (.slice (.pair (.int .i64) (.pair (.int .i64) .str))) r_45.2.1]), (7, .row .bool r_55)], 8⟩ [] (by kernel_rfl) rfl rfl ap0 ?_
                refine VL_block ?_
                refine V_to [(2, .c (.h 0)), (5, .c (.h 4)), (9, .c (.h 6)), (10, .c (.val (.int .i64 r_45.2.2))), (11, .c (.val (.bool r_49))), (12, .c (.h 7)), (13, .c (.val (.int .i64 (0 : Int))))] [(0, .box [.val (.int .i64 ins_1), .imm (.slice (.pair (.int .i64) (.pair (.int .i64) .str))) ins_2]), (4, .row (.int .i64) y_123), (6, .box [.val (.int .i64 r_45.1), .imm (.slice (.pair (.int .i64) (.pair (.int .i64) .str))) r_45.2.1]), (7, .row .bool r_55)] [(0, 0), (4, 4), (6, 6), (7, 7)] hn (by kernel_rfl) (by kernel_rfl) rfl rfl rfl ?_
                refine VL_loop (X := (Bool × Int)) (fun x => [(2, .c (.h 0)), (5, .c (.h 4)), (9, .c (.h 6)), (10, .c (.val (.int .i64 r_45.2.2))), (11, .c (.val (.bool x.1))), (12, .c (.h 7)), (13, .c (.val (.int .i64 x.2)))]) (fun x => [(0, .box [.val (.int .i64 ins_1), .imm (.slice (.pair (.int .i64) (.pair (.int .i64) .str))) ins_2]), (4, .row (.int .i64) y_123), (6, .box [.val (.int .i64 r_45.1), .imm (.slice (.pair (.int .i64) (.pair (.int .i64) .str))) r_45.2.1]), (7, .row .bool r_55)]) (fun k x => palinodelaw12_FactorJoins.l1 K r_55 k x.1 x.2 = some q_137) K (r_49, (0 : Int)) H_143 (fun _ h => no_none h) ?_
                intro k_61 x_61 H_144
                obtain ⟨whole_59, i_60⟩ := x_61
                have H_145 : palinodelaw12_FactorJoins.l1 K r_55 (k_61 + 1) whole_59 i_60 = some q_137 := H_144
                rw [palinodelaw12_FactorJoins.l1] at H_145
                refine V_run hN hn 3 8 [2, 5, 9, 10, 11, 12, 13, 71] [0, 4, 6, 7] ⟨[(2, .c (.h 0)), (5, .c (.h 4)), (9, .c (.h 6)), (10, .c (.val (.int .i64 r_45.2.2))), (11, .c (.val (.bool whole_59))), (12, .c (.h 7)), (13, .c (.val (.int .i64 i_60))), (71, .c (.val (.bool (decide (i_60 < (((List.length r_55) : Nat) : Int))))))], [(0, .box [.val (.int .i64 ins_1), .imm (.slice (.pair (.int .i64) (.pair (.int .i64) .str))) ins_2]), (4, .row (.int .i64) y_123), (6, .box [.val (.int .i64 r_45.1), .imm (.slice (.pair (.int .i64) (.pair (.int .i64) .str))) r_45.2.1]), (7, .row .bool r_55)], 8⟩ [] (by kernel_rfl) rfl rfl ap0 ?_
                refine VL_cond ((decide (i_60 < (((List.length r_55) : Nat) : Int)))) (by kernel_rfl) ?_ ?_
                · intro b_63; have H_146 := of_t H_145 b_63
                  refine V_run hN hn 2 8 [2, 5, 9, 10, 11, 12, 13, 71] [0, 4, 6, 7] ⟨[(2, .c (.h 0)), (5, .c (.h 4)), (9, .c (.h 6)), (10, .c (.val (.int .i64 r_45.2.2))), (11, .c (.val (.bool whole_59))), (12, .c (.h 7)), (13, .c (.val (.int .i64 i_60))), (71, .c (.val (.bool (decide (i_60 < (((List.length r_55) : Nat) : Int))))))], [(0, .box [.val (.int .i64 ins_1), .imm (.slice (.pair (.int .i64) (.pair (.int .i64) .str))) ins_2]), (4, .row (.int .i64) y_123), (6, .box [.val (.int .i64 r_45.1), .imm (.slice (.pair (.int .i64) (.pair (.int .i64) .str))) r_45.2.1]), (7, .row .bool r_55)], 8⟩ [] (by kernel_rfl) rfl rfl ap0 ?_
                  refine VL_block ?_
                  rcases Bool.eq_false_or_eq_true (whole_59) with b_65 | b_65
                  · have H_148 := of_t H_146 b_65
                    obtain ⟨c_66, H_150⟩ := of_if H_148
                    refine V_reg hN hn [] [(75, true)] calls_nil 8 [2, 5, 9, 10, 11, 12, 13] [0, 4, 6, 7] ⟨[(2, .c (.h 0)), (5, .c (.h 4)), (9, .c (.h 6)), (10, .c (.val (.int .i64 r_45.2.2))), (11, .c (.val (.bool (List.getD r_55 (Int.toNat i_60) false)))), (12, .c (.h 7)), (13, .c (.val (.int .i64 i_60)))], [(0, .box [.val (.int .i64 ins_1), .imm (.slice (.pair (.int .i64) (.pair (.int .i64) .str))) ins_2]), (4, .row (.int .i64) y_123), (6, .box [.val (.int .i64 r_45.1), .imm (.slice (.pair (.int .i64) (.pair (.int .i64) .str))) r_45.2.1]), (7, .row .bool r_55)], 8⟩ [whole_59 = true, 0 ≤ i_60, i_60 < (((List.length r_55) : Nat) : Int)] (by kernel_rfl) rfl rfl (ap2 b_65 (ap2 c_66.1 (ap1 c_66.2))) (by kernel_rfl) (by kernel_rfl) ?_
                    refine VL_nil (QB_end ?_)
                    refine V_run hN hn 1 8 [2, 5, 9, 10, 11, 12, 13] [0, 4, 6, 7] ⟨[(2, .c (.h 0)), (5, .c (.h 4)), (9, .c (.h 6)), (10, .c (.val (.int .i64 r_45.2.2))), (11, .c (.val (.bool (List.getD r_55 (Int.toNat i_60) false)))), (12, .c (.h 7)), (13, .c (.val (.int .i64 (IntKind.wrap .i64 (i_60 + (1 : Int))))))], [(0, .box [.val (.int .i64 ins_1), .imm (.slice (.pair (.int .i64) (.pair (.int .i64) .str))) ins_2]), (4, .row (.int .i64) y_123), (6, .box [.val (.int .i64 r_45.1), .imm (.slice (.pair (.int .i64) (.pair (.int .i64) .str))) r_45.2.1]), (7, .row .bool r_55)], 8⟩ [] (by kernel_rfl) rfl rfl ap0 ?_
                    refine VL_nil ?_
                    exact V_roundEnd ((List.getD r_55 (Int.toNat i_60) false), (IntKind.wrap .i64 (i_60 + (1 : Int)))) H_150 [(0, 0), (4, 4), (6, 6), (7, 7)] hn (by kernel_rfl) (by kernel_rfl) rfl rfl rfl
                  · have H_149 := of_f H_146 b_65
                    refine V_reg hN hn [] [(75, false)] calls_nil 8 [2, 5, 9, 10, 11, 12, 13] [0, 4, 6, 7] ⟨[(2, .c (.h 0)), (5, .c (.h 4)), (9, .c (.h 6)), (10, .c (.val (.int .i64 r_45.2.2))), (11, .c (.val (.bool false))), (12, .c (.h 7)), (13, .c (.val (.int .i64 i_60)))], [(0, .box [.val (.int .i64 ins_1), .imm (.slice (.pair (.int .i64) (.pair (.int .i64) .str))) ins_2]), (4, .row (.int .i64) y_123), (6, .box [.val (.int .i64 r_45.1), .imm (.slice (.pair (.int .i64) (.pair (.int .i64) .str))) r_45.2.1]), (7, .row .bool r_55)], 8⟩ [whole_59 = false] (by kernel_rfl) rfl rfl (ap1 b_65) (by kernel_rfl) (by kernel_rfl) ?_
                    refine VL_nil (QB_end ?_)
                    refine V_run hN hn 1 8 [2, 5, 9, 10, 11, 12, 13] [0, 4, 6, 7] ⟨[(2, .c (.h 0)), (5, .c (.h 4)), (9, .c (.h 6)), (10, .c (.val (.int .i64 r_45.2.2))), (11, .c (.val (.bool false))), (12, .c (.h 7)), (13, .c (.val (.int .i64 (IntKind.wrap .i64 (i_60 + (1 : Int))))))], [(0, .box [.val (.int .i64 ins_1), .imm (.slice (.pair (.int .i64) (.pair (.int .i64) .str))) ins_2]), (4, .row (.int .i64) y_123), (6, .box [.val (.int .i64 r_45.1), .imm (.slice (.pair (.int .i64) (.pair (.int .i64) .str))) r_45.2.1]), (7, .row .bool r_55)], 8⟩ [] (by kernel_rfl) rfl rfl ap0 ?_
                    refine VL_nil ?_
                    exact V_roundEnd (false, (IntKind.wrap .i64 (i_60 + (1 : Int)))) H_149 [(0, 0), (4, 4), (6, 6), (7, 7)] hn (by kernel_rfl) (by kernel_rfl) rfl rfl rfl
                · intro b_63; have H_147 := of_f H_145 b_63
                  refine VL_exit ?_
                  refine QL_exit ?_
                  refine QB_here ?_
                  have H_151 := Option.some.inj (show some whole_59 = some q_137 from H_147); subst H_151
                  refine VL_nil ?_
                  exact QP_end whole_59 rfl [(0, 0), (4, 4), (6, 6)] hn (by kernel_rfl) (by kernel_rfl) rfl rfl rfl
              · intro b_53; have H_142 := of_f H_138 b_53
                refine V_run hN hn 1 7 [2, 5, 9, 10, 11, 65] [0, 4, 6] ⟨[(2, .c (.h 0)), (5, .c (.h 4)), (9, .c (.h 6)), (10, .c (.val (.int .i64 r_45.2.2))), (11, .c (.val (.bool r_49))), (65, .c (.val (.bool r_49)))], [(0, .box [.val (.int .i64 ins_1), .imm (.slice (.pair (.int .i64) (.pair (.int .i64) .str))) ins_2]), (4, .row (.int .i64) y_123), (6, .box [.val (.int .i64 r_45.1), .imm (.slice (.pair (.int .i64) (.pair (.int .i64) .str))) r_45.2.1])], 7⟩ [] (by kernel_rfl) rfl rfl ap0 ?_
                have H_152 := Option.some.inj (show some r_49 = some q_137 from H_142); subst H_152
                refine VL_nil ?_
                exact QP_end r_49 rfl [(0, 0), (4, 4), (6, 6)] hn (by kernel_rfl) (by kernel_rfl) rfl rfl rfl
            · intro y_140 hy; subst hy
              skip
              skip
              refine V_run hN hn 3 8 [2, 5, 9, 10, 82] [0, 4, 6] ⟨[(2, .c (.h 0)), (5, .c (.h 4)), (9, .c (.h 6)), (10, .c (.val (.int .i64 r_45.2.2))), (82, .c (.val (.bool (!y_140))))], [(0, .box [.val (.int .i64 ins_1), .imm (.slice (.pair (.int .i64) (.pair (.int .i64) .str))) ins_2]), (4, .row (.int .i64) y_123), (6, .box [.val (.int .i64 r_45.1), .imm (.slice (.pair (.int .i64) (.pair (.int .i64) .str))) r_45.2.1])], 8⟩ [] (by kernel_rfl) rfl rfl ap0 ?_
              refine VL_cond ((!y_140)) (by kernel_rfl) ?_ ?_
              · intro b_73; have H_153 := of_t H_139 b_73
                refine V_run hN hn 1 8 [2, 5, 9, 10, 82] [0, 4, 6] ⟨[(2, .c (.h 0)), (5, .c (.h 4)), (9, .c (.h 6)), (10, .c (.val (.int .i64 r_45.2.2))), (82, .c (.val (.bool (!y_140))))], [(0, .box [.val (.int .i64 ins_1), .imm (.slice (.pair (.int .i64) (.pair (.int .i64) .str))) ins_2]), (4, .row (.int .i64) y_123), (6, .box [.val (.int .i64 r_45.1), .imm (.slice (.pair (.int .i64) (.pair (.int .i64) .str))) r_45.2.1])], 8⟩ [] (by kernel_rfl) rfl rfl ap0 ?_
                rcases Bool.eq_false_or_eq_true ((r_45.2.2 == (12 : Int))) with b_75 | b_75
                · have H_155 := of_t H_153 b_75
                  refine V_reg hN hn [] [(85, true)] calls_nil 8 [4] [] ⟨[(4, .c (.val (.bool ((((List.length r_45.2.1) : Nat) : Int) == (0 : Int)))))], [], 8⟩ [(r_45.2.2 == (12 : Int)) = true] (by kernel_rfl) rfl rfl (ap1 b_75) (by kernel_rfl) (by kernel_rfl) ?_
                  have H_157 := Option.some.inj (show some ((((List.length r_45.2.1) : Nat) : Int) == (0 : Int)) = some r from H_155); subst H_157
                  refine VL_ret ?_
                  exact P_to [(4, .c (.val (.bool ((((List.length r_45.2.1) : Nat) : Int) == (0 : Int)))))] [] [] hn (by kernel_rfl) (by kernel_rfl) rfl rfl rfl (QF_retS (by kernel_rfl) (by kernel_rfl) rfl)
                · have H_156 := of_f H_153 b_75
                  refine V_reg hN hn [] [(85, false)] calls_nil 8 [4] [] ⟨[(4, .c (.val (.bool false)))], [], 8⟩ [(r_45.2.2 == (12 : Int)) = false] (by kernel_rfl) rfl rfl (ap1 b_75) (by kernel_rfl) (by kernel_rfl) ?_
                  have H_158 := Option.some.inj (show some false = some r from H_156); subst H_158
                  refine VL_ret ?_
                  exact P_to [(4, .c (.val (.bool false)))] [] [] hn (by kernel_rfl) (by kernel_rfl) rfl rfl rfl (QF_retS (by kernel_rfl) (by kernel_rfl) rfl)
              · intro b_73; have H_154 := of_f H_139 b_73
                refine V_run hN hn 4 8 [2, 5, 9, 10, 95] [0, 4, 6] ⟨[(2, .c (.h 0)), (5, .c (.h 4)), (9, .c (.h 6)), (10, .c (.val (.int .i64 r_45.2.2))), (95, .c (.val (.bool ((((List.length y_123) : Nat) : Int) != ins_1))))], [(0, .box [.val (.int .i64 ins_1), .imm (.slice (.pair (.int .i64) (.pair (.int .i64) .str))) ins_2]), (4, .row (.int .i64) y_123), (6, .box [.val (.int .i64 r_45.1), .imm (.slice (.pair (.int .i64) (.pair (.int .i64) .str))) r_45.2.1])], 8⟩ [] (by kernel_rfl) rfl rfl ap0 ?_
                refine VL_cond (((((List.length y_123) : Nat) : Int) != ins_1)) (by kernel_rfl) ?_ ?_
                · intro b_79; have H_159 := of_t H_154 b_79
                  refine V_run hN hn 1 8 [2, 5, 9, 10, 95] [0, 4, 6] ⟨[(2, .c (.h 0)), (5, .c (.h 4)), (9, .c (.h 6)), (10, .c (.val (.int .i64 r_45.2.2))), (95, .c (.val (.bool ((((List.length y_123) : Nat) : Int) != ins_1))))], [(0, .box [.val (.int .i64 ins_1), .imm (.slice (.pair (.int .i64) (.pair (.int .i64) .str))) ins_2]), (4, .row (.int .i64) y_123), (6, .box [.val (.int .i64 r_45.1), .imm (.slice (.pair (.int .i64) (.pair (.int .i64) .str))) r_45.2.1])], 8⟩ [] (by kernel_rfl) rfl rfl ap0 ?_
                  rcases Bool.eq_false_or_eq_true ((r_45.2.2 == (80 : Int))) with b_81 | b_81
                  · have H_161 := of_t H_159 b_81
                    refine V_reg hN hn [] [(98, true)] calls_nil 8 [4] [] ⟨[(4, .c (.val (.bool ((((List.length r_45.2.1) : Nat) : Int) == (0 : Int)))))], [], 8⟩ [(r_45.2.2 == (80 : Int)) = true] (by kernel_rfl) rfl rfl (ap1 b_81) (by kernel_rfl) (by kernel_rfl) ?_
                    have H_163 := Option.some.inj (show some ((((List.length r_45.2.1) : Nat) : Int) == (0 : Int)) = some r from H_161); subst H_163
                    refine VL_ret ?_
                    exact P_to [(4, .c (.val (.bool ((((List.length r_45.2.1) : Nat) : Int) == (0 : Int)))))] [] [] hn (by kernel_rfl) (by kernel_rfl) rfl rfl rfl (QF_retS (by kernel_rfl) (by kernel_rfl) rfl)
                  · have H_162 := of_f H_159 b_81
                    refine V_reg hN hn [] [(98, false)] calls_nil 8 [4] [] ⟨[(4, .c (.val (.bool false)))], [], 8⟩ [(r_45.2.2 == (80 : Int)) = false] (by kernel_rfl) rfl rfl (ap1 b_81) (by kernel_rfl) (by kernel_rfl) ?_
                    have H_164 := Option.some.inj (show some false = some r from H_162); subst H_164
                    refine VL_ret ?_
                    exact P_to [(4, .c (.val (.bool false)))] [] [] hn (by kernel_rfl) (by kernel_rfl) rfl rfl rfl (QF_retS (by kernel_rfl) (by kernel_rfl) rfl)
                · intro b_79; have H_160 := of_f H_154 b_79
                  refine V_run hN hn 2 8 [2, 5, 9, 10, 95] [0, 4, 6] ⟨[(2, .c (.h 0)), (5, .c (.h 4)), (9, .c (.h 6)), (10, .c (.val (.int .i64 r_45.2.2))), (95, .c (.val (.bool ((((List.length y_123) : Nat) : Int) != ins_1))))], [(0, .box [.val (.int .i64 ins_1), .imm (.slice (.pair (.int .i64) (.pair (.int .i64) .str))) ins_2]), (4, .row (.int .i64) y_123), (6, .box [.val (.int .i64 r_45.1), .imm (.slice (.pair (.int .i64) (.pair (.int .i64) .str))) r_45.2.1])], 8⟩ [] (by kernel_rfl) rfl rfl ap0 ?_
                  obtain ⟨r_85, h_86, H_165⟩ := of_bind H_160
                  obtain ⟨r_87, h_88, H_166⟩ := of_bind H_165
                  obtain ⟨r_89, h_90, H_167⟩ := of_bind H_166
                  refine V_draw hN hn (by kernel_rfl) [(3, ⟨14, 0, [.agg [.val (.int .i64 ins_1), .imm (.slice (.pair (.int .i64) (.pair (.int .i64) .str))) ins_2]], [], .c (.h 9), [(9, .row (.pair (.int .i64) (.int .u8)) r_85)], [(9, 8)], 9⟩), (5, ⟨29, 2, [.c (.h 0), .c (.h 1)], [(0, .row (.pair (.int .i64) (.int .u8)) r_85), (1, .row (.int .i64) y_123)], .c (.h 5), [(0, .row (.pair (.int .i64) (.int .u8)) r_85), (1, .row (.int .i64) y_123), (5, .row (.pair (.int .i64) (.int .u8)) r_87)], [(0, 8), (1, 4), (5, 9)], 10⟩), (6, ⟨16, 1, [.c (.val (.int .i64 ins_1)), .c (.h 0)], [(0, .row (.pair (.int .i64) (.int .u8)) r_87)], .tup [(true, [.val (.int .i64 r_89.1), .h 12]), (false, [.val (.int .i64 r_89.2.2)])], [(0, .row (.pair (.int .i64) (.int .u8)) r_87), (12, .row (.pair (.int .i64) (.pair (.int .i64) .str)) r_89.2.1)], [(0, 9), (12, 10)], 11⟩)] [] (calls_cons (palinoderef11_Cells_spec K ins_1 ins_2 r_85 h_86) (by kernel_rfl) (calls_cons (palinoderef11_Join_rr_spec K r_85 y_123 r_87 h_88) (by kernel_rfl) (calls_cons (palinoderef11_Told_gr_spec K ins_1 r_87 r_89 h_90) (by kernel_rfl) calls_nil))) 8 [9, 10, 14, 15] [6, 10, 11] ⟨[(9, .c (.h 6)), (10, .c (.val (.int .i64 r_45.2.2))), (14, .c (.h 11)), (15, .c (.val (.int .i64 r_89.2.2)))], [(6, .box [.val (.int .i64 r_45.1), .imm (.slice (.pair (.int .i64) (.pair (.int .i64) .str))) r_45.2.1]), (10, .row (.pair (.int .i64) (.pair (.int .i64) .str)) r_89.2.1), (11, .box [.val (.int .i64 r_89.1), .h 10])], 12⟩ [] (by kernel_rfl) rfl rfl ap0 (by kernel_rfl) (by kernel_rfl) ?_
                  refine V_run hN hn 1 12 [9, 10, 14, 15] [6, 10, 11] ⟨[(9, .c (.h 6)), (10, .c (.val (.int .i64 r_45.2.2))), (14, .c (.h 11)), (15, .c (.val (.int .i64 r_89.2.2)))], [(6, .box [.val (.int .i64 r_45.1), .imm (.slice (.pair (.int .i64) (.pair (.int .i64) .str))) r_45.2.1]), (10, .row (.pair (.int .i64) (.pair (.int .i64) .str)) r_89.2.1), (11, .box [.val (.int .i64 r_89.1), .h 10])], 12⟩ [] (by kernel_rfl) rfl rfl ap0 ?_
                  rcases Bool.eq_false_or_eq_true ((r_45.2.2 == r_89.2.2)) with b_93 | b_93
                  · have H_168 := of_t H_167 b_93
                    rcases Bool.eq_false_or_eq_true ((r_45.2.2 != (0 : Int))) with b_94 | b_94
                    · have H_170 := of_t H_168 b_94
                      refine V_reg hN hn [] [(117, true), (120, true)] calls_nil 12 [4] [] ⟨[(4, .c (.val (.bool true)))], [], 12⟩ [(r_45.2.2 == r_89.2.2) = true, (r_45.2.2 != (0 : Int)) = true] (by kernel_rfl) rfl rfl (ap2 b_93 (ap1 b_94)) (by kernel_rfl) (by kernel_rfl) ?_
                      have H_172 := Option.some.inj (show some true = some r from H_170); subst H_172
                      refine VL_ret ?_
                      exact P_to [(4, .c (.val (.bool true)))] [] [] hn (by kernel_rfl) (by kernel_rfl) rfl rfl rfl (QF_retS (by kernel_rfl) (by kernel_rfl) rfl)
                    · have H_171 := of_f H_168 b_94
                      obtain ⟨r_96, h_97, H_173⟩ := of_bind H_171
                      refine V_reg hN hn [(9, ⟨18, 1, [.agg [.val (.int .i64 r_45.1), .imm (.slice (.pair (.int .i64) (.pair (.int .i64) .str))) r_45.2.1], .agg [.val (.int .i64 r_89.1), .h 0]], [(0, .row (.pair (.int .i64) (.pair (.int .i64) .str)) r_89.2.1)], .c (.val (.bool r_96)), [(0, .row (.pair (.int .i64) (.pair (.int .i64) .str)) r_89.2.1)], [(0, 10)], 12⟩)] [(117, true), (120, false)] (calls_cons (palinoderef11_Same_sggsgr_spec K r_45.1 r_45.2.1 r_89.1 r_89.2.1 r_96 h_97) (by kernel_rfl) calls_nil) 12 [4] [] ⟨[(4, .c (.val (.bool r_96)))], [], 12⟩ [(r_45.2.2 == r_89.2.2) = true, (r_45.2.2 != (0 : Int)) = false] (by kernel_rfl) rfl rfl (ap2 b_93 (ap1 b_94)) (by kernel_rfl) (by kernel_rfl) ?_
                      have H_174 := Option.some.inj (show some r_96 = some r from H_173); subst H_174
                      refine VL_ret ?_
                      exact P_to [(4, .c (.val (.bool r_96)))] [] [] hn (by kernel_rfl) (by kernel_rfl) rfl rfl rfl (QF_retS (by kernel_rfl) (by kernel_rfl) rfl)
                  · have H_169 := of_f H_167 b_93
                    refine V_reg hN hn [] [(117, false)] calls_nil 12 [4] [] ⟨[(4, .c (.val (.bool false)))], [], 12⟩ [(r_45.2.2 == r_89.2.2) = false] (by kernel_rfl) rfl rfl (ap1 b_93) (by kernel_rfl) (by kernel_rfl) ?_
                    have H_175 := Option.some.inj (show some false = some r from H_169); subst H_175
                    refine VL_ret ?_
                    exact P_to [(4, .c (.val (.bool false)))] [] [] hn (by kernel_rfl) (by kernel_rfl) rfl rfl rfl (QF_retS (by kernel_rfl) (by kernel_rfl) rfl)

end Go.Pal
