/- The Go functions that SpansTell reaches compute what the plain functions say: part 2, printed by a program of this workplace. -/
import Derived.Test.YtkmdhkmcpllicaaChecked
import Derived.Test.YtkmdhkmcpllicaaWalkSpansTell1
namespace Go.Pal
open Go Go.Proofs
set_option maxRecDepth 100000
set_option linter.unusedVariables false

theorem delta_Is_spec (K : Nat) (d_1 : Int) (d_2 : (List (Int × (Int × ByteArray)))) (r : Bool) (H : delta_Is K d_1 d_2 = some r) : Spec Try.prog 28 0 [.agg [.val (.int .i64 d_1), .imm (.slice (.pair (.int .i64) (.pair (.int .i64) .str))) d_2]] [] (.c (.val (.bool r))) [] := by
  refine Spec_mk (fn := Try.f28) (c := (Try.f28.body).get!) Try.func28 (by kernel_rfl) rfl ?_
  intro C hN hn
  replace hN : C.N = 68 := hN
  unfold delta_Is at H
  refine V_run hN hn 4 0 [1] [0] ⟨[(1, .c (.h 0))], [(0, .box [.val (.int .i64 d_1), .imm (.slice (.pair (.int .i64) (.pair (.int .i64) .str))) d_2])], 1⟩ [] (by kernel_rfl) rfl rfl ap0 ?_
  obtain ⟨q_53, H_54, H_55⟩ := of_bind H
  refine V_cut (Y := Bool) (R := Bool) q_53 (fun y => y) (fun y => [(1, .c (.h 0)), (21, .c (.val (.bool y)))]) (fun y => [(0, .box [.val (.int .i64 d_1), .imm (.slice (.pair (.int .i64) (.pair (.int .i64) .str))) d_2])]) ?_ ?_
  · skip
    rcases Bool.eq_false_or_eq_true ((decide (d_1 < (0 : Int)))) with b_4 | b_4
    · have H_57 := of_t H_54 b_4
      refine V_reg hN hn [] [(11, true)] calls_nil 1 [1, 21] [0] ⟨[(1, .c (.h 0)), (21, .c (.val (.bool true)))], [(0, .box [.val (.int .i64 d_1), .imm (.slice (.pair (.int .i64) (.pair (.int .i64) .str))) d_2])], 1⟩ [(decide (d_1 < (0 : Int))) = true] (by kernel_rfl) rfl rfl (ap1 b_4) (by kernel_rfl) (by kernel_rfl) ?_
      have H_59 := Option.some.inj (show some true = some q_53 from H_57); subst H_59
      refine VL_nil ?_
      exact QP_end true rfl [(0, 0)] hn (by kernel_rfl) (by kernel_rfl) rfl rfl rfl
    · have H_58 := of_f H_54 b_4
      rcases Bool.eq_false_or_eq_true ((decide (d_1 > (20000 : Int)))) with b_6 | b_6
      · have H_60 := of_t H_58 b_6
        refine V_reg hN hn [] [(11, false), (16, true)] calls_nil 1 [1, 21] [0] ⟨[(1, .c (.h 0)), (21, .c (.val (.bool true)))], [(0, .box [.val (.int .i64 d_1), .imm (.slice (.pair (.int .i64) (.pair (.int .i64) .str))) d_2])], 1⟩ [(decide (d_1 < (0 : Int))) = false, (decide (d_1 > (20000 : Int))) = true] (by kernel_rfl) rfl rfl (ap2 b_4 (ap1 b_6)) (by kernel_rfl) (by kernel_rfl) ?_
        have H_62 := Option.some.inj (show some true = some q_53 from H_60); subst H_62
        refine VL_nil ?_
        exact QP_end true rfl [(0, 0)] hn (by kernel_rfl) (by kernel_rfl) rfl rfl rfl
      · have H_61 := of_f H_58 b_6
        refine V_reg hN hn [] [(11, false), (16, false)] calls_nil 1 [1, 21] [0] ⟨[(1, .c (.h 0)), (21, .c (.val (.bool (decide ((((List.length d_2) : Nat) : Int) > (60 : Int))))))], [(0, .box [.val (.int .i64 d_1), .imm (.slice (.pair (.int .i64) (.pair (.int .i64) .str))) d_2])], 1⟩ [(decide (d_1 < (0 : Int))) = false, (decide (d_1 > (20000 : Int))) = false] (by kernel_rfl) rfl rfl (ap2 b_4 (ap1 b_6)) (by kernel_rfl) (by kernel_rfl) ?_
        have H_63 := Option.some.inj (show some (decide ((((List.length d_2) : Nat) : Int) > (60 : Int))) = some q_53 from H_61); subst H_63
        refine VL_nil ?_
        exact QP_end (decide ((((List.length d_2) : Nat) : Int) > (60 : Int))) rfl [(0, 0)] hn (by kernel_rfl) (by kernel_rfl) rfl rfl rfl
  · intro y_56 hy; subst hy
    skip
    skip
    refine VL_cond (y_56) (by kernel_rfl) ?_ ?_
    · intro b_10; have H_64 := of_t H_55 b_10
      refine V_run hN hn 2 1 [2] [] ⟨[(2, .c (.val (.bool false)))], [], 1⟩ [] (by kernel_rfl) rfl rfl ap0 ?_
      have H_66 := Option.some.inj (show some false = some r from H_64); subst H_66
      refine VL_ret ?_
      exact P_to [(2, .c (.val (.bool false)))] [] [] hn (by kernel_rfl) (by kernel_rfl) rfl rfl rfl (QF_retS (by kernel_rfl) (by kernel_rfl) rfl)
    · intro b_10; have H_65 := of_f H_55 b_10
      refine V_run hN hn 6 1 [1, 3, 4, 23, 24, 25] [0] ⟨[(1, .c (.h 0)), (3, .c (.val (.int .i64 (0 : Int)))), (4, .c (.val (.int .i64 (0 : Int)))), (23, .c (.imm (.slice (.pair (.int .i64) (.pair (.int .i64) .str))) d_2)), (24, .c (.val (.int .i64 (((List.length d_2) : Nat) : Int)))), (25, .c (.val (.int .i64 (0 : Int))))], [(0, .box [.val (.int .i64 d_1), .imm (.slice (.pair (.int .i64) (.pair (.int .i64) .str))) d_2])], 1⟩ [] (by kernel_rfl) rfl rfl ap0 ?_
      refine VL_block ?_
      refine V_to [(1, .c (.h 0)), (3, .c (.val (.int .i64 (0 : Int)))), (4, .c (.val (.int .i64 (0 : Int)))), (23, .c (.imm (.slice (.pair (.int .i64) (.pair (.int .i64) .str))) d_2)), (24, .c (.val (.int .i64 (((List.length d_2) : Nat) : Int)))), (25, .c (.val (.int .i64 (0 : Int))))] [(0, .box [.val (.int .i64 d_1), .imm (.slice (.pair (.int .i64) (.pair (.int .i64) .str))) d_2])] [(0, 0)] hn (by kernel_rfl) (by kernel_rfl) rfl rfl rfl ?_
      refine VL_loop (X := (Int × Int × Int)) (fun x => [(1, .c (.h 0)), (3, .c (.val (.int .i64 x.1))), (4, .c (.val (.int .i64 x.2.1))), (23, .c (.imm (.slice (.pair (.int .i64) (.pair (.int .i64) .str))) d_2)), (24, .c (.val (.int .i64 (((List.length d_2) : Nat) : Int)))), (25, .c (.val (.int .i64 x.2.2)))]) (fun x => [(0, .box [.val (.int .i64 d_1), .imm (.slice (.pair (.int .i64) (.pair (.int .i64) .str))) d_2])]) (fun k x => delta_Is.l0 K d_2 d_1 k x.1 x.2.1 x.2.2 = some r) K ((0 : Int), (0 : Int), (0 : Int)) H_65 (fun _ h => no_none h) ?_
      intro k_16 x_16 H_67
      obtain ⟨size_13, to_14, t_15⟩ := x_16
      have H_68 : delta_Is.l0 K d_2 d_1 (k_16 + 1) size_13 to_14 t_15 = some r := H_67
      rw [delta_Is.l0] at H_68
      refine V_run hN hn 3 1 [1, 3, 4, 23, 24, 25, 26] [0] ⟨[(1, .c (.h 0)), (3, .c (.val (.int .i64 size_13))), (4, .c (.val (.int .i64 to_14))), (23, .c (.imm (.slice (.pair (.int .i64) (.pair (.int .i64) .str))) d_2)), (24, .c (.val (.int .i64 (((List.length d_2) : Nat) : Int)))), (25, .c (.val (.int .i64 t_15))), (26, .c (.val (.bool (decide (t_15 < (((List.length d_2) : Nat) : Int))))))], [(0, .box [.val (.int .i64 d_1), .imm (.slice (.pair (.int .i64) (.pair (.int .i64) .str))) d_2])], 1⟩ [] (by kernel_rfl) rfl rfl ap0 ?_
      refine VL_cond ((decide (t_15 < (((List.length d_2) : Nat) : Int)))) (by kernel_rfl) ?_ ?_
      · intro b_18; have H_69 := of_t H_68 b_18
        refine V_run hN hn 2 1 [1, 3, 4, 23, 24, 25, 26] [0] ⟨[(1, .c (.h 0)), (3, .c (.val (.int .i64 size_13))), (4, .c (.val (.int .i64 to_14))), (23, .c (.imm (.slice (.pair (.int .i64) (.pair (.int .i64) .str))) d_2)), (24, .c (.val (.int .i64 (((List.length d_2) : Nat) : Int)))), (25, .c (.val (.int .i64 t_15))), (26, .c (.val (.bool (decide (t_15 < (((List.length d_2) : Nat) : Int))))))], [(0, .box [.val (.int .i64 d_1), .imm (.slice (.pair (.int .i64) (.pair (.int .i64) .str))) d_2])], 1⟩ [] (by kernel_rfl) rfl rfl ap0 ?_
        refine VL_block ?_
        obtain ⟨c_20, H_71⟩ := of_if H_69
        refine V_run hN hn 3 1 [1, 3, 4, 5, 6, 23, 24, 25] [0, 1] ⟨[(1, .c (.h 0)), (3, .c (.val (.int .i64 size_13))), (4, .c (.val (.int .i64 to_14))), (5, .c (.val (.int .i64 t_15))), (6, .c (.h 1)), (23, .c (.imm (.slice (.pair (.int .i64) (.pair (.int .i64) .str))) d_2)), (24, .c (.val (.int .i64 (((List.length d_2) : Nat) : Int)))), (25, .c (.val (.int .i64 t_15)))], [(0, .box [.val (.int .i64 d_1), .imm (.slice (.pair (.int .i64) (.pair (.int .i64) .str))) d_2]), (1, .box [.val (.int .i64 (List.getD d_2 (Int.toNat t_15) ((0 : Int), ((0 : Int), ByteArray.empty))).1), .val (.int .i64 (List.getD d_2 (Int.toNat t_15) ((0 : Int), ((0 : Int), ByteArray.empty))).2.1), .val (.string (List.getD d_2 (Int.toNat t_15) ((0 : Int), ((0 : Int), ByteArray.empty))).2.2)])], 2⟩ [0 ≤ t_15, t_15 < (((List.length d_2) : Nat) : Int)] (by kernel_rfl) rfl rfl (ap2 c_20.1 (ap1 c_20.2)) ?_
        obtain ⟨q_72, H_73, H_74⟩ := of_bind H_71
        refine V_cut (Y := Bool) (R := Bool) q_72 (fun y => y) (fun y => [(1, .c (.h 0)), (3, .c (.val (.int .i64 size_13))), (4, .c (.val (.int .i64 to_14))), (5, .c (.val (.int .i64 t_15))), (6, .c (.h 1)), (7, .c (.val (.bool y))), (23, .c (.imm (.slice (.pair (.int .i64) (.pair (.int .i64) .str))) d_2)), (24, .c (.val (.int .i64 (((List.length d_2) : Nat) : Int)))), (25, .c (.val (.int .i64 t_15)))]) (fun y => [(0, .box [.val (.int .i64 d_1), .imm (.slice (.pair (.int .i64) (.pair (.int .i64) .str))) d_2]), (1, .box [.val (.int .i64 (List.getD d_2 (Int.toNat t_15) ((0 : Int), ((0 : Int), ByteArray.empty))).1), .val (.int .i64 (List.getD d_2 (Int.toNat t_15) ((0 : Int), ((0 : Int), ByteArray.empty))).2.1), .val (.string (List.getD d_2 (Int.toNat t_15) ((0 : Int), ((0 : Int), ByteArray.empty))).2.2)])]) ?_ ?_
        · skip
          rcases Bool.eq_false_or_eq_true ((decide (t_15 > (0 : Int)))) with b_21 | b_21
          · have H_76 := of_t H_73 b_21
            obtain ⟨r_22, h_23, H_78⟩ := of_bind H_76
            obtain ⟨c_24, H_79⟩ := of_if H_78
            refine V_reg hN hn [(9, ⟨38, 0, [.agg [.val (.int .i64 (List.getD d_2 (Int.toNat (IntKind.wrap .i64 (t_15 - (1 : Int)))) ((0 : Int), ((0 : Int), ByteArray.empty))).1), .val (.int .i64 (List.getD d_2 (Int.toNat (IntKind.wrap .i64 (t_15 - (1 : Int)))) ((0 : Int), ((0 : Int), ByteArray.empty))).2.1), .val (.string (List.getD d_2 (Int.toNat (IntKind.wrap .i64 (t_15 - (1 : Int)))) ((0 : Int), ((0 : Int), ByteArray.empty))).2.2)]], [], .c (.val (.bool r_22)), [], [], 2⟩)] [(32, true)] (calls_cons (delta_IsCopy_spec K (List.getD d_2 (Int.toNat (IntKind.wrap .i64 (t_15 - (1 : Int)))) ((0 : Int), ((0 : Int), ByteArray.empty))).1 (List.getD d_2 (Int.toNat (IntKind.wrap .i64 (t_15 - (1 : Int)))) ((0 : Int), ((0 : Int), ByteArray.empty))).2.1 (List.getD d_2 (Int.toNat (IntKind.wrap .i64 (t_15 - (1 : Int)))) ((0 : Int), ((0 : Int), ByteArray.empty))).2.2 r_22 h_23) (by kernel_rfl) calls_nil) 2 [1, 3, 4, 5, 6, 7, 23, 24, 25] [0, 1] ⟨[(1, .c (.h 0)), (3, .c (.val (.int .i64 size_13))), (4, .c (.val (.int .i64 to_14))), (5, .c (.val (.int .i64 t_15))), (6, .c (.h 1)), (7, .c (.val (.bool r_22))), (23, .c (.imm (.slice (.pair (.int .i64) (.pair (.int .i64) .str))) d_2)), (24, .c (.val (.int .i64 (((List.length d_2) : Nat) : Int)))), (25, .c (.val (.int .i64 t_15)))], [(0, .box [.val (.int .i64 d_1), .imm (.slice (.pair (.int .i64) (.pair (.int .i64) .str))) d_2]), (1, .box [.val (.int .i64 (List.getD d_2 (Int.toNat t_15) ((0 : Int), ((0 : Int), ByteArray.empty))).1), .val (.int .i64 (List.getD d_2 (Int.toNat t_15) ((0 : Int), ((0 : Int), ByteArray.empty))).2.1), .val (.string (List.getD d_2 (Int.toNat t_15) ((0 : Int), ((0 : Int), ByteArray.empty))).2.2)])], 2⟩ [(decide (t_15 > (0 : Int))) = true, 0 ≤ (IntKind.wrap .i64 (t_15 - (1 : Int))), (IntKind.wrap .i64 (t_15 - (1 : Int))) < (((List.length d_2) : Nat) : Int)] (by kernel_rfl) rfl rfl (ap2 b_21 (ap2 c_24.1 (ap1 c_24.2))) (by kernel_rfl) (by kernel_rfl) ?_
            have H_80 := Option.some.inj (show some r_22 = some q_72 from H_79); subst H_80
            refine VL_nil ?_
            exact QP_end r_22 rfl [(0, 0), (1, 1)] hn (by kernel_rfl) (by kernel_rfl) rfl rfl rfl
          · have H_77 := of_f H_73 b_21
            refine V_reg hN hn [] [(32, false)] calls_nil 2 [1, 3, 4, 5, 6, 7, 23, 24, 25] [0, 1] ⟨[(1, .c (.h 0)), (3, .c (.val (.int .i64 size_13))), (4, .c (.val (.int .i64 to_14))), (5, .c (.val (.int .i64 t_15))), (6, .c (.h 1)), (7, .c (.val (.bool false))), (23, .c (.imm (.slice (.pair (.int .i64) (.pair (.int .i64) .str))) d_2)), (24, .c (.val (.int .i64 (((List.length d_2) : Nat) : Int)))), (25, .c (.val (.int .i64 t_15)))], [(0, .box [.val (.int .i64 d_1), .imm (.slice (.pair (.int .i64) (.pair (.int .i64) .str))) d_2]), (1, .box [.val (.int .i64 (List.getD d_2 (Int.toNat t_15) ((0 : Int), ((0 : Int), ByteArray.empty))).1), .val (.int .i64 (List.getD d_2 (Int.toNat t_15) ((0 : Int), ((0 : Int), ByteArray.empty))).2.1), .val (.string (List.getD d_2 (Int.toNat t_15) ((0 : Int), ((0 : Int), ByteArray.empty))).2.2)])], 2⟩ [(decide (t_15 > (0 : Int))) = false] (by kernel_rfl) rfl rfl (ap1 b_21) (by kernel_rfl) (by kernel_rfl) ?_
            have H_81 := Option.some.inj (show some false = some q_72 from H_77); subst H_81
            refine VL_nil ?_
            exact QP_end false rfl [(0, 0), (1, 1)] hn (by kernel_rfl) (by kernel_rfl) rfl rfl rfl
        · intro y_75 hy; subst hy
          skip
          skip
          refine V_run hN hn 2 2 [1, 3, 4, 5, 6, 7, 23, 24, 25] [0, 1] ⟨[(1, .c (.h 0)), (3, .c (.val (.int .i64 size_13))), (4, .c (.val (.int .i64 to_14))), (5, .c (.val (.int .i64 t_15))), (6, .c (.h 1)), (7, .c (.val (.bool y_75))), (23, .c (.imm (.slice (.pair (.int .i64) (.pair (.int .i64) .str))) d_2)), (24, .c (.val (.int .i64 (((List.length d_2) : Nat) : Int)))), (25, .c (.val (.int .i64 t_15)))], [(0, .box [.val (.int .i64 d_1), .imm (.slice (.pair (.int .i64) (.pair (.int .i64) .str))) d_2]), (1, .box [.val (.int .i64 (List.getD d_2 (Int.toNat t_15) ((0 : Int), ((0 : Int), ByteArray.empty))).1), .val (.int .i64 (List.getD d_2 (Int.toNat t_15) ((0 : Int), ((0 : Int), ByteArray.empty))).2.1), .val (.string (List.getD d_2 (Int.toNat t_15) ((0 : Int), ((0 : Int), ByteArray.empty))).2.2)])], 2⟩ [] (by kernel_rfl) rfl rfl ap0 ?_
          obtain ⟨r_28, h_29, H_82⟩ := of_bind H_74
          refine V_reg hN hn [(7, ⟨39, 0, [.agg [.val (.int .i64 (List.getD d_2 (Int.toNat t_15) ((0 : Int), ((0 : Int), ByteArray.empty))).1), .val (.int .i64 (List.getD d_2 (Int.toNat t_15) ((0 : Int), ((0 : Int), ByteArray.empty))).2.1), .val (.string (List.getD d_2 (Int.toNat t_15) ((0 : Int), ((0 : Int), ByteArray.empty))).2.2)], .c (.val (.int .i64 d_1)), .c (.val (.int .i64 to_14)), .c (.val (.bool (decide (t_15 > (0 : Int))))), .c (.val (.bool y_75))], [], .c (.val (.bool r_28)), [], [], 2⟩)] [] (calls_cons (delta_elem_spec K (List.getD d_2 (Int.toNat t_15) ((0 : Int), ((0 : Int), ByteArray.empty))).1 (List.getD d_2 (Int.toNat t_15) ((0 : Int), ((0 : Int), ByteArray.empty))).2.1 (List.getD d_2 (Int.toNat t_15) ((0 : Int), ((0 : Int), ByteArray.empty))).2.2 d_1 to_14 (decide (t_15 > (0 : Int))) y_75 r_28 h_29) (by kernel_rfl) calls_nil) 2 [1, 3, 4, 6, 23, 24, 25, 49] [0, 1] ⟨[(1, .c (.h 0)), (3, .c (.val (.int .i64 size_13))), (4, .c (.val (.int .i64 to_14))), (6, .c (.h 1)), (23, .c (.imm (.slice (.pair (.int .i64) (.pair (.int .i64) .str))) d_2)), (24, .c (.val (.int .i64 (((List.length d_2) : Nat) : Int)))), (25, .c (.val (.int .i64 t_15))), (49, .c (.val (.bool (!r_28))))], [(0, .box [.val (.int .i64 d_1), .imm (.slice (.pair (.int .i64) (.pair (.int .i64) .str))) d_2]), (1, .box [.val (.int .i64 (List.getD d_2 (Int.toNat t_15) ((0 : Int), ((0 : Int), ByteArray.empty))).1), .val (.int .i64 (List.getD d_2 (Int.toNat t_15) ((0 : Int), ((0 : Int), ByteArray.empty))).2.1), .val (.string (List.getD d_2 (Int.toNat t_15) ((0 : Int), ((0 : Int), ByteArray.empty))).2.2)])], 2⟩ [] (by kernel_rfl) rfl rfl ap0 (by kernel_rfl) (by kernel_rfl) ?_
          refine VL_cond ((!r_28)) (by kernel_rfl) ?_ ?_
          · intro b_31; have H_83 := of_t H_82 b_31
            refine V_run hN hn 2 2 [2] [] ⟨[(2, .c (.val (.bool false)))], [], 2⟩ [] (by kernel_rfl) rfl rfl ap0 ?_
            have H_85 := Option.some.inj (show some false = some r from H_83); subst H_85
            refine VL_ret ?_
            refine QB_ret ?_
            refine QL_ret ?_
            refine QB_ret ?_
            exact P_to [(2, .c (.val (.bool false)))] [] [] hn (by kernel_rfl) (by kernel_rfl) rfl rfl rfl (QF_retS (by kernel_rfl) (by kernel_rfl) rfl)
          · intro b_31; have H_84 := of_f H_82 b_31
            refine V_run hN hn 3 2 [1, 3, 4, 6, 23, 24, 25, 49] [0, 1] ⟨[(1, .c (.h 0)), (3, .c (.val (.int .i64 size_13))), (4, .c (.val (.int .i64 to_14))), (6, .c (.h 1)), (23, .c (.imm (.slice (.pair (.int .i64) (.pair (.int .i64) .str))) d_2)), (24, .c (.val (.int .i64 (((List.length d_2) : Nat) : Int)))), (25, .c (.val (.int .i64 t_15))), (49, .c (.val (.bool (!r_28))))], [(0, .box [.val (.int .i64 d_1), .imm (.slice (.pair (.int .i64) (.pair (.int .i64) .str))) d_2]), (1, .box [.val (.int .i64 (List.getD d_2 (Int.toNat t_15) ((0 : Int), ((0 : Int), ByteArray.empty))).1), .val (.int .i64 (List.getD d_2 (Int.toNat t_15) ((0 : Int), ((0 : Int), ByteArray.empty))).2.1), .val (.string (List.getD d_2 (Int.toNat t_15) ((0 : Int), ((0 : Int), ByteArray.empty))).2.2)])], 2⟩ [] (by kernel_rfl) rfl rfl ap0 ?_
            obtain ⟨r_34, h_35, H_86⟩ := of_bind H_84
            refine V_reg hN hn [(1, ⟨38, 0, [.agg [.val (.int .i64 (List.getD d_2 (Int.toNat t_15) ((0 : Int), ((0 : Int), ByteArray.empty))).1), .val (.int .i64 (List.getD d_2 (Int.toNat t_15) ((0 : Int), ((0 : Int), ByteArray.empty))).2.1), .val (.string (List.getD d_2 (Int.toNat t_15) ((0 : Int), ((0 : Int), ByteArray.empty))).2.2)]], [], .c (.val (.bool r_34)), [], [], 2⟩)] [] (calls_cons (delta_IsCopy_spec K (List.getD d_2 (Int.toNat t_15) ((0 : Int), ((0 : Int), ByteArray.empty))).1 (List.getD d_2 (Int.toNat t_15) ((0 : Int), ((0 : Int), ByteArray.empty))).2.1 (List.getD d_2 (Int.toNat t_15) ((0 : Int), ((0 : Int), ByteArray.empty))).2.2 r_34 h_35) (by kernel_rfl) calls_nil) 2 [1, 3, 4, 6, 23, 24, 25, 51] [0, 1] ⟨[(1, .c (.h 0)), (3, .c (.val (.int .i64 size_13))), (4, .c (.val (.int .i64 to_14))), (6, .c (.h 1)), (23, .c (.imm (.slice (.pair (.int .i64) (.pair (.int .i64) .str))) d_2)), (24, .c (.val (.int .i64 (((List.length d_2) : Nat) : Int)))), (25, .c (.val (.int .i64 t_15))), (51, .c (.val (.bool r_34)))], [(0, .box [.val (.int .i64 d_1), .imm (.slice (.pair (.int .i64) (.pair (.int .i64) .str))) d_2]), (1, .box [.val (.int .i64 (List.getD d_2 (Int.toNat t_15) ((0 : Int), ((0 : Int), ByteArray.empty))).1), .val (.int .i64 (List.getD d_2 (Int.toNat t_15) ((0 : Int), ((0 : Int), ByteArray.empty))).2.1), .val (.string (List.getD d_2 (Int.toNat t_15) ((0 : Int), ((0 : Int), ByteArray.empty))).2.2)])], 2⟩ [] (by kernel_rfl) rfl rfl ap0 (by kernel_rfl) (by kernel_rfl) ?_
            obtain ⟨q_87, H_88, H_89⟩ := of_bind H_86
            refine V_cut (Y := Int) (R := Int) q_87 (fun y => y) (fun y => [(1, .c (.h 0)), (3, .c (.val (.int .i64 size_13))), (4, .c (.val (.int .i64 y))), (6, .c (.h 1)), (23, .c (.imm (.slice (.pair (.int .i64) (.pair (.int .i64) .str))) d_2)), (24, .c (.val (.int .i64 (((List.length d_2) : Nat) : Int)))), (25, .c (.val (.int .i64 t_15)))]) (fun y => [(0, .box [.val (.int .i64 d_1), .imm (.slice (.pair (.int .i64) (.pair (.int .i64) .str))) d_2]), (1, .box [.val (.int .i64 (List.getD d_2 (Int.toNat t_15) ((0 : Int), ((0 : Int), ByteArray.empty))).1), .val (.int .i64 (List.getD d_2 (Int.toNat t_15) ((0 : Int), ((0 : Int), ByteArray.empty))).2.1), .val (.string (List.getD d_2 (Int.toNat t_15) ((0 : Int), ((0 : Int), ByteArray.empty))).2.2)])]) ?_ ?_
            · skip
              refine VL_cond (r_34) (by kernel_rfl) ?_ ?_
              · intro b_37; have H_91 := of_t H_88 b_37
                refine V_run hN hn 1 2 [1, 3, 4, 6, 23, 24, 25] [0, 1] ⟨[(1, .c (.h 0)), (3, .c (.val (.int .i64 size_13))), (4, .c (.val (.int .i64 (List.getD d_2 (Int.toNat t_15) ((0 : Int), ((0 : Int), ByteArray.empty))).2.1))), (6, .c (.h 1)), (23, .c (.imm (.slice (.pair (.int .i64) (.pair (.int .i64) .str))) d_2)), (24, .c (.val (.int .i64 (((List.length d_2) : Nat) : Int)))), (25, .c (.val (.int .i64 t_15)))], [(0, .box [.val (.int .i64 d_1), .imm (.slice (.pair (.int .i64) (.pair (.int .i64) .str))) d_2]), (1, .box [.val (.int .i64 (List.getD d_2 (Int.toNat t_15) ((0 : Int), ((0 : Int), ByteArray.empty))).1), .val (.int .i64 (List.getD d_2 (Int.toNat t_15) ((0 : Int), ((0 : Int), ByteArray.empty))).2.1), .val (.string (List.getD d_2 (Int.toNat t_15) ((0 : Int), ((0 : Int), ByteArray.empty))).2.2)])], 2⟩ [] (by kernel_rfl) rfl rfl ap0 ?_
                have H_93 := Option.some.inj (show some (List.getD d_2 (Int.toNat t_15) ((0 : Int), ((0 : Int), ByteArray.empty))).2.1 = some q_87 from H_91); subst H_93
                refine VL_nil ?_
                exact QP_end (List.getD d_2 (Int.toNat t_15) ((0 : Int), ((0 : Int), ByteArray.empty))).2.1 rfl [(0, 0), (1, 1)] hn (by kernel_rfl) (by kernel_rfl) rfl rfl rfl
              · intro b_37; have H_92 := of_f H_88 b_37
                refine V_run hN hn 1 2 [1, 3, 4, 6, 23, 24, 25, 51] [0, 1] ⟨[(1, .c (.h 0)), (3, .c (.val (.int .i64 size_13))), (4, .c (.val (.int .i64 to_14))), (6, .c (.h 1)), (23, .c (.imm (.slice (.pair (.int .i64) (.pair (.int .i64) .str))) d_2)), (24, .c (.val (.int .i64 (((List.length d_2) : Nat) : Int)))), (25, .c (.val (.int .i64 t_15))), (51, .c (.val (.bool r_34)))], [(0, .box [.val (.int .i64 d_1), .imm (.slice (.pair (.int .i64) (.pair (.int .i64) .str))) d_2]), (1, .box [.val (.int .i64 (List.getD d_2 (Int.toNat t_15) ((0 : Int), ((0 : Int), ByteArray.empty))).1), .val (.int .i64 (List.getD d_2 (Int.toNat t_15) ((0 : Int), ((0 : Int), ByteArray.empty))).2.1), .val (.string (List.getD d_2 (Int.toNat t_15) ((0 : Int), ((0 : Int), ByteArray.empty))).2.2)])], 2⟩ [] (by kernel_rfl) rfl rfl ap0 ?_
                have H_94 := Option.some.inj (show some to_14 = some q_87 from H_92); subst H_94
                refine VL_nil ?_
                exact QP_end to_14 rfl [(0, 0), (1, 1)] hn (by kernel_rfl) (by kernel_rfl) rfl rfl rfl
            · intro y_90 hy; subst hy
              skip
              skip
              refine V_run hN hn 4 2 [1, 3, 4, 23, 24, 25, 66] [0] ⟨[(1, .c (.h 0)), (3, .c (.val (.int .i64 (IntKind.wrap .i64 (size_13 + (IntKind.wrap .i64 ((IntKind.wrap .i64 ((List.getD d_2 (Int.toNat t_15) ((0 : Int), ((0 : Int), ByteArray.empty))).2.1 - (List.getD d_2 (Int.toNat t_15) ((0 : Int), ((0 : Int), ByteArray.empty))).1)) + (((ByteArray.size (List.getD d_2 (Int.toNat t_15) ((0 : Int), ((0 : Int), ByteArray.empty))).2.2) : Nat) : Int)))))))), (4, .c (.val (.int .i64 y_90))), (23, .c (.imm (.slice (.pair (.int .i64) (.pair (.int .i64) .str))) d_2)), (24, .c (.val (.int .i64 (((List.length d_2) : Nat) : Int)))), (25, .c (.val (.int .i64 t_15))), (66, .c (.val (.bool (decide ((IntKind.wrap .i64 (size_13 + (IntKind.wrap .i64 ((IntKind.wrap .i64 ((List.getD d_2 (Int.toNat t_15) ((0 : Int), ((0 : Int), ByteArray.empty))).2.1 - (List.getD d_2 (Int.toNat t_15) ((0 : Int), ((0 : Int), ByteArray.empty))).1)) + (((ByteArray.size (List.getD d_2 (Int.toNat t_15) ((0 : Int), ((0 : Int), ByteArray.empty))).2.2) : Nat) : Int))))) > (20000 : Int))))))], [(0, .box [.val (.int .i64 d_1), .imm (.slice (.pair (.int .i64) (.pair (.int .i64) .str))) d_2])], 2⟩ [] (by kernel_rfl) rfl rfl ap0 ?_
              refine VL_cond ((decide ((IntKind.wrap .i64 (size_13 + (IntKind.wrap .i64 ((IntKind.wrap .i64 ((List.getD d_2 (Int.toNat t_15) ((0 : Int), ((0 : Int), ByteArray.empty))).2.1 - (List.getD d_2 (Int.toNat t_15) ((0 : Int), ((0 : Int), ByteArray.empty))).1)) + (((ByteArray.size (List.getD d_2 (Int.toNat t_15) ((0 : Int), ((0 : Int), ByteArray.empty))).2.2) : Nat) : Int))))) > (20000 : Int)))) (by kernel_rfl) ?_ ?_
              · intro b_42; have H_95 := of_t H_89 b_42
                refine V_run hN hn 2 2 [2] [] ⟨[(2, .c (.val (.bool false)))], [], 2⟩ [] (by kernel_rfl) rfl rfl ap0 ?_
                have H_97 := Option.some.inj (show some false = some r from H_95); subst H_97
                refine VL_ret ?_
                refine QB_ret ?_
                refine QL_ret ?_
                refine QB_ret ?_
                exact P_to [(2, .c (.val (.bool false)))] [] [] hn (by kernel_rfl) (by kernel_rfl) rfl rfl rfl (QF_retS (by kernel_rfl) (by kernel_rfl) rfl)
              · intro b_42; have H_96 := of_f H_89 b_42
                refine V_run hN hn 1 2 [1, 3, 4, 23, 24, 25, 66] [0] ⟨[(1, .c (.h 0)), (3, .c (.val (.int .i64 (IntKind.wrap .i64 (size_13 + (IntKind.wrap .i64 ((IntKind.wrap .i64 ((List.getD d_2 (Int.toNat t_15) ((0 : Int), ((0 : Int), ByteArray.empty))).2.1 - (List.getD d_2 (Int.toNat t_15) ((0 : Int), ((0 : Int), ByteArray.empty))).1)) + (((ByteArray.size (List.getD d_2 (Int.toNat t_15) ((0 : Int), ((0 : Int), ByteArray.empty))).2.2) : Nat) : Int)))))))), (4, .c (.val (.int .i64 y_90))), (23, .c (.imm (.slice (.pair (.int .i64) (.pair (.int .i64) .str))) d_2)), (24, .c (.val (.int .i64 (((List.length d_2) : Nat) : Int)))), (25, .c (.val (.int .i64 t_15))), (66, .c (.val (.bool (decide ((IntKind.wrap .i64 (size_13 + (IntKind.wrap .i64 ((IntKind.wrap .i64 ((List.getD d_2 (Int.toNat t_15) ((0 : Int), ((0 : Int), ByteArray.empty))).2.1 - (List.getD d_2 (Int.toNat t_15) ((0 : Int), ((0 : Int), ByteArray.empty))).1)) + (((ByteArray.size (List.getD d_2 (Int.toNat t_15) ((0 : Int), ((0 : Int), ByteArray.empty))).2.2) : Nat) : Int))))) > (20000 : Int))))))], [(0, .box [.val (.int .i64 d_1), .imm (.slice (.pair (.int .i64) (.pair (.int .i64) .str))) d_2])], 2⟩ [] (by kernel_rfl) rfl rfl ap0 ?_
                refine VL_nil (QB_end ?_)
                refine V_run hN hn 1 2 [1, 3, 4, 23, 24, 25] [0] ⟨[(1, .c (.h 0)), (3, .c (.val (.int .i64 (IntKind.wrap .i64 (size_13 + (IntKind.wrap .i64 ((IntKind.wrap .i64 ((List.getD d_2 (Int.toNat t_15) ((0 : Int), ((0 : Int), ByteArray.empty))).2.1 - (List.getD d_2 (Int.toNat t_15) ((0 : Int), ((0 : Int), ByteArray.empty))).1)) + (((ByteArray.size (List.getD d_2 (Int.toNat t_15) ((0 : Int), ((0 : Int), ByteArray.empty))).2.2) : Nat) : Int)))))))), (4, .c (.val (.int .i64 y_90))), (23, .c (.imm (.slice (.pair (.int .i64) (.pair (.int .i64) .str))) d_2)), (24, .c (.val (.int .i64 (((List.length d_2) : Nat) : Int)))), (25, .c (.val (.int .i64 (IntKind.wrap .i64 (t_15 + (1 : Int))))))], [(0, .box [.val (.int .i64 d_1), .imm (.slice (.pair (.int .i64) (.pair (.int .i64) .str))) d_2])], 2⟩ [] (by kernel_rfl) rfl rfl ap0 ?_
                refine VL_nil ?_
                exact V_roundEnd ((IntKind.wrap .i64 (size_13 + (IntKind.wrap .i64 ((IntKind.wrap .i64 ((List.getD d_2 (Int.toNat t_15) ((0 : Int), ((0 : Int), ByteArray.empty))).2.1 - (List.getD d_2 (Int.toNat t_15) ((0 : Int), ((0 : Int), ByteArray.empty))).1)) + (((ByteArray.size (List.getD d_2 (Int.toNat t_15) ((0 : Int), ((0 : Int), ByteArray.empty))).2.2) : Nat) : Int))))), y_90, (IntKind.wrap .i64 (t_15 + (1 : Int)))) H_96 [(0, 0)] hn (by kernel_rfl) (by kernel_rfl) rfl rfl rfl
      · intro b_18; have H_70 := of_f H_68 b_18
        refine VL_exit ?_
        refine QL_exit ?_
        refine QB_here ?_
        refine V_run hN hn 2 1 [2] [] ⟨[(2, .c (.val (.bool true)))], [], 1⟩ [] (by kernel_rfl) rfl rfl ap0 ?_
        have H_98 := Option.some.inj (show some true = some r from H_70); subst H_98
        refine VL_ret ?_
        exact P_to [(2, .c (.val (.bool true)))] [] [] hn (by kernel_rfl) (by kernel_rfl) rfl rfl rfl (QF_retS (by kernel_rfl) (by kernel_rfl) rfl)

theorem offset_Move_spec (K : Nat) (d_1 : Int) (d_2 : (List (Int × (Int × ByteArray)))) (at_3 : Int) (after_4 : Bool) (r : Int) (H : offset_Move K d_1 d_2 at_3 after_4 = some r) : Spec Try.prog 40 0 [.agg [.val (.int .i64 d_1), .imm (.slice (.pair (.int .i64) (.pair (.int .i64) .str))) d_2], .c (.val (.int .i64 at_3)), .c (.val (.bool after_4))] [] (.c (.val (.int .i64 r))) [] := by
  refine Spec_mk (fn := Try.f40) (c := (Try.f40.body).get!) Try.func40 (by kernel_rfl) rfl ?_
  intro C hN hn
  replace hN : C.N = 61 := hN
  unfold offset_Move at H
  refine V_run hN hn 2 0 [1, 2, 3] [0] ⟨[(1, .c (.val (.int .i64 at_3))), (2, .c (.val (.bool after_4))), (3, .c (.h 0))], [(0, .box [.val (.int .i64 d_1), .imm (.slice (.pair (.int .i64) (.pair (.int .i64) .str))) d_2])], 1⟩ [] (by kernel_rfl) rfl rfl ap0 ?_
  refine VL_scope ?_
  refine V_run hN hn 2 1 [1, 2, 3] [0] ⟨[(1, .c (.val (.int .i64 at_3))), (2, .c (.val (.bool after_4))), (3, .c (.h 0))], [(0, .box [.val (.int .i64 d_1), .imm (.slice (.pair (.int .i64) (.pair (.int .i64) .str))) d_2])], 1⟩ [] (by kernel_rfl) rfl rfl ap0 ?_
  obtain ⟨r_7, h_8, H_43⟩ := of_bind H
  refine V_reg hN hn [(1, ⟨28, 0, [.agg [.val (.int .i64 d_1), .imm (.slice (.pair (.int .i64) (.pair (.int .i64) .str))) d_2]], [], .c (.val (.bool r_7)), [], [], 1⟩)] [] (calls_cons (delta_Is_spec K d_1 d_2 r_7 h_8) (by kernel_rfl) calls_nil) 1 [1, 2, 3, 13] [0] ⟨[(1, .c (.val (.int .i64 at_3))), (2, .c (.val (.bool after_4))), (3, .c (.h 0)), (13, .c (.val (.bool (!r_7))))], [(0, .box [.val (.int .i64 d_1), .imm (.slice (.pair (.int .i64) (.pair (.int .i64) .str))) d_2])], 1⟩ [] (by kernel_rfl) rfl rfl ap0 (by kernel_rfl) (by kernel_rfl) ?_
  refine VL_cond ((!r_7)) (by kernel_rfl) ?_ ?_
  · intro b_10; have H_44 := of_t H_43 b_10
    refine V_run hN hn 2 1 [6] [] ⟨[(6, .c (.val (.int .i64 (0 : Int))))], [], 1⟩ [] (by kernel_rfl) rfl rfl ap0 ?_
    have H_46 := Option.some.inj (show some (0 : Int) = some r from H_44); subst H_46
    refine VL_ret ?_
    refine QG_ret ?_
    exact P_to [(6, .c (.val (.int .i64 (0 : Int))))] [] [] hn (by kernel_rfl) (by kernel_rfl) rfl rfl rfl (QF_retS (by kernel_rfl) (by kernel_rfl) rfl)
  · intro b_10; have H_45 := of_f H_43 b_10
    refine V_run hN hn 6 1 [1, 2, 3, 7, 8] [0] ⟨[(1, .c (.val (.int .i64 (mn2 (mx2 at_3 (0 : Int)) d_1)))), (2, .c (.val (.bool after_4))), (3, .c (.h 0)), (7, .c (.val (.int .i64 (0 : Int)))), (8, .c (.val (.int .i64 (0 : Int))))], [(0, .box [.val (.int .i64 d_1), .imm (.slice (.pair (.int .i64) (.pair (.int .i64) .str))) d_2])], 1⟩ [] (by kernel_rfl) rfl rfl ap0 ?_
    refine VL_label ?_
    refine V_run hN hn 3 1 [1, 2, 7, 8, 20, 21, 22] [] ⟨[(1, .c (.val (.int .i64 (mn2 (mx2 at_3 (0 : Int)) d_1)))), (2, .c (.val (.bool after_4))), (7, .c (.val (.int .i64 (0 : Int)))), (8, .c (.val (.int .i64 (0 : Int)))), (20, .c (.imm (.slice (.pair (.int .i64) (.pair (.int .i64) .str))) d_2)), (21, .c (.val (.int .i64 (((List.length d_2) : Nat) : Int)))), (22, .c (.val (.int .i64 (0 : Int))))], [], 1⟩ [] (by kernel_rfl) rfl rfl ap0 ?_
    obtain ⟨q_47, H_48, H_49⟩ := of_bind H_45
    refine V_cut (Y := (Int × Int)) (R := (Int × Int)) q_47 (fun y => y) (fun y => [(2, .c (.val (.bool after_4))), (7, .c (.val (.int .i64 y.1))), (8, .c (.val (.int .i64 y.2)))]) (fun y => []) ?_ ?_
    · skip
      refine VL_block ?_
      refine V_to [(1, .c (.val (.int .i64 (mn2 (mx2 at_3 (0 : Int)) d_1)))), (2, .c (.val (.bool after_4))), (7, .c (.val (.int .i64 (0 : Int)))), (8, .c (.val (.int .i64 (0 : Int)))), (20, .c (.imm (.slice (.pair (.int .i64) (.pair (.int .i64) .str))) d_2)), (21, .c (.val (.int .i64 (((List.length d_2) : Nat) : Int)))), (22, .c (.val (.int .i64 (0 : Int))))] [] [] hn (by kernel_rfl) (by kernel_rfl) rfl rfl rfl ?_
      refine VL_loop (X := (Int × Int × Int)) (fun x => [(1, .c (.val (.int .i64 (mn2 (mx2 at_3 (0 : Int)) d_1)))), (2, .c (.val (.bool after_4))), (7, .c (.val (.int .i64 x.1))), (8, .c (.val (.int .i64 x.2.1))), (20, .c (.imm (.slice (.pair (.int .i64) (.pair (.int .i64) .str))) d_2)), (21, .c (.val (.int .i64 (((List.length d_2) : Nat) : Int)))), (22, .c (.val (.int .i64 x.2.2)))]) (fun x => []) (fun k x => offset_Move.l0 K d_2 at_3 d_1 k x.1 x.2.1 x.2.2 = some q_47) K ((0 : Int), (0 : Int), (0 : Int)) H_48 (fun _ h => no_none h) ?_
      intro k_17 x_17 H_51
      obtain ⟨n_14, waits_15, t_16⟩ := x_17
      have H_52 : offset_Move.l0 K d_2 at_3 d_1 (k_17 + 1) n_14 waits_15 t_16 = some q_47 := H_51
      rw [offset_Move.l0] at H_52
      refine V_run hN hn 3 1 [1, 2, 7, 8, 20, 21, 22, 23] [] ⟨[(1, .c (.val (.int .i64 (mn2 (mx2 at_3 (0 : Int)) d_1)))), (2, .c (.val (.bool after_4))), (7, .c (.val (.int .i64 n_14))), (8, .c (.val (.int .i64 waits_15))), (20, .c (.imm (.slice (.pair (.int .i64) (.pair (.int .i64) .str))) d_2)), (21, .c (.val (.int .i64 (((List.length d_2) : Nat) : Int)))), (22, .c (.val (.int .i64 t_16))), (23, .c (.val (.bool (decide (t_16 < (((List.length d_2) : Nat) : Int))))))], [], 1⟩ [] (by kernel_rfl) rfl rfl ap0 ?_
      refine VL_cond ((decide (t_16 < (((List.length d_2) : Nat) : Int)))) (by kernel_rfl) ?_ ?_
      · intro b_19; have H_53 := of_t H_52 b_19
        refine V_run hN hn 2 1 [1, 2, 7, 8, 20, 21, 22, 23] [] ⟨[(1, .c (.val (.int .i64 (mn2 (mx2 at_3 (0 : Int)) d_1)))), (2, .c (.val (.bool after_4))), (7, .c (.val (.int .i64 n_14))), (8, .c (.val (.int .i64 waits_15))), (20, .c (.imm (.slice (.pair (.int .i64) (.pair (.int .i64) .str))) d_2)), (21, .c (.val (.int .i64 (((List.length d_2) : Nat) : Int)))), (22, .c (.val (.int .i64 t_16))), (23, .c (.val (.bool (decide (t_16 < (((List.length d_2) : Nat) : Int))))))], [], 1⟩ [] (by kernel_rfl) rfl rfl ap0 ?_
        refine VL_block ?_
        obtain ⟨c_21, H_55⟩ := of_if H_53
        refine V_run hN hn 2 1 [1, 2, 7, 8, 10, 20, 21, 22] [1] ⟨[(1, .c (.val (.int .i64 (mn2 (mx2 at_3 (0 : Int)) d_1)))), (2, .c (.val (.bool after_4))), (7, .c (.val (.int .i64 n_14))), (8, .c (.val (.int .i64 waits_15))), (10, .c (.h 1)), (20, .c (.imm (.slice (.pair (.int .i64) (.pair (.int .i64) .str))) d_2)), (21, .c (.val (.int .i64 (((List.length d_2) : Nat) : Int)))), (22, .c (.val (.int .i64 t_16)))], [(1, .box [.val (.int .i64 (List.getD d_2 (Int.toNat t_16) ((0 : Int), ((0 : Int), ByteArray.empty))).1), .val (.int .i64 (List.getD d_2 (Int.toNat t_16) ((0 : Int), ((0 : Int), ByteArray.empty))).2.1), .val (.string (List.getD d_2 (Int.toNat t_16) ((0 : Int), ((0 : Int), ByteArray.empty))).2.2)])], 2⟩ [0 ≤ t_16, t_16 < (((List.length d_2) : Nat) : Int)] (by kernel_rfl) rfl rfl (ap2 c_21.1 (ap1 c_21.2)) ?_
        refine VL_block ?_
        refine V_run hN hn 1 2 [1, 2, 7, 8, 10, 20, 21, 22] [1] ⟨[(1, .c (.val (.int .i64 (mn2 (mx2 at_3 (0 : Int)) d_1)))), (2, .c (.val (.bool after_4))), (7, .c (.val (.int .i64 n_14))), (8, .c (.val (.int .i64 waits_15))), (10, .c (.h 1)), (20, .c (.imm (.slice (.pair (.int .i64) (.pair (.int .i64) .str))) d_2)), (21, .c (.val (.int .i64 (((List.length d_2) : Nat) : Int)))), (22, .c (.val (.int .i64 t_16)))], [(1, .box [.val (.int .i64 (List.getD d_2 (Int.toNat t_16) ((0 : Int), ((0 : Int), ByteArray.empty))).1), .val (.int .i64 (List.getD d_2 (Int.toNat t_16) ((0 : Int), ((0 : Int), ByteArray.empty))).2.1), .val (.string (List.getD d_2 (Int.toNat t_16) ((0 : Int), ((0 : Int), ByteArray.empty))).2.2)])], 2⟩ [] (by kernel_rfl) rfl rfl ap0 ?_
        obtain ⟨r_23, h_24, H_56⟩ := of_bind H_55
        refine V_reg hN hn [(1, ⟨38, 0, [.agg [.val (.int .i64 (List.getD d_2 (Int.toNat t_16) ((0 : Int), ((0 : Int), ByteArray.empty))).1), .val (.int .i64 (List.getD d_2 (Int.toNat t_16) ((0 : Int), ((0 : Int), ByteArray.empty))).2.1), .val (.string (List.getD d_2 (Int.toNat t_16) ((0 : Int), ((0 : Int), ByteArray.empty))).2.2)]], [], .c (.val (.bool r_23)), [], [], 2⟩)] [] (calls_cons (delta_IsCopy_spec K (List.getD d_2 (Int.toNat t_16) ((0 : Int), ((0 : Int), ByteArray.empty))).1 (List.getD d_2 (Int.toNat t_16) ((0 : Int), ((0 : Int), ByteArray.empty))).2.1 (List.getD d_2 (Int.toNat t_16) ((0 : Int), ((0 : Int), ByteArray.empty))).2.2 r_23 h_24) (by kernel_rfl) calls_nil) 2 [1, 2, 7, 8, 10, 20, 21, 22, 41] [1] ⟨[(1, .c (.val (.int .i64 (mn2 (mx2 at_3 (0 : Int)) d_1)))), (2, .c (.val (.bool after_4))), (7, .c (.val (.int .i64 n_14))), (8, .c (.val (.int .i64 waits_15))), (10, .c (.h 1)), (20, .c (.imm (.slice (.pair (.int .i64) (.pair (.int .i64) .str))) d_2)), (21, .c (.val (.int .i64 (((List.length d_2) : Nat) : Int)))), (22, .c (.val (.int .i64 t_16))), (41, .c (.val (.bool (!r_23))))], [(1, .box [.val (.int .i64 (List.getD d_2 (Int.toNat t_16) ((0 : Int), ((0 : Int), ByteArray.empty))).1), .val (.int .i64 (List.getD d_2 (Int.toNat t_16) ((0 : Int), ((0 : Int), ByteArray.empty))).2.1), .val (.string (List.getD d_2 (Int.toNat t_16) ((0 : Int), ((0 : Int), ByteArray.empty))).2.2)])], 2⟩ [] (by kernel_rfl) rfl rfl ap0 (by kernel_rfl) (by kernel_rfl) ?_
        refine VL_cond ((!r_23)) (by kernel_rfl) ?_ ?_
        · intro b_26; have H_57 := of_t H_56 b_26
          refine V_run hN hn 1 2 [1, 2, 7, 8, 20, 21, 22] [] ⟨[(1, .c (.val (.int .i64 (mn2 (mx2 at_3 (0 : Int)) d_1)))), (2, .c (.val (.bool after_4))), (7, .c (.val (.int .i64 n_14))), (8, .c (.val (.int .i64 (IntKind.wrap .i64 (waits_15 + (((ByteArray.size (List.getD d_2 (Int.toNat t_16) ((0 : Int), ((0 : Int), ByteArray.empty))).2.2) : Nat) : Int)))))), (20, .c (.imm (.slice (.pair (.int .i64) (.pair (.int .i64) .str))) d_2)), (21, .c (.val (.int .i64 (((List.length d_2) : Nat) : Int)))), (22, .c (.val (.int .i64 t_16)))], [], 2⟩ [] (by kernel_rfl) rfl rfl ap0 ?_
          refine VL_nil (QB_end ?_)
          refine VL_nil (QB_end ?_)
          refine V_run hN hn 1 2 [1, 2, 7, 8, 20, 21, 22] [] ⟨[(1, .c (.val (.int .i64 (mn2 (mx2 at_3 (0 : Int)) d_1)))), (2, .c (.val (.bool after_4))), (7, .c (.val (.int .i64 n_14))), (8, .c (.val (.int .i64 (IntKind.wrap .i64 (waits_15 + (((ByteArray.size (List.getD d_2 (Int.toNat t_16) ((0 : Int), ((0 : Int), ByteArray.empty))).2.2) : Nat) : Int)))))), (20, .c (.imm (.slice (.pair (.int .i64) (.pair (.int .i64) .str))) d_2)), (21, .c (.val (.int .i64 (((List.length d_2) : Nat) : Int)))), (22, .c (.val (.int .i64 (IntKind.wrap .i64 (t_16 + (1 : Int))))))], [], 2⟩ [] (by kernel_rfl) rfl rfl ap0 ?_
          refine VL_nil ?_
          exact V_roundEnd (n_14, (IntKind.wrap .i64 (waits_15 + (((ByteArray.size (List.getD d_2 (Int.toNat t_16) ((0 : Int), ((0 : Int), ByteArray.empty))).2.2) : Nat) : Int))), (IntKind.wrap .i64 (t_16 + (1 : Int)))) H_57 [] hn (by kernel_rfl) (by kernel_rfl) rfl rfl rfl
        · intro b_26; have H_58 := of_f H_56 b_26
          refine V_run hN hn 2 2 [1, 2, 7, 8, 10, 20, 21, 22, 50] [1] ⟨[(1, .c (.val (.int .i64 (mn2 (mx2 at_3 (0 : Int)) d_1)))), (2, .c (.val (.bool after_4))), (7, .c (.val (.int .i64 n_14))), (8, .c (.val (.int .i64 waits_15))), (10, .c (.h 1)), (20, .c (.imm (.slice (.pair (.int .i64) (.pair (.int .i64) .str))) d_2)), (21, .c (.val (.int .i64 (((List.length d_2) : Nat) : Int)))), (22, .c (.val (.int .i64 t_16))), (50, .c (.val (.bool (decide ((List.getD d_2 (Int.toNat t_16) ((0 : Int), ((0 : Int), ByteArray.empty))).1 ≥ (mn2 (mx2 at_3 (0 : Int)) d_1))))))], [(1, .box [.val (.int .i64 (List.getD d_2 (Int.toNat t_16) ((0 : Int), ((0 : Int), ByteArray.empty))).1), .val (.int .i64 (List.getD d_2 (Int.toNat t_16) ((0 : Int), ((0 : Int), ByteArray.empty))).2.1), .val (.string (List.getD d_2 (Int.toNat t_16) ((0 : Int), ((0 : Int), ByteArray.empty))).2.2)])], 2⟩ [] (by kernel_rfl) rfl rfl ap0 ?_
          refine VL_cond ((decide ((List.getD d_2 (Int.toNat t_16) ((0 : Int), ((0 : Int), ByteArray.empty))).1 ≥ (mn2 (mx2 at_3 (0 : Int)) d_1)))) (by kernel_rfl) ?_ ?_
          · intro b_30; have H_59 := of_t H_58 b_30
            refine VL_exit ?_
            refine QB_out (by decide) ?_
            refine QB_out (by decide) ?_
            refine QL_exit ?_
            refine QB_here ?_
            have H_61 := Option.some.inj (show some (n_14, waits_15) = some q_47 from H_59); subst H_61
            refine VL_nil ?_
            exact QP_end (n_14, waits_15) rfl [] hn (by kernel_rfl) (by kernel_rfl) rfl rfl rfl
          · intro b_30; have H_60 := of_f H_58 b_30
            refine V_run hN hn 6 2 [1, 2, 7, 8, 20, 21, 22, 40] [] ⟨[(1, .c (.val (.int .i64 (mn2 (mx2 at_3 (0 : Int)) d_1)))), (2, .c (.val (.bool after_4))), (7, .c (.val (.int .i64 (IntKind.wrap .i64 (n_14 + (IntKind.wrap .i64 ((IntKind.wrap .i64 (waits_15 + (mn2 (List.getD d_2 (Int.toNat t_16) ((0 : Int), ((0 : Int), ByteArray.empty))).2.1 (mn2 (mx2 at_3 (0 : Int)) d_1)))) - (List.getD d_2 (Int.toNat t_16) ((0 : Int), ((0 : Int), ByteArray.empty))).1))))))), (8, .c (.val (.int .i64 (0 : Int)))), (20, .c (.imm (.slice (.pair (.int .i64) (.pair (.int .i64) .str))) d_2)), (21, .c (.val (.int .i64 (((List.length d_2) : Nat) : Int)))), (22, .c (.val (.int .i64 t_16))), (40, .c (.val (.bool (decide ((List.getD d_2 (Int.toNat t_16) ((0 : Int), ((0 : Int), ByteArray.empty))).2.1 > (mn2 (mx2 at_3 (0 : Int)) d_1))))))], [], 2⟩ [] (by kernel_rfl) rfl rfl ap0 ?_
            refine VL_cond ((decide ((List.getD d_2 (Int.toNat t_16) ((0 : Int), ((0 : Int), ByteArray.empty))).2.1 > (mn2 (mx2 at_3 (0 : Int)) d_1)))) (by kernel_rfl) ?_ ?_
            · intro b_32; have H_62 := of_t H_60 b_32
              refine VL_exit ?_
              refine QB_out (by decide) ?_
              refine QB_out (by decide) ?_
              refine QL_exit ?_
              refine QB_here ?_
              have H_64 := Option.some.inj (show some ((IntKind.wrap .i64 (n_14 + (IntKind.wrap .i64 ((IntKind.wrap .i64 (waits_15 + (mn2 (List.getD d_2 (Int.toNat t_16) ((0 : Int), ((0 : Int), ByteArray.empty))).2.1 (mn2 (mx2 at_3 (0 : Int)) d_1)))) - (List.getD d_2 (Int.toNat t_16) ((0 : Int), ((0 : Int), ByteArray.empty))).1)))), (0 : Int)) = some q_47 from H_62); subst H_64
              refine VL_nil ?_
              exact QP_end ((IntKind.wrap .i64 (n_14 + (IntKind.wrap .i64 ((IntKind.wrap .i64 (waits_15 + (mn2 (List.getD d_2 (Int.toNat t_16) ((0 : Int), ((0 : Int), ByteArray.empty))).2.1 (mn2 (mx2 at_3 (0 : Int)) d_1)))) - (List.getD d_2 (Int.toNat t_16) ((0 : Int), ((0 : Int), ByteArray.empty))).1)))), (0 : Int)) rfl [] hn (by kernel_rfl) (by kernel_rfl) rfl rfl rfl
            · intro b_32; have H_63 := of_f H_60 b_32
              refine V_run hN hn 1 2 [1, 2, 7, 8, 20, 21, 22, 40] [] ⟨[(1, .c (.val (.int .i64 (mn2 (mx2 at_3 (0 : Int)) d_1)))), (2, .c (.val (.bool after_4))), (7, .c (.val (.int .i64 (IntKind.wrap .i64 (n_14 + (IntKind.wrap .i64 ((IntKind.wrap .i64 (waits_15 + (mn2 (List.getD d_2 (Int.toNat t_16) ((0 : Int), ((0 : Int), ByteArray.empty))).2.1 (mn2 (mx2 at_3 (0 : Int)) d_1)))) - (List.getD d_2 (Int.toNat t_16) ((0 : Int), ((0 : Int), ByteArray.empty))).1))))))), (8, .c (.val (.int .i64 (0 : Int)))), (20, .c (.imm (.slice (.pair (.int .i64) (.pair (.int .i64) .str))) d_2)), (21, .c (.val (.int .i64 (((List.length d_2) : Nat) : Int)))), (22, .c (.val (.int .i64 t_16))), (40, .c (.val (.bool (decide ((List.getD d_2 (Int.toNat t_16) ((0 : Int), ((0 : Int), ByteArray.empty))).2.1 > (mn2 (mx2 at_3 (0 : Int)) d_1))))))], [], 2⟩ [] (by kernel_rfl) rfl rfl ap0 ?_
              refine VL_nil (QB_end ?_)
              refine VL_nil (QB_end ?_)
              refine V_run hN hn 1 2 [1, 2, 7, 8, 20, 21, 22] [] ⟨[(1, .c (.val (.int .i64 (mn2 (mx2 at_3 (0 : Int)) d_1)))), (2, .c (.val (.bool after_4))), (7, .c (.val (.int .i64 (IntKind.wrap .i64 (n_14 + (IntKind.wrap .i64 ((IntKind.wrap .i64 (waits_15 + (mn2 (List.getD d_2 (Int.toNat t_16) ((0 : Int), ((0 : Int), ByteArray.empty))).2.1 (mn2 (mx2 at_3 (0 : Int)) d_1)))) - (List.getD d_2 (Int.toNat t_16) ((0 : Int), ((0 : Int), ByteArray.empty))).1))))))), (8, .c (.val (.int .i64 (0 : Int)))), (20, .c (.imm (.slice (.pair (.int .i64) (.pair (.int .i64) .str))) d_2)), (21, .c (.val (.int .i64 (((List.length d_2) : Nat) : Int)))), (22, .c (.val (.int .i64 (IntKind.wrap .i64 (t_16 + (1 : Int))))))], [], 2⟩ [] (by kernel_rfl) rfl rfl ap0 ?_
              refine VL_nil ?_
              exact V_roundEnd ((IntKind.wrap .i64 (n_14 + (IntKind.wrap .i64 ((IntKind.wrap .i64 (waits_15 + (mn2 (List.getD d_2 (Int.toNat t_16) ((0 : Int), ((0 : Int), ByteArray.empty))).2.1 (mn2 (mx2 at_3 (0 : Int)) d_1)))) - (List.getD d_2 (Int.toNat t_16) ((0 : Int), ((0 : Int), ByteArray.empty))).1)))), (0 : Int), (IntKind.wrap .i64 (t_16 + (1 : Int)))) H_63 [] hn (by kernel_rfl) (by kernel_rfl) rfl rfl rfl
      · intro b_19; have H_54 := of_f H_52 b_19
        refine VL_exit ?_
        refine QL_exit ?_
        refine QB_here ?_
        have H_65 := Option.some.inj (show some (n_14, waits_15) = some q_47 from H_54); subst H_65
        refine VL_nil ?_
        exact QP_end (n_14, waits_15) rfl [] hn (by kernel_rfl) (by kernel_rfl) rfl rfl rfl
    · intro y_50 hy; subst hy
      obtain ⟨n_35, waits_36⟩ := y_50
      refine V_run hN hn 3 2 [7, 8, 56] [] ⟨[(7, .c (.val (.int .i64 n_35))), (8, .c (.val (.int .i64 waits_36))), (56, .c (.val (.bool after_4)))], [], 2⟩ [] (by kernel_rfl) rfl rfl ap0 ?_
      refine VL_cond (after_4) (by kernel_rfl) ?_ ?_
      · intro b_38; have H_66 := of_t H_49 b_38
        refine V_run hN hn 3 2 [6] [] ⟨[(6, .c (.val (.int .i64 (IntKind.wrap .i64 (n_35 + waits_36)))))], [], 2⟩ [] (by kernel_rfl) rfl rfl ap0 ?_
        have H_68 := Option.some.inj (show some (IntKind.wrap .i64 (n_35 + waits_36)) = some r from H_66); subst H_68
        refine VL_ret ?_
        refine QG_ret ?_
        exact P_to [(6, .c (.val (.int .i64 (IntKind.wrap .i64 (n_35 + waits_36)))))] [] [] hn (by kernel_rfl) (by kernel_rfl) rfl rfl rfl (QF_retS (by kernel_rfl) (by kernel_rfl) rfl)
      · intro b_38; have H_67 := of_f H_49 b_38
        refine V_run hN hn 3 2 [6] [] ⟨[(6, .c (.val (.int .i64 n_35)))], [], 2⟩ [] (by kernel_rfl) rfl rfl ap0 ?_
        have H_69 := Option.some.inj (show some n_35 = some r from H_67); subst H_69
        refine VL_ret ?_
        refine QG_ret ?_
        exact P_to [(6, .c (.val (.int .i64 n_35)))] [] [] hn (by kernel_rfl) (by kernel_rfl) rfl rfl rfl (QF_retS (by kernel_rfl) (by kernel_rfl) rfl)

theorem offset_Interval_spec (K : Nat) (d_1 : Int) (d_2 : (List (Int × (Int × ByteArray)))) (i_3 : Int) (i_4 : Int) (r : (Int × Int)) (H : offset_Interval K d_1 d_2 i_3 i_4 = some r) : Spec Try.prog 29 0 [.agg [.val (.int .i64 d_1), .imm (.slice (.pair (.int .i64) (.pair (.int .i64) .str))) d_2], .agg [.val (.int .i64 i_3), .val (.int .i64 i_4)]] [] (.agg [.val (.int .i64 r.1), .val (.int .i64 r.2)]) [] := by
  refine Spec_mk (fn := Try.f29) (c := (Try.f29.body).get!) Try.func29 (by kernel_rfl) rfl ?_
  intro C hN hn
  replace hN : C.N = 20 := hN
  unfold offset_Interval at H
  refine V_run hN hn 3 0 [2, 3, 4] [0, 1, 2] ⟨[(2, .c (.h 0)), (3, .c (.h 1)), (4, .c (.h 2))], [(0, .box [.val (.int .i64 d_1), .imm (.slice (.pair (.int .i64) (.pair (.int .i64) .str))) d_2]), (1, .box [.val (.int .i64 i_3), .val (.int .i64 i_4)]), (2, .box [.val (.int .i64 (0 : Int)), .val (.int .i64 (0 : Int))])], 3⟩ [] (by kernel_rfl) rfl rfl ap0 ?_
  obtain ⟨r_6, h_7, H_14⟩ := of_bind H
  obtain ⟨r_8, h_9, H_15⟩ := of_bind H_14
  refine V_draw hN hn (by kernel_rfl) [(3, ⟨40, 0, [.agg [.val (.int .i64 d_1), .imm (.slice (.pair (.int .i64) (.pair (.int .i64) .str))) d_2], .c (.val (.int .i64 i_3)), .c (.val (.bool true))], [], .c (.val (.int .i64 r_6)), [], [], 3⟩), (7, ⟨40, 0, [.agg [.val (.int .i64 d_1), .imm (.slice (.pair (.int .i64) (.pair (.int .i64) .str))) d_2], .c (.val (.int .i64 i_4)), .c (.val (.bool false))], [], .c (.val (.int .i64 r_8)), [], [], 3⟩)] [] (calls_cons (offset_Move_spec K d_1 d_2 i_3 true r_6 h_7) (by kernel_rfl) (calls_cons (offset_Move_spec K d_1 d_2 i_4 false r_8 h_9) (by kernel_rfl) calls_nil)) 3 [4, 5, 6] [2] ⟨[(4, .c (.h 2)), (5, .c (.val (.int .i64 r_6))), (6, .c (.val (.int .i64 r_8)))], [(2, .box [.val (.int .i64 (0 : Int)), .val (.int .i64 (0 : Int))])], 3⟩ [] (by kernel_rfl) rfl rfl ap0 (by kernel_rfl) (by kernel_rfl) ?_
  refine V_run hN hn 2 3 [4] [2] ⟨[(4, .c (.h 2))], [(2, .box [.val (.int .i64 r_6), .val (.int .i64 (mx2 r_6 r_8))])], 3⟩ [] (by kernel_rfl) rfl rfl ap0 ?_
  have H_16 := Option.some.inj (show some (r_6, (mx2 r_6 r_8)) = some r from H_15); subst H_16
  refine VL_ret ?_
  exact P_to [(4, .c (.h 2))] [(2, .box [.val (.int .i64 r_6), .val (.int .i64 (mx2 r_6 r_8))])] [(2, 2)] hn (by kernel_rfl) (by kernel_rfl) rfl rfl rfl (QF_retS (by kernel_rfl) (by kernel_rfl) rfl)

theorem spans_Edit_spec (K : Nat) (l_1 : (List (Int × (Int × Int)))) (d_2 : Int) (d_3 : (List (Int × (Int × ByteArray)))) (r : ((List (Int × (Int × Int))) × Int)) (H : spans_Edit K l_1 d_2 d_3 = some r) : Spec Try.prog 18 0 [.c (.imm (.slice (.pair (.int .i64) (.pair (.int .i64) (.int .i64)))) l_1), .agg [.val (.int .i64 d_2), .imm (.slice (.pair (.int .i64) (.pair (.int .i64) .str))) d_3]] [] (.tup [(false, [.h 7]), (false, [.val (.int .i64 r.2)])]) [(7, .row (.pair (.int .i64) (.pair (.int .i64) (.int .i64))) r.1)] := by
  refine Spec_mk (fn := Try.f18) (c := (Try.f18.body).get!) Try.func18 (by kernel_rfl) rfl ?_
  intro C hN hn
  replace hN : C.N = 45 := hN
  unfold spans_Edit at H
  refine V_run hN hn 4 0 [0, 3] [0] ⟨[(0, .c (.imm (.slice (.pair (.int .i64) (.pair (.int .i64) (.int .i64)))) l_1)), (3, .c (.h 0))], [(0, .box [.val (.int .i64 d_2), .imm (.slice (.pair (.int .i64) (.pair (.int .i64) .str))) d_3])], 1⟩ [] (by kernel_rfl) rfl rfl ap0 ?_
  obtain ⟨q_51, H_52, H_53⟩ := of_bind H
  refine V_cut (Y := Bool) (R := Bool) q_51 (fun y => y) (fun y => [(0, .c (.imm (.slice (.pair (.int .i64) (.pair (.int .i64) (.int .i64)))) l_1)), (3, .c (.h 0)), (19, .c (.val (.bool y)))]) (fun y => [(0, .box [.val (.int .i64 d_2), .imm (.slice (.pair (.int .i64) (.pair (.int .i64) .str))) d_3])]) ?_ ?_
  · skip
    obtain ⟨r_5, h_6, H_55⟩ := of_bind H_52
    rcases Bool.eq_false_or_eq_true ((!r_5)) with b_7 | b_7
    · have H_56 := of_t H_55 b_7
      refine V_reg hN hn [(1, ⟨28, 0, [.agg [.val (.int .i64 d_2), .imm (.slice (.pair (.int .i64) (.pair (.int .i64) .str))) d_3]], [], .c (.val (.bool r_5)), [], [], 1⟩)] [(13, true)] (calls_cons (delta_Is_spec K d_2 d_3 r_5 h_6) (by kernel_rfl) calls_nil) 1 [0, 3, 19] [0] ⟨[(0, .c (.imm (.slice (.pair (.int .i64) (.pair (.int .i64) (.int .i64)))) l_1)), (3, .c (.h 0)), (19, .c (.val (.bool true)))], [(0, .box [.val (.int .i64 d_2), .imm (.slice (.pair (.int .i64) (.pair (.int .i64) .str))) d_3])], 1⟩ [(!r_5) = true] (by kernel_rfl) rfl rfl (ap1 b_7) (by kernel_rfl) (by kernel_rfl) ?_
      have H_58 := Option.some.inj (show some true = some q_51 from H_56); subst H_58
      refine VL_nil ?_
      exact QP_end true rfl [(0, 0)] hn (by kernel_rfl) (by kernel_rfl) rfl rfl rfl
    · have H_57 := of_f H_55 b_7
      obtain ⟨r_9, h_10, H_59⟩ := of_bind H_57
      refine V_reg hN hn [(1, ⟨28, 0, [.agg [.val (.int .i64 d_2), .imm (.slice (.pair (.int .i64) (.pair (.int .i64) .str))) d_3]], [], .c (.val (.bool r_5)), [], [], 1⟩), (7, ⟨13, 0, [.c (.imm (.slice (.pair (.int .i64) (.pair (.int .i64) (.int .i64)))) l_1), .c (.val (.int .i64 d_2))], [], .c (.val (.bool r_9)), [], [], 1⟩)] [(13, false)] (calls_cons (delta_Is_spec K d_2 d_3 r_5 h_6) (by kernel_rfl) (calls_cons (spans_Is_spec K l_1 d_2 r_9 h_10) (by kernel_rfl) calls_nil)) 1 [0, 3, 19] [0] ⟨[(0, .c (.imm (.slice (.pair (.int .i64) (.pair (.int .i64) (.int .i64)))) l_1)), (3, .c (.h 0)), (19, .c (.val (.bool (!r_9))))], [(0, .box [.val (.int .i64 d_2), .imm (.slice (.pair (.int .i64) (.pair (.int .i64) .str))) d_3])], 1⟩ [(!r_5) = false] (by kernel_rfl) rfl rfl (ap1 b_7) (by kernel_rfl) (by kernel_rfl) ?_
      have H_60 := Option.some.inj (show some (!r_9) = some q_51 from H_59); subst H_60
      refine VL_nil ?_
      exact QP_end (!r_9) rfl [(0, 0)] hn (by kernel_rfl) (by kernel_rfl) rfl rfl rfl
  · intro y_54 hy; subst hy
    skip
    skip
    refine VL_cond (y_54) (by kernel_rfl) ?_ ?_
    · intro b_13; have H_61 := of_t H_53 b_13
      refine V_run hN hn 2 1 [4, 5] [] ⟨[(4, .c (.val (.slice none 0 0))), (5, .c (.val (.int .i64 (12 : Int))))], [], 1⟩ [] (by kernel_rfl) rfl rfl ap0 ?_
      have H_63 := Option.some.inj (show some (([] : List (Int × (Int × Int))), (12 : Int)) = some r from H_61); subst H_63
      refine VL_ret ?_
      refine P_ghost [.nilSlot 4 (.pair (.int .i64) (.pair (.int .i64) (.int .i64)))] 1 hn [4, 5] [1] ⟨[(4, .c (.h 1)), (5, .c (.val (.int .i64 (12 : Int))))], [(1, .row (.pair (.int .i64) (.pair (.int .i64) (.int .i64))) ([] : List (Int × (Int × Int))))], 2⟩ (by kernel_rfl) rfl rfl ?_
      exact P_to [(4, .c (.h 7)), (5, .c (.val (.int .i64 (12 : Int))))] [(7, .row (.pair (.int .i64) (.pair (.int .i64) (.int .i64))) ([] : List (Int × (Int × Int))))] [(7, 1)] hn (by kernel_rfl) (by kernel_rfl) rfl rfl rfl (QF_retS (by kernel_rfl) (by kernel_rfl) rfl)
    · intro b_13; have H_62 := of_f H_53 b_13
      refine V_run hN hn 6 1 [3, 6, 20, 21, 22] [0, 1] ⟨[(3, .c (.h 0)), (6, .c (.h 1)), (20, .c (.imm (.slice (.pair (.int .i64) (.pair (.int .i64) (.int .i64)))) l_1)), (21, .c (.val (.int .i64 (((List.length l_1) : Nat) : Int)))), (22, .c (.val (.int .i64 (0 : Int))))], [(0, .box [.val (.int .i64 d_2), .imm (.slice (.pair (.int .i64) (.pair (.int .i64) .str))) d_3]), (1, .box [.val (.slice none 0 0)])], 2⟩ [] (by kernel_rfl) rfl rfl ap0 ?_
      obtain ⟨q_64, H_65, H_66⟩ := of_bind H_62
      refine V_cut (Y := (List (Int × (Int × Int)))) (R := (List (Int × (Int × Int)))) q_64 (fun y => y) (fun y => [(6, .c (.h 1))]) (fun y => [(1, .box [.h 5]), (5, .row (.pair (.int .i64) (.pair (.int .i64) (.int .i64))) y)]) ?_ ?_
      · skip
        refine VL_block ?_
        refine V_ghost [.nilCell 1 0 (.pair (.int .i64) (.pair (.int .i64) (.int .i64)))] 2 hn [3, 6, 20, 21, 22] [0, 1, 2] ⟨[(3, .c (.h 0)), (6, .c (.h 1)), (20, .c (.imm (.slice (.pair (.int .i64) (.pair (.int .i64) (.int .i64)))) l_1)), (21, .c (.val (.int .i64 (((List.length l_1) : Nat) : Int)))), (22, .c (.val (.int .i64 (0 : Int))))], [(0, .box [.val (.int .i64 d_2), .imm (.slice (.pair (.int .i64) (.pair (.int .i64) .str))) d_3]), (1, .box [.h 2]), (2, .row (.pair (.int .i64) (.pair (.int .i64) (.int .i64))) ([] : List (Int × (Int × Int))))], 3⟩ (by kernel_rfl) rfl rfl ?_
        refine V_to [(3, .c (.h 0)), (6, .c (.h 1)), (20, .c (.imm (.slice (.pair (.int .i64) (.pair (.int .i64) (.int .i64)))) l_1)), (21, .c (.val (.int .i64 (((List.length l_1) : Nat) : Int)))), (22, .c (.val (.int .i64 (0 : Int))))] [(0, .box [.val (.int .i64 d_2), .imm (.slice (.pair (.int .i64) (.pair (.int .i64) .str))) d_3]), (1, .box [.h 5]), (5, .row (.pair (.int .i64) (.pair (.int .i64) (.int .i64))) ([] : List (Int × (Int × Int))))] [(0, 0), (1, 1), (5, 2)] hn (by kernel_rfl) (by kernel_rfl) rfl rfl rfl ?_
        refine VL_loop (X := ((List (Int × (Int × Int))) × Int)) (fun x => [(3, .c (.h 0)), (6, .c (.h 1)), (20, .c (.imm (.slice (.pair (.int .i64) (.pair (.int .i64) (.int .i64)))) l_1)), (21, .c (.val (.int .i64 (((List.length l_1) : Nat) : Int)))), (22, .c (.val (.int .i64 x.2)))]) (fun x => [(0, .box [.val (.int .i64 d_2), .imm (.slice (.pair (.int .i64) (.pair (.int .i64) .str))) d_3]), (1, .box [.h 5]), (5, .row (.pair (.int .i64) (.pair (.int .i64) (.int .i64))) x.1)]) (fun k x => spans_Edit.l0 K l_1 d_2 d_3 k x.1 x.2 = some q_64) K (([] : List (Int × (Int × Int))), (0 : Int)) H_65 (fun _ h => no_none h) ?_
        intro k_30 x_30 H_68
        obtain ⟨x_29, t_16⟩ := x_30
        have H_69 : spans_Edit.l0 K l_1 d_2 d_3 (k_30 + 1) x_29 t_16 = some q_64 := H_68
        rw [spans_Edit.l0] at H_69
        refine V_run hN hn 3 6 [3, 6, 20, 21, 22, 23] [0, 1, 5] ⟨[(3, .c (.h 0)), (6, .c (.h 1)), (20, .c (.imm (.slice (.pair (.int .i64) (.pair (.int .i64) (.int .i64)))) l_1)), (21, .c (.val (.int .i64 (((List.length l_1) : Nat) : Int)))), (22, .c (.val (.int .i64 t_16))), (23, .c (.val (.bool (decide (t_16 < (((List.length l_1) : Nat) : Int))))))], [(0, .box [.val (.int .i64 d_2), .imm (.slice (.pair (.int .i64) (.pair (.int .i64) .str))) d_3]), (1, .box [.h 5]), (5, .row (.pair (.int .i64) (.pair (.int .i64) (.int .i64))) x_29)], 6⟩ [] (by kernel_rfl) rfl rfl ap0 ?_
        refine VL_cond ((decide (t_16 < (((List.length l_1) : Nat) : Int)))) (by kernel_rfl) ?_ ?_
        · intro b_32; have H_70 := of_t H_69 b_32
          refine V_run hN hn 2 6 [3, 6, 20, 21, 22, 23] [0, 1, 5] ⟨[(3, .c (.h 0)), (6, .c (.h 1)), (20, .c (.imm (.slice (.pair (.int .i64) (.pair (.int .i64) (.int .i64)))) l_1)), (21, .c (.val (.int .i64 (((List.length l_1) : Nat) : Int)))), (22, .c (.val (.int .i64 t_16))), (23, .c (.val (.bool (decide (t_16 < (((List.length l_1) : Nat) : Int))))))], [(0, .box [.val (.int .i64 d_2), .imm (.slice (.pair (.int .i64) (.pair (.int .i64) .str))) d_3]), (1, .box [.h 5]), (5, .row (.pair (.int .i64) (.pair (.int .i64) (.int .i64))) x_29)], 6⟩ [] (by kernel_rfl) rfl rfl ap0 ?_
          refine VL_block ?_
          obtain ⟨c_34, H_72⟩ := of_if H_70
          refine V_run hN hn 3 6 [3, 6, 8, 20, 21, 22] [0, 1, 5, 6] ⟨[(3, .c (.h 0)), (6, .c (.h 1)), (8, .c (.h 6)), (20, .c (.imm (.slice (.pair (.int .i64) (.pair (.int .i64) (.int .i64)))) l_1)), (21, .c (.val (.int .i64 (((List.length l_1) : Nat) : Int)))), (22, .c (.val (.int .i64 t_16)))], [(0, .box [.val (.int .i64 d_2), .imm (.slice (.pair (.int .i64) (.pair (.int .i64) .str))) d_3]), (1, .box [.h 5]), (5, .row (.pair (.int .i64) (.pair (.int .i64) (.int .i64))) x_29), (6, .box [.val (.int .i64 (List.getD l_1 (Int.toNat t_16) ((0 : Int), ((0 : Int), (0 : Int)))).1), .val (.int .i64 (List.getD l_1 (Int.toNat t_16) ((0 : Int), ((0 : Int), (0 : Int)))).2.1), .val (.int .i64 (List.getD l_1 (Int.toNat t_16) ((0 : Int), ((0 : Int), (0 : Int)))).2.2)])], 7⟩ [0 ≤ t_16, t_16 < (((List.length l_1) : Nat) : Int)] (by kernel_rfl) rfl rfl (ap2 c_34.1 (ap1 c_34.2)) ?_
          obtain ⟨r_35, h_36, H_73⟩ := of_bind H_72
          refine V_reg hN hn [(6, ⟨29, 0, [.agg [.val (.int .i64 d_2), .imm (.slice (.pair (.int .i64) (.pair (.int .i64) .str))) d_3], .agg [.val (.int .i64 (List.getD l_1 (Int.toNat t_16) ((0 : Int), ((0 : Int), (0 : Int)))).1), .val (.int .i64 (List.getD l_1 (Int.toNat t_16) ((0 : Int), ((0 : Int), (0 : Int)))).2.1)]], [], .agg [.val (.int .i64 r_35.1), .val (.int .i64 r_35.2)], [], [], 7⟩)] [] (calls_cons (offset_Interval_spec K d_2 d_3 (List.getD l_1 (Int.toNat t_16) ((0 : Int), ((0 : Int), (0 : Int)))).1 (List.getD l_1 (Int.toNat t_16) ((0 : Int), ((0 : Int), (0 : Int)))).2.1 r_35 h_36) (by kernel_rfl) calls_nil) 7 [3, 6, 8, 9, 20, 21, 22] [0, 1, 5, 6, 7] ⟨[(3, .c (.h 0)), (6, .c (.h 1)), (8, .c (.h 6)), (9, .c (.h 7)), (20, .c (.imm (.slice (.pair (.int .i64) (.pair (.int .i64) (.int .i64)))) l_1)), (21, .c (.val (.int .i64 (((List.length l_1) : Nat) : Int)))), (22, .c (.val (.int .i64 t_16)))], [(0, .box [.val (.int .i64 d_2), .imm (.slice (.pair (.int .i64) (.pair (.int .i64) .str))) d_3]), (1, .box [.h 5]), (5, .row (.pair (.int .i64) (.pair (.int .i64) (.int .i64))) x_29), (6, .box [.val (.int .i64 (List.getD l_1 (Int.toNat t_16) ((0 : Int), ((0 : Int), (0 : Int)))).1), .val (.int .i64 (List.getD l_1 (Int.toNat t_16) ((0 : Int), ((0 : Int), (0 : Int)))).2.1), .val (.int .i64 (List.getD l_1 (Int.toNat t_16) ((0 : Int), ((0 : Int), (0 : Int)))).2.2)]), (7, .box [.val (.int .i64 r_35.1), .val (.int .i64 r_35.2)])], 8⟩ [] (by kernel_rfl) rfl rfl ap0 (by kernel_rfl) (by kernel_rfl) ?_
          obtain ⟨r_38, h_39, H_74⟩ := of_bind H_73
          refine V_reg hN hn [(6, ⟨25, 2, [.c (.h 0), .c (.val (.int .i64 r_35.1)), .c (.val (.int .i64 r_35.2)), .c (.val (.int .i64 (List.getD l_1 (Int.toNat t_16) ((0 : Int), ((0 : Int), (0 : Int)))).2.2))], [(0, .box [.h 1]), (1, .row (.pair (.int .i64) (.pair (.int .i64) (.int .i64))) x_29)], .tup [], [(0, .box [.h 4]), (4, .row (.pair (.int .i64) (.pair (.int .i64) (.int .i64))) r_38)], [(0, 1), (1, 5), (4, 8)], 9⟩)] [] (calls_cons (spans_row_add_bggg_b0cf7_spec K x_29 r_35.1 r_35.2 (List.getD l_1 (Int.toNat t_16) ((0 : Int), ((0 : Int), (0 : Int)))).2.2 r_38 h_39) (by kernel_rfl) calls_nil) 8 [3, 6, 20, 21, 22] [0, 1, 8] ⟨[(3, .c (.h 0)), (6, .c (.h 1)), (20, .c (.imm (.slice (.pair (.int .i64) (.pair (.int .i64) (.int .i64)))) l_1)), (21, .c (.val (.int .i64 (((List.length l_1) : Nat) : Int)))), (22, .c (.val (.int .i64 t_16)))], [(0, .box [.val (.int .i64 d_2), .imm (.slice (.pair (.int .i64) (.pair (.int .i64) .str))) d_3]), (1, .box [.h 8]), (8, .row (.pair (.int .i64) (.pair (.int .i64) (.int .i64))) r_38)], 9⟩ [] (by kernel_rfl) rfl rfl ap0 (by kernel_rfl) (by kernel_rfl) ?_
          refine VL_nil (QB_end ?_)
          refine V_run hN hn 1 9 [3, 6, 20, 21, 22] [0, 1, 8] ⟨[(3, .c (.h 0)), (6, .c (.h 1)), (20, .c (.imm (.slice (.pair (.int .i64) (.pair (.int .i64) (.int .i64)))) l_1)), (21, .c (.val (.int .i64 (((List.length l_1) : Nat) : Int)))), (22, .c (.val (.int .i64 (IntKind.wrap .i64 (t_16 + (1 : Int))))))], [(0, .box [.val (.int .i64 d_2), .imm (.slice (.pair (.int .i64) (.pair (.int .i64) .str))) d_3]), (1, .box [.h 8]), (8, .row (.pair (.int .i64) (.pair (.int .i64) (.int .i64))) r_38)], 9⟩ [] (by kernel_rfl) rfl rfl ap0 ?_
          refine VL_nil ?_
          exact V_roundEnd (r_38, (IntKind.wrap .i64 (t_16 + (1 : Int)))) H_74 [(0, 0), (1, 1), (5, 8)] hn (by kernel_rfl) (by kernel_rfl) rfl rfl rfl
        · intro b_32; have H_71 := of_f H_69 b_32
          refine VL_exit ?_
          refine QL_exit ?_
          refine QB_here ?_
          have H_75 := Option.some.inj (show some x_29 = some q_64 from H_71); subst H_75
          refine VL_nil ?_
          exact QP_end x_29 rfl [(1, 1), (5, 5)] hn (by kernel_rfl) (by kernel_rfl) rfl rfl rfl
      · intro y_67 hy; subst hy
        skip
        skip
        refine V_run hN hn 1 6 [6] [1, 5] ⟨[(6, .c (.h 1))], [(1, .box [.h 5]), (5, .row (.pair (.int .i64) (.pair (.int .i64) (.int .i64))) y_67)], 6⟩ [] (by kernel_rfl) rfl rfl ap0 ?_
        obtain ⟨r_44, h_45, H_76⟩ := of_bind H_66
        refine V_reg hN hn [(1, ⟨26, 1, [.c (.h 0)], [(0, .row (.pair (.int .i64) (.pair (.int .i64) (.int .i64))) y_67)], .tup [(false, [.h 7]), (false, [.val (.int .i64 r_44.2.1)])], [(0, .row (.pair (.int .i64) (.pair (.int .i64) (.int .i64))) r_44.2.2), (7, .row (.pair (.int .i64) (.pair (.int .i64) (.int .i64))) r_44.1)], [(0, 5), (7, 6)], 7⟩)] [] (calls_cons (spans_told_r_spec K y_67 r_44 h_45) (by kernel_rfl) calls_nil) 6 [4, 5] [6] ⟨[(4, .c (.h 6)), (5, .c (.val (.int .i64 r_44.2.1)))], [(6, .row (.pair (.int .i64) (.pair (.int .i64) (.int .i64))) r_44.1)], 7⟩ [] (by kernel_rfl) rfl rfl ap0 (by kernel_rfl) (by kernel_rfl) ?_
        have H_77 := Option.some.inj (show some (r_44.1, r_44.2.1) = some r from H_76); subst H_77
        refine VL_ret ?_
        exact P_to [(4, .c (.h 7)), (5, .c (.val (.int .i64 r_44.2.1)))] [(7, .row (.pair (.int .i64) (.pair (.int .i64) (.int .i64))) r_44.1)] [(7, 6)] hn (by kernel_rfl) (by kernel_rfl) rfl rfl rfl (QF_retS (by kernel_rfl) (by kernel_rfl) rfl)

theorem palinoderef1_Size_spec (K : Nat) (s_1 : ByteArray) (at_2 : Int) (r : Int) (H : palinoderef1_Size K s_1 at_2 = some r) : Spec Try.prog 49 0 [.c (.val (.string s_1)), .c (.val (.int .i64 at_2))] [] (.c (.val (.int .i64 r))) [] := by
  refine Spec_mk (fn := Try.f49) (c := (Try.f49.body).get!) Try.func49 (by kernel_rfl) rfl ?_
  intro C hN hn
  replace hN : C.N = 94 := hN
  unfold palinoderef1_Size at H
  refine V_run hN hn 4 0 [0, 1] [] ⟨[(0, .c (.val (.string s_1))), (1, .c (.val (.int .i64 at_2)))], [], 0⟩ [] (by kernel_rfl) rfl rfl ap0 ?_
  obtain ⟨q_77, H_78, H_79⟩ := of_bind H
  refine V_cut (Y := Bool) (R := Bool) q_77 (fun y => y) (fun y => [(0, .c (.val (.string s_1))), (1, .c (.val (.int .i64 at_2))), (18, .c (.val (.bool y)))]) (fun y => []) ?_ ?_
  · skip
    rcases Bool.eq_false_or_eq_true ((decide (at_2 < (0 : Int)))) with b_4 | b_4
    · have H_81 := of_t H_78 b_4
      refine V_reg hN hn [] [(13, true)] calls_nil 0 [0, 1, 18] [] ⟨[(0, .c (.val (.string s_1))), (1, .c (.val (.int .i64 at_2))), (18, .c (.val (.bool true)))], [], 0⟩ [(decide (at_2 < (0 : Int))) = true] (by kernel_rfl) rfl rfl (ap1 b_4) (by kernel_rfl) (by kernel_rfl) ?_
      have H_83 := Option.some.inj (show some true = some q_77 from H_81); subst H_83
      refine VL_nil ?_
      exact QP_end true rfl [] hn (by kernel_rfl) (by kernel_rfl) rfl rfl rfl
    · have H_82 := of_f H_78 b_4
      refine V_reg hN hn [] [(13, false)] calls_nil 0 [0, 1, 18] [] ⟨[(0, .c (.val (.string s_1))), (1, .c (.val (.int .i64 at_2))), (18, .c (.val (.bool (decide (at_2 ≥ (((ByteArray.size s_1) : Nat) : Int))))))], [], 0⟩ [(decide (at_2 < (0 : Int))) = false] (by kernel_rfl) rfl rfl (ap1 b_4) (by kernel_rfl) (by kernel_rfl) ?_
      have H_84 := Option.some.inj (show some (decide (at_2 ≥ (((ByteArray.size s_1) : Nat) : Int))) = some q_77 from H_82); subst H_84
      refine VL_nil ?_
      exact QP_end (decide (at_2 ≥ (((ByteArray.size s_1) : Nat) : Int))) rfl [] hn (by kernel_rfl) (by kernel_rfl) rfl rfl rfl
  · intro y_80 hy; subst hy
    skip
    skip
    refine VL_cond (y_80) (by kernel_rfl) ?_ ?_
    · intro b_8; have H_85 := of_t H_79 b_8
      refine V_run hN hn 2 0 [4] [] ⟨[(4, .c (.val (.int .i64 (0 : Int))))], [], 0⟩ [] (by kernel_rfl) rfl rfl ap0 ?_
      have H_87 := Option.some.inj (show some (0 : Int) = some r from H_85); subst H_87
      refine VL_ret ?_
      exact P_to [(4, .c (.val (.int .i64 (0 : Int))))] [] [] hn (by kernel_rfl) (by kernel_rfl) rfl rfl rfl (QF_retS (by kernel_rfl) (by kernel_rfl) rfl)
    · intro b_8; have H_86 := of_f H_79 b_8
      obtain ⟨c_10, H_88⟩ := of_if H_86
      refine V_run hN hn 6 0 [0, 1, 5] [] ⟨[(0, .c (.val (.string s_1))), (1, .c (.val (.int .i64 at_2))), (5, .c (.val (.int .i64 (IntKind.wrap .i64 (bt s_1 at_2)))))], [], 0⟩ [0 ≤ at_2, at_2 < (((ByteArray.size s_1) : Nat) : Int)] (by kernel_rfl) rfl rfl (ap2 c_10.1 (ap1 c_10.2)) ?_
      refine VL_block ?_
      refine V_run hN hn 2 0 [0, 1, 5, 23] [] ⟨[(0, .c (.val (.string s_1))), (1, .c (.val (.int .i64 at_2))), (5, .c (.val (.int .i64 (IntKind.wrap .i64 (bt s_1 at_2))))), (23, .c (.val (.bool (decide ((IntKind.wrap .i64 (bt s_1 at_2)) < (128 : Int))))))], [], 0⟩ [] (by kernel_rfl) rfl rfl ap0 ?_
      refine VL_cond ((decide ((IntKind.wrap .i64 (bt s_1 at_2)) < (128 : Int)))) (by kernel_rfl) ?_ ?_
      · intro b_12; have H_89 := of_t H_88 b_12
        refine V_run hN hn 2 0 [4] [] ⟨[(4, .c (.val (.int .i64 (1 : Int))))], [], 0⟩ [] (by kernel_rfl) rfl rfl ap0 ?_
        have H_91 := Option.some.inj (show some (1 : Int) = some r from H_89); subst H_91
        refine VL_ret ?_
        refine QB_ret ?_
        exact P_to [(4, .c (.val (.int .i64 (1 : Int))))] [] [] hn (by kernel_rfl) (by kernel_rfl) rfl rfl rfl (QF_retS (by kernel_rfl) (by kernel_rfl) rfl)
      · intro b_12; have H_90 := of_f H_88 b_12
        refine V_run hN hn 1 0 [0, 1, 5, 23] [] ⟨[(0, .c (.val (.string s_1))), (1, .c (.val (.int .i64 at_2))), (5, .c (.val (.int .i64 (IntKind.wrap .i64 (bt s_1 at_2))))), (23, .c (.val (.bool (decide ((IntKind.wrap .i64 (bt s_1 at_2)) < (128 : Int))))))], [], 0⟩ [] (by kernel_rfl) rfl rfl ap0 ?_
        obtain ⟨q_92, H_93, H_94⟩ := of_bind H_90
        refine V_cut (Y := Bool) (R := Bool) q_92 (fun y => y) (fun y => [(0, .c (.val (.string s_1))), (1, .c (.val (.int .i64 at_2))), (5, .c (.val (.int .i64 (IntKind.wrap .i64 (bt s_1 at_2))))), (26, .c (.val (.bool y)))]) (fun y => []) ?_ ?_
        · skip
          rcases Bool.eq_false_or_eq_true ((decide ((IntKind.wrap .i64 (bt s_1 at_2)) ≥ (192 : Int)))) with b_15 | b_15
          · have H_96 := of_t H_93 b_15
            refine V_reg hN hn [] [(29, true)] calls_nil 0 [0, 1, 5, 26] [] ⟨[(0, .c (.val (.string s_1))), (1, .c (.val (.int .i64 at_2))), (5, .c (.val (.int .i64 (IntKind.wrap .i64 (bt s_1 at_2))))), (26, .c (.val (.bool (decide ((IntKind.wrap .i64 (bt s_1 at_2)) < (224 : Int))))))], [], 0⟩ [(decide ((IntKind.wrap .i64 (bt s_1 at_2)) ≥ (192 : Int))) = true] (by kernel_rfl) rfl rfl (ap1 b_15) (by kernel_rfl) (by kernel_rfl) ?_
            have H_98 := Option.some.inj (show some (decide ((IntKind.wrap .i64 (bt s_1 at_2)) < (224 : Int))) = some q_92 from H_96); subst H_98
            refine VL_nil ?_
            exact QP_end (decide ((IntKind.wrap .i64 (bt s_1 at_2)) < (224 : Int))) rfl [] hn (by kernel_rfl) (by kernel_rfl) rfl rfl rfl
          · have H_97 := of_f H_93 b_15
            refine V_reg hN hn [] [(29, false)] calls_nil 0 [0, 1, 5, 26] [] ⟨[(0, .c (.val (.string s_1))), (1, .c (.val (.int .i64 at_2))), (5, .c (.val (.int .i64 (IntKind.wrap .i64 (bt s_1 at_2))))), (26, .c (.val (.bool false)))], [], 0⟩ [(decide ((IntKind.wrap .i64 (bt s_1 at_2)) ≥ (192 : Int))) = false] (by kernel_rfl) rfl rfl (ap1 b_15) (by kernel_rfl) (by kernel_rfl) ?_
            have H_99 := Option.some.inj (show some false = some q_92 from H_97); subst H_99
            refine VL_nil ?_
            exact QP_end false rfl [] hn (by kernel_rfl) (by kernel_rfl) rfl rfl rfl
        · intro y_95 hy; subst hy
          skip
          skip
          obtain ⟨q_100, H_101, H_102⟩ := of_bind H_94
          refine V_cut (Y := (Int × Int × Int)) (R := (Int ⊕ (Int × Int × Int))) q_100 (fun y => (Sum.inr y)) (fun y => [(0, .c (.val (.string s_1))), (1, .c (.val (.int .i64 at_2))), (6, .c (.val (.int .i64 y.1))), (7, .c (.val (.int .i64 y.2.1))), (8, .c (.val (.int .i64 y.2.2)))]) (fun y => []) ?_ ?_
          · skip
            refine VL_cond (y_95) (by kernel_rfl) ?_ ?_
            · intro b_19; have H_104 := of_t H_101 b_19
              refine V_run hN hn 1 0 [0, 1, 6, 7, 8] [] ⟨[(0, .c (.val (.string s_1))), (1, .c (.val (.int .i64 at_2))), (6, .c (.val (.int .i64 (2 : Int)))), (7, .c (.val (.int .i64 (IntKind.wrap .i64 (BitVec.toNat (BitVec.ofInt (IntKind.bits .i64) (IntKind.wrap .i64 (bt s_1 at_2)) &&& BitVec.ofInt (IntKind.bits .i64) (31 : Int))))))), (8, .c (.val (.int .i64 (128 : Int))))], [], 0⟩ [] (by kernel_rfl) rfl rfl ap0 ?_
              have H_106 := Option.some.inj (show some (Sum.inr ((2 : Int), (IntKind.wrap .i64 (BitVec.toNat (BitVec.ofInt (IntKind.bits .i64) (IntKind.wrap .i64 (bt s_1 at_2)) &&& BitVec.ofInt (IntKind.bits .i64) (31 : Int)))), (128 : Int))) = some q_100 from H_104); subst H_106
              refine VL_nil ?_
              exact QP_end ((2 : Int), (IntKind.wrap .i64 (BitVec.toNat (BitVec.ofInt (IntKind.bits .i64) (IntKind.wrap .i64 (bt s_1 at_2)) &&& BitVec.ofInt (IntKind.bits .i64) (31 : Int)))), (128 : Int)) rfl [] hn (by kernel_rfl) (by kernel_rfl) rfl rfl rfl
            · intro b_19; have H_105 := of_f H_101 b_19
              refine V_run hN hn 1 0 [0, 1, 5, 26] [] ⟨[(0, .c (.val (.string s_1))), (1, .c (.val (.int .i64 at_2))), (5, .c (.val (.int .i64 (IntKind.wrap .i64 (bt s_1 at_2))))), (26, .c (.val (.bool y_95)))], [], 0⟩ [] (by kernel_rfl) rfl rfl ap0 ?_
              obtain ⟨q_107, H_108, H_109⟩ := of_bind H_105
              refine V_cut (Y := Bool) (R := Bool) q_107 (fun y => y) (fun y => [(0, .c (.val (.string s_1))), (1, .c (.val (.int .i64 at_2))), (5, .c (.val (.int .i64 (IntKind.wrap .i64 (bt s_1 at_2))))), (35, .c (.val (.bool y)))]) (fun y => []) ?_ ?_
              · skip
                rcases Bool.eq_false_or_eq_true ((decide ((IntKind.wrap .i64 (bt s_1 at_2)) ≥ (224 : Int)))) with b_22 | b_22
                · have H_111 := of_t H_108 b_22
                  refine V_reg hN hn [] [(38, true)] calls_nil 0 [0, 1, 5, 35] [] ⟨[(0, .c (.val (.string s_1))), (1, .c (.val (.int .i64 at_2))), (5, .c (.val (.int .i64 (IntKind.wrap .i64 (bt s_1 at_2))))), (35, .c (.val (.bool (decide ((IntKind.wrap .i64 (bt s_1 at_2)) < (240 : Int))))))], [], 0⟩ [(decide ((IntKind.wrap .i64 (bt s_1 at_2)) ≥ (224 : Int))) = true] (by kernel_rfl) rfl rfl (ap1 b_22) (by kernel_rfl) (by kernel_rfl) ?_
                  have H_113 := Option.some.inj (show some (decide ((IntKind.wrap .i64 (bt s_1 at_2)) < (240 : Int))) = some q_107 from H_111); subst H_113
                  refine VL_nil ?_
                  exact QP_end (decide ((IntKind.wrap .i64 (bt s_1 at_2)) < (240 : Int))) rfl [] hn (by kernel_rfl) (by kernel_rfl) rfl rfl rfl
                · have H_112 := of_f H_108 b_22
                  refine V_reg hN hn [] [(38, false)] calls_nil 0 [0, 1, 5, 35] [] ⟨[(0, .c (.val (.string s_1))), (1, .c (.val (.int .i64 at_2))), (5, .c (.val (.int .i64 (IntKind.wrap .i64 (bt s_1 at_2))))), (35, .c (.val (.bool false)))], [], 0⟩ [(decide ((IntKind.wrap .i64 (bt s_1 at_2)) ≥ (224 : Int))) = false] (by kernel_rfl) rfl rfl (ap1 b_22) (by kernel_rfl) (by kernel_rfl) ?_
                  have H_114 := Option.some.inj (show some false = some q_107 from H_112); subst H_114
                  refine VL_nil ?_
                  exact QP_end false rfl [] hn (by kernel_rfl) (by kernel_rfl) rfl rfl rfl
              · intro y_110 hy; subst hy
                skip
                skip
                refine VL_cond (y_110) (by kernel_rfl) ?_ ?_
                · intro b_26; have H_115 := of_t H_109 b_26
                  refine V_run hN hn 1 0 [0, 1, 6, 7, 8] [] ⟨[(0, .c (.val (.string s_1))), (1, .c (.val (.int .i64 at_2))), (6, .c (.val (.int .i64 (3 : Int)))), (7, .c (.val (.int .i64 (IntKind.wrap .i64 (BitVec.toNat (BitVec.ofInt (IntKind.bits .i64) (IntKind.wrap .i64 (bt s_1 at_2)) &&& BitVec.ofInt (IntKind.bits .i64) (15 : Int))))))), (8, .c (.val (.int .i64 (2048 : Int))))], [], 0⟩ [] (by kernel_rfl) rfl rfl ap0 ?_
                  have H_117 := Option.some.inj (show some (Sum.inr ((3 : Int), (IntKind.wrap .i64 (BitVec.toNat (BitVec.ofInt (IntKind.bits .i64) (IntKind.wrap .i64 (bt s_1 at_2)) &&& BitVec.ofInt (IntKind.bits .i64) (15 : Int)))), (2048 : Int))) = some q_100 from H_115); subst H_117
                  refine VL_nil ?_
                  exact QP_end ((3 : Int), (IntKind.wrap .i64 (BitVec.toNat (BitVec.ofInt (IntKind.bits .i64) (IntKind.wrap .i64 (bt s_1 at_2)) &&& BitVec.ofInt (IntKind.bits .i64) (15 : Int)))), (2048 : Int)) rfl [] hn (by kernel_rfl) (by kernel_rfl) rfl rfl rfl
                · intro b_26; have H_116 := of_f H_109 b_26
                  refine V_run hN hn 1 0 [0, 1, 5, 35] [] ⟨[(0, .c (.val (.string s_1))), (1, .c (.val (.int .i64 at_2))), (5, .c (.val (.int .i64 (IntKind.wrap .i64 (bt s_1 at_2))))), (35, .c (.val (.bool y_110)))], [], 0⟩ [] (by kernel_rfl) rfl rfl ap0 ?_
                  obtain ⟨q_118, H_119, H_120⟩ := of_bind H_116
                  refine V_cut (Y := Bool) (R := Bool) q_118 (fun y => y) (fun y => [(0, .c (.val (.string s_1))), (1, .c (.val (.int .i64 at_2))), (5, .c (.val (.int .i64 (IntKind.wrap .i64 (bt s_1 at_2))))), (44, .c (.val (.bool y)))]) (fun y => []) ?_ ?_
                  · skip
                    rcases Bool.eq_false_or_eq_true ((decide ((IntKind.wrap .i64 (bt s_1 at_2)) ≥ (240 : Int)))) with b_29 | b_29
                    · have H_122 := of_t H_119 b_29
                      refine V_reg hN hn [] [(47, true)] calls_nil 0 [0, 1, 5, 44] [] ⟨[(0, .c (.val (.string s_1))), (1, .c (.val (.int .i64 at_2))), (5, .c (.val (.int .i64 (IntKind.wrap .i64 (bt s_1 at_2))))), (44, .c (.val (.bool (decide ((IntKind.wrap .i64 (bt s_1 at_2)) < (248 : Int))))))], [], 0⟩ [(decide ((IntKind.wrap .i64 (bt s_1 at_2)) ≥ (240 : Int))) = true] (by kernel_rfl) rfl rfl (ap1 b_29) (by kernel_rfl) (by kernel_rfl) ?_
                      have H_124 := Option.some.inj (show some (decide ((IntKind.wrap .i64 (bt s_1 at_2)) < (248 : Int))) = some q_118 from H_122); subst H_124
                      refine VL_nil ?_
                      exact QP_end (decide ((IntKind.wrap .i64 (bt s_1 at_2)) < (248 : Int))) rfl [] hn (by kernel_rfl) (by kernel_rfl) rfl rfl rfl
                    · have H_123 := of_f H_119 b_29
                      refine V_reg hN hn [] [(47, false)] calls_nil 0 [0, 1, 5, 44] [] ⟨[(0, .c (.val (.string s_1))), (1, .c (.val (.int .i64 at_2))), (5, .c (.val (.int .i64 (IntKind.wrap .i64 (bt s_1 at_2))))), (44, .c (.val (.bool false)))], [], 0⟩ [(decide ((IntKind.wrap .i64 (bt s_1 at_2)) ≥ (240 : Int))) = false] (by kernel_rfl) rfl rfl (ap1 b_29) (by kernel_rfl) (by kernel_rfl) ?_
                      have H_125 := Option.some.inj (show some false = some q_118 from H_123); subst H_125
                      refine VL_nil ?_
                      exact QP_end false rfl [] hn (by kernel_rfl) (by kernel_rfl) rfl rfl rfl
                  · intro y_121 hy; subst hy
                    skip
                    skip
                    refine VL_cond (y_121) (by kernel_rfl) ?_ ?_
                    · intro b_33; have H_126 := of_t H_120 b_33
                      refine V_run hN hn 1 0 [0, 1, 6, 7, 8] [] ⟨[(0, .c (.val (.string s_1))), (1, .c (.val (.int .i64 at_2))), (6, .c (.val (.int .i64 (4 : Int)))), (7, .c (.val (.int .i64 (IntKind.wrap .i64 (BitVec.toNat (BitVec.ofInt (IntKind.bits .i64) (IntKind.wrap .i64 (bt s_1 at_2)) &&& BitVec.ofInt (IntKind.bits .i64) (7 : Int))))))), (8, .c (.val (.int .i64 (65536 : Int))))], [], 0⟩ [] (by kernel_rfl) rfl rfl ap0 ?_
                      have H_128 := Option.some.inj (show some (Sum.inr ((4 : Int), (IntKind.wrap .i64 (BitVec.toNat (BitVec.ofInt (IntKind.bits .i64) (IntKind.wrap .i64 (bt s_1 at_2)) &&& BitVec.ofInt (IntKind.bits .i64) (7 : Int)))), (65536 : Int))) = some q_100 from H_126); subst H_128
                      refine VL_nil ?_
                      exact QP_end ((4 : Int), (IntKind.wrap .i64 (BitVec.toNat (BitVec.ofInt (IntKind.bits .i64) (IntKind.wrap .i64 (bt s_1 at_2)) &&& BitVec.ofInt (IntKind.bits .i64) (7 : Int)))), (65536 : Int)) rfl [] hn (by kernel_rfl) (by kernel_rfl) rfl rfl rfl
                    · intro b_33; have H_127 := of_f H_120 b_33
                      refine V_run hN hn 2 0 [4] [] ⟨[(4, .c (.val (.int .i64 (0 : Int))))], [], 0⟩ [] (by kernel_rfl) rfl rfl ap0 ?_
                      have H_129 := Option.some.inj (show some (Sum.inl (0 : Int)) = some q_100 from H_127); subst H_129
                      have H_130 := Option.some.inj (show some (0 : Int) = some r from H_102); subst H_130
                      refine VL_ret ?_
                      refine QP_ret ?_
                      refine QB_ret ?_
                      exact P_to [(4, .c (.val (.int .i64 (0 : Int))))] [] [] hn (by kernel_rfl) (by kernel_rfl) rfl rfl rfl (QF_retS (by kernel_rfl) (by kernel_rfl) rfl)
          · intro y_103 hy; subst hy
            obtain ⟨n_36, v_37, least_38⟩ := y_103
            refine VL_nil (QB_end ?_)
            refine V_run hN hn 3 0 [0, 1, 6, 7, 8, 58] [] ⟨[(0, .c (.val (.string s_1))), (1, .c (.val (.int .i64 at_2))), (6, .c (.val (.int .i64 n_36))), (7, .c (.val (.int .i64 v_37))), (8, .c (.val (.int .i64 least_38))), (58, .c (.val (.bool (decide ((IntKind.wrap .i64 ((((ByteArray.size s_1) : Nat) : Int) - at_2)) < n_36)))))], [], 0⟩ [] (by kernel_rfl) rfl rfl ap0 ?_
            refine VL_cond ((decide ((IntKind.wrap .i64 ((((ByteArray.size s_1) : Nat) : Int) - at_2)) < n_36))) (by kernel_rfl) ?_ ?_
            · intro b_40; have H_131 := of_t H_102 b_40
              refine V_run hN hn 2 0 [4] [] ⟨[(4, .c (.val (.int .i64 (0 : Int))))], [], 0⟩ [] (by kernel_rfl) rfl rfl ap0 ?_
              have H_133 := Option.some.inj (show some (0 : Int) = some r from H_131); subst H_133
              refine VL_ret ?_
              exact P_to [(4, .c (.val (.int .i64 (0 : Int))))] [] [] hn (by kernel_rfl) (by kernel_rfl) rfl rfl rfl (QF_retS (by kernel_rfl) (by kernel_rfl) rfl)
            · intro b_40; have H_132 := of_f H_102 b_40
              refine V_run hN hn 4 0 [0, 1, 6, 7, 8, 9] [] ⟨[(0, .c (.val (.string s_1))), (1, .c (.val (.int .i64 at_2))), (6, .c (.val (.int .i64 n_36))), (7, .c (.val (.int .i64 v_37))), (8, .c (.val (.int .i64 least_38))), (9, .c (.val (.int .i64 (1 : Int))))], [], 0⟩ [] (by kernel_rfl) rfl rfl ap0 ?_
              obtain ⟨q_134, H_135, H_136⟩ := of_bind H_132
              refine V_cut (Y := Int) (R := (Int ⊕ Int)) q_134 (fun y => (Sum.inr y)) (fun y => [(6, .c (.val (.int .i64 n_36))), (7, .c (.val (.int .i64 y))), (8, .c (.val (.int .i64 least_38)))]) (fun y => []) ?_ ?_
              · skip
                refine VL_block ?_
                refine V_to [(0, .c (.val (.string s_1))), (1, .c (.val (.int .i64 at_2))), (6, .c (.val (.int .i64 n_36))), (7, .c (.val (.int .i64 v_37))), (8, .c (.val (.int .i64 least_38))), (9, .c (.val (.int .i64 (1 : Int))))] [] [] hn (by kernel_rfl) (by kernel_rfl) rfl rfl rfl ?_
                refine VL_loop (X := (Int × Int)) (fun x => [(0, .c (.val (.string s_1))), (1, .c (.val (.int .i64 at_2))), (6, .c (.val (.int .i64 n_36))), (7, .c (.val (.int .i64 x.1))), (8, .c (.val (.int .i64 least_38))), (9, .c (.val (.int .i64 x.2)))]) (fun x => []) (fun k x => palinoderef1_Size.l0 K n_36 at_2 s_1 k x.1 x.2 = some q_134) K (v_37, (1 : Int)) H_135 (fun _ h => no_none h) ?_
                intro k_45 x_45 H_138
                obtain ⟨v_43, i_44⟩ := x_45
                have H_139 : palinoderef1_Size.l0 K n_36 at_2 s_1 (k_45 + 1) v_43 i_44 = some q_134 := H_138
                rw [palinoderef1_Size.l0] at H_139
                refine V_run hN hn 3 0 [0, 1, 6, 7, 8, 9, 61] [] ⟨[(0, .c (.val (.string s_1))), (1, .c (.val (.int .i64 at_2))), (6, .c (.val (.int .i64 n_36))), (7, .c (.val (.int .i64 v_43))), (8, .c (.val (.int .i64 least_38))), (9, .c (.val (.int .i64 i_44))), (61, .c (.val (.bool (decide (i_44 < n_36)))))], [], 0⟩ [] (by kernel_rfl) rfl rfl ap0 ?_
                refine VL_cond ((decide (i_44 < n_36))) (by kernel_rfl) ?_ ?_
                · intro b_47; have H_140 := of_t H_139 b_47
                  refine V_run hN hn 2 0 [0, 1, 6, 7, 8, 9, 61] [] ⟨[(0, .c (.val (.string s_1))), (1, .c (.val (.int .i64 at_2))), (6, .c (.val (.int .i64 n_36))), (7, .c (.val (.int .i64 v_43))), (8, .c (.val (.int .i64 least_38))), (9, .c (.val (.int .i64 i_44))), (61, .c (.val (.bool (decide (i_44 < n_36)))))], [], 0⟩ [] (by kernel_rfl) rfl rfl ap0 ?_
                  refine VL_block ?_
                  obtain ⟨c_49, H_142⟩ := of_if H_140
                  refine V_run hN hn 5 0 [0, 1, 6, 7, 8, 9, 10, 72] [] ⟨[(0, .c (.val (.string s_1))), (1, .c (.val (.int .i64 at_2))), (6, .c (.val (.int .i64 n_36))), (7, .c (.val (.int .i64 v_43))), (8, .c (.val (.int .i64 least_38))), (9, .c (.val (.int .i64 i_44))), (10, .c (.val (.int .i64 (IntKind.wrap .i64 (bt s_1 (IntKind.wrap .i64 (at_2 + i_44))))))), (72, .c (.val (.bool ((Int.fdiv (IntKind.wrap .i64 (bt s_1 (IntKind.wrap .i64 (at_2 + i_44)))) (64 : Int)) != (2 : Int)))))], [], 0⟩ [0 ≤ (IntKind.wrap .i64 (at_2 + i_44)), (IntKind.wrap .i64 (at_2 + i_44)) < (((ByteArray.size s_1) : Nat) : Int), (0 : Int) ≤ (6 : Int)] (by kernel_rfl) rfl rfl (ap2 c_49.1 (ap2 c_49.2 (ap1 (by decide)))) ?_
                  refine VL_cond (((Int.fdiv (IntKind.wrap .i64 (bt s_1 (IntKind.wrap .i64 (at_2 + i_44)))) (64 : Int)) != (2 : Int))) (by kernel_rfl) ?_ ?_
                  · intro b_50; have H_143 := of_t H_142 b_50
                    refine V_run hN hn 2 0 [4] [] ⟨[(4, .c (.val (.int .i64 (0 : Int))))], [], 0⟩ [] (by kernel_rfl) rfl rfl ap0 ?_
                    have H_145 := Option.some.inj (show some (Sum.inl (0 : Int)) = some q_134 from H_143); subst H_145
                    have H_146 := Option.some.inj (show some (0 : Int) = some r from H_136); subst H_146
                    refine VL_ret ?_
                    refine QB_ret ?_
                    refine QL_ret ?_
                    refine QB_ret ?_
                    refine QP_ret ?_
                    exact P_to [(4, .c (.val (.int .i64 (0 : Int))))] [] [] hn (by kernel_rfl) (by kernel_rfl) rfl rfl rfl (QF_retS (by kernel_rfl) (by kernel_rfl) rfl)
                  · intro b_50; have H_144 := of_f H_142 b_50
                    refine V_run hN hn 2 0 [0, 1, 6, 7, 8, 9] [] ⟨[(0, .c (.val (.string s_1))), (1, .c (.val (.int .i64 at_2))), (6, .c (.val (.int .i64 n_36))), (7, .c (.val (.int .i64 (IntKind.wrap .i64 (BitVec.toNat (BitVec.ofInt (IntKind.bits .i64) (IntKind.wrap .i64 (v_43 * (64 : Int))) ||| BitVec.ofInt (IntKind.bits .i64) (IntKind.wrap .i64 (BitVec.toNat (BitVec.ofInt (IntKind.bits .i64) (IntKind.wrap .i64 (bt s_1 (IntKind.wrap .i64 (at_2 + i_44)))) &&& BitVec.ofInt (IntKind.bits .i64) (63 : Int)))))))))), (8, .c (.val (.int .i64 least_38))), (9, .c (.val (.int .i64 i_44)))], [], 0⟩ [(0 : Int) ≤ (6 : Int)] (by kernel_rfl) rfl rfl (ap1 (by decide)) ?_
                    refine VL_nil (QB_end ?_)
                    refine V_run hN hn 1 0 [0, 1, 6, 7, 8, 9] [] ⟨[(0, .c (.val (.string s_1))), (1, .c (.val (.int .i64 at_2))), (6, .c (.val (.int .i64 n_36))), (7, .c (.val (.int .i64 (IntKind.wrap .i64 (BitVec.toNat (BitVec.ofInt (IntKind.bits .i64) (IntKind.wrap .i64 (v_43 * (64 : Int))) ||| BitVec.ofInt (IntKind.bits .i64) (IntKind.wrap .i64 (BitVec.toNat (BitVec.ofInt (IntKind.bits .i64) (IntKind.wrap .i64 (bt s_1 (IntKind.wrap .i64 (at_2 + i_44)))) &&& BitVec.ofInt (IntKind.bits .i64) (63 : Int)))))))))), (8, .c (.val (.int .i64 least_38))), (9, .c (.val (.int .i64 (IntKind.wrap .i64 (i_44 + (1 : Int))))))], [], 0⟩ [] (by kernel_rfl) rfl rfl ap0 ?_
                    refine VL_nil ?_
                    exact V_roundEnd ((IntKind.wrap .i64 (BitVec.toNat (BitVec.ofInt (IntKind.bits .i64) (IntKind.wrap .i64 (v_43 * (64 : Int))) ||| BitVec.ofInt (IntKind.bits .i64) (IntKind.wrap .i64 (BitVec.toNat (BitVec.ofInt (IntKind.bits .i64) (IntKind.wrap .i64 (bt s_1 (IntKind.wrap .i64 (at_2 + i_44)))) &&& BitVec.ofInt (IntKind.bits .i64) (63 : Int))))))), (IntKind.wrap .i64 (i_44 + (1 : Int)))) H_144 [] hn (by kernel_rfl) (by kernel_rfl) rfl rfl rfl
                · intro b_47; have H_141 := of_f H_139 b_47
                  refine VL_exit ?_
                  refine QL_exit ?_
                  refine QB_here ?_
                  have H_147 := Option.some.inj (show some (Sum.inr v_43) = some q_134 from H_141); subst H_147
                  refine VL_nil ?_
                  exact QP_end v_43 rfl [] hn (by kernel_rfl) (by kernel_rfl) rfl rfl rfl
              · intro y_137 hy; subst hy
                skip
                skip
                refine V_run hN hn 2 0 [6, 7, 8] [] ⟨[(6, .c (.val (.int .i64 n_36))), (7, .c (.val (.int .i64 y_137))), (8, .c (.val (.int .i64 least_38)))], [], 0⟩ [] (by kernel_rfl) rfl rfl ap0 ?_
                obtain ⟨q_148, H_149, H_150⟩ := of_bind H_136
                refine V_cut (Y := Bool) (R := Bool) q_148 (fun y => y) (fun y => [(6, .c (.val (.int .i64 n_36))), (92, .c (.val (.bool y)))]) (fun y => []) ?_ ?_
                · skip
                  rcases Bool.eq_false_or_eq_true ((decide (y_137 < least_38))) with b_56 | b_56
                  · have H_152 := of_t H_149 b_56
                    refine V_reg hN hn [] [(81, true)] calls_nil 0 [6, 92] [] ⟨[(6, .c (.val (.int .i64 n_36))), (92, .c (.val (.bool true)))], [], 0⟩ [(decide (y_137 < least_38)) = true] (by kernel_rfl) rfl rfl (ap1 b_56) (by kernel_rfl) (by kernel_rfl) ?_
                    have H_154 := Option.some.inj (show some true = some q_148 from H_152); subst H_154
                    refine VL_nil ?_
                    exact QP_end true rfl [] hn (by kernel_rfl) (by kernel_rfl) rfl rfl rfl
                  · have H_153 := of_f H_149 b_56
                    rcases Bool.eq_false_or_eq_true ((decide (y_137 > (1114111 : Int)))) with b_58 | b_58
                    · have H_155 := of_t H_153 b_58
                      refine V_reg hN hn [] [(81, false), (85, true)] calls_nil 0 [6, 92] [] ⟨[(6, .c (.val (.int .i64 n_36))), (92, .c (.val (.bool true)))], [], 0⟩ [(decide (y_137 < least_38)) = false, (decide (y_137 > (1114111 : Int))) = true] (by kernel_rfl) rfl rfl (ap2 b_56 (ap1 b_58)) (by kernel_rfl) (by kernel_rfl) ?_
                      have H_157 := Option.some.inj (show some true = some q_148 from H_155); subst H_157
                      refine VL_nil ?_
                      exact QP_end true rfl [] hn (by kernel_rfl) (by kernel_rfl) rfl rfl rfl
                    · have H_156 := of_f H_153 b_58
                      rcases Bool.eq_false_or_eq_true ((decide (y_137 ≥ (55296 : Int)))) with b_60 | b_60
                      · have H_158 := of_t H_156 b_60
                        refine V_reg hN hn [] [(81, false), (85, false), (88, true)] calls_nil 0 [6, 92] [] ⟨[(6, .c (.val (.int .i64 n_36))), (92, .c (.val (.bool (decide (y_137 < (57344 : Int))))))], [], 0⟩ [(decide (y_137 < least_38)) = false, (decide (y_137 > (1114111 : Int))) = false, (decide (y_137 ≥ (55296 : Int))) = true] (by kernel_rfl) rfl rfl (ap2 b_56 (ap2 b_58 (ap1 b_60))) (by kernel_rfl) (by kernel_rfl) ?_
                        have H_160 := Option.some.inj (show some (decide (y_137 < (57344 : Int))) = some q_148 from H_158); subst H_160
                        refine VL_nil ?_
                        exact QP_end (decide (y_137 < (57344 : Int))) rfl [] hn (by kernel_rfl) (by kernel_rfl) rfl rfl rfl
                      · have H_159 := of_f H_156 b_60
                        refine V_reg hN hn [] [(81, false), (85, false), (88, false)] calls_nil 0 [6, 92] [] ⟨[(6, .c (.val (.int .i64 n_36))), (92, .c (.val (.bool false)))], [], 0⟩ [(decide (y_137 < least_38)) = false, (decide (y_137 > (1114111 : Int))) = false, (decide (y_137 ≥ (55296 : Int))) = false] (by kernel_rfl) rfl rfl (ap2 b_56 (ap2 b_58 (ap1 b_60))) (by kernel_rfl) (by kernel_rfl) ?_
                        have H_161 := Option.some.inj (show some false = some q_148 from H_159); subst H_161
                        refine VL_nil ?_
                        exact QP_end false rfl [] hn (by kernel_rfl) (by kernel_rfl) rfl rfl rfl
                · intro y_151 hy; subst hy
                  skip
                  skip
                  refine VL_cond (y_151) (by kernel_rfl) ?_ ?_
                  · intro b_64; have H_162 := of_t H_150 b_64
                    refine V_run hN hn 2 0 [4] [] ⟨[(4, .c (.val (.int .i64 (0 : Int))))], [], 0⟩ [] (by kernel_rfl) rfl rfl ap0 ?_
                    have H_164 := Option.some.inj (show some (0 : Int) = some r from H_162); subst H_164
                    refine VL_ret ?_
                    exact P_to [(4, .c (.val (.int .i64 (0 : Int))))] [] [] hn (by kernel_rfl) (by kernel_rfl) rfl rfl rfl (QF_retS (by kernel_rfl) (by kernel_rfl) rfl)
                  · intro b_64; have H_163 := of_f H_150 b_64
                    refine V_run hN hn 3 0 [4] [] ⟨[(4, .c (.val (.int .i64 n_36)))], [], 0⟩ [] (by kernel_rfl) rfl rfl ap0 ?_
                    have H_165 := Option.some.inj (show some n_36 = some r from H_163); subst H_165
                    refine VL_ret ?_
                    exact P_to [(4, .c (.val (.int .i64 n_36)))] [] [] hn (by kernel_rfl) (by kernel_rfl) rfl rfl rfl (QF_retS (by kernel_rfl) (by kernel_rfl) rfl)

theorem palinoderef1_Valid_spec (K : Nat) (s_1 : ByteArray) (r : Bool) (H : palinoderef1_Valid K s_1 = some r) : Spec Try.prog 41 0 [.c (.val (.string s_1))] [] (.c (.val (.bool r))) [] := by
  refine Spec_mk (fn := Try.f41) (c := (Try.f41.body).get!) Try.func41 (by kernel_rfl) rfl ?_
  intro C hN hn
  replace hN : C.N = 17 := hN
  unfold palinoderef1_Valid at H
  refine V_run hN hn 5 0 [0, 3] [] ⟨[(0, .c (.val (.string s_1))), (3, .c (.val (.int .i64 (0 : Int))))], [], 0⟩ [] (by kernel_rfl) rfl rfl ap0 ?_
  refine VL_block ?_
  refine V_to [(0, .c (.val (.string s_1))), (3, .c (.val (.int .i64 (0 : Int))))] [] [] hn (by kernel_rfl) (by kernel_rfl) rfl rfl rfl ?_
  refine VL_loop (X := Int) (fun x => [(0, .c (.val (.string s_1))), (3, .c (.val (.int .i64 x)))]) (fun x => []) (fun k x => palinoderef1_Valid.l0 K s_1 k x = some r) K (0 : Int) H (fun _ h => no_none h) ?_
  intro k_4 at_3 H_18
  have H_19 : palinoderef1_Valid.l0 K s_1 (k_4 + 1) at_3 = some r := H_18
  rw [palinoderef1_Valid.l0] at H_19
  refine V_run hN hn 3 0 [0, 3, 8] [] ⟨[(0, .c (.val (.string s_1))), (3, .c (.val (.int .i64 at_3))), (8, .c (.val (.bool (decide (at_3 < (((ByteArray.size s_1) : Nat) : Int))))))], [], 0⟩ [] (by kernel_rfl) rfl rfl ap0 ?_
  refine VL_cond ((decide (at_3 < (((ByteArray.size s_1) : Nat) : Int)))) (by kernel_rfl) ?_ ?_
  · intro b_6; have H_20 := of_t H_19 b_6
    refine V_run hN hn 1 0 [0, 3, 8] [] ⟨[(0, .c (.val (.string s_1))), (3, .c (.val (.int .i64 at_3))), (8, .c (.val (.bool (decide (at_3 < (((ByteArray.size s_1) : Nat) : Int))))))], [], 0⟩ [] (by kernel_rfl) rfl rfl ap0 ?_
    refine VL_block ?_
    refine V_run hN hn 1 0 [0, 3, 8] [] ⟨[(0, .c (.val (.string s_1))), (3, .c (.val (.int .i64 at_3))), (8, .c (.val (.bool (decide (at_3 < (((ByteArray.size s_1) : Nat) : Int))))))], [], 0⟩ [] (by kernel_rfl) rfl rfl ap0 ?_
    obtain ⟨r_9, h_10, H_22⟩ := of_bind H_20
    refine V_reg hN hn [(2, ⟨49, 0, [.c (.val (.string s_1)), .c (.val (.int .i64 at_3))], [], .c (.val (.int .i64 r_9)), [], [], 0⟩)] [] (calls_cons (palinoderef1_Size_spec K s_1 at_3 r_9 h_10) (by kernel_rfl) calls_nil) 0 [0, 3, 4] [] ⟨[(0, .c (.val (.string s_1))), (3, .c (.val (.int .i64 at_3))), (4, .c (.val (.int .i64 r_9)))], [], 0⟩ [] (by kernel_rfl) rfl rfl ap0 (by kernel_rfl) (by kernel_rfl) ?_
    refine V_run hN hn 3 0 [0, 3, 4, 13] [] ⟨[(0, .c (.val (.string s_1))), (3, .c (.val (.int .i64 at_3))), (4, .c (.val (.int .i64 r_9))), (13, .c (.val (.bool (r_9 == (0 : Int)))))], [], 0⟩ [] (by kernel_rfl) rfl rfl ap0 ?_
    refine VL_cond ((r_9 == (0 : Int))) (by kernel_rfl) ?_ ?_
    · intro b_13; have H_23 := of_t H_22 b_13
      refine V_run hN hn 2 0 [2] [] ⟨[(2, .c (.val (.bool false)))], [], 0⟩ [] (by kernel_rfl) rfl rfl ap0 ?_
      have H_25 := Option.some.inj (show some false = some r from H_23); subst H_25
      refine VL_ret ?_
      refine QB_ret ?_
      refine QL_ret ?_
      refine QB_ret ?_
      exact P_to [(2, .c (.val (.bool false)))] [] [] hn (by kernel_rfl) (by kernel_rfl) rfl rfl rfl (QF_retS (by kernel_rfl) (by kernel_rfl) rfl)
    · intro b_13; have H_24 := of_f H_22 b_13
      refine V_run hN hn 2 0 [0, 3] [] ⟨[(0, .c (.val (.string s_1))), (3, .c (.val (.int .i64 (IntKind.wrap .i64 (at_3 + r_9)))))], [], 0⟩ [] (by kernel_rfl) rfl rfl ap0 ?_
      refine VL_nil (QB_end ?_)
      refine VL_nil ?_
      exact V_roundEnd (IntKind.wrap .i64 (at_3 + r_9)) H_24 [] hn (by kernel_rfl) (by kernel_rfl) rfl rfl rfl
  · intro b_6; have H_21 := of_f H_19 b_6
    refine VL_exit ?_
    refine QL_exit ?_
    refine QB_here ?_
    refine V_run hN hn 2 0 [2] [] ⟨[(2, .c (.val (.bool true)))], [], 0⟩ [] (by kernel_rfl) rfl rfl ap0 ?_
    have H_26 := Option.some.inj (show some true = some r from H_21); subst H_26
    refine VL_ret ?_
    exact P_to [(2, .c (.val (.bool true)))] [] [] hn (by kernel_rfl) (by kernel_rfl) rfl rfl rfl (QF_retS (by kernel_rfl) (by kernel_rfl) rfl)

theorem palinoderef11_Is_spec (K : Nat) (d_1 : Int) (d_2 : (List (Int × (Int × ByteArray)))) (r : Bool) (H : palinoderef11_Is K d_1 d_2 = some r) : Spec Try.prog 30 0 [.agg [.val (.int .i64 d_1), .imm (.slice (.pair (.int .i64) (.pair (.int .i64) .str))) d_2]] [] (.c (.val (.bool r))) [] := by
  refine Spec_mk (fn := Try.f30) (c := (Try.f30.body).get!) Try.func30 (by kernel_rfl) rfl ?_
  intro C hN hn
  replace hN : C.N = 122 := hN
  unfold palinoderef11_Is at H
  refine V_run hN hn 4 0 [1] [0] ⟨[(1, .c (.h 0))], [(0, .box [.val (.int .i64 d_1), .imm (.slice (.pair (.int .i64) (.pair (.int .i64) .str))) d_2])], 1⟩ [] (by kernel_rfl) rfl rfl ap0 ?_
  obtain ⟨q_80, H_81, H_82⟩ := of_bind H
  refine V_cut (Y := Bool) (R := Bool) q_80 (fun y => y) (fun y => [(1, .c (.h 0)), (21, .c (.val (.bool y)))]) (fun y => [(0, .box [.val (.int .i64 d_1), .imm (.slice (.pair (.int .i64) (.pair (.int .i64) .str))) d_2])]) ?_ ?_
  · skip
    rcases Bool.eq_false_or_eq_true ((decide (d_1 < (0 : Int)))) with b_4 | b_4
    · have H_84 := of_t H_81 b_4
      refine V_reg hN hn [] [(11, true)] calls_nil 1 [1, 21] [0] ⟨[(1, .c (.h 0)), (21, .c (.val (.bool true)))], [(0, .box [.val (.int .i64 d_1), .imm (.slice (.pair (.int .i64) (.pair (.int .i64) .str))) d_2])], 1⟩ [(decide (d_1 < (0 : Int))) = true] (by kernel_rfl) rfl rfl (ap1 b_4) (by kernel_rfl) (by kernel_rfl) ?_
      have H_86 := Option.some.inj (show some true = some q_80 from H_84); subst H_86
      refine VL_nil ?_
      exact QP_end true rfl [(0, 0)] hn (by kernel_rfl) (by kernel_rfl) rfl rfl rfl
    · have H_85 := of_f H_81 b_4
      rcases Bool.eq_false_or_eq_true ((decide (d_1 > (20000 : Int)))) with b_6 | b_6
      · have H_87 := of_t H_85 b_6
        refine V_reg hN hn [] [(11, false), (16, true)] calls_nil 1 [1, 21] [0] ⟨[(1, .c (.h 0)), (21, .c (.val (.bool true)))], [(0, .box [.val (.int .i64 d_1), .imm (.slice (.pair (.int .i64) (.pair (.int .i64) .str))) d_2])], 1⟩ [(decide (d_1 < (0 : Int))) = false, (decide (d_1 > (20000 : Int))) = true] (by kernel_rfl) rfl rfl (ap2 b_4 (ap1 b_6)) (by kernel_rfl) (by kernel_rfl) ?_
        have H_89 := Option.some.inj (show some true = some q_80 from H_87); subst H_89
        refine VL_nil ?_
        exact QP_end true rfl [(0, 0)] hn (by kernel_rfl) (by kernel_rfl) rfl rfl rfl
      · have H_88 := of_f H_85 b_6
        refine V_reg hN hn [] [(11, false), (16, false)] calls_nil 1 [1, 21] [0] ⟨[(1, .c (.h 0)), (21, .c (.val (.bool (decide ((((List.length d_2) : Nat) : Int) > (60 : Int))))))], [(0, .box [.val (.int .i64 d_1), .imm (.slice (.pair (.int .i64) (.pair (.int .i64) .str))) d_2])], 1⟩ [(decide (d_1 < (0 : Int))) = false, (decide (d_1 > (20000 : Int))) = false] (by kernel_rfl) rfl rfl (ap2 b_4 (ap1 b_6)) (by kernel_rfl) (by kernel_rfl) ?_
        have H_90 := Option.some.inj (show some (decide ((((List.length d_2) : Nat) : Int) > (60 : Int))) = some q_80 from H_88); subst H_90
        refine VL_nil ?_
        exact QP_end (decide ((((List.length d_2) : Nat) : Int) > (60 : Int))) rfl [(0, 0)] hn (by kernel_rfl) (by kernel_rfl) rfl rfl rfl
  · intro y_83 hy; subst hy
    skip
    skip
    refine VL_cond (y_83) (by kernel_rfl) ?_ ?_
    · intro b_10; have H_91 := of_t H_82 b_10
      refine V_run hN hn 2 1 [2] [] ⟨[(2, .c (.val (.bool false)))], [], 1⟩ [] (by kernel_rfl) rfl rfl ap0 ?_
      have H_93 := Option.some.inj (show some false = some r from H_91); subst H_93
      refine VL_ret ?_
      exact P_to [(2, .c (.val (.bool false)))] [] [] hn (by kernel_rfl) (by kernel_rfl) rfl rfl rfl (QF_retS (by kernel_rfl) (by kernel_rfl) rfl)
    · intro b_10; have H_92 := of_f H_82 b_10
      refine V_run hN hn 6 1 [1, 3, 4, 5, 6] [0] ⟨[(1, .c (.h 0)), (3, .c (.val (.int .i64 (0 : Int)))), (4, .c (.val (.bool true))), (5, .c (.val (.int .i64 (0 : Int)))), (6, .c (.val (.int .i64 (0 : Int))))], [(0, .box [.val (.int .i64 d_1), .imm (.slice (.pair (.int .i64) (.pair (.int .i64) .str))) d_2])], 1⟩ [] (by kernel_rfl) rfl rfl ap0 ?_
      refine VL_block ?_
      refine V_to [(1, .c (.h 0)), (3, .c (.val (.int .i64 (0 : Int)))), (4, .c (.val (.bool true))), (5, .c (.val (.int .i64 (0 : Int)))), (6, .c (.val (.int .i64 (0 : Int))))] [(0, .box [.val (.int .i64 d_1), .imm (.slice (.pair (.int .i64) (.pair (.int .i64) .str))) d_2])] [(0, 0)] hn (by kernel_rfl) (by kernel_rfl) rfl rfl rfl ?_
      refine VL_loop (X := (Int × Bool × Int × Int)) (fun x => [(1, .c (.h 0)), (3, .c (.val (.int .i64 x.1))), (4, .c (.val (.bool x.2.1))), (5, .c (.val (.int .i64 x.2.2.1))), (6, .c (.val (.int .i64 x.2.2.2)))]) (fun x => [(0, .box [.val (.int .i64 d_1), .imm (.slice (.pair (.int .i64) (.pair (.int .i64) .str))) d_2])]) (fun k x => palinoderef11_Is.l0 K d_2 d_1 k x.1 x.2.1 x.2.2.1 x.2.2.2 = some r) K ((0 : Int), true, (0 : Int), (0 : Int)) H_92 (fun _ h => no_none h) ?_
      intro k_17 x_17 H_94
      obtain ⟨last_13, text_14, size_15, i_16⟩ := x_17
      have H_95 : palinoderef11_Is.l0 K d_2 d_1 (k_17 + 1) last_13 text_14 size_15 i_16 = some r := H_94
      rw [palinoderef11_Is.l0] at H_95
      refine V_run hN hn 3 1 [1, 3, 4, 5, 6, 26] [0] ⟨[(1, .c (.h 0)), (3, .c (.val (.int .i64 last_13))), (4, .c (.val (.bool text_14))), (5, .c (.val (.int .i64 size_15))), (6, .c (.val (.int .i64 i_16))), (26, .c (.val (.bool (decide (i_16 < (((List.length d_2) : Nat) : Int))))))], [(0, .box [.val (.int .i64 d_1), .imm (.slice (.pair (.int .i64) (.pair (.int .i64) .str))) d_2])], 1⟩ [] (by kernel_rfl) rfl rfl ap0 ?_
      refine VL_cond ((decide (i_16 < (((List.length d_2) : Nat) : Int)))) (by kernel_rfl) ?_ ?_
      · intro b_19; have H_96 := of_t H_95 b_19
        refine V_run hN hn 2 1 [1, 3, 4, 5, 6, 26] [0] ⟨[(1, .c (.h 0)), (3, .c (.val (.int .i64 last_13))), (4, .c (.val (.bool text_14))), (5, .c (.val (.int .i64 size_15))), (6, .c (.val (.int .i64 i_16))), (26, .c (.val (.bool (decide (i_16 < (((List.length d_2) : Nat) : Int))))))], [(0, .box [.val (.int .i64 d_1), .imm (.slice (.pair (.int .i64) (.pair (.int .i64) .str))) d_2])], 1⟩ [] (by kernel_rfl) rfl rfl ap0 ?_
        refine VL_block ?_
        obtain ⟨c_21, H_98⟩ := of_if H_96
        refine V_run hN hn 5 1 [1, 3, 4, 5, 6, 7, 36] [0, 1] ⟨[(1, .c (.h 0)), (3, .c (.val (.int .i64 last_13))), (4, .c (.val (.bool text_14))), (5, .c (.val (.int .i64 size_15))), (6, .c (.val (.int .i64 i_16))), (7, .c (.h 1)), (36, .c (.val (.bool (!(ByteArray.toList (List.getD d_2 (Int.toNat i_16) ((0 : Int), ((0 : Int), ByteArray.empty))).2.2 == ByteArray.toList (ByteArray.mk #[]))))))], [(0, .box [.val (.int .i64 d_1), .imm (.slice (.pair (.int .i64) (.pair (.int .i64) .str))) d_2]), (1, .box [.val (.int .i64 (List.getD d_2 (Int.toNat i_16) ((0 : Int), ((0 : Int), ByteArray.empty))).1), .val (.int .i64 (List.getD d_2 (Int.toNat i_16) ((0 : Int), ((0 : Int), ByteArray.empty))).2.1), .val (.string (List.getD d_2 (Int.toNat i_16) ((0 : Int), ((0 : Int), ByteArray.empty))).2.2)])], 2⟩ [0 ≤ i_16, i_16 < (((List.length d_2) : Nat) : Int)] (by kernel_rfl) rfl rfl (ap2 c_21.1 (ap1 c_21.2)) ?_
        refine VL_cond ((!(ByteArray.toList (List.getD d_2 (Int.toNat i_16) ((0 : Int), ((0 : Int), ByteArray.empty))).2.2 == ByteArray.toList (ByteArray.mk #[])))) (by kernel_rfl) ?_ ?_
        · intro b_22; have H_99 := of_t H_98 b_22
          refine V_run hN hn 2 2 [1, 3, 4, 5, 6, 7, 36] [0, 1] ⟨[(1, .c (.h 0)), (3, .c (.val (.int .i64 last_13))), (4, .c (.val (.bool text_14))), (5, .c (.val (.int .i64 size_15))), (6, .c (.val (.int .i64 i_16))), (7, .c (.h 1)), (36, .c (.val (.bool (!(ByteArray.toList (List.getD d_2 (Int.toNat i_16) ((0 : Int), ((0 : Int), ByteArray.empty))).2.2 == ByteArray.toList (ByteArray.mk #[]))))))], [(0, .box [.val (.int .i64 d_1), .imm (.slice (.pair (.int .i64) (.pair (.int .i64) .str))) d_2]), (1, .box [.val (.int .i64 (List.getD d_2 (Int.toNat i_16) ((0 : Int), ((0 : Int), ByteArray.empty))).1), .val (.int .i64 (List.getD d_2 (Int.toNat i_16) ((0 : Int), ((0 : Int), ByteArray.empty))).2.1), .val (.string (List.getD d_2 (Int.toNat i_16) ((0 : Int), ((0 : Int), ByteArray.empty))).2.2)])], 2⟩ [] (by kernel_rfl) rfl rfl ap0 ?_
          obtain ⟨q_101, H_102, H_103⟩ := of_bind H_99
          refine V_cut (Y := Bool) (R := Bool) q_101 (fun y => y) (fun y => [(1, .c (.h 0)), (3, .c (.val (.int .i64 last_13))), (5, .c (.val (.int .i64 size_15))), (6, .c (.val (.int .i64 i_16))), (7, .c (.h 1)), (65, .c (.val (.bool y)))]) (fun y => [(0, .box [.val (.int .i64 d_1), .imm (.slice (.pair (.int .i64) (.pair (.int .i64) .str))) d_2]), (1, .box [.val (.int .i64 (List.getD d_2 (Int.toNat i_16) ((0 : Int), ((0 : Int), ByteArray.empty))).1), .val (.int .i64 (List.getD d_2 (Int.toNat i_16) ((0 : Int), ((0 : Int), ByteArray.empty))).2.1), .val (.string (List.getD d_2 (Int.toNat i_16) ((0 : Int), ((0 : Int), ByteArray.empty))).2.2)])]) ?_ ?_
          · skip
            rcases Bool.eq_false_or_eq_true (((List.getD d_2 (Int.toNat i_16) ((0 : Int), ((0 : Int), ByteArray.empty))).1 != (0 : Int))) with b_24 | b_24
            · have H_105 := of_t H_102 b_24
              refine V_reg hN hn [] [(40, true)] calls_nil 2 [1, 3, 5, 6, 7, 65] [0, 1] ⟨[(1, .c (.h 0)), (3, .c (.val (.int .i64 last_13))), (5, .c (.val (.int .i64 size_15))), (6, .c (.val (.int .i64 i_16))), (7, .c (.h 1)), (65, .c (.val (.bool true)))], [(0, .box [.val (.int .i64 d_1), .imm (.slice (.pair (.int .i64) (.pair (.int .i64) .str))) d_2]), (1, .box [.val (.int .i64 (List.getD d_2 (Int.toNat i_16) ((0 : Int), ((0 : Int), ByteArray.empty))).1), .val (.int .i64 (List.getD d_2 (Int.toNat i_16) ((0 : Int), ((0 : Int), ByteArray.empty))).2.1), .val (.string (List.getD d_2 (Int.toNat i_16) ((0 : Int), ((0 : Int), ByteArray.empty))).2.2)])], 2⟩ [((List.getD d_2 (Int.toNat i_16) ((0 : Int), ((0 : Int), ByteArray.empty))).1 != (0 : Int)) = true] (by kernel_rfl) rfl rfl (ap1 b_24) (by kernel_rfl) (by kernel_rfl) ?_
              have H_107 := Option.some.inj (show some true = some q_101 from H_105); subst H_107
              refine VL_nil ?_
              exact QP_end true rfl [(0, 0), (1, 1)] hn (by kernel_rfl) (by kernel_rfl) rfl rfl rfl
            · have H_106 := of_f H_102 b_24
              rcases Bool.eq_false_or_eq_true (((List.getD d_2 (Int.toNat i_16) ((0 : Int), ((0 : Int), ByteArray.empty))).2.1 != (0 : Int))) with b_26 | b_26
              · have H_108 := of_t H_106 b_26
                refine V_reg hN hn [] [(40, false), (45, true)] calls_nil 2 [1, 3, 5, 6, 7, 65] [0, 1] ⟨[(1, .c (.h 0)), (3, .c (.val (.int .i64 last_13))), (5, .c (.val (.int .i64 size_15))), (6, .c (.val (.int .i64 i_16))), (7, .c (.h 1)), (65, .c (.val (.bool true)))], [(0, .box [.val (.int .i64 d_1), .imm (.slice (.pair (.int .i64) (.pair (.int .i64) .str))) d_2]), (1, .box [.val (.int .i64 (List.getD d_2 (Int.toNat i_16) ((0 : Int), ((0 : Int), ByteArray.empty))).1), .val (.int .i64 (List.getD d_2 (Int.toNat i_16) ((0 : Int), ((0 : Int), ByteArray.empty))).2.1), .val (.string (List.getD d_2 (Int.toNat i_16) ((0 : Int), ((0 : Int), ByteArray.empty))).2.2)])], 2⟩ [((List.getD d_2 (Int.toNat i_16) ((0 : Int), ((0 : Int), ByteArray.empty))).1 != (0 : Int)) = false, ((List.getD d_2 (Int.toNat i_16) ((0 : Int), ((0 : Int), ByteArray.empty))).2.1 != (0 : Int)) = true] (by kernel_rfl) rfl rfl (ap2 b_24 (ap1 b_26)) (by kernel_rfl) (by kernel_rfl) ?_
                have H_110 := Option.some.inj (show some true = some q_101 from H_108); subst H_110
                refine VL_nil ?_
                exact QP_end true rfl [(0, 0), (1, 1)] hn (by kernel_rfl) (by kernel_rfl) rfl rfl rfl
              · have H_109 := of_f H_106 b_26
                rcases Bool.eq_false_or_eq_true ((decide (i_16 > (0 : Int)))) with b_28 | b_28
                · have H_111 := of_t H_109 b_28
                  rcases Bool.eq_false_or_eq_true (text_14) with b_29 | b_29
                  · have H_113 := of_t H_111 b_29
                    refine V_reg hN hn [] [(40, false), (45, false), (48, true), (52, true)] calls_nil 2 [1, 3, 5, 6, 7, 65] [0, 1] ⟨[(1, .c (.h 0)), (3, .c (.val (.int .i64 last_13))), (5, .c (.val (.int .i64 size_15))), (6, .c (.val (.int .i64 i_16))), (7, .c (.h 1)), (65, .c (.val (.bool true)))], [(0, .box [.val (.int .i64 d_1), .imm (.slice (.pair (.int .i64) (.pair (.int .i64) .str))) d_2]), (1, .box [.val (.int .i64 (List.getD d_2 (Int.toNat i_16) ((0 : Int), ((0 : Int), ByteArray.empty))).1), .val (.int .i64 (List.getD d_2 (Int.toNat i_16) ((0 : Int), ((0 : Int), ByteArray.empty))).2.1), .val (.string (List.getD d_2 (Int.toNat i_16) ((0 : Int), ((0 : Int), ByteArray.empty))).2.2)])], 2⟩ [((List.getD d_2 (Int.toNat i_16) ((0 : Int), ((0 : Int), ByteArray.empty))).1 != (0 : Int)) = false, ((List.getD d_2 (Int.toNat i_16) ((0 : Int), ((0 : Int), ByteArray.empty))).2.1 != (0 : Int)) = false, (decide (i_16 > (0 : Int))) = true, text_14 = true] (by kernel_rfl) rfl rfl (ap2 b_24 (ap2 b_26 (ap2 b_28 (ap1 b_29)))) (by kernel_rfl) (by kernel_rfl) ?_
                    have H_115 := Option.some.inj (show some true = some q_101 from H_113); subst H_115
                    refine VL_nil ?_
                    exact QP_end true rfl [(0, 0), (1, 1)] hn (by kernel_rfl) (by kernel_rfl) rfl rfl rfl
                  · have H_114 := of_f H_111 b_29
                    rcases Bool.eq_false_or_eq_true ((decide ((((ByteArray.size (List.getD d_2 (Int.toNat i_16) ((0 : Int), ((0 : Int), ByteArray.empty))).2.2) : Nat) : Int) > (IntKind.wrap .i64 ((20000 : Int) - size_15))))) with b_31 | b_31
                    · have H_116 := of_t H_114 b_31
                      refine V_reg hN hn [] [(40, false), (45, false), (48, true), (52, false), (60, true)] calls_nil 2 [1, 3, 5, 6, 7, 65] [0, 1] ⟨[(1, .c (.h 0)), (3, .c (.val (.int .i64 last_13))), (5, .c (.val (.int .i64 size_15))), (6, .c (.val (.int .i64 i_16))), (7, .c (.h 1)), (65, .c (.val (.bool true)))], [(0, .box [.val (.int .i64 d_1), .imm (.slice (.pair (.int .i64) (.pair (.int .i64) .str))) d_2]), (1, .box [.val (.int .i64 (List.getD d_2 (Int.toNat i_16) ((0 : Int), ((0 : Int), ByteArray.empty))).1), .val (.int .i64 (List.getD d_2 (Int.toNat i_16) ((0 : Int), ((0 : Int), ByteArray.empty))).2.1), .val (.string (List.getD d_2 (Int.toNat i_16) ((0 : Int), ((0 : Int), ByteArray.empty))).2.2)])], 2⟩ [((List.getD d_2 (Int.toNat i_16) ((0 : Int), ((0 : Int), ByteArray.empty))).1 != (0 : Int)) = false, ((List.getD d_2 (Int.toNat i_16) ((0 : Int), ((0 : Int), ByteArray.empty))).2.1 != (0 : Int)) = false, (decide (i_16 > (0 : Int))) = true, text_14 = false, (decide ((((ByteArray.size (List.getD d_2 (Int.toNat i_16) ((0 : Int), ((0 : Int), ByteArray.empty))).2.2) : Nat) : Int) > (IntKind.wrap .i64 ((20000 : Int) - size_15)))) = true] (by kernel_rfl) rfl rfl (ap2 b_24 (ap2 b_26 (ap2 b_28 (ap2 b_29 (ap1 b_31))))) (by kernel_rfl) (by kernel_rfl) ?_
                      have H_118 := Option.some.inj (show some true = some q_101 from H_116); subst H_118
                      refine VL_nil ?_
                      exact QP_end true rfl [(0, 0), (1, 1)] hn (by kernel_rfl) (by kernel_rfl) rfl rfl rfl
                    · have H_117 := of_f H_114 b_31
                      obtain ⟨r_33, h_34, H_119⟩ := of_bind H_117
                      refine V_reg hN hn [(26, ⟨41, 0, [.c (.val (.string (List.getD d_2 (Int.toNat i_16) ((0 : Int), ((0 : Int), ByteArray.empty))).2.2))], [], .c (.val (.bool r_33)), [], [], 2⟩)] [(40, false), (45, false), (48, true), (52, false), (60, false)] (calls_cons (palinoderef1_Valid_spec K (List.getD d_2 (Int.toNat i_16) ((0 : Int), ((0 : Int), ByteArray.empty))).2.2 r_33 h_34) (by kernel_rfl) calls_nil) 2 [1, 3, 5, 6, 7, 65] [0, 1] ⟨[(1, .c (.h 0)), (3, .c (.val (.int .i64 last_13))), (5, .c (.val (.int .i64 size_15))), (6, .c (.val (.int .i64 i_16))), (7, .c (.h 1)), (65, .c (.val (.bool (!r_33))))], [(0, .box [.val (.int .i64 d_1), .imm (.slice (.pair (.int .i64) (.pair (.int .i64) .str))) d_2]), (1, .box [.val (.int .i64 (List.getD d_2 (Int.toNat i_16) ((0 : Int), ((0 : Int), ByteArray.empty))).1), .val (.int .i64 (List.getD d_2 (Int.toNat i_16) ((0 : Int), ((0 : Int), ByteArray.empty))).2.1), .val (.string (List.getD d_2 (Int.toNat i_16) ((0 : Int), ((0 : Int), ByteArray.empty))).2.2)])], 2⟩ [((List.getD d_2 (Int.toNat i_16) ((0 : Int), ((0 : Int), ByteArray.empty))).1 != (0 : Int)) = false, ((List.getD d_2 (Int.toNat i_16) ((0 : Int), ((0 : Int), ByteArray.empty))).2.1 != (0 : Int)) = false, (decide (i_16 > (0 : Int))) = true, text_14 = false, (decide ((((ByteArray.size (List.getD d_2 (Int.toNat i_16) ((0 : Int), ((0 : Int), ByteArray.empty))).2.2) : Nat) : Int) > (IntKind.wrap .i64 ((20000 : Int) - size_15)))) = false] (by kernel_rfl) rfl rfl (ap2 b_24 (ap2 b_26 (ap2 b_28 (ap2 b_29 (ap1 b_31))))) (by kernel_rfl) (by kernel_rfl) ?_
                      have H_120 := Option.some.inj (show some (!r_33) = some q_101 from H_119); subst H_120
                      refine VL_nil ?_
                      exact QP_end (!r_33) rfl [(0, 0), (1, 1)] hn (by kernel_rfl) (by kernel_rfl) rfl rfl rfl
                · have H_112 := of_f H_109 b_28
                  rcases Bool.eq_false_or_eq_true ((decide ((((ByteArray.size (List.getD d_2 (Int.toNat i_16) ((0 : Int), ((0 : Int), ByteArray.empty))).2.2) : Nat) : Int) > (IntKind.wrap .i64 ((20000 : Int) - size_15))))) with b_36 | b_36
                  · have H_121 := of_t H_112 b_36
                    refine V_reg hN hn [] [(40, false), (45, false), (48, false), (60, true)] calls_nil 2 [1, 3, 5, 6, 7, 65] [0, 1] ⟨[(1, .c (.h 0)), (3, .c (.val (.int .i64 last_13))), (5, .c (.val (.int .i64 size_15))), (6, .c (.val (.int .i64 i_16))), (7, .c (.h 1)), (65, .c (.val (.bool true)))], [(0, .box [.val (.int .i64 d_1), .imm (.slice (.pair (.int .i64) (.pair (.int .i64) .str))) d_2]), (1, .box [.val (.int .i64 (List.getD d_2 (Int.toNat i_16) ((0 : Int), ((0 : Int), ByteArray.empty))).1), .val (.int .i64 (List.getD d_2 (Int.toNat i_16) ((0 : Int), ((0 : Int), ByteArray.empty))).2.1), .val (.string (List.getD d_2 (Int.toNat i_16) ((0 : Int), ((0 : Int), ByteArray.empty))).2.2)])], 2⟩ [((List.getD d_2 (Int.toNat i_16) ((0 : Int), ((0 : Int), ByteArray.empty))).1 != (0 : Int)) = false, ((List.getD d_2 (Int.toNat i_16) ((0 : Int), ((0 : Int), ByteArray.empty))).2.1 != (0 : Int)) = false, (decide (i_16 > (0 : Int))) = false, (decide ((((ByteArray.size (List.getD d_2 (Int.toNat i_16) ((0 : Int), ((0 : Int), ByteArray.empty))).2.2) : Nat) : Int) > (IntKind.wrap .i64 ((20000 : Int) - size_15)))) = true] (by kernel_rfl) rfl rfl (ap2 b_24 (ap2 b_26 (ap2 b_28 (ap1 b_36)))) (by kernel_rfl) (by kernel_rfl) ?_
                    have H_123 := Option.some.inj (show some true = some q_101 from H_121); subst H_123
                    refine VL_nil ?_
                    exact QP_end true rfl [(0, 0), (1, 1)] hn (by kernel_rfl) (by kernel_rfl) rfl rfl rfl
                  · have H_122 := of_f H_112 b_36
                    obtain ⟨r_38, h_39, H_124⟩ := of_bind H_122
                    refine V_reg hN hn [(26, ⟨41, 0, [.c (.val (.string (List.getD d_2 (Int.toNat i_16) ((0 : Int), ((0 : Int), ByteArray.empty))).2.2))], [], .c (.val (.bool r_38)), [], [], 2⟩)] [(40, false), (45, false), (48, false), (60, false)] (calls_cons (palinoderef1_Valid_spec K (List.getD d_2 (Int.toNat i_16) ((0 : Int), ((0 : Int), ByteArray.empty))).2.2 r_38 h_39) (by kernel_rfl) calls_nil) 2 [1, 3, 5, 6, 7, 65] [0, 1] ⟨[(1, .c (.h 0)), (3, .c (.val (.int .i64 last_13))), (5, .c (.val (.int .i64 size_15))), (6, .c (.val (.int .i64 i_16))), (7, .c (.h 1)), (65, .c (.val (.bool (!r_38))))], [(0, .box [.val (.int .i64 d_1), .imm (.slice (.pair (.int .i64) (.pair (.int .i64) .str))) d_2]), (1, .box [.val (.int .i64 (List.getD d_2 (Int.toNat i_16) ((0 : Int), ((0 : Int), ByteArray.empty))).1), .val (.int .i64 (List.getD d_2 (Int.toNat i_16) ((0 : Int), ((0 : Int), ByteArray.empty))).2.1), .val (.string (List.getD d_2 (Int.toNat i_16) ((0 : Int), ((0 : Int), ByteArray.empty))).2.2)])], 2⟩ [((List.getD d_2 (Int.toNat i_16) ((0 : Int), ((0 : Int), ByteArray.empty))).1 != (0 : Int)) = false, ((List.getD d_2 (Int.toNat i_16) ((0 : Int), ((0 : Int), ByteArray.empty))).2.1 != (0 : Int)) = false, (decide (i_16 > (0 : Int))) = false, (decide ((((ByteArray.size (List.getD d_2 (Int.toNat i_16) ((0 : Int), ((0 : Int), ByteArray.empty))).2.2) : Nat) : Int) > (IntKind.wrap .i64 ((20000 : Int) - size_15)))) = false] (by kernel_rfl) rfl rfl (ap2 b_24 (ap2 b_26 (ap2 b_28 (ap1 b_36)))) (by kernel_rfl) (by kernel_rfl) ?_
                    have H_125 := Option.some.inj (show some (!r_38) = some q_101 from H_124); subst H_125
                    refine VL_nil ?_
                    exact QP_end (!r_38) rfl [(0, 0), (1, 1)] hn (by kernel_rfl) (by kernel_rfl) rfl rfl rfl
          · intro y_104 hy; subst hy
            skip
            skip
            refine VL_cond (y_104) (by kernel_rfl) ?_ ?_
            · intro b_42; have H_126 := of_t H_103 b_42
              refine V_run hN hn 2 2 [2] [] ⟨[(2, .c (.val (.bool false)))], [], 2⟩ [] (by kernel_rfl) rfl rfl ap0 ?_
              have H_128 := Option.some.inj (show some false = some r from H_126); subst H_128
              refine VL_ret ?_
              refine QB_ret ?_
              refine QL_ret ?_
              refine QB_ret ?_
              exact P_to [(2, .c (.val (.bool false)))] [] [] hn (by kernel_rfl) (by kernel_rfl) rfl rfl rfl (QF_retS (by kernel_rfl) (by kernel_rfl) rfl)
            · intro b_42; have H_127 := of_f H_103 b_42
              refine V_run hN hn 5 2 [1, 3, 4, 5, 6] [0] ⟨[(1, .c (.h 0)), (3, .c (.val (.int .i64 last_13))), (4, .c (.val (.bool true))), (5, .c (.val (.int .i64 (IntKind.wrap .i64 (size_15 + (((ByteArray.size (List.getD d_2 (Int.toNat i_16) ((0 : Int), ((0 : Int), ByteArray.empty))).2.2) : Nat) : Int)))))), (6, .c (.val (.int .i64 i_16)))], [(0, .box [.val (.int .i64 d_1), .imm (.slice (.pair (.int .i64) (.pair (.int .i64) .str))) d_2])], 2⟩ [] (by kernel_rfl) rfl rfl ap0 ?_
              refine VL_exit ?_
              refine QB_here ?_
              refine V_run hN hn 1 2 [1, 3, 4, 5, 6] [0] ⟨[(1, .c (.h 0)), (3, .c (.val (.int .i64 last_13))), (4, .c (.val (.bool true))), (5, .c (.val (.int .i64 (IntKind.wrap .i64 (size_15 + (((ByteArray.size (List.getD d_2 (Int.toNat i_16) ((0 : Int), ((0 : Int), ByteArray.empty))).2.2) : Nat) : Int)))))), (6, .c (.val (.int .i64 (IntKind.wrap .i64 (i_16 + (1 : Int))))))], [(0, .box [.val (.int .i64 d_1), .imm (.slice (.pair (.int .i64) (.pair (.int .i64) .str))) d_2])], 2⟩ [] (by kernel_rfl) rfl rfl ap0 ?_
              refine VL_nil ?_
              exact V_roundEnd (last_13, true, (IntKind.wrap .i64 (size_15 + (((ByteArray.size (List.getD d_2 (Int.toNat i_16) ((0 : Int), ((0 : Int), ByteArray.empty))).2.2) : Nat) : Int))), (IntKind.wrap .i64 (i_16 + (1 : Int)))) H_127 [(0, 0)] hn (by kernel_rfl) (by kernel_rfl) rfl rfl rfl
        · intro b_22; have H_100 := of_f H_98 b_22
          refine V_run hN hn 3 2 [1, 3, 4, 5, 6, 7, 36] [0, 1] ⟨[(1, .c (.h 0)), (3, .c (.val (.int .i64 last_13))), (4, .c (.val (.bool text_14))), (5, .c (.val (.int .i64 size_15))), (6, .c (.val (.int .i64 i_16))), (7, .c (.h 1)), (36, .c (.val (.bool (!(ByteArray.toList (List.getD d_2 (Int.toNat i_16) ((0 : Int), ((0 : Int), ByteArray.empty))).2.2 == ByteArray.toList (ByteArray.mk #[]))))))], [(0, .box [.val (.int .i64 d_1), .imm (.slice (.pair (.int .i64) (.pair (.int .i64) .str))) d_2]), (1, .box [.val (.int .i64 (List.getD d_2 (Int.toNat i_16) ((0 : Int), ((0 : Int), ByteArray.empty))).1), .val (.int .i64 (List.getD d_2 (Int.toNat i_16) ((0 : Int), ((0 : Int), ByteArray.empty))).2.1), .val (.string (List.getD d_2 (Int.toNat i_16) ((0 : Int), ((0 : Int), ByteArray.empty))).2.2)])], 2⟩ [] (by kernel_rfl) rfl rfl ap0 ?_
          obtain ⟨q_129, H_130, H_131⟩ := of_bind H_100
          refine V_cut (Y := Bool) (R := Bool) q_129 (fun y => y) (fun y => [(1, .c (.h 0)), (5, .c (.val (.int .i64 size_15))), (6, .c (.val (.int .i64 i_16))), (7, .c (.h 1)), (112, .c (.val (.bool y)))]) (fun y => [(0, .box [.val (.int .i64 d_1), .imm (.slice (.pair (.int .i64) (.pair (.int .i64) .str))) d_2]), (1, .box [.val (.int .i64 (List.getD d_2 (Int.toNat i_16) ((0 : Int), ((0 : Int), ByteArray.empty))).1), .val (.int .i64 (List.getD d_2 (Int.toNat i_16) ((0 : Int), ((0 : Int), ByteArray.empty))).2.1), .val (.string (List.getD d_2 (Int.toNat i_16) ((0 : Int), ((0 : Int), ByteArray.empty))).2.2)])]) ?_ ?_
          · skip
            rcases Bool.eq_false_or_eq_true ((decide ((List.getD d_2 (Int.toNat i_16) ((0 : Int), ((0 : Int), ByteArray.empty))).1 < last_13))) with b_47 | b_47
            · have H_133 := of_t H_130 b_47
              refine V_reg hN hn [] [(75, true)] calls_nil 2 [1, 5, 6, 7, 112] [0, 1] ⟨[(1, .c (.h 0)), (5, .c (.val (.int .i64 size_15))), (6, .c (.val (.int .i64 i_16))), (7, .c (.h 1)), (112, .c (.val (.bool true)))], [(0, .box [.val (.int .i64 d_1), .imm (.slice (.pair (.int .i64) (.pair (.int .i64) .str))) d_2]), (1, .box [.val (.int .i64 (List.getD d_2 (Int.toNat i_16) ((0 : Int), ((0 : Int), ByteArray.empty))).1), .val (.int .i64 (List.getD d_2 (Int.toNat i_16) ((0 : Int), ((0 : Int), ByteArray.empty))).2.1), .val (.string (List.getD d_2 (Int.toNat i_16) ((0 : Int), ((0 : Int), ByteArray.empty))).2.2)])], 2⟩ [(decide ((List.getD d_2 (Int.toNat i_16) ((0 : Int), ((0 : Int), ByteArray.empty))).1 < last_13)) = true] (by kernel_rfl) rfl rfl (ap1 b_47) (by kernel_rfl) (by kernel_rfl) ?_
              have H_135 := Option.some.inj (show some true = some q_129 from H_133); subst H_135
              refine VL_nil ?_
              exact QP_end true rfl [(0, 0), (1, 1)] hn (by kernel_rfl) (by kernel_rfl) rfl rfl rfl
            · have H_134 := of_f H_130 b_47
              rcases Bool.eq_false_or_eq_true ((decide (i_16 > (0 : Int)))) with b_49 | b_49
              · have H_136 := of_t H_134 b_49
                rcases Bool.eq_false_or_eq_true ((!text_14)) with b_50 | b_50
                · have H_138 := of_t H_136 b_50
                  rcases Bool.eq_false_or_eq_true (((List.getD d_2 (Int.toNat i_16) ((0 : Int), ((0 : Int), ByteArray.empty))).1 == last_13)) with b_51 | b_51
                  · have H_140 := of_t H_138 b_51
                    refine V_reg hN hn [] [(75, false), (78, true), (82, true), (89, true)] calls_nil 2 [1, 5, 6, 7, 112] [0, 1] ⟨[(1, .c (.h 0)), (5, .c (.val (.int .i64 size_15))), (6, .c (.val (.int .i64 i_16))), (7, .c (.h 1)), (112, .c (.val (.bool true)))], [(0, .box [.val (.int .i64 d_1), .imm (.slice (.pair (.int .i64) (.pair (.int .i64) .str))) d_2]), (1, .box [.val (.int .i64 (List.getD d_2 (Int.toNat i_16) ((0 : Int), ((0 : Int), ByteArray.empty))).1), .val (.int .i64 (List.getD d_2 (Int.toNat i_16) ((0 : Int), ((0 : Int), ByteArray.empty))).2.1), .val (.string (List.getD d_2 (Int.toNat i_16) ((0 : Int), ((0 : Int), ByteArray.empty))).2.2)])], 2⟩ [(decide ((List.getD d_2 (Int.toNat i_16) ((0 : Int), ((0 : Int), ByteArray.empty))).1 < last_13)) = false, (decide (i_16 > (0 : Int))) = true, (!text_14) = true, ((List.getD d_2 (Int.toNat i_16) ((0 : Int), ((0 : Int), ByteArray.empty))).1 == last_13) = true] (by kernel_rfl) rfl rfl (ap2 b_47 (ap2 b_49 (ap2 b_50 (ap1 b_51)))) (by kernel_rfl) (by kernel_rfl) ?_
                    have H_142 := Option.some.inj (show some true = some q_129 from H_140); subst H_142
                    refine VL_nil ?_
                    exact QP_end true rfl [(0, 0), (1, 1)] hn (by kernel_rfl) (by kernel_rfl) rfl rfl rfl
                  · have H_141 := of_f H_138 b_51
                    rcases Bool.eq_false_or_eq_true ((decide ((List.getD d_2 (Int.toNat i_16) ((0 : Int), ((0 : Int), ByteArray.empty))).2.1 ≤ (List.getD d_2 (Int.toNat i_16) ((0 : Int), ((0 : Int), ByteArray.empty))).1))) with b_53 | b_53
                    · have H_143 := of_t H_141 b_53
                      refine V_reg hN hn [] [(75, false), (78, true), (82, true), (89, false), (96, true)] calls_nil 2 [1, 5, 6, 7, 112] [0, 1] ⟨[(1, .c (.h 0)), (5, .c (.val (.int .i64 size_15))), (6, .c (.val (.int .i64 i_16))), (7, .c (.h 1)), (112, .c (.val (.bool true)))], [(0, .box [.val (.int .i64 d_1), .imm (.slice (.pair (.int .i64) (.pair (.int .i64) .str))) d_2]), (1, .box [.val (.int .i64 (List.getD d_2 (Int.toNat i_16) ((0 : Int), ((0 : Int), ByteArray.empty))).1), .val (.int .i64 (List.getD d_2 (Int.toNat i_16) ((0 : Int), ((0 : Int), ByteArray.empty))).2.1), .val (.string (List.getD d_2 (Int.toNat i_16) ((0 : Int), ((0 : Int), ByteArray.empty))).2.2)])], 2⟩ [(decide ((List.getD d_2 (Int.toNat i_16) ((0 : Int), ((0 : Int), ByteArray.empty))).1 < last_13)) = false, (decide (i_16 > (0 : Int))) = true, (!text_14) = true, ((List.getD d_2 (Int.toNat i_16) ((0 : Int), ((0 : Int), ByteArray.empty))).1 == last_13) = false, (decide ((List.getD d_2 (Int.toNat i_16) ((0 : Int), ((0 : Int), ByteArray.empty))).2.1 ≤ (List.getD d_2 (Int.toNat i_16) ((0 : Int), ((0 : Int), ByteArray.empty))).1)) = true] (by kernel_rfl) rfl rfl (ap2 b_47 (ap2 b_49 (ap2 b_50 (ap2 b_51 (ap1 b_53))))) (by kernel_rfl) (by kernel_rfl) ?_
                      have H_145 := Option.some.inj (show some true = some q_129 from H_143); subst H_145
                      refine VL_nil ?_
                      exact QP_end true rfl [(0, 0), (1, 1)] hn (by kernel_rfl) (by kernel_rfl) rfl rfl rfl
                    · have H_144 := of_f H_141 b_53
                      rcases Bool.eq_false_or_eq_true ((decide ((List.getD d_2 (Int.toNat i_16) ((0 : Int), ((0 : Int), ByteArray.empty))).2.1 > d_1))) with b_55 | b_55
                      · have H_146 := of_t H_144 b_55
                        refine V_reg hN hn [] [(75, false), (78, true), (82, true), (89, false), (96, false), (103, true)] calls_nil 2 [1, 5, 6, 7, 112] [0, 1] ⟨[(1, .c (.h 0)), (5, .c (.val (.int .i64 size_15))), (6, .c (.val (.int .i64 i_16))), (7, .c (.h 1)), (112, .c (.val (.bool true)))], [(0, .box [.val (.int .i64 d_1), .imm (.slice (.pair (.int .i64) (.pair (.int .i64) .str))) d_2]), (1, .box [.val (.int .i64 (List.getD d_2 (Int.toNat i_16) ((0 : Int), ((0 : Int), ByteArray.empty))).1), .val (.int .i64 (List.getD d_2 (Int.toNat i_16) ((0 : Int), ((0 : Int), ByteArray.empty))).2.1), .val (.string (List.getD d_2 (Int.toNat i_16) ((0 : Int), ((0 : Int), ByteArray.empty))).2.2)])], 2⟩ [(decide ((List.getD d_2 (Int.toNat i_16) ((0 : Int), ((0 : Int), ByteArray.empty))).1 < last_13)) = false, (decide (i_16 > (0 : Int))) = true, (!text_14) = true, ((List.getD d_2 (Int.toNat i_16) ((0 : Int), ((0 : Int), ByteArray.empty))).1 == last_13) = false, (decide ((List.getD d_2 (Int.toNat i_16) ((0 : Int), ((0 : Int), ByteArray.empty))).2.1 ≤ (List.getD d_2 (Int.toNat i_16) ((0 : Int), ((0 : Int), ByteArray.empty))).1)) = false, (decide ((List.getD d_2 (Int.toNat i_16) ((0 : Int), ((0 : Int), ByteArray.empty))).2.1 > d_1)) = true] (by kernel_rfl) rfl rfl (ap2 b_47 (ap2 b_49 (ap2 b_50 (ap2 b_51 (ap2 b_53 (ap1 b_55)))))) (by kernel_rfl) (by kernel_rfl) ?_
                        have H_148 := Option.some.inj (show some true = some q_129 from H_146); subst H_148
                        refine VL_nil ?_
                        exact QP_end true rfl [(0, 0), (1, 1)] hn (by kernel_rfl) (by kernel_rfl) rfl rfl rfl
                      · have H_147 := of_f H_144 b_55
                        refine V_reg hN hn [] [(75, false), (78, true), (82, true), (89, false), (96, false), (103, false)] calls_nil 2 [1, 5, 6, 7, 112] [0, 1] ⟨[(1, .c (.h 0)), (5, .c (.val (.int .i64 size_15))), (6, .c (.val (.int .i64 i_16))), (7, .c (.h 1)), (112, .c (.val (.bool (decide ((IntKind.wrap .i64 ((List.getD d_2 (Int.toNat i_16) ((0 : Int), ((0 : Int), ByteArray.empty))).2.1 - (List.getD d_2 (Int.toNat i_16) ((0 : Int), ((0 : Int), ByteArray.empty))).1)) > (IntKind.wrap .i64 ((20000 : Int) - size_15)))))))], [(0, .box [.val (.int .i64 d_1), .imm (.slice (.pair (.int .i64) (.pair (.int .i64) .str))) d_2]), (1, .box [.val (.int .i64 (List.getD d_2 (Int.toNat i_16) ((0 : Int), ((0 : Int), ByteArray.empty))).1), .val (.int .i64 (List.getD d_2 (Int.toNat i_16) ((0 : Int), ((0 : Int), ByteArray.empty))).2.1), .val (.string (List.getD d_2 (Int.toNat i_16) ((0 : Int), ((0 : Int), ByteArray.empty))).2.2)])], 2⟩ [(decide ((List.getD d_2 (Int.toNat i_16) ((0 : Int), ((0 : Int), ByteArray.empty))).1 < last_13)) = false, (decide (i_16 > (0 : Int))) = true, (!text_14) = true, ((List.getD d_2 (Int.toNat i_16) ((0 : Int), ((0 : Int), ByteArray.empty))).1 == last_13) = false, (decide ((List.getD d_2 (Int.toNat i_16) ((0 : Int), ((0 : Int), ByteArray.empty))).2.1 ≤ (List.getD d_2 (Int.toNat i_16) ((0 : Int), ((0 : Int), ByteArray.empty))).1)) = false, (decide ((List.getD d_2 (Int.toNat i_16) ((0 : Int), ((0 : Int), ByteArray.empty))).2.1 > d_1)) = false] (by kernel_rfl) rfl rfl (ap2 b_47 (ap2 b_49 (ap2 b_50 (ap2 b_51 (ap2 b_53 (ap1 b_55)))))) (by kernel_rfl) (by kernel_rfl) ?_
                        have H_149 := Option.some.inj (show some (decide ((IntKind.wrap .i64 ((List.getD d_2 (Int.toNat i_16) ((0 : Int), ((0 : Int), ByteArray.empty))).2.1 - (List.getD d_2 (Int.toNat i_16) ((0 : Int), ((0 : Int), ByteArray.empty))).1)) > (IntKind.wrap .i64 ((20000 : Int) - size_15)))) = some q_129 from H_147); subst H_149
                        refine VL_nil ?_
                        exact QP_end (decide ((IntKind.wrap .i64 ((List.getD d_2 (Int.toNat i_16) ((0 : Int), ((0 : Int), ByteArray.empty))).2.1 - (List.getD d_2 (Int.toNat i_16) ((0 : Int), ((0 : Int), ByteArray.empty))).1)) > (IntKind.wrap .i64 ((20000 : Int) - size_15)))) rfl [(0, 0), (1, 1)] hn (by kernel_rfl) (by kernel_rfl) rfl rfl rfl
                · have H_139 := of_f H_136 b_50
                  rcases Bool.eq_false_or_eq_true ((decide ((List.getD d_2 (Int.toNat i_16) ((0 : Int), ((0 : Int), ByteArray.empty))).2.1 ≤ (List.getD d_2 (Int.toNat i_16) ((0 : Int), ((0 : Int), ByteArray.empty))).1))) with b_58 | b_58
                  · have H_150 := of_t H_139 b_58
                    refine V_reg hN hn [] [(75, false), (78, true), (82, false), (96, true)] calls_nil 2 [1, 5, 6, 7, 112] [0, 1] ⟨[(1, .c (.h 0)), (5, .c (.val (.int .i64 size_15))), (6, .c (.val (.int .i64 i_16))), (7, .c (.h 1)), (112, .c (.val (.bool true)))], [(0, .box [.val (.int .i64 d_1), .imm (.slice (.pair (.int .i64) (.pair (.int .i64) .str))) d_2]), (1, .box [.val (.int .i64 (List.getD d_2 (Int.toNat i_16) ((0 : Int), ((0 : Int), ByteArray.empty))).1), .val (.int .i64 (List.getD d_2 (Int.toNat i_16) ((0 : Int), ((0 : Int), ByteArray.empty))).2.1), .val (.string (List.getD d_2 (Int.toNat i_16) ((0 : Int), ((0 : Int), ByteArray.empty))).2.2)])], 2⟩ [(decide ((List.getD d_2 (Int.toNat i_16) ((0 : Int), ((0 : Int), ByteArray.empty))).1 < last_13)) = false, (decide (i_16 > (0 : Int))) = true, (!text_14) = false, (decide ((List.getD d_2 (Int.toNat i_16) ((0 : Int), ((0 : Int), ByteArray.empty))).2.1 ≤ (List.getD d_2 (Int.toNat i_16) ((0 : Int), ((0 : Int), ByteArray.empty))).1)) = true] (by kernel_rfl) rfl rfl (ap2 b_47 (ap2 b_49 (ap2 b_50 (ap1 b_58)))) (by kernel_rfl) (by kernel_rfl) ?_
                    have H_152 := Option.some.inj (show some true = some q_129 from H_150); subst H_152
                    refine VL_nil ?_
                    exact QP_end true rfl [(0, 0), (1, 1)] hn (by kernel_rfl) (by kernel_rfl) rfl rfl rfl
                  · have H_151 := of_f H_139 b_58
                    rcases Bool.eq_false_or_eq_true ((decide ((List.getD d_2 (Int.toNat i_16) ((0 : Int), ((0 : Int), ByteArray.empty))).2.1 > d_1))) with b_60 | b_60
                    · have H_153 := of_t H_151 b_60
                      refine V_reg hN hn [] [(75, false), (78, true), (82, false), (96, false), (103, true)] calls_nil 2 [1, 5, 6, 7, 112] [0, 1] ⟨[(1, .c (.h 0)), (5, .c (.val (.int .i64 size_15))), (6, .c (.val (.int .i64 i_16))), (7, .c (.h 1)), (112, .c (.val (.bool true)))], [(0, .box [.val (.int .i64 d_1), .imm (.slice (.pair (.int .i64) (.pair (.int .i64) .str))) d_2]), (1, .box [.val (.int .i64 (List.getD d_2 (Int.toNat i_16) ((0 : Int), ((0 : Int), ByteArray.empty))).1), .val (.int .i64 (List.getD d_2 (Int.toNat i_16) ((0 : Int), ((0 : Int), ByteArray.empty))).2.1), .val (.string (List.getD d_2 (Int.toNat i_16) ((0 : Int), ((0 : Int), ByteArray.empty))).2.2)])], 2⟩ [(decide ((List.getD d_2 (Int.toNat i_16) ((0 : Int), ((0 : Int), ByteArray.empty))).1 < last_13)) = false, (decide (i_16 > (0 : Int))) = true, (!text_14) = false, (decide ((List.getD d_2 (Int.toNat i_16) ((0 : Int), ((0 : Int), ByteArray.empty))).2.1 ≤ (List.getD d_2 (Int.toNat i_16) ((0 : Int), ((0 : Int), ByteArray.empty))).1)) = false, (decide ((List.getD d_2 (Int.toNat i_16) ((0 : Int), ((0 : Int), ByteArray.empty))).2.1 > d_1)) = true] (by kernel_rfl) rfl rfl (ap2 b_47 (ap2 b_49 (ap2 b_50 (ap2 b_58 (ap1 b_60))))) (by kernel_rfl) (by kernel_rfl) ?_
                      have H_155 := Option.some.inj (show some true = some q_129 from H_153); subst H_155
                      refine VL_nil ?_
                      exact QP_end true rfl [(0, 0), (1, 1)] hn (by kernel_rfl) (by kernel_rfl) rfl rfl rfl
                    · have H_154 := of_f H_151 b_60
                      refine V_reg hN hn [] [(75, false), (78, true), (82, false), (96, false), (103, false)] calls_nil 2 [1, 5, 6, 7, 112] [0, 1] ⟨[(1, .c (.h 0)), (5, .c (.val (.int .i64 size_15))), (6, .c (.val (.int .i64 i_16))), (7, .c (.h 1)), (112, .c (.val (.bool (decide ((IntKind.wrap .i64 ((List.getD d_2 (Int.toNat i_16) ((0 : Int), ((0 : Int), ByteArray.empty))).2.1 - (List.getD d_2 (Int.toNat i_16) ((0 : Int), ((0 : Int), ByteArray.empty))).1)) > (IntKind.wrap .i64 ((20000 : Int) - size_15)))))))], [(0, .box [.val (.int .i64 d_1), .imm (.slice (.pair (.int .i64) (.pair (.int .i64) .str))) d_2]), (1, .box [.val (.int .i64 (List.getD d_2 (Int.toNat i_16) ((0 : Int), ((0 : Int), ByteArray.empty))).1), .val (.int .i64 (List.getD d_2 (Int.toNat i_16) ((0 : Int), ((0 : Int), ByteArray.empty))).2.1), .val (.string (List.getD d_2 (Int.toNat i_16) ((0 : Int), ((0 : Int), ByteArray.empty))).2.2)])], 2⟩ [(decide ((List.getD d_2 (Int.toNat i_16) ((0 : Int), ((0 : Int), ByteArray.empty))).1 < last_13)) = false, (decide (i_16 > (0 : Int))) = true, (!text_14) = false, (decide ((List.getD d_2 (Int.toNat i_16) ((0 : Int), ((0 : Int), ByteArray.empty))).2.1 ≤ (List.getD d_2 (Int.toNat i_16) ((0 : Int), ((0 : Int), ByteArray.empty))).1)) = false, (decide ((List.getD d_2 (Int.toNat i_16) ((0 : Int), ((0 : Int), ByteArray.empty))).2.1 > d_1)) = false] (by kernel_rfl) rfl rfl (ap2 b_47 (ap2 b_49 (ap2 b_50 (ap2 b_58 (ap1 b_60))))) (by kernel_rfl) (by kernel_rfl) ?_
                      have H_156 := Option.some.inj (show some (decide ((IntKind.wrap .i64 ((List.getD d_2 (Int.toNat i_16) ((0 : Int), ((0 : Int), ByteArray.empty))).2.1 - (List.getD d_2 (Int.toNat i_16) ((0 : Int), ((0 : Int), ByteArray.empty))).1)) > (IntKind.wrap .i64 ((20000 : Int) - size_15)))) = some q_129 from H_154); subst H_156
                      refine VL_nil ?_
                      exact QP_end (decide ((IntKind.wrap .i64 ((List.getD d_2 (Int.toNat i_16) ((0 : Int), ((0 : Int), ByteArray.empty))).2.1 - (List.getD d_2 (Int.toNat i_16) ((0 : Int), ((0 : Int), ByteArray.empty))).1)) > (IntKind.wrap .i64 ((20000 : Int) - size_15)))) rfl [(0, 0), (1, 1)] hn (by kernel_rfl) (by kernel_rfl) rfl rfl rfl
              · have H_137 := of_f H_134 b_49
                rcases Bool.eq_false_or_eq_true ((decide ((List.getD d_2 (Int.toNat i_16) ((0 : Int), ((0 : Int), ByteArray.empty))).2.1 ≤ (List.getD d_2 (Int.toNat i_16) ((0 : Int), ((0 : Int), ByteArray.empty))).1))) with b_63 | b_63
                · have H_157 := of_t H_137 b_63
                  refine V_reg hN hn [] [(75, false), (78, false), (96, true)] calls_nil 2 [1, 5, 6, 7, 112] [0, 1] ⟨[(1, .c (.h 0)), (5, .c (.val (.int .i64 size_15))), (6, .c (.val (.int .i64 i_16))), (7, .c (.h 1)), (112, .c (.val (.bool true)))], [(0, .box [.val (.int .i64 d_1), .imm (.slice (.pair (.int .i64) (.pair (.int .i64) .str))) d_2]), (1, .box [.val (.int .i64 (List.getD d_2 (Int.toNat i_16) ((0 : Int), ((0 : Int), ByteArray.empty))).1), .val (.int .i64 (List.getD d_2 (Int.toNat i_16) ((0 : Int), ((0 : Int), ByteArray.empty))).2.1), .val (.string (List.getD d_2 (Int.toNat i_16) ((0 : Int), ((0 : Int), ByteArray.empty))).2.2)])], 2⟩ [(decide ((List.getD d_2 (Int.toNat i_16) ((0 : Int), ((0 : Int), ByteArray.empty))).1 < last_13)) = false, (decide (i_16 > (0 : Int))) = false, (decide ((List.getD d_2 (Int.toNat i_16) ((0 : Int), ((0 : Int), ByteArray.empty))).2.1 ≤ (List.getD d_2 (Int.toNat i_16) ((0 : Int), ((0 : Int), ByteArray.empty))).1)) = true] (by kernel_rfl) rfl rfl (ap2 b_47 (ap2 b_49 (ap1 b_63))) (by kernel_rfl) (by kernel_rfl) ?_
                  have H_159 := Option.some.inj (show some true = some q_129 from H_157); subst H_159
                  refine VL_nil ?_
                  exact QP_end true rfl [(0, 0), (1, 1)] hn (by kernel_rfl) (by kernel_rfl) rfl rfl rfl
                · have H_158 := of_f H_137 b_63
                  rcases Bool.eq_false_or_eq_true ((decide ((List.getD d_2 (Int.toNat i_16) ((0 : Int), ((0 : Int), ByteArray.empty))).2.1 > d_1))) with b_65 | b_65
                  · have H_160 := of_t H_158 b_65
                    refine V_reg hN hn [] [(75, false), (78, false), (96, false), (103, true)] calls_nil 2 [1, 5, 6, 7, 112] [0, 1] ⟨[(1, .c (.h 0)), (5, .c (.val (.int .i64 size_15))), (6, .c (.val (.int .i64 i_16))), (7, .c (.h 1)), (112, .c (.val (.bool true)))], [(0, .box [.val (.int .i64 d_1), .imm (.slice (.pair (.int .i64) (.pair (.int .i64) .str))) d_2]), (1, .box [.val (.int .i64 (List.getD d_2 (Int.toNat i_16) ((0 : Int), ((0 : Int), ByteArray.empty))).1), .val (.int .i64 (List.getD d_2 (Int.toNat i_16) ((0 : Int), ((0 : Int), ByteArray.empty))).2.1), .val (.string (List.getD d_2 (Int.toNat i_16) ((0 : Int), ((0 : Int), ByteArray.empty))).2.2)])], 2⟩ [(decide ((List.getD d_2 (Int.toNat i_16) ((0 : Int), ((0 : Int), ByteArray.empty))).1 < last_13)) = false, (decide (i_16 > (0 : Int))) = false, (decide ((List.getD d_2 (Int.toNat i_16) ((0 : Int), ((0 : Int), ByteArray.empty))).2.1 ≤ (List.getD d_2 (Int.toNat i_16) ((0 : Int), ((0 : Int), ByteArray.empty))).1)) = false, (decide ((List.getD d_2 (Int.toNat i_16) ((0 : Int), ((0 : Int), ByteArray.empty))).2.1 > d_1)) = true] (by kernel_rfl) rfl rfl (ap2 b_47 (ap2 b_49 (ap2 b_63 (ap1 b_65)))) (by kernel_rfl) (by kernel_rfl) ?_
                    have H_162 := Option.some.inj (show some true = some q_129 from H_160); subst H_162
                    refine VL_nil ?_
                    exact QP_end true rfl [(0, 0), (1, 1)] hn (by kernel_rfl) (by kernel_rfl) rfl rfl rfl
                  · have H_161 := of_f H_158 b_65
                    refine V_reg hN hn [] [(75, false), (78, false), (96, false), (103, false)] calls_nil 2 [1, 5, 6, 7, 112] [0, 1] ⟨[(1, .c (.h 0)), (5, .c (.val (.int .i64 size_15))), (6, .c (.val (.int .i64 i_16))), (7, .c (.h 1)), (112, .c (.val (.bool (decide ((IntKind.wrap .i64 ((List.getD d_2 (Int.toNat i_16) ((0 : Int), ((0 : Int), ByteArray.empty))).2.1 - (List.getD d_2 (Int.toNat i_16) ((0 : Int), ((0 : Int), ByteArray.empty))).1)) > (IntKind.wrap .i64 ((20000 : Int) - size_15)))))))], [(0, .box [.val (.int .i64 d_1), .imm (.slice (.pair (.int .i64) (.pair (.int .i64) .str))) d_2]), (1, .box [.val (.int .i64 (List.getD d_2 (Int.toNat i_16) ((0 : Int), ((0 : Int), ByteArray.empty))).1), .val (.int .i64 (List.getD d_2 (Int.toNat i_16) ((0 : Int), ((0 : Int), ByteArray.empty))).2.1), .val (.string (List.getD d_2 (Int.toNat i_16) ((0 : Int), ((0 : Int), ByteArray.empty))).2.2)])], 2⟩ [(decide ((List.getD d_2 (Int.toNat i_16) ((0 : Int), ((0 : Int), ByteArray.empty))).1 < last_13)) = false, (decide (i_16 > (0 : Int))) = false, (decide ((List.getD d_2 (Int.toNat i_16) ((0 : Int), ((0 : Int), ByteArray.empty))).2.1 ≤ (List.getD d_2 (Int.toNat i_16) ((0 : Int), ((0 : Int), ByteArray.empty))).1)) = false, (decide ((List.getD d_2 (Int.toNat i_16) ((0 : Int), ((0 : Int), ByteArray.empty))).2.1 > d_1)) = false] (by kernel_rfl) rfl rfl (ap2 b_47 (ap2 b_49 (ap2 b_63 (ap1 b_65)))) (by kernel_rfl) (by kernel_rfl) ?_
                    have H_163 := Option.some.inj (show some (decide ((IntKind.wrap .i64 ((List.getD d_2 (Int.toNat i_16) ((0 : Int), ((0 : Int), ByteArray.empty))).2.1 - (List.getD d_2 (Int.toNat i_16) ((0 : Int), ((0 : Int), ByteArray.empty))).1)) > (IntKind.wrap .i64 ((20000 : Int) - size_15)))) = some q_129 from H_161); subst H_163
                    refine VL_nil ?_
                    exact QP_end (decide ((IntKind.wrap .i64 ((List.getD d_2 (Int.toNat i_16) ((0 : Int), ((0 : Int), ByteArray.empty))).2.1 - (List.getD d_2 (Int.toNat i_16) ((0 : Int), ((0 : Int), ByteArray.empty))).1)) > (IntKind.wrap .i64 ((20000 : Int) - size_15)))) rfl [(0, 0), (1, 1)] hn (by kernel_rfl) (by kernel_rfl) rfl rfl rfl
          · intro y_132 hy; subst hy
            skip
            skip
            refine VL_cond (y_132) (by kernel_rfl) ?_ ?_
            · intro b_69; have H_164 := of_t H_131 b_69
              refine V_run hN hn 2 2 [2] [] ⟨[(2, .c (.val (.bool false)))], [], 2⟩ [] (by kernel_rfl) rfl rfl ap0 ?_
              have H_166 := Option.some.inj (show some false = some r from H_164); subst H_166
              refine VL_ret ?_
              refine QB_ret ?_
              refine QL_ret ?_
              refine QB_ret ?_
              exact P_to [(2, .c (.val (.bool false)))] [] [] hn (by kernel_rfl) (by kernel_rfl) rfl rfl rfl (QF_retS (by kernel_rfl) (by kernel_rfl) rfl)
            · intro b_69; have H_165 := of_f H_131 b_69
              refine V_run hN hn 4 2 [1, 3, 4, 5, 6] [0] ⟨[(1, .c (.h 0)), (3, .c (.val (.int .i64 (List.getD d_2 (Int.toNat i_16) ((0 : Int), ((0 : Int), ByteArray.empty))).2.1))), (4, .c (.val (.bool false))), (5, .c (.val (.int .i64 (IntKind.wrap .i64 ((IntKind.wrap .i64 (size_15 + (List.getD d_2 (Int.toNat i_16) ((0 : Int), ((0 : Int), ByteArray.empty))).2.1)) - (List.getD d_2 (Int.toNat i_16) ((0 : Int), ((0 : Int), ByteArray.empty))).1))))), (6, .c (.val (.int .i64 i_16)))], [(0, .box [.val (.int .i64 d_1), .imm (.slice (.pair (.int .i64) (.pair (.int .i64) .str))) d_2])], 2⟩ [] (by kernel_rfl) rfl rfl ap0 ?_
              refine VL_nil (QB_end ?_)
              refine V_run hN hn 1 2 [1, 3, 4, 5, 6] [0] ⟨[(1, .c (.h 0)), (3, .c (.val (.int .i64 (List.getD d_2 (Int.toNat i_16) ((0 : Int), ((0 : Int), ByteArray.empty))).2.1))), (4, .c (.val (.bool false))), (5, .c (.val (.int .i64 (IntKind.wrap .i64 ((IntKind.wrap .i64 (size_15 + (List.getD d_2 (Int.toNat i_16) ((0 : Int), ((0 : Int), ByteArray.empty))).2.1)) - (List.getD d_2 (Int.toNat i_16) ((0 : Int), ((0 : Int), ByteArray.empty))).1))))), (6, .c (.val (.int .i64 (IntKind.wrap .i64 (i_16 + (1 : Int))))))], [(0, .box [.val (.int .i64 d_1), .imm (.slice (.pair (.int .i64) (.pair (.int .i64) .str))) d_2])], 2⟩ [] (by kernel_rfl) rfl rfl ap0 ?_
              refine VL_nil ?_
              exact V_roundEnd ((List.getD d_2 (Int.toNat i_16) ((0 : Int), ((0 : Int), ByteArray.empty))).2.1, false, (IntKind.wrap .i64 ((IntKind.wrap .i64 (size_15 + (List.getD d_2 (Int.toNat i_16) ((0 : Int), ((0 : Int), ByteArray.empty))).2.1)) - (List.getD d_2 (Int.toNat i_16) ((0 : Int), ((0 : Int), ByteArray.empty))).1)), (IntKind.wrap .i64 (i_16 + (1 : Int)))) H_165 [(0, 0)] hn (by kernel_rfl) (by kernel_rfl) rfl rfl rfl
      · intro b_19; have H_97 := of_f H_95 b_19
        refine VL_exit ?_
        refine QL_exit ?_
        refine QB_here ?_
        refine V_run hN hn 2 1 [2] [] ⟨[(2, .c (.val (.bool true)))], [], 1⟩ [] (by kernel_rfl) rfl rfl ap0 ?_
        have H_167 := Option.some.inj (show some true = some r from H_97); subst H_167
        refine VL_ret ?_
        exact P_to [(2, .c (.val (.bool true)))] [] [] hn (by kernel_rfl) (by kernel_rfl) rfl rfl rfl (QF_retS (by kernel_rfl) (by kernel_rfl) rfl)

theorem palinoderef11_Cells_spec (K : Nat) (d_1 : Int) (d_2 : (List (Int × (Int × ByteArray)))) (r : (List (Int × Int))) (H : palinoderef11_Cells K d_1 d_2 = some r) : Spec Try.prog 50 0 [.agg [.val (.int .i64 d_1), .imm (.slice (.pair (.int .i64) (.pair (.int .i64) .str))) d_2]] [] (.c (.h 9)) [(9, .row (.pair (.int .i64) (.int .u8)) r)] := by
  refine Spec_mk (fn := Try.f50) (c := (Try.f50.body).get!) Try.func50 (by kernel_rfl) rfl ?_
  intro C hN hn
  replace hN : C.N = 49 := hN
  unfold palinoderef11_Cells at H
  refine V_run hN hn 7 0 [1, 3, 4] [0] ⟨[(1, .c (.h 0)), (3, .c (.val (.slice none 0 0))), (4, .c (.val (.int .i64 (0 : Int))))], [(0, .box [.val (.int .i64 d_1), .imm (.slice (.pair (.int .i64) (.pair (.int .i64) .str))) d_2])], 1⟩ [] (by kernel_rfl) rfl rfl ap0 ?_
  refine VL_block ?_
  refine V_ghost [.nilSlot 3 (.pair (.int .i64) (.int .u8))] 1 hn [1, 3, 4] [0, 1] ⟨[(1, .c (.h 0)), (3, .c (.h 1)), (4, .c (.val (.int .i64 (0 : Int))))], [(0, .box [.val (.int .i64 d_1), .imm (.slice (.pair (.int .i64) (.pair (.int .i64) .str))) d_2]), (1, .row (.pair (.int .i64) (.int .u8)) ([] : List (Int × Int)))], 2⟩ (by kernel_rfl) rfl rfl ?_
  refine V_to [(1, .c (.h 0)), (3, .c (.h 9)), (4, .c (.val (.int .i64 (0 : Int))))] [(0, .box [.val (.int .i64 d_1), .imm (.slice (.pair (.int .i64) (.pair (.int .i64) .str))) d_2]), (9, .row (.pair (.int .i64) (.int .u8)) ([] : List (Int × Int)))] [(0, 0), (9, 1)] hn (by kernel_rfl) (by kernel_rfl) rfl rfl rfl ?_
  refine VL_loop (X := ((List (Int × Int)) × Int)) (fun x => [(1, .c (.h 0)), (3, .c (.h 9)), (4, .c (.val (.int .i64 x.2)))]) (fun x => [(0, .box [.val (.int .i64 d_1), .imm (.slice (.pair (.int .i64) (.pair (.int .i64) .str))) d_2]), (9, .row (.pair (.int .i64) (.int .u8)) x.1)]) (fun k x => palinoderef11_Cells.l0 K d_2 k x.1 x.2 = some r) K (([] : List (Int × Int)), (0 : Int)) H (fun _ h => no_none h) ?_
  intro k_44 x_44 H_87
  obtain ⟨out_43, i_4⟩ := x_44
  have H_88 : palinoderef11_Cells.l0 K d_2 (k_44 + 1) out_43 i_4 = some r := H_87
  rw [palinoderef11_Cells.l0] at H_88
  refine V_run hN hn 3 10 [1, 3, 4, 12] [0, 9] ⟨[(1, .c (.h 0)), (3, .c (.h 9)), (4, .c (.val (.int .i64 i_4))), (12, .c (.val (.bool (decide (i_4 < (((List.length d_2) : Nat) : Int))))))], [(0, .box [.val (.int .i64 d_1), .imm (.slice (.pair (.int .i64) (.pair (.int .i64) .str))) d_2]), (9, .row (.pair (.int .i64) (.int .u8)) out_43)], 10⟩ [] (by kernel_rfl) rfl rfl ap0 ?_
  refine VL_cond ((decide (i_4 < (((List.length d_2) : Nat) : Int)))) (by kernel_rfl) ?_ ?_
  · intro b_46; have H_89 := of_t H_88 b_46
    refine V_run hN hn 2 10 [1, 3, 4, 12] [0, 9] ⟨[(1, .c (.h 0)), (3, .c (.h 9)), (4, .c (.val (.int .i64 i_4))), (12, .c (.val (.bool (decide (i_4 < (((List.length d_2) : Nat) : Int))))))], [(0, .box [.val (.int .i64 d_1), .imm (.slice (.pair (.int .i64) (.pair (.int .i64) .str))) d_2]), (9, .row (.pair (.int .i64) (.int .u8)) out_43)], 10⟩ [] (by kernel_rfl) rfl rfl ap0 ?_
    obtain ⟨q_91, H_92, H_93⟩ := of_bind H_89
    refine V_cut (Y := (List (Int × Int))) (R := (List (Int × Int))) q_91 (fun y => y) (fun y => [(1, .c (.h 0)), (3, .c (.h 16)), (4, .c (.val (.int .i64 i_4)))]) (fun y => [(0, .box [.val (.int .i64 d_1), .imm (.slice (.pair (.int .i64) (.pair (.int .i64) .str))) d_2]), (16, .row (.pair (.int .i64) (.int .u8)) y)]) ?_ ?_
    · skip
      refine VL_block ?_
      obtain ⟨c_48, H_95⟩ := of_if H_92
      refine V_run hN hn 5 10 [1, 3, 4, 5, 6] [0, 9, 10] ⟨[(1, .c (.h 0)), (3, .c (.h 9)), (4, .c (.val (.int .i64 i_4))), (5, .c (.h 10)), (6, .c (.val (.int .i64 (0 : Int))))], [(0, .box [.val (.int .i64 d_1), .imm (.slice (.pair (.int .i64) (.pair (.int .i64) .str))) d_2]), (9, .row (.pair (.int .i64) (.int .u8)) out_43), (10, .box [.val (.int .i64 (List.getD d_2 (Int.toNat i_4) ((0 : Int), ((0 : Int), ByteArray.empty))).1), .val (.int .i64 (List.getD d_2 (Int.toNat i_4) ((0 : Int), ((0 : Int), ByteArray.empty))).2.1), .val (.string (List.getD d_2 (Int.toNat i_4) ((0 : Int), ((0 : Int), ByteArray.empty))).2.2)])], 11⟩ [0 ≤ i_4, i_4 < (((List.length d_2) : Nat) : Int)] (by kernel_rfl) rfl rfl (ap2 c_48.1 (ap1 c_48.2)) ?_
      obtain ⟨q_96, H_97, H_98⟩ := of_bind H_95
      refine V_cut (Y := (List (Int × Int))) (R := (List (Int × Int))) q_96 (fun y => y) (fun y => [(1, .c (.h 0)), (3, .c (.h 13)), (4, .c (.val (.int .i64 i_4))), (5, .c (.h 10))]) (fun y => [(0, .box [.val (.int .i64 d_1), .imm (.slice (.pair (.int .i64) (.pair (.int .i64) .str))) d_2]), (10, .box [.val (.int .i64 (List.getD d_2 (Int.toNat i_4) ((0 : Int), ((0 : Int), ByteArray.empty))).1), .val (.int .i64 (List.getD d_2 (Int.toNat i_4) ((0 : Int), ((0 : Int), ByteArray.empty))).2.1), .val (.string (List.getD d_2 (Int.toNat i_4) ((0 : Int), ((0 : Int), ByteArray.empty))).2.2)]), (13, .row (.pair (.int .i64) (.int .u8)) y)]) ?_ ?_
      · skip
        refine VL_block ?_
        refine V_to [(1, .c (.h 0)), (3, .c (.h 13)), (4, .c (.val (.int .i64 i_4))), (5, .c (.h 10)), (6, .c (.val (.int .i64 (0 : Int))))] [(0, .box [.val (.int .i64 d_1), .imm (.slice (.pair (.int .i64) (.pair (.int .i64) .str))) d_2]), (10, .box [.val (.int .i64 (List.getD d_2 (Int.toNat i_4) ((0 : Int), ((0 : Int), ByteArray.empty))).1), .val (.int .i64 (List.getD d_2 (Int.toNat i_4) ((0 : Int), ((0 : Int), ByteArray.empty))).2.1), .val (.string (List.getD d_2 (Int.toNat i_4) ((0 : Int), ((0 : Int), ByteArray.empty))).2.2)]), (13, .row (.pair (.int .i64) (.int .u8)) out_43)] [(0, 0), (10, 10), (13, 9)] hn (by kernel_rfl) (by kernel_rfl) rfl rfl rfl ?_
        refine VL_loop (X := ((List (Int × Int)) × Int)) (fun x => [(1, .c (.h 0)), (3, .c (.h 13)), (4, .c (.val (.int .i64 i_4))), (5, .c (.h 10)), (6, .c (.val (.int .i64 x.2)))]) (fun x => [(0, .box [.val (.int .i64 d_1), .imm (.slice (.pair (.int .i64) (.pair (.int .i64) .str))) d_2]), (10, .box [.val (.int .i64 (List.getD d_2 (Int.toNat i_4) ((0 : Int), ((0 : Int), ByteArray.empty))).1), .val (.int .i64 (List.getD d_2 (Int.toNat i_4) ((0 : Int), ((0 : Int), ByteArray.empty))).2.1), .val (.string (List.getD d_2 (Int.toNat i_4) ((0 : Int), ((0 : Int), ByteArray.empty))).2.2)]), (13, .row (.pair (.int .i64) (.int .u8)) x.1)]) (fun k x => palinoderef11_Cells.l1 K d_2 i_4 k x.1 x.2 = some q_96) K (out_43, (0 : Int)) H_97 (fun _ h => no_none h) ?_
        intro k_57 x_57 H_100
        obtain ⟨out_56, k_49⟩ := x_57
        have H_101 : palinoderef11_Cells.l1 K d_2 i_4 (k_57 + 1) out_56 k_49 = some q_96 := H_100
        rw [palinoderef11_Cells.l1] at H_101
        refine V_run hN hn 3 14 [1, 3, 4, 5, 6, 24] [0, 10, 13] ⟨[(1, .c (.h 0)), (3, .c (.h 13)), (4, .c (.val (.int .i64 i_4))), (5, .c (.h 10)), (6, .c (.val (.int .i64 k_49))), (24, .c (.val (.bool (decide (k_49 < (((ByteArray.size (List.getD d_2 (Int.toNat i_4) ((0 : Int), ((0 : Int), ByteArray.empty))).2.2) : Nat) : Int))))))], [(0, .box [.val (.int .i64 d_1), .imm (.slice (.pair (.int .i64) (.pair (.int .i64) .str))) d_2]), (10, .box [.val (.int .i64 (List.getD d_2 (Int.toNat i_4) ((0 : Int), ((0 : Int), ByteArray.empty))).1), .val (.int .i64 (List.getD d_2 (Int.toNat i_4) ((0 : Int), ((0 : Int), ByteArray.empty))).2.1), .val (.string (List.getD d_2 (Int.toNat i_4) ((0 : Int), ((0 : Int), ByteArray.empty))).2.2)]), (13, .row (.pair (.int .i64) (.int .u8)) out_56)], 14⟩ [] (by kernel_rfl) rfl rfl ap0 ?_
        refine VL_cond ((decide (k_49 < (((ByteArray.size (List.getD d_2 (Int.toNat i_4) ((0 : Int), ((0 : Int), ByteArray.empty))).2.2) : Nat) : Int)))) (by kernel_rfl) ?_ ?_
        · intro b_59; have H_102 := of_t H_101 b_59
          refine V_run hN hn 2 14 [1, 3, 4, 5, 6, 24] [0, 10, 13] ⟨[(1, .c (.h 0)), (3, .c (.h 13)), (4, .c (.val (.int .i64 i_4))), (5, .c (.h 10)), (6, .c (.val (.int .i64 k_49))), (24, .c (.val (.bool (decide (k_49 < (((ByteArray.size (List.getD d_2 (Int.toNat i_4) ((0 : Int), ((0 : Int), ByteArray.empty))).2.2) : Nat) : Int))))))], [(0, .box [.val (.int .i64 d_1), .imm (.slice (.pair (.int .i64) (.pair (.int .i64) .str))) d_2]), (10, .box [.val (.int .i64 (List.getD d_2 (Int.toNat i_4) ((0 : Int), ((0 : Int), ByteArray.empty))).1), .val (.int .i64 (List.getD d_2 (Int.toNat i_4) ((0 : Int), ((0 : Int), ByteArray.empty))).2.1), .val (.string (List.getD d_2 (Int.toNat i_4) ((0 : Int), ((0 : Int), ByteArray.empty))).2.2)]), (13, .row (.pair (.int .i64) (.int .u8)) out_56)], 14⟩ [] (by kernel_rfl) rfl rfl ap0 ?_
          refine VL_block ?_
          obtain ⟨c_61, H_104⟩ := of_if H_102
          refine V_run hN hn 1 14 [1, 3, 4, 5, 6] [0, 10, 15] ⟨[(1, .c (.h 0)), (3, .c (.h 15)), (4, .c (.val (.int .i64 i_4))), (5, .c (.h 10)), (6, .c (.val (.int .i64 k_49)))], [(0, .box [.val (.int .i64 d_1), .imm (.slice (.pair (.int .i64) (.pair (.int .i64) .str))) d_2]), (10, .box [.val (.int .i64 (List.getD d_2 (Int.toNat i_4) ((0 : Int), ((0 : Int), ByteArray.empty))).1), .val (.int .i64 (List.getD d_2 (Int.toNat i_4) ((0 : Int), ((0 : Int), ByteArray.empty))).2.1), .val (.string (List.getD d_2 (Int.toNat i_4) ((0 : Int), ((0 : Int), ByteArray.empty))).2.2)]), (15, .row (.pair (.int .i64) (.int .u8)) (out_56 ++ ([((-1 : Int), (bt (List.getD d_2 (Int.toNat i_4) ((0 : Int), ((0 : Int), ByteArray.empty))).2.2 k_49))] : List (Int × Int))))], 16⟩ [0 ≤ k_49, k_49 < (((ByteArray.size (List.getD d_2 (Int.toNat i_4) ((0 : Int), ((0 : Int), ByteArray.empty))).2.2) : Nat) : Int), (List.length out_56 + List.length ([((-1 : Int), (bt (List.getD d_2 (Int.toNat i_4) ((0 : Int), ((0 : Int), ByteArray.empty))).2.2 k_49))] : List (Int × Int))) * 16 ≤ 140737488355328] (by kernel_rfl) rfl rfl (ap2 c_61.1 (ap2 c_61.2.1 (ap1 c_61.2.2))) ?_
          refine VL_nil (QB_end ?_)
          refine V_run hN hn 1 16 [1, 3, 4, 5, 6] [0, 10, 15] ⟨[(1, .c (.h 0)), (3, .c (.h 15)), (4, .c (.val (.int .i64 i_4))), (5, .c (.h 10)), (6, .c (.val (.int .i64 (IntKind.wrap .i64 (k_49 + (1 : Int))))))], [(0, .box [.val (.int .i64 d_1), .imm (.slice (.pair (.int .i64) (.pair (.int .i64) .str))) d_2]), (10, .box [.val (.int .i64 (List.getD d_2 (Int.toNat i_4) ((0 : Int), ((0 : Int), ByteArray.empty))).1), .val (.int .i64 (List.getD d_2 (Int.toNat i_4) ((0 : Int), ((0 : Int), ByteArray.empty))).2.1), .val (.string (List.getD d_2 (Int.toNat i_4) ((0 : Int), ((0 : Int), ByteArray.empty))).2.2)]), (15, .row (.pair (.int .i64) (.int .u8)) (out_56 ++ ([((-1 : Int), (bt (List.getD d_2 (Int.toNat i_4) ((0 : Int), ((0 : Int), ByteArray.empty))).2.2 k_49))] : List (Int × Int))))], 16⟩ [] (by kernel_rfl) rfl rfl ap0 ?_
          refine VL_nil ?_
          exact V_roundEnd ((out_56 ++ ([((-1 : Int), (bt (List.getD d_2 (Int.toNat i_4) ((0 : Int), ((0 : Int), ByteArray.empty))).2.2 k_49))] : List (Int × Int))), (IntKind.wrap .i64 (k_49 + (1 : Int)))) H_104 [(0, 0), (10, 10), (13, 15)] hn (by kernel_rfl) (by kernel_rfl) rfl rfl rfl
        · intro b_59; have H_103 := of_f H_101 b_59
          refine VL_exit ?_
          refine QL_exit ?_
          refine QB_here ?_
          have H_105 := Option.some.inj (show some out_56 = some q_96 from H_103); subst H_105
          refine VL_nil ?_
          exact QP_end out_56 rfl [(0, 0), (10, 10), (13, 13)] hn (by kernel_rfl) (by kernel_rfl) rfl rfl rfl
      · intro y_99 hy; subst hy
        skip
        skip
        refine V_run hN hn 2 14 [1, 3, 4, 5, 7] [0, 10, 13] ⟨[(1, .c (.h 0)), (3, .c (.h 13)), (4, .c (.val (.int .i64 i_4))), (5, .c (.h 10)), (7, .c (.val (.int .i64 (List.getD d_2 (Int.toNat i_4) ((0 : Int), ((0 : Int), ByteArray.empty))).1)))], [(0, .box [.val (.int .i64 d_1), .imm (.slice (.pair (.int .i64) (.pair (.int .i64) .str))) d_2]), (10, .box [.val (.int .i64 (List.getD d_2 (Int.toNat i_4) ((0 : Int), ((0 : Int), ByteArray.empty))).1), .val (.int .i64 (List.getD d_2 (Int.toNat i_4) ((0 : Int), ((0 : Int), ByteArray.empty))).2.1), .val (.string (List.getD d_2 (Int.toNat i_4) ((0 : Int), ((0 : Int), ByteArray.empty))).2.2)]), (13, .row (.pair (.int .i64) (.int .u8)) y_99)], 14⟩ [] (by kernel_rfl) rfl rfl ap0 ?_
        refine VL_block ?_
        refine V_to [(1, .c (.h 0)), (3, .c (.h 16)), (4, .c (.val (.int .i64 i_4))), (5, .c (.h 10)), (7, .c (.val (.int .i64 (List.getD d_2 (Int.toNat i_4) ((0 : Int), ((0 : Int), ByteArray.empty))).1)))] [(0, .box [.val (.int .i64 d_1), .imm (.slice (.pair (.int .i64) (.pair (.int .i64) .str))) d_2]), (10, .box [.val (.int .i64 (List.getD d_2 (Int.toNat i_4) ((0 : Int), ((0 : Int), ByteArray.empty))).1), .val (.int .i64 (List.getD d_2 (Int.toNat i_4) ((0 : Int), ((0 : Int), ByteArray.empty))).2.1), .val (.string (List.getD d_2 (Int.toNat i_4) ((0 : Int), ((0 : Int), ByteArray.empty))).2.2)]), (16, .row (.pair (.int .i64) (.int .u8)) y_99)] [(0, 0), (10, 10), (16, 13)] hn (by kernel_rfl) (by kernel_rfl) rfl rfl rfl ?_
        refine VL_loop (X := ((List (Int × Int)) × Int)) (fun x => [(1, .c (.h 0)), (3, .c (.h 16)), (4, .c (.val (.int .i64 i_4))), (5, .c (.h 10)), (7, .c (.val (.int .i64 x.2)))]) (fun x => [(0, .box [.val (.int .i64 d_1), .imm (.slice (.pair (.int .i64) (.pair (.int .i64) .str))) d_2]), (10, .box [.val (.int .i64 (List.getD d_2 (Int.toNat i_4) ((0 : Int), ((0 : Int), ByteArray.empty))).1), .val (.int .i64 (List.getD d_2 (Int.toNat i_4) ((0 : Int), ((0 : Int), ByteArray.empty))).2.1), .val (.string (List.getD d_2 (Int.toNat i_4) ((0 : Int), ((0 : Int), ByteArray.empty))).2.2)]), (16, .row (.pair (.int .i64) (.int .u8)) x.1)]) (fun k x => palinoderef11_Cells.l2 K d_2 i_4 k x.1 x.2 = some q_91) K (y_99, (List.getD d_2 (Int.toNat i_4) ((0 : Int), ((0 : Int), ByteArray.empty))).1) H_98 (fun _ h => no_none h) ?_
        intro k_73 x_73 H_106
        obtain ⟨out_72, k_65⟩ := x_73
        have H_107 : palinoderef11_Cells.l2 K d_2 i_4 (k_73 + 1) out_72 k_65 = some q_91 := H_106
        rw [palinoderef11_Cells.l2] at H_107
        refine V_run hN hn 3 17 [1, 3, 4, 5, 7, 40] [0, 10, 16] ⟨[(1, .c (.h 0)), (3, .c (.h 16)), (4, .c (.val (.int .i64 i_4))), (5, .c (.h 10)), (7, .c (.val (.int .i64 k_65))), (40, .c (.val (.bool (decide (k_65 < (List.getD d_2 (Int.toNat i_4) ((0 : Int), ((0 : Int), ByteArray.empty))).2.1)))))], [(0, .box [.val (.int .i64 d_1), .imm (.slice (.pair (.int .i64) (.pair (.int .i64) .str))) d_2]), (10, .box [.val (.int .i64 (List.getD d_2 (Int.toNat i_4) ((0 : Int), ((0 : Int), ByteArray.empty))).1), .val (.int .i64 (List.getD d_2 (Int.toNat i_4) ((0 : Int), ((0 : Int), ByteArray.empty))).2.1), .val (.string (List.getD d_2 (Int.toNat i_4) ((0 : Int), ((0 : Int), ByteArray.empty))).2.2)]), (16, .row (.pair (.int .i64) (.int .u8)) out_72)], 17⟩ [] (by kernel_rfl) rfl rfl ap0 ?_
        refine VL_cond ((decide (k_65 < (List.getD d_2 (Int.toNat i_4) ((0 : Int), ((0 : Int), ByteArray.empty))).2.1))) (by kernel_rfl) ?_ ?_
        · intro b_75; have H_108 := of_t H_107 b_75
          refine V_run hN hn 2 17 [1, 3, 4, 5, 7, 40] [0, 10, 16] ⟨[(1, .c (.h 0)), (3, .c (.h 16)), (4, .c (.val (.int .i64 i_4))), (5, .c (.h 10)), (7, .c (.val (.int .i64 k_65))), (40, .c (.val (.bool (decide (k_65 < (List.getD d_2 (Int.toNat i_4) ((0 : Int), ((0 : Int), ByteArray.empty))).2.1)))))], [(0, .box [.val (.int .i64 d_1), .imm (.slice (.pair (.int .i64) (.pair (.int .i64) .str))) d_2]), (10, .box [.val (.int .i64 (List.getD d_2 (Int.toNat i_4) ((0 : Int), ((0 : Int), ByteArray.empty))).1), .val (.int .i64 (List.getD d_2 (Int.toNat i_4) ((0 : Int), ((0 : Int), ByteArray.empty))).2.1), .val (.string (List.getD d_2 (Int.toNat i_4) ((0 : Int), ((0 : Int), ByteArray.empty))).2.2)]), (16, .row (.pair (.int .i64) (.int .u8)) out_72)], 17⟩ [] (by kernel_rfl) rfl rfl ap0 ?_
          refine VL_block ?_
          obtain ⟨c_77, H_110⟩ := of_if H_108
          refine V_run hN hn 1 17 [1, 3, 4, 5, 7] [0, 10, 18] ⟨[(1, .c (.h 0)), (3, .c (.h 18)), (4, .c (.val (.int .i64 i_4))), (5, .c (.h 10)), (7, .c (.val (.int .i64 k_65)))], [(0, .box [.val (.int .i64 d_1), .imm (.slice (.pair (.int .i64) (.pair (.int .i64) .str))) d_2]), (10, .box [.val (.int .i64 (List.getD d_2 (Int.toNat i_4) ((0 : Int), ((0 : Int), ByteArray.empty))).1), .val (.int .i64 (List.getD d_2 (Int.toNat i_4) ((0 : Int), ((0 : Int), ByteArray.empty))).2.1), .val (.string (List.getD d_2 (Int.toNat i_4) ((0 : Int), ((0 : Int), ByteArray.empty))).2.2)]), (18, .row (.pair (.int .i64) (.int .u8)) (out_72 ++ ([(k_65, (0 : Int))] : List (Int × Int))))], 19⟩ [(List.length out_72 + List.length ([(k_65, (0 : Int))] : List (Int × Int))) * 16 ≤ 140737488355328] (by kernel_rfl) rfl rfl (ap1 c_77) ?_
          refine VL_nil (QB_end ?_)
          refine V_run hN hn 1 19 [1, 3, 4, 5, 7] [0, 10, 18] ⟨[(1, .c (.h 0)), (3, .c (.h 18)), (4, .c (.val (.int .i64 i_4))), (5, .c (.h 10)), (7, .c (.val (.int .i64 (IntKind.wrap .i64 (k_65 + (1 : Int))))))], [(0, .box [.val (.int .i64 d_1), .imm (.slice (.pair (.int .i64) (.pair (.int .i64) .str))) d_2]), (10, .box [.val (.int .i64 (List.getD d_2 (Int.toNat i_4) ((0 : Int), ((0 : Int), ByteArray.empty))).1), .val (.int .i64 (List.getD d_2 (Int.toNat i_4) ((0 : Int), ((0 : Int), ByteArray.empty))).2.1), .val (.string (List.getD d_2 (Int.toNat i_4) ((0 : Int), ((0 : Int), ByteArray.empty))).2.2)]), (18, .row (.pair (.int .i64) (.int .u8)) (out_72 ++ ([(k_65, (0 : Int))] : List (Int × Int))))], 19⟩ [] (by kernel_rfl) rfl rfl ap0 ?_
          refine VL_nil ?_
          exact V_roundEnd ((out_72 ++ ([(k_65, (0 : Int))] : List (Int × Int))), (IntKind.wrap .i64 (k_65 + (1 : Int)))) H_110 [(0, 0), (10, 10), (16, 18)] hn (by kernel_rfl) (by kernel_rfl) rfl rfl rfl
        · intro b_75; have H_109 := of_f H_107 b_75
          refine VL_exit ?_
          refine QL_exit ?_
          refine QB_here ?_
          refine VL_nil (QB_end ?_)
          have H_111 := Option.some.inj (show some out_72 = some q_91 from H_109); subst H_111
          refine VL_nil ?_
          exact QP_end out_72 rfl [(0, 0), (16, 16)] hn (by kernel_rfl) (by kernel_rfl) rfl rfl rfl
    · intro y_94 hy; subst hy
      skip
      skip
      refine V_run hN hn 1 17 [1, 3, 4] [0, 16] ⟨[(1, .c (.h 0)), (3, .c (.h 16)), (4, .c (.val (.int .i64 (IntKind.wrap .i64 (i_4 + (1 : Int))))))], [(0, .box [.val (.int .i64 d_1), .imm (.slice (.pair (.int .i64) (.pair (.int .i64) .str))) d_2]), (16, .row (.pair (.int .i64) (.int .u8)) y_94)], 17⟩ [] (by kernel_rfl) rfl rfl ap0 ?_
      refine VL_nil ?_
      exact V_roundEnd (y_94, (IntKind.wrap .i64 (i_4 + (1 : Int)))) H_93 [(0, 0), (9, 16)] hn (by kernel_rfl) (by kernel_rfl) rfl rfl rfl
  · intro b_46; have H_90 := of_f H_88 b_46
    refine VL_exit ?_
    refine QL_exit ?_
    refine QB_here ?_
    refine V_run hN hn 2 10 [2] [9] ⟨[(2, .c (.h 9))], [(9, .row (.pair (.int .i64) (.int .u8)) out_43)], 10⟩ [] (by kernel_rfl) rfl rfl ap0 ?_
    have H_112 := Option.some.inj (show some out_43 = some r from H_90); subst H_112
    refine VL_ret ?_
    exact P_to [(2, .c (.h 9))] [(9, .row (.pair (.int .i64) (.int .u8)) out_43)] [(9, 9)] hn (by kernel_rfl) (by kernel_rfl) rfl rfl rfl (QF_retS (by kernel_rfl) (by kernel_rfl) rfl)

theorem palinoderef11_Move_spec (K : Nat) (d_1 : Int) (d_2 : (List (Int × (Int × ByteArray)))) (at_3 : Int) (after_4 : Bool) (r : Int) (H : palinoderef11_Move K d_1 d_2 at_3 after_4 = some r) : Spec Try.prog 42 0 [.agg [.val (.int .i64 d_1), .imm (.slice (.pair (.int .i64) (.pair (.int .i64) .str))) d_2], .c (.val (.int .i64 at_3)), .c (.val (.bool after_4))] [] (.c (.val (.int .i64 r))) [] := by
  refine Spec_mk (fn := Try.f42) (c := (Try.f42.body).get!) Try.func42 (by kernel_rfl) rfl ?_
  intro C hN hn
  replace hN : C.N = 62 := hN
  unfold palinoderef11_Move at H
  refine V_run hN hn 4 0 [1, 2, 3] [0] ⟨[(1, .c (.val (.int .i64 at_3))), (2, .c (.val (.bool after_4))), (3, .c (.h 0))], [(0, .box [.val (.int .i64 d_1), .imm (.slice (.pair (.int .i64) (.pair (.int .i64) .str))) d_2])], 1⟩ [] (by kernel_rfl) rfl rfl ap0 ?_
  obtain ⟨r_6, h_7, H_54⟩ := of_bind H
  refine V_reg hN hn [(1, ⟨30, 0, [.agg [.val (.int .i64 d_1), .imm (.slice (.pair (.int .i64) (.pair (.int .i64) .str))) d_2]], [], .c (.val (.bool r_6)), [], [], 1⟩)] [] (calls_cons (palinoderef11_Is_spec K d_1 d_2 r_6 h_7) (by kernel_rfl) calls_nil) 1 [1, 2, 3, 13] [0] ⟨[(1, .c (.val (.int .i64 at_3))), (2, .c (.val (.bool after_4))), (3, .c (.h 0)), (13, .c (.val (.bool (!r_6))))], [(0, .box [.val (.int .i64 d_1), .imm (.slice (.pair (.int .i64) (.pair (.int .i64) .str))) d_2])], 1⟩ [] (by kernel_rfl) rfl rfl ap0 (by kernel_rfl) (by kernel_rfl) ?_
  refine VL_cond ((!r_6)) (by kernel_rfl) ?_ ?_
  · intro b_9; have H_55 := of_t H_54 b_9
    refine V_run hN hn 2 1 [6] [] ⟨[(6, .c (.val (.int .i64 (0 : Int))))], [], 1⟩ [] (by kernel_rfl) rfl rfl ap0 ?_
    have H_57 := Option.some.inj (show some (0 : Int) = some r from H_55); subst H_57
    refine VL_ret ?_
    exact P_to [(6, .c (.val (.int .i64 (0 : Int))))] [] [] hn (by kernel_rfl) (by kernel_rfl) rfl rfl rfl (QF_retS (by kernel_rfl) (by kernel_rfl) rfl)
  · intro b_9; have H_56 := of_f H_54 b_9
    refine V_run hN hn 4 1 [2, 3, 7] [0] ⟨[(2, .c (.val (.bool after_4))), (3, .c (.h 0)), (7, .c (.val (.int .i64 (mx2 (0 : Int) (mn2 at_3 d_1)))))], [(0, .box [.val (.int .i64 d_1), .imm (.slice (.pair (.int .i64) (.pair (.int .i64) .str))) d_2])], 1⟩ [] (by kernel_rfl) rfl rfl ap0 ?_
    obtain ⟨r_12, h_13, H_58⟩ := of_bind H_56
    refine V_reg hN hn [(1, ⟨50, 0, [.agg [.val (.int .i64 d_1), .imm (.slice (.pair (.int .i64) (.pair (.int .i64) .str))) d_2]], [], .c (.h 9), [(9, .row (.pair (.int .i64) (.int .u8)) r_12)], [(9, 1)], 2⟩)] [] (calls_cons (palinoderef11_Cells_spec K d_1 d_2 r_12 h_13) (by kernel_rfl) calls_nil) 1 [2, 7, 8] [1] ⟨[(2, .c (.val (.bool after_4))), (7, .c (.val (.int .i64 (mx2 (0 : Int) (mn2 at_3 d_1))))), (8, .c (.h 1))], [(1, .row (.pair (.int .i64) (.int .u8)) r_12)], 2⟩ [] (by kernel_rfl) rfl rfl ap0 (by kernel_rfl) (by kernel_rfl) ?_
    refine V_run hN hn 5 2 [2, 7, 8, 9, 10] [1] ⟨[(2, .c (.val (.bool after_4))), (7, .c (.val (.int .i64 (mx2 (0 : Int) (mn2 at_3 d_1))))), (8, .c (.h 1)), (9, .c (.val (.int .i64 (0 : Int)))), (10, .c (.val (.int .i64 (0 : Int))))], [(1, .row (.pair (.int .i64) (.int .u8)) r_12)], 2⟩ [] (by kernel_rfl) rfl rfl ap0 ?_
    obtain ⟨q_59, H_60, H_61⟩ := of_bind H_58
    refine V_cut (Y := Int) (R := Int) q_59 (fun y => y) (fun y => [(2, .c (.val (.bool after_4))), (8, .c (.h 1)), (9, .c (.val (.int .i64 y)))]) (fun y => [(1, .row (.pair (.int .i64) (.int .u8)) r_12)]) ?_ ?_
    · skip
      refine VL_block ?_
      refine V_to [(2, .c (.val (.bool after_4))), (7, .c (.val (.int .i64 (mx2 (0 : Int) (mn2 at_3 d_1))))), (8, .c (.h 1)), (9, .c (.val (.int .i64 (0 : Int)))), (10, .c (.val (.int .i64 (0 : Int))))] [(1, .row (.pair (.int .i64) (.int .u8)) r_12)] [(1, 1)] hn (by kernel_rfl) (by kernel_rfl) rfl rfl rfl ?_
      refine VL_loop (X := (Int × Int)) (fun x => [(2, .c (.val (.bool after_4))), (7, .c (.val (.int .i64 (mx2 (0 : Int) (mn2 at_3 d_1))))), (8, .c (.h 1)), (9, .c (.val (.int .i64 x.1))), (10, .c (.val (.int .i64 x.2)))]) (fun x => [(1, .row (.pair (.int .i64) (.int .u8)) r_12)]) (fun k x => palinoderef11_Move.l0 K r_12 at_3 d_1 k x.1 x.2 = some q_59) K ((0 : Int), (0 : Int)) H_60 (fun _ h => no_none h) ?_
      intro k_18 x_18 H_63
      obtain ⟨n_16, i_17⟩ := x_18
      have H_64 : palinoderef11_Move.l0 K r_12 at_3 d_1 (k_18 + 1) n_16 i_17 = some q_59 := H_63
      rw [palinoderef11_Move.l0] at H_64
      refine V_run hN hn 3 2 [2, 7, 8, 9, 10, 24] [1] ⟨[(2, .c (.val (.bool after_4))), (7, .c (.val (.int .i64 (mx2 (0 : Int) (mn2 at_3 d_1))))), (8, .c (.h 1)), (9, .c (.val (.int .i64 n_16))), (10, .c (.val (.int .i64 i_17))), (24, .c (.val (.bool (decide (i_17 < (((List.length r_12) : Nat) : Int))))))], [(1, .row (.pair (.int .i64) (.int .u8)) r_12)], 2⟩ [] (by kernel_rfl) rfl rfl ap0 ?_
      refine VL_cond ((decide (i_17 < (((List.length r_12) : Nat) : Int)))) (by kernel_rfl) ?_ ?_
      · intro b_20; have H_65 := of_t H_64 b_20
        refine V_run hN hn 2 2 [2, 7, 8, 9, 10, 24] [1] ⟨[(2, .c (.val (.bool after_4))), (7, .c (.val (.int .i64 (mx2 (0 : Int) (mn2 at_3 d_1))))), (8, .c (.h 1)), (9, .c (.val (.int .i64 n_16))), (10, .c (.val (.int .i64 i_17))), (24, .c (.val (.bool (decide (i_17 < (((List.length r_12) : Nat) : Int))))))], [(1, .row (.pair (.int .i64) (.int .u8)) r_12)], 2⟩ [] (by kernel_rfl) rfl rfl ap0 ?_
        refine VL_block ?_
        refine V_run hN hn 1 2 [2, 7, 8, 9, 10, 24] [1] ⟨[(2, .c (.val (.bool after_4))), (7, .c (.val (.int .i64 (mx2 (0 : Int) (mn2 at_3 d_1))))), (8, .c (.h 1)), (9, .c (.val (.int .i64 n_16))), (10, .c (.val (.int .i64 i_17))), (24, .c (.val (.bool (decide (i_17 < (((List.length r_12) : Nat) : Int))))))], [(1, .row (.pair (.int .i64) (.int .u8)) r_12)], 2⟩ [] (by kernel_rfl) rfl rfl ap0 ?_
        obtain ⟨q_67, H_68, H_69⟩ := of_bind H_65
        refine V_cut (Y := Bool) (R := Bool) q_67 (fun y => y) (fun y => [(2, .c (.val (.bool after_4))), (7, .c (.val (.int .i64 (mx2 (0 : Int) (mn2 at_3 d_1))))), (8, .c (.h 1)), (9, .c (.val (.int .i64 n_16))), (10, .c (.val (.int .i64 i_17))), (41, .c (.val (.bool y)))]) (fun y => [(1, .row (.pair (.int .i64) (.int .u8)) r_12)]) ?_ ?_
        · skip
          rcases Bool.eq_false_or_eq_true ((decide ((List.getD r_12 (Int.toNat i_17) ((0 : Int), (0 : Int))).1 ≥ (0 : Int)))) with b_23 | b_23
          · have H_71 := of_t H_68 b_23
            obtain ⟨c_24, H_73⟩ := of_if H_71
            refine V_reg hN hn [] [(33, true)] calls_nil 2 [2, 7, 8, 9, 10, 41] [1] ⟨[(2, .c (.val (.bool after_4))), (7, .c (.val (.int .i64 (mx2 (0 : Int) (mn2 at_3 d_1))))), (8, .c (.h 1)), (9, .c (.val (.int .i64 n_16))), (10, .c (.val (.int .i64 i_17))), (41, .c (.val (.bool (decide ((List.getD r_12 (Int.toNat i_17) ((0 : Int), (0 : Int))).1 < (mx2 (0 : Int) (mn2 at_3 d_1)))))))], [(1, .row (.pair (.int .i64) (.int .u8)) r_12)], 2⟩ [0 ≤ i_17, i_17 < (((List.length r_12) : Nat) : Int), (decide ((List.getD r_12 (Int.toNat i_17) ((0 : Int), (0 : Int))).1 ≥ (0 : Int))) = true, 0 ≤ i_17, i_17 < (((List.length r_12) : Nat) : Int)] (by kernel_rfl) rfl rfl (ap2 c_24.1 (ap2 c_24.2 (ap2 b_23 (ap2 c_24.1 (ap1 c_24.2))))) (by kernel_rfl) (by kernel_rfl) ?_
            have H_74 := Option.some.inj (show some (decide ((List.getD r_12 (Int.toNat i_17) ((0 : Int), (0 : Int))).1 < (mx2 (0 : Int) (mn2 at_3 d_1)))) = some q_67 from H_73); subst H_74
            refine VL_nil ?_
            exact QP_end (decide ((List.getD r_12 (Int.toNat i_17) ((0 : Int), (0 : Int))).1 < (mx2 (0 : Int) (mn2 at_3 d_1)))) rfl [(1, 1)] hn (by kernel_rfl) (by kernel_rfl) rfl rfl rfl
          · have H_72 := of_f H_68 b_23
            obtain ⟨c_25, H_75⟩ := of_if H_72
            refine V_reg hN hn [] [(33, false)] calls_nil 2 [2, 7, 8, 9, 10, 41] [1] ⟨[(2, .c (.val (.bool after_4))), (7, .c (.val (.int .i64 (mx2 (0 : Int) (mn2 at_3 d_1))))), (8, .c (.h 1)), (9, .c (.val (.int .i64 n_16))), (10, .c (.val (.int .i64 i_17))), (41, .c (.val (.bool false)))], [(1, .row (.pair (.int .i64) (.int .u8)) r_12)], 2⟩ [0 ≤ i_17, i_17 < (((List.length r_12) : Nat) : Int), (decide ((List.getD r_12 (Int.toNat i_17) ((0 : Int), (0 : Int))).1 ≥ (0 : Int))) = false] (by kernel_rfl) rfl rfl (ap2 c_25.1 (ap2 c_25.2 (ap1 b_23))) (by kernel_rfl) (by kernel_rfl) ?_
            have H_76 := Option.some.inj (show some false = some q_67 from H_75); subst H_76
            refine VL_nil ?_
            exact QP_end false rfl [(1, 1)] hn (by kernel_rfl) (by kernel_rfl) rfl rfl rfl
        · intro y_70 hy; subst hy
          skip
          skip
          refine VL_cond (y_70) (by kernel_rfl) ?_ ?_
          · intro b_27; have H_77 := of_t H_69 b_27
            refine V_run hN hn 1 2 [2, 7, 8, 9, 10] [1] ⟨[(2, .c (.val (.bool after_4))), (7, .c (.val (.int .i64 (mx2 (0 : Int) (mn2 at_3 d_1))))), (8, .c (.h 1)), (9, .c (.val (.int .i64 (IntKind.wrap .i64 (i_17 + (1 : Int)))))), (10, .c (.val (.int .i64 i_17)))], [(1, .row (.pair (.int .i64) (.int .u8)) r_12)], 2⟩ [] (by kernel_rfl) rfl rfl ap0 ?_
            refine VL_nil (QB_end ?_)
            refine V_run hN hn 1 2 [2, 7, 8, 9, 10] [1] ⟨[(2, .c (.val (.bool after_4))), (7, .c (.val (.int .i64 (mx2 (0 : Int) (mn2 at_3 d_1))))), (8, .c (.h 1)), (9, .c (.val (.int .i64 (IntKind.wrap .i64 (i_17 + (1 : Int)))))), (10, .c (.val (.int .i64 (IntKind.wrap .i64 (i_17 + (1 : Int))))))], [(1, .row (.pair (.int .i64) (.int .u8)) r_12)], 2⟩ [] (by kernel_rfl) rfl rfl ap0 ?_
            refine VL_nil ?_
            exact V_roundEnd ((IntKind.wrap .i64 (i_17 + (1 : Int))), (IntKind.wrap .i64 (i_17 + (1 : Int)))) H_77 [(1, 1)] hn (by kernel_rfl) (by kernel_rfl) rfl rfl rfl
          · intro b_27; have H_78 := of_f H_69 b_27
            refine V_run hN hn 1 2 [2, 7, 8, 9, 10, 41] [1] ⟨[(2, .c (.val (.bool after_4))), (7, .c (.val (.int .i64 (mx2 (0 : Int) (mn2 at_3 d_1))))), (8, .c (.h 1)), (9, .c (.val (.int .i64 n_16))), (10, .c (.val (.int .i64 i_17))), (41, .c (.val (.bool y_70)))], [(1, .row (.pair (.int .i64) (.int .u8)) r_12)], 2⟩ [] (by kernel_rfl) rfl rfl ap0 ?_
            refine VL_nil (QB_end ?_)
            refine V_run hN hn 1 2 [2, 7, 8, 9, 10] [1] ⟨[(2, .c (.val (.bool after_4))), (7, .c (.val (.int .i64 (mx2 (0 : Int) (mn2 at_3 d_1))))), (8, .c (.h 1)), (9, .c (.val (.int .i64 n_16))), (10, .c (.val (.int .i64 (IntKind.wrap .i64 (i_17 + (1 : Int))))))], [(1, .row (.pair (.int .i64) (.int .u8)) r_12)], 2⟩ [] (by kernel_rfl) rfl rfl ap0 ?_
            refine VL_nil ?_
            exact V_roundEnd (n_16, (IntKind.wrap .i64 (i_17 + (1 : Int)))) H_78 [(1, 1)] hn (by kernel_rfl) (by kernel_rfl) rfl rfl rfl
      · intro b_20; have H_66 := of_f H_64 b_20
        refine VL_exit ?_
        refine QL_exit ?_
        refine QB_here ?_
        have H_79 := Option.some.inj (show some n_16 = some q_59 from H_66); subst H_79
        refine VL_nil ?_
        exact QP_end n_16 rfl [(1, 1)] hn (by kernel_rfl) (by kernel_rfl) rfl rfl rfl
    · intro y_62 hy; subst hy
      skip
      skip
      refine V_run hN hn 3 2 [8, 9, 45] [1] ⟨[(8, .c (.h 1)), (9, .c (.val (.int .i64 y_62))), (45, .c (.val (.bool (!after_4))))], [(1, .row (.pair (.int .i64) (.int .u8)) r_12)], 2⟩ [] (by kernel_rfl) rfl rfl ap0 ?_
      refine VL_cond ((!after_4)) (by kernel_rfl) ?_ ?_
      · intro b_34; have H_80 := of_t H_61 b_34
        refine V_run hN hn 2 2 [6] [] ⟨[(6, .c (.val (.int .i64 y_62)))], [], 2⟩ [] (by kernel_rfl) rfl rfl ap0 ?_
        have H_82 := Option.some.inj (show some y_62 = some r from H_80); subst H_82
        refine VL_ret ?_
        exact P_to [(6, .c (.val (.int .i64 y_62)))] [] [] hn (by kernel_rfl) (by kernel_rfl) rfl rfl rfl (QF_retS (by kernel_rfl) (by kernel_rfl) rfl)
      · intro b_34; have H_81 := of_f H_61 b_34
        refine V_run hN hn 2 2 [8, 9, 45] [1] ⟨[(8, .c (.h 1)), (9, .c (.val (.int .i64 y_62))), (45, .c (.val (.bool (!after_4))))], [(1, .row (.pair (.int .i64) (.int .u8)) r_12)], 2⟩ [] (by kernel_rfl) rfl rfl ap0 ?_
        refine VL_block ?_
        refine V_to [(8, .c (.h 1)), (9, .c (.val (.int .i64 y_62)))] [(1, .row (.pair (.int .i64) (.int .u8)) r_12)] [(1, 1)] hn (by kernel_rfl) (by kernel_rfl) rfl rfl rfl ?_
        refine VL_loop (X := Int) (fun x => [(8, .c (.h 1)), (9, .c (.val (.int .i64 x)))]) (fun x => [(1, .row (.pair (.int .i64) (.int .u8)) r_12)]) (fun k x => palinoderef11_Move.l1 K r_12 k x = some r) K y_62 H_81 (fun _ h => no_none h) ?_
        intro k_38 n_37 H_83
        have H_84 : palinoderef11_Move.l1 K r_12 (k_38 + 1) n_37 = some r := H_83
        rw [palinoderef11_Move.l1] at H_84
        refine V_run hN hn 2 2 [8, 9] [1] ⟨[(8, .c (.h 1)), (9, .c (.val (.int .i64 n_37)))], [(1, .row (.pair (.int .i64) (.int .u8)) r_12)], 2⟩ [] (by kernel_rfl) rfl rfl ap0 ?_
        obtain ⟨q_85, H_86, H_87⟩ := of_bind H_84
        refine V_cut (Y := Bool) (R := Bool) q_85 (fun y => y) (fun y => [(8, .c (.h 1)), (9, .c (.val (.int .i64 n_37))), (58, .c (.val (.bool y)))]) (fun y => [(1, .row (.pair (.int .i64) (.int .u8)) r_12)]) ?_ ?_
        · skip
          rcases Bool.eq_false_or_eq_true ((decide (n_37 < (((List.length r_12) : Nat) : Int)))) with b_40 | b_40
          · have H_89 := of_t H_86 b_40
            obtain ⟨c_41, H_91⟩ := of_if H_89
            refine V_reg hN hn [] [(51, true)] calls_nil 2 [8, 9, 58] [1] ⟨[(8, .c (.h 1)), (9, .c (.val (.int .i64 n_37))), (58, .c (.val (.bool (decide ((List.getD r_12 (Int.toNat n_37) ((0 : Int), (0 : Int))).1 < (0 : Int))))))], [(1, .row (.pair (.int .i64) (.int .u8)) r_12)], 2⟩ [(decide (n_37 < (((List.length r_12) : Nat) : Int))) = true, 0 ≤ n_37, n_37 < (((List.length r_12) : Nat) : Int)] (by kernel_rfl) rfl rfl (ap2 b_40 (ap2 c_41.1 (ap1 c_41.2))) (by kernel_rfl) (by kernel_rfl) ?_
            have H_92 := Option.some.inj (show some (decide ((List.getD r_12 (Int.toNat n_37) ((0 : Int), (0 : Int))).1 < (0 : Int))) = some q_85 from H_91); subst H_92
            refine VL_nil ?_
            exact QP_end (decide ((List.getD r_12 (Int.toNat n_37) ((0 : Int), (0 : Int))).1 < (0 : Int))) rfl [(1, 1)] hn (by kernel_rfl) (by kernel_rfl) rfl rfl rfl
          · have H_90 := of_f H_86 b_40
            refine V_reg hN hn [] [(51, false)] calls_nil 2 [8, 9, 58] [1] ⟨[(8, .c (.h 1)), (9, .c (.val (.int .i64 n_37))), (58, .c (.val (.bool false)))], [(1, .row (.pair (.int .i64) (.int .u8)) r_12)], 2⟩ [(decide (n_37 < (((List.length r_12) : Nat) : Int))) = false] (by kernel_rfl) rfl rfl (ap1 b_40) (by kernel_rfl) (by kernel_rfl) ?_
            have H_93 := Option.some.inj (show some false = some q_85 from H_90); subst H_93
            refine VL_nil ?_
            exact QP_end false rfl [(1, 1)] hn (by kernel_rfl) (by kernel_rfl) rfl rfl rfl
        · intro y_88 hy; subst hy
          skip
          skip
          refine VL_cond (y_88) (by kernel_rfl) ?_ ?_
          · intro b_44; have H_94 := of_t H_87 b_44
            refine V_run hN hn 1 2 [8, 9, 58] [1] ⟨[(8, .c (.h 1)), (9, .c (.val (.int .i64 n_37))), (58, .c (.val (.bool y_88)))], [(1, .row (.pair (.int .i64) (.int .u8)) r_12)], 2⟩ [] (by kernel_rfl) rfl rfl ap0 ?_
            refine VL_block ?_
            refine V_run hN hn 1 2 [8, 9] [1] ⟨[(8, .c (.h 1)), (9, .c (.val (.int .i64 (IntKind.wrap .i64 (n_37 + (1 : Int))))))], [(1, .row (.pair (.int .i64) (.int .u8)) r_12)], 2⟩ [] (by kernel_rfl) rfl rfl ap0 ?_
            refine VL_nil (QB_end ?_)
            refine VL_nil ?_
            exact V_roundEnd (IntKind.wrap .i64 (n_37 + (1 : Int))) H_94 [(1, 1)] hn (by kernel_rfl) (by kernel_rfl) rfl rfl rfl
          · intro b_44; have H_95 := of_f H_87 b_44
            refine VL_exit ?_
            refine QL_exit ?_
            refine QB_here ?_
            refine V_run hN hn 2 2 [6] [] ⟨[(6, .c (.val (.int .i64 n_37)))], [], 2⟩ [] (by kernel_rfl) rfl rfl ap0 ?_
            have H_96 := Option.some.inj (show some n_37 = some r from H_95); subst H_96
            refine VL_ret ?_
            exact P_to [(6, .c (.val (.int .i64 n_37)))] [] [] hn (by kernel_rfl) (by kernel_rfl) rfl rfl rfl (QF_retS (by kernel_rfl) (by kernel_rfl) rfl)

theorem palinoderef11_Interval_spec (K : Nat) (d_1 : Int) (d_2 : (List (Int × (Int × ByteArray)))) (i_3 : Int) (i_4 : Int) (r : (Int × Int)) (H : palinoderef11_Interval K d_1 d_2 i_3 i_4 = some r) : Spec Try.prog 31 0 [.agg [.val (.int .i64 d_1), .imm (.slice (.pair (.int .i64) (.pair (.int .i64) .str))) d_2], .agg [.val (.int .i64 i_3), .val (.int .i64 i_4)]] [] (.agg [.val (.int .i64 r.1), .val (.int .i64 r.2)]) [] := by
  refine Spec_mk (fn := Try.f31) (c := (Try.f31.body).get!) Try.func31 (by kernel_rfl) rfl ?_
  intro C hN hn
  replace hN : C.N = 24 := hN
  unfold palinoderef11_Interval at H
  refine V_run hN hn 4 0 [2, 3, 4] [0, 1, 2] ⟨[(2, .c (.h 0)), (3, .c (.h 1)), (4, .c (.h 2))], [(0, .box [.val (.int .i64 d_1), .imm (.slice (.pair (.int .i64) (.pair (.int .i64) .str))) d_2]), (1, .box [.val (.int .i64 i_3), .val (.int .i64 i_4)]), (2, .box [.val (.int .i64 (0 : Int)), .val (.int .i64 (0 : Int))])], 3⟩ [] (by kernel_rfl) rfl rfl ap0 ?_
  obtain ⟨r_6, h_7, H_20⟩ := of_bind H
  refine V_reg hN hn [(1, ⟨30, 0, [.agg [.val (.int .i64 d_1), .imm (.slice (.pair (.int .i64) (.pair (.int .i64) .str))) d_2]], [], .c (.val (.bool r_6)), [], [], 3⟩)] [] (calls_cons (palinoderef11_Is_spec K d_1 d_2 r_6 h_7) (by kernel_rfl) calls_nil) 3 [2, 3, 4, 9] [0, 1, 2] ⟨[(2, .c (.h 0)), (3, .c (.h 1)), (4, .c (.h 2)), (9, .c (.val (.bool (!r_6))))], [(0, .box [.val (.int .i64 d_1), .imm (.slice (.pair (.int .i64) (.pair (.int .i64) .str))) d_2]), (1, .box [.val (.int .i64 i_3), .val (.int .i64 i_4)]), (2, .box [.val (.int .i64 (0 : Int)), .val (.int .i64 (0 : Int))])], 3⟩ [] (by kernel_rfl) rfl rfl ap0 (by kernel_rfl) (by kernel_rfl) ?_
  refine VL_cond ((!r_6)) (by kernel_rfl) ?_ ?_
  · intro b_9; have H_21 := of_t H_20 b_9
    refine V_run hN hn 2 3 [4] [2] ⟨[(4, .c (.h 2))], [(2, .box [.val (.int .i64 (0 : Int)), .val (.int .i64 (0 : Int))])], 3⟩ [] (by kernel_rfl) rfl rfl ap0 ?_
    have H_23 := Option.some.inj (show some ((0 : Int), (0 : Int)) = some r from H_21); subst H_23
    refine VL_ret ?_
    exact P_to [(4, .c (.h 2))] [(2, .box [.val (.int .i64 (0 : Int)), .val (.int .i64 (0 : Int))])] [(2, 2)] hn (by kernel_rfl) (by kernel_rfl) rfl rfl rfl (QF_retS (by kernel_rfl) (by kernel_rfl) rfl)
  · intro b_9; have H_22 := of_f H_20 b_9
    refine V_run hN hn 2 3 [2, 3, 4, 9] [0, 1, 2] ⟨[(2, .c (.h 0)), (3, .c (.h 1)), (4, .c (.h 2)), (9, .c (.val (.bool (!r_6))))], [(0, .box [.val (.int .i64 d_1), .imm (.slice (.pair (.int .i64) (.pair (.int .i64) .str))) d_2]), (1, .box [.val (.int .i64 i_3), .val (.int .i64 i_4)]), (2, .box [.val (.int .i64 (0 : Int)), .val (.int .i64 (0 : Int))])], 3⟩ [] (by kernel_rfl) rfl rfl ap0 ?_
    obtain ⟨r_12, h_13, H_24⟩ := of_bind H_22
    obtain ⟨r_14, h_15, H_25⟩ := of_bind H_24
    refine V_draw hN hn (by kernel_rfl) [(3, ⟨42, 0, [.agg [.val (.int .i64 d_1), .imm (.slice (.pair (.int .i64) (.pair (.int .i64) .str))) d_2], .c (.val (.int .i64 i_3)), .c (.val (.bool true))], [], .c (.val (.int .i64 r_12)), [], [], 3⟩), (7, ⟨42, 0, [.agg [.val (.int .i64 d_1), .imm (.slice (.pair (.int .i64) (.pair (.int .i64) .str))) d_2], .c (.val (.int .i64 i_4)), .c (.val (.bool false))], [], .c (.val (.int .i64 r_14)), [], [], 3⟩)] [] (calls_cons (palinoderef11_Move_spec K d_1 d_2 i_3 true r_12 h_13) (by kernel_rfl) (calls_cons (palinoderef11_Move_spec K d_1 d_2 i_4 false r_14 h_15) (by kernel_rfl) calls_nil)) 3 [4, 5, 6] [2] ⟨[(4, .c (.h 2)), (5, .c (.val (.int .i64 r_12))), (6, .c (.val (.int .i64 r_14)))], [(2, .box [.val (.int .i64 (0 : Int)), .val (.int .i64 (0 : Int))])], 3⟩ [] (by kernel_rfl) rfl rfl ap0 (by kernel_rfl) (by kernel_rfl) ?_
    refine V_run hN hn 2 3 [4] [2] ⟨[(4, .c (.h 2))], [(2, .box [.val (.int .i64 r_12), .val (.int .i64 (mx2 r_12 r_14))])], 3⟩ [] (by kernel_rfl) rfl rfl ap0 ?_
    have H_26 := Option.some.inj (show some (r_12, (mx2 r_12 r_14)) = some r from H_25); subst H_26
    refine VL_ret ?_
    exact P_to [(4, .c (.h 2))] [(2, .box [.val (.int .i64 r_12), .val (.int .i64 (mx2 r_12 r_14))])] [(2, 2)] hn (by kernel_rfl) (by kernel_rfl) rfl rfl rfl (QF_retS (by kernel_rfl) (by kernel_rfl) rfl)

theorem palinoderef15_Edit_spec (K : Nat) (l_1 : (List (Int × (Int × Int)))) (d_2 : Int) (d_3 : (List (Int × (Int × ByteArray)))) (r : ((List (Int × (Int × Int))) × Int)) (H : palinoderef15_Edit K l_1 d_2 d_3 = some r) : Spec Try.prog 19 0 [.c (.imm (.slice (.pair (.int .i64) (.pair (.int .i64) (.int .i64)))) l_1), .agg [.val (.int .i64 d_2), .imm (.slice (.pair (.int .i64) (.pair (.int .i64) .str))) d_3]] [] (.tup [(false, [.h 7]), (false, [.val (.int .i64 r.2)])]) [(7, .row (.pair (.int .i64) (.pair (.int .i64) (.int .i64))) r.1)] := by
  refine Spec_mk (fn := Try.f19) (c := (Try.f19.body).get!) Try.func19 (by kernel_rfl) rfl ?_
  intro C hN hn
  replace hN : C.N = 53 := hN
  unfold palinoderef15_Edit at H
  refine V_run hN hn 4 0 [0, 3] [0] ⟨[(0, .c (.imm (.slice (.pair (.int .i64) (.pair (.int .i64) (.int .i64)))) l_1)), (3, .c (.h 0))], [(0, .box [.val (.int .i64 d_2), .imm (.slice (.pair (.int .i64) (.pair (.int .i64) .str))) d_3])], 1⟩ [] (by kernel_rfl) rfl rfl ap0 ?_
  obtain ⟨q_47, H_48, H_49⟩ := of_bind H
  refine V_cut (Y := Bool) (R := Bool) q_47 (fun y => y) (fun y => [(0, .c (.imm (.slice (.pair (.int .i64) (.pair (.int .i64) (.int .i64)))) l_1)), (3, .c (.h 0)), (18, .c (.val (.bool y)))]) (fun y => [(0, .box [.val (.int .i64 d_2), .imm (.slice (.pair (.int .i64) (.pair (.int .i64) .str))) d_3])]) ?_ ?_
  · skip
    obtain ⟨r_5, h_6, H_51⟩ := of_bind H_48
    rcases Bool.eq_false_or_eq_true ((!r_5)) with b_7 | b_7
    · have H_52 := of_t H_51 b_7
      refine V_reg hN hn [(1, ⟨30, 0, [.agg [.val (.int .i64 d_2), .imm (.slice (.pair (.int .i64) (.pair (.int .i64) .str))) d_3]], [], .c (.val (.bool r_5)), [], [], 1⟩)] [(12, true)] (calls_cons (palinoderef11_Is_spec K d_2 d_3 r_5 h_6) (by kernel_rfl) calls_nil) 1 [0, 3, 18] [0] ⟨[(0, .c (.imm (.slice (.pair (.int .i64) (.pair (.int .i64) (.int .i64)))) l_1)), (3, .c (.h 0)), (18, .c (.val (.bool true)))], [(0, .box [.val (.int .i64 d_2), .imm (.slice (.pair (.int .i64) (.pair (.int .i64) .str))) d_3])], 1⟩ [(!r_5) = true] (by kernel_rfl) rfl rfl (ap1 b_7) (by kernel_rfl) (by kernel_rfl) ?_
      have H_54 := Option.some.inj (show some true = some q_47 from H_52); subst H_54
      refine VL_nil ?_
      exact QP_end true rfl [(0, 0)] hn (by kernel_rfl) (by kernel_rfl) rfl rfl rfl
    · have H_53 := of_f H_51 b_7
      obtain ⟨r_9, h_10, H_55⟩ := of_bind H_53
      refine V_reg hN hn [(1, ⟨30, 0, [.agg [.val (.int .i64 d_2), .imm (.slice (.pair (.int .i64) (.pair (.int .i64) .str))) d_3]], [], .c (.val (.bool r_5)), [], [], 1⟩), (7, ⟨20, 0, [.c (.imm (.slice (.pair (.int .i64) (.pair (.int .i64) (.int .i64)))) l_1), .c (.val (.int .i64 d_2))], [], .c (.val (.bool r_9)), [], [], 1⟩)] [(12, false)] (calls_cons (palinoderef11_Is_spec K d_2 d_3 r_5 h_6) (by kernel_rfl) (calls_cons (palinoderef15_Is_spec K l_1 d_2 r_9 h_10) (by kernel_rfl) calls_nil)) 1 [0, 3, 18] [0] ⟨[(0, .c (.imm (.slice (.pair (.int .i64) (.pair (.int .i64) (.int .i64)))) l_1)), (3, .c (.h 0)), (18, .c (.val (.bool (!r_9))))], [(0, .box [.val (.int .i64 d_2), .imm (.slice (.pair (.int .i64) (.pair (.int .i64) .str))) d_3])], 1⟩ [(!r_5) = false] (by kernel_rfl) rfl rfl (ap1 b_7) (by kernel_rfl) (by kernel_rfl) ?_
      have H_56 := Option.some.inj (show some (!r_9) = some q_47 from H_55); subst H_56
      refine VL_nil ?_
      exact QP_end (!r_9) rfl [(0, 0)] hn (by kernel_rfl) (by kernel_rfl) rfl rfl rfl
  · intro y_50 hy; subst hy
    skip
    skip
    refine VL_cond (y_50) (by kernel_rfl) ?_ ?_
    · intro b_13; have H_57 := of_t H_49 b_13
      refine V_run hN hn 2 1 [4, 5] [] ⟨[(4, .c (.val (.slice none 0 0))), (5, .c (.val (.int .i64 (12 : Int))))], [], 1⟩ [] (by kernel_rfl) rfl rfl ap0 ?_
      have H_59 := Option.some.inj (show some (([] : List (Int × (Int × Int))), (12 : Int)) = some r from H_57); subst H_59
      refine VL_ret ?_
      refine P_ghost [.nilSlot 4 (.pair (.int .i64) (.pair (.int .i64) (.int .i64)))] 1 hn [4, 5] [1] ⟨[(4, .c (.h 1)), (5, .c (.val (.int .i64 (12 : Int))))], [(1, .row (.pair (.int .i64) (.pair (.int .i64) (.int .i64))) ([] : List (Int × (Int × Int))))], 2⟩ (by kernel_rfl) rfl rfl ?_
      exact P_to [(4, .c (.h 7)), (5, .c (.val (.int .i64 (12 : Int))))] [(7, .row (.pair (.int .i64) (.pair (.int .i64) (.int .i64))) ([] : List (Int × (Int × Int))))] [(7, 1)] hn (by kernel_rfl) (by kernel_rfl) rfl rfl rfl (QF_retS (by kernel_rfl) (by kernel_rfl) rfl)
    · intro b_13; have H_58 := of_f H_49 b_13
      refine V_run hN hn 6 1 [0, 3, 6, 7] [0] ⟨[(0, .c (.imm (.slice (.pair (.int .i64) (.pair (.int .i64) (.int .i64)))) l_1)), (3, .c (.h 0)), (6, .c (.val (.slice none 0 0))), (7, .c (.val (.int .i64 (0 : Int))))], [(0, .box [.val (.int .i64 d_2), .imm (.slice (.pair (.int .i64) (.pair (.int .i64) .str))) d_3])], 1⟩ [] (by kernel_rfl) rfl rfl ap0 ?_
      obtain ⟨q_60, H_61, H_62⟩ := of_bind H_58
      refine V_cut (Y := (List (Int × (Int × Int)))) (R := (List (Int × (Int × Int)))) q_60 (fun y => y) (fun y => [(6, .c (.h 5))]) (fun y => [(5, .row (.pair (.int .i64) (.pair (.int .i64) (.int .i64))) y)]) ?_ ?_
      · skip
        refine VL_block ?_
        refine V_ghost [.nilSlot 6 (.pair (.int .i64) (.pair (.int .i64) (.int .i64)))] 1 hn [0, 3, 6, 7] [0, 1] ⟨[(0, .c (.imm (.slice (.pair (.int .i64) (.pair (.int .i64) (.int .i64)))) l_1)), (3, .c (.h 0)), (6, .c (.h 1)), (7, .c (.val (.int .i64 (0 : Int))))], [(0, .box [.val (.int .i64 d_2), .imm (.slice (.pair (.int .i64) (.pair (.int .i64) .str))) d_3]), (1, .row (.pair (.int .i64) (.pair (.int .i64) (.int .i64))) ([] : List (Int × (Int × Int))))], 2⟩ (by kernel_rfl) rfl rfl ?_
        refine V_to [(0, .c (.imm (.slice (.pair (.int .i64) (.pair (.int .i64) (.int .i64)))) l_1)), (3, .c (.h 0)), (6, .c (.h 5)), (7, .c (.val (.int .i64 (0 : Int))))] [(0, .box [.val (.int .i64 d_2), .imm (.slice (.pair (.int .i64) (.pair (.int .i64) .str))) d_3]), (5, .row (.pair (.int .i64) (.pair (.int .i64) (.int .i64))) ([] : List (Int × (Int × Int))))] [(0, 0), (5, 1)] hn (by kernel_rfl) (by kernel_rfl) rfl rfl rfl ?_
        refine VL_loop (X := ((List (Int × (Int × Int))) × Int)) (fun x => [(0, .c (.imm (.slice (.pair (.int .i64) (.pair (.int .i64) (.int .i64)))) l_1)), (3, .c (.h 0)), (6, .c (.h 5)), (7, .c (.val (.int .i64 x.2)))]) (fun x => [(0, .box [.val (.int .i64 d_2), .imm (.slice (.pair (.int .i64) (.pair (.int .i64) .str))) d_3]), (5, .row (.pair (.int .i64) (.pair (.int .i64) (.int .i64))) x.1)]) (fun k x => palinoderef15_Edit.l0 K l_1 d_2 d_3 k x.1 x.2 = some q_60) K (([] : List (Int × (Int × Int))), (0 : Int)) H_61 (fun _ h => no_none h) ?_
        intro k_28 x_28 H_64
        obtain ⟨out_27, i_16⟩ := x_28
        have H_65 : palinoderef15_Edit.l0 K l_1 d_2 d_3 (k_28 + 1) out_27 i_16 = some q_60 := H_64
        rw [palinoderef15_Edit.l0] at H_65
        refine V_run hN hn 3 6 [0, 3, 6, 7, 22] [0, 5] ⟨[(0, .c (.imm (.slice (.pair (.int .i64) (.pair (.int .i64) (.int .i64)))) l_1)), (3, .c (.h 0)), (6, .c (.h 5)), (7, .c (.val (.int .i64 i_16))), (22, .c (.val (.bool (decide (i_16 < (((List.length l_1) : Nat) : Int))))))], [(0, .box [.val (.int .i64 d_2), .imm (.slice (.pair (.int .i64) (.pair (.int .i64) .str))) d_3]), (5, .row (.pair (.int .i64) (.pair (.int .i64) (.int .i64))) out_27)], 6⟩ [] (by kernel_rfl) rfl rfl ap0 ?_
        refine VL_cond ((decide (i_16 < (((List.length l_1) : Nat) : Int)))) (by kernel_rfl) ?_ ?_
        · intro b_30; have H_66 := of_t H_65 b_30
          refine V_run hN hn 2 6 [0, 3, 6, 7, 22] [0, 5] ⟨[(0, .c (.imm (.slice (.pair (.int .i64) (.pair (.int .i64) (.int .i64)))) l_1)), (3, .c (.h 0)), (6, .c (.h 5)), (7, .c (.val (.int .i64 i_16))), (22, .c (.val (.bool (decide (i_16 < (((List.length l_1) : Nat) : Int))))))], [(0, .box [.val (.int .i64 d_2), .imm (.slice (.pair (.int .i64) (.pair (.int .i64) .str))) d_3]), (5, .row (.pair (.int .i64) (.pair (.int .i64) (.int .i64))) out_27)], 6⟩ [] (by kernel_rfl) rfl rfl ap0 ?_
          refine VL_block ?_
          refine V_run hN hn 1 6 [0, 3, 6, 7, 22] [0, 5] ⟨[(0, .c (.imm (.slice (.pair (.int .i64) (.pair (.int .i64) (.int .i64)))) l_1)), (3, .c (.h 0)), (6, .c (.h 5)), (7, .c (.val (.int .i64 i_16))), (22, .c (.val (.bool (decide (i_16 < (((List.length l_1) : Nat) : Int))))))], [(0, .box [.val (.int .i64 d_2), .imm (.slice (.pair (.int .i64) (.pair (.int .i64) .str))) d_3]), (5, .row (.pair (.int .i64) (.pair (.int .i64) (.int .i64))) out_27)], 6⟩ [] (by kernel_rfl) rfl rfl ap0 ?_
          obtain ⟨r_33, h_34, H_68⟩ := of_bind H_66
          obtain ⟨c_35, H_69⟩ := of_if H_68
          refine V_draw hN hn (by kernel_rfl) [(12, ⟨31, 0, [.agg [.val (.int .i64 d_2), .imm (.slice (.pair (.int .i64) (.pair (.int .i64) .str))) d_3], .agg [.val (.int .i64 (List.getD l_1 (Int.toNat i_16) ((0 : Int), ((0 : Int), (0 : Int)))).1), .val (.int .i64 (List.getD l_1 (Int.toNat i_16) ((0 : Int), ((0 : Int), (0 : Int)))).2.1)]], [], .agg [.val (.int .i64 r_33.1), .val (.int .i64 r_33.2)], [], [], 6⟩)] [] (calls_cons (palinoderef11_Interval_spec K d_2 d_3 (List.getD l_1 (Int.toNat i_16) ((0 : Int), ((0 : Int), (0 : Int)))).1 (List.getD l_1 (Int.toNat i_16) ((0 : Int), ((0 : Int), (0 : Int)))).2.1 r_33 h_34) (by kernel_rfl) calls_nil) 6 [0, 3, 6, 7, 8] [0, 5, 6] ⟨[(0, .c (.imm (.slice (.pair (.int .i64) (.pair (.int .i64) (.int .i64)))) l_1)), (3, .c (.h 0)), (6, .c (.h 5)), (7, .c (.val (.int .i64 i_16))), (8, .c (.h 6))], [(0, .box [.val (.int .i64 d_2), .imm (.slice (.pair (.int .i64) (.pair (.int .i64) .str))) d_3]), (5, .row (.pair (.int .i64) (.pair (.int .i64) (.int .i64))) out_27), (6, .box [.val (.int .i64 r_33.1), .val (.int .i64 r_33.2)])], 7⟩ [0 ≤ i_16, i_16 < (((List.length l_1) : Nat) : Int), 0 ≤ i_16, i_16 < (((List.length l_1) : Nat) : Int), 0 ≤ i_16, i_16 < (((List.length l_1) : Nat) : Int), 0 ≤ i_16, i_16 < (((List.length l_1) : Nat) : Int)] (by kernel_rfl) rfl rfl (ap2 c_35.1 (ap2 c_35.2 (ap2 c_35.1 (ap2 c_35.2 (ap2 c_35.1 (ap2 c_35.2 (ap2 c_35.1 (ap1 c_35.2)))))))) (by kernel_rfl) (by kernel_rfl) ?_
          obtain ⟨c_36, H_70⟩ := of_if H_69
          refine V_draw hN hn (by kernel_rfl) [] [] calls_nil 7 [0, 3, 6, 7] [0, 8] ⟨[(0, .c (.imm (.slice (.pair (.int .i64) (.pair (.int .i64) (.int .i64)))) l_1)), (3, .c (.h 0)), (6, .c (.h 8)), (7, .c (.val (.int .i64 i_16)))], [(0, .box [.val (.int .i64 d_2), .imm (.slice (.pair (.int .i64) (.pair (.int .i64) .str))) d_3]), (8, .row (.pair (.int .i64) (.pair (.int .i64) (.int .i64))) (out_27 ++ ([(r_33.1, (r_33.2, (List.getD l_1 (Int.toNat i_16) ((0 : Int), ((0 : Int), (0 : Int)))).2.2))] : List (Int × (Int × Int)))))], 9⟩ [0 ≤ i_16, i_16 < (((List.length l_1) : Nat) : Int), (List.length out_27 + List.length ([(r_33.1, (r_33.2, (List.getD l_1 (Int.toNat i_16) ((0 : Int), ((0 : Int), (0 : Int)))).2.2))] : List (Int × (Int × Int)))) * 24 ≤ 140737488355328] (by kernel_rfl) rfl rfl (ap2 c_35.1 (ap2 c_35.2 (ap1 c_36))) (by kernel_rfl) (by kernel_rfl) ?_
          refine VL_nil (QB_end ?_)
          refine V_run hN hn 1 9 [0, 3, 6, 7] [0, 8] ⟨[(0, .c (.imm (.slice (.pair (.int .i64) (.pair (.int .i64) (.int .i64)))) l_1)), (3, .c (.h 0)), (6, .c (.h 8)), (7, .c (.val (.int .i64 (IntKind.wrap .i64 (i_16 + (1 : Int))))))], [(0, .box [.val (.int .i64 d_2), .imm (.slice (.pair (.int .i64) (.pair (.int .i64) .str))) d_3]), (8, .row (.pair (.int .i64) (.pair (.int .i64) (.int .i64))) (out_27 ++ ([(r_33.1, (r_33.2, (List.getD l_1 (Int.toNat i_16) ((0 : Int), ((0 : Int), (0 : Int)))).2.2))] : List (Int × (Int × Int)))))], 9⟩ [] (by kernel_rfl) rfl rfl ap0 ?_
          refine VL_nil ?_
          exact V_roundEnd ((out_27 ++ ([(r_33.1, (r_33.2, (List.getD l_1 (Int.toNat i_16) ((0 : Int), ((0 : Int), (0 : Int)))).2.2))] : List (Int × (Int × Int)))), (IntKind.wrap .i64 (i_16 + (1 : Int)))) H_70 [(0, 0), (5, 8)] hn (by kernel_rfl) (by kernel_rfl) rfl rfl rfl
        · intro b_30; have H_67 := of_f H_65 b_30
          refine VL_exit ?_
          refine QL_exit ?_
          refine QB_here ?_
          have H_71 := Option.some.inj (show some out_27 = some q_60 from H_67); subst H_71
          refine VL_nil ?_
          exact QP_end out_27 rfl [(5, 5)] hn (by kernel_rfl) (by kernel_rfl) rfl rfl rfl
      · intro y_63 hy; subst hy
        skip
        skip
        refine V_run hN hn 1 6 [6] [5] ⟨[(6, .c (.h 5))], [(5, .row (.pair (.int .i64) (.pair (.int .i64) (.int .i64))) y_63)], 6⟩ [] (by kernel_rfl) rfl rfl ap0 ?_
        obtain ⟨r_40, h_41, H_72⟩ := of_bind H_62
        refine V_reg hN hn [(1, ⟨27, 1, [.c (.h 0)], [(0, .row (.pair (.int .i64) (.pair (.int .i64) (.int .i64))) y_63)], .c (.h 4), [(0, .row (.pair (.int .i64) (.pair (.int .i64) (.int .i64))) y_63), (4, .row (.pair (.int .i64) (.pair (.int .i64) (.int .i64))) r_40)], [(0, 5), (4, 6)], 7⟩)] [] (calls_cons (palinoderef15_fewest_r_spec K y_63 r_40 h_41) (by kernel_rfl) calls_nil) 6 [4, 5] [6] ⟨[(4, .c (.h 6)), (5, .c (.val (.int .i64 (0 : Int))))], [(6, .row (.pair (.int .i64) (.pair (.int .i64) (.int .i64))) r_40)], 7⟩ [] (by kernel_rfl) rfl rfl ap0 (by kernel_rfl) (by kernel_rfl) ?_
        have H_73 := Option.some.inj (show some (r_40, (0 : Int)) = some r from H_72); subst H_73
        refine VL_ret ?_
        exact P_to [(4, .c (.h 7)), (5, .c (.val (.int .i64 (0 : Int))))] [(7, .row (.pair (.int .i64) (.pair (.int .i64) (.int .i64))) r_40)] [(7, 6)] hn (by kernel_rfl) (by kernel_rfl) rfl rfl rfl (QF_retS (by kernel_rfl) (by kernel_rfl) rfl)

theorem palinoderef15_At_spec (K : Nat) (l_1 : (List (Int × (Int × Int)))) (at_2 : Int) (r : Int) (H : palinoderef15_At K l_1 at_2 = some r) : Spec Try.prog 21 0 [.c (.imm (.slice (.pair (.int .i64) (.pair (.int .i64) (.int .i64)))) l_1), .c (.val (.int .i64 at_2))] [] (.c (.val (.int .i64 r))) [] := by
  refine Spec_mk (fn := Try.f21) (c := (Try.f21.body).get!) Try.func21 (by kernel_rfl) rfl ?_
  intro C hN hn
  replace hN : C.N = 33 := hN
  unfold palinoderef15_At at H
  refine V_run hN hn 5 0 [0, 1, 5] [] ⟨[(0, .c (.imm (.slice (.pair (.int .i64) (.pair (.int .i64) (.int .i64)))) l_1)), (1, .c (.val (.int .i64 at_2))), (5, .c (.val (.int .i64 (0 : Int))))], [], 0⟩ [] (by kernel_rfl) rfl rfl ap0 ?_
  refine VL_block ?_
  refine V_to [(0, .c (.imm (.slice (.pair (.int .i64) (.pair (.int .i64) (.int .i64)))) l_1)), (1, .c (.val (.int .i64 at_2))), (5, .c (.val (.int .i64 (0 : Int))))] [] [] hn (by kernel_rfl) (by kernel_rfl) rfl rfl rfl ?_
  refine VL_loop (X := Int) (fun x => [(0, .c (.imm (.slice (.pair (.int .i64) (.pair (.int .i64) (.int .i64)))) l_1)), (1, .c (.val (.int .i64 at_2))), (5, .c (.val (.int .i64 x)))]) (fun x => []) (fun k x => palinoderef15_At.l0 K l_1 at_2 k x = some r) K (0 : Int) H (fun _ h => no_none h) ?_
  intro k_5 i_4 H_22
  have H_23 : palinoderef15_At.l0 K l_1 at_2 (k_5 + 1) i_4 = some r := H_22
  rw [palinoderef15_At.l0] at H_23
  refine V_run hN hn 3 0 [0, 1, 5, 9] [] ⟨[(0, .c (.imm (.slice (.pair (.int .i64) (.pair (.int .i64) (.int .i64)))) l_1)), (1, .c (.val (.int .i64 at_2))), (5, .c (.val (.int .i64 i_4))), (9, .c (.val (.bool (decide (i_4 < (((List.length l_1) : Nat) : Int))))))], [], 0⟩ [] (by kernel_rfl) rfl rfl ap0 ?_
  refine VL_cond ((decide (i_4 < (((List.length l_1) : Nat) : Int)))) (by kernel_rfl) ?_ ?_
  · intro b_7; have H_24 := of_t H_23 b_7
    refine V_run hN hn 2 0 [0, 1, 5, 9] [] ⟨[(0, .c (.imm (.slice (.pair (.int .i64) (.pair (.int .i64) (.int .i64)))) l_1)), (1, .c (.val (.int .i64 at_2))), (5, .c (.val (.int .i64 i_4))), (9, .c (.val (.bool (decide (i_4 < (((List.length l_1) : Nat) : Int))))))], [], 0⟩ [] (by kernel_rfl) rfl rfl ap0 ?_
    refine VL_block ?_
    refine V_run hN hn 1 0 [0, 1, 5, 9] [] ⟨[(0, .c (.imm (.slice (.pair (.int .i64) (.pair (.int .i64) (.int .i64)))) l_1)), (1, .c (.val (.int .i64 at_2))), (5, .c (.val (.int .i64 i_4))), (9, .c (.val (.bool (decide (i_4 < (((List.length l_1) : Nat) : Int))))))], [], 0⟩ [] (by kernel_rfl) rfl rfl ap0 ?_
    obtain ⟨q_26, H_27, H_28⟩ := of_bind H_24
    refine V_cut (Y := Bool) (R := Bool) q_26 (fun y => y) (fun y => [(0, .c (.imm (.slice (.pair (.int .i64) (.pair (.int .i64) (.int .i64)))) l_1)), (1, .c (.val (.int .i64 at_2))), (5, .c (.val (.int .i64 i_4))), (27, .c (.val (.bool y)))]) (fun y => []) ?_ ?_
    · skip
      rcases Bool.eq_false_or_eq_true ((decide (at_2 ≥ (List.getD l_1 (Int.toNat i_4) ((0 : Int), ((0 : Int), (0 : Int)))).1))) with b_10 | b_10
      · have H_30 := of_t H_27 b_10
        obtain ⟨c_11, H_32⟩ := of_if H_30
        refine V_reg hN hn [] [(19, true)] calls_nil 0 [0, 1, 5, 27] [] ⟨[(0, .c (.imm (.slice (.pair (.int .i64) (.pair (.int .i64) (.int .i64)))) l_1)), (1, .c (.val (.int .i64 at_2))), (5, .c (.val (.int .i64 i_4))), (27, .c (.val (.bool (decide (at_2 < (List.getD l_1 (Int.toNat i_4) ((0 : Int), ((0 : Int), (0 : Int)))).2.1)))))], [], 0⟩ [0 ≤ i_4, i_4 < (((List.length l_1) : Nat) : Int), (decide (at_2 ≥ (List.getD l_1 (Int.toNat i_4) ((0 : Int), ((0 : Int), (0 : Int)))).1)) = true, 0 ≤ i_4, i_4 < (((List.length l_1) : Nat) : Int)] (by kernel_rfl) rfl rfl (ap2 c_11.1 (ap2 c_11.2 (ap2 b_10 (ap2 c_11.1 (ap1 c_11.2))))) (by kernel_rfl) (by kernel_rfl) ?_
        have H_33 := Option.some.inj (show some (decide (at_2 < (List.getD l_1 (Int.toNat i_4) ((0 : Int), ((0 : Int), (0 : Int)))).2.1)) = some q_26 from H_32); subst H_33
        refine VL_nil ?_
        exact QP_end (decide (at_2 < (List.getD l_1 (Int.toNat i_4) ((0 : Int), ((0 : Int), (0 : Int)))).2.1)) rfl [] hn (by kernel_rfl) (by kernel_rfl) rfl rfl rfl
      · have H_31 := of_f H_27 b_10
        obtain ⟨c_12, H_34⟩ := of_if H_31
        refine V_reg hN hn [] [(19, false)] calls_nil 0 [0, 1, 5, 27] [] ⟨[(0, .c (.imm (.slice (.pair (.int .i64) (.pair (.int .i64) (.int .i64)))) l_1)), (1, .c (.val (.int .i64 at_2))), (5, .c (.val (.int .i64 i_4))), (27, .c (.val (.bool false)))], [], 0⟩ [0 ≤ i_4, i_4 < (((List.length l_1) : Nat) : Int), (decide (at_2 ≥ (List.getD l_1 (Int.toNat i_4) ((0 : Int), ((0 : Int), (0 : Int)))).1)) = false] (by kernel_rfl) rfl rfl (ap2 c_12.1 (ap2 c_12.2 (ap1 b_10))) (by kernel_rfl) (by kernel_rfl) ?_
        have H_35 := Option.some.inj (show some false = some q_26 from H_34); subst H_35
        refine VL_nil ?_
        exact QP_end false rfl [] hn (by kernel_rfl) (by kernel_rfl) rfl rfl rfl
    · intro y_29 hy; subst hy
      skip
      skip
      refine VL_cond (y_29) (by kernel_rfl) ?_ ?_
      · intro b_14; have H_36 := of_t H_28 b_14
        obtain ⟨c_15, H_38⟩ := of_if H_36
        refine V_run hN hn 2 0 [4] [] ⟨[(4, .c (.val (.int .i64 (List.getD l_1 (Int.toNat i_4) ((0 : Int), ((0 : Int), (0 : Int)))).2.2)))], [], 0⟩ [0 ≤ i_4, i_4 < (((List.length l_1) : Nat) : Int)] (by kernel_rfl) rfl rfl (ap2 c_15.1 (ap1 c_15.2)) ?_
        have H_39 := Option.some.inj (show some (List.getD l_1 (Int.toNat i_4) ((0 : Int), ((0 : Int), (0 : Int)))).2.2 = some r from H_38); subst H_39
        refine VL_ret ?_
        refine QB_ret ?_
        refine QL_ret ?_
        refine QB_ret ?_
        exact P_to [(4, .c (.val (.int .i64 (List.getD l_1 (Int.toNat i_4) ((0 : Int), ((0 : Int), (0 : Int)))).2.2)))] [] [] hn (by kernel_rfl) (by kernel_rfl) rfl rfl rfl (QF_retS (by kernel_rfl) (by kernel_rfl) rfl)
      · intro b_14; have H_37 := of_f H_28 b_14
        refine V_run hN hn 1 0 [0, 1, 5, 27] [] ⟨[(0, .c (.imm (.slice (.pair (.int .i64) (.pair (.int .i64) (.int .i64)))) l_1)), (1, .c (.val (.int .i64 at_2))), (5, .c (.val (.int .i64 i_4))), (27, .c (.val (.bool y_29)))], [], 0⟩ [] (by kernel_rfl) rfl rfl ap0 ?_
        refine VL_nil (QB_end ?_)
        refine V_run hN hn 1 0 [0, 1, 5] [] ⟨[(0, .c (.imm (.slice (.pair (.int .i64) (.pair (.int .i64) (.int .i64)))) l_1)), (1, .c (.val (.int .i64 at_2))), (5, .c (.val (.int .i64 (IntKind.wrap .i64 (i_4 + (1 : Int))))))], [], 0⟩ [] (by kernel_rfl) rfl rfl ap0 ?_
        refine VL_nil ?_
        exact V_roundEnd (IntKind.wrap .i64 (i_4 + (1 : Int))) H_37 [] hn (by kernel_rfl) (by kernel_rfl) rfl rfl rfl
  · intro b_7; have H_25 := of_f H_23 b_7
    refine VL_exit ?_
    refine QL_exit ?_
    refine QB_here ?_
    refine V_run hN hn 2 0 [4] [] ⟨[(4, .c (.val (.int .i64 (0 : Int))))], [], 0⟩ [] (by kernel_rfl) rfl rfl ap0 ?_
    have H_40 := Option.some.inj (show some (0 : Int) = some r from H_25); subst H_40
    refine VL_ret ?_
    exact P_to [(4, .c (.val (.int .i64 (0 : Int))))] [] [] hn (by kernel_rfl) (by kernel_rfl) rfl rfl rfl (QF_retS (by kernel_rfl) (by kernel_rfl) rfl)

theorem palinodelaw15_in_spec (K : Nat) (l_1 : (List (Int × (Int × Int)))) (i_2 : Int) (i_3 : Int) (r : (List (Int × (Int × Int)))) (H : palinodelaw15_in K l_1 i_2 i_3 = some r) : Spec Try.prog 22 0 [.c (.imm (.slice (.pair (.int .i64) (.pair (.int .i64) (.int .i64)))) l_1), .agg [.val (.int .i64 i_2), .val (.int .i64 i_3)]] [] (.c (.h 5)) [(5, .row (.pair (.int .i64) (.pair (.int .i64) (.int .i64))) r)] := by
  refine Spec_mk (fn := Try.f22) (c := (Try.f22.body).get!) Try.func22 (by kernel_rfl) rfl ?_
  intro C hN hn
  replace hN : C.N = 46 := hN
  unfold palinodelaw15_in at H
  refine V_run hN hn 7 0 [0, 3, 5, 6] [0] ⟨[(0, .c (.imm (.slice (.pair (.int .i64) (.pair (.int .i64) (.int .i64)))) l_1)), (3, .c (.h 0)), (5, .c (.val (.slice none 0 0))), (6, .c (.val (.int .i64 (0 : Int))))], [(0, .box [.val (.int .i64 i_2), .val (.int .i64 i_3)])], 1⟩ [] (by kernel_rfl) rfl rfl ap0 ?_
  refine VL_block ?_
  refine V_ghost [.nilSlot 5 (.pair (.int .i64) (.pair (.int .i64) (.int .i64)))] 1 hn [0, 3, 5, 6] [0, 1] ⟨[(0, .c (.imm (.slice (.pair (.int .i64) (.pair (.int .i64) (.int .i64)))) l_1)), (3, .c (.h 0)), (5, .c (.h 1)), (6, .c (.val (.int .i64 (0 : Int))))], [(0, .box [.val (.int .i64 i_2), .val (.int .i64 i_3)]), (1, .row (.pair (.int .i64) (.pair (.int .i64) (.int .i64))) ([] : List (Int × (Int × Int))))], 2⟩ (by kernel_rfl) rfl rfl ?_
  refine V_to [(0, .c (.imm (.slice (.pair (.int .i64) (.pair (.int .i64) (.int .i64)))) l_1)), (3, .c (.h 0)), (5, .c (.h 5)), (6, .c (.val (.int .i64 (0 : Int))))] [(0, .box [.val (.int .i64 i_2), .val (.int .i64 i_3)]), (5, .row (.pair (.int .i64) (.pair (.int .i64) (.int .i64))) ([] : List (Int × (Int × Int))))] [(0, 0), (5, 1)] hn (by kernel_rfl) (by kernel_rfl) rfl rfl rfl ?_
  refine VL_loop (X := ((List (Int × (Int × Int))) × Int)) (fun x => [(0, .c (.imm (.slice (.pair (.int .i64) (.pair (.int .i64) (.int .i64)))) l_1)), (3, .c (.h 0)), (5, .c (.h 5)), (6, .c (.val (.int .i64 x.2)))]) (fun x => [(0, .box [.val (.int .i64 i_2), .val (.int .i64 i_3)]), (5, .row (.pair (.int .i64) (.pair (.int .i64) (.int .i64))) x.1)]) (fun k x => palinodelaw15_in.l0 K l_1 i_2 i_3 k x.1 x.2 = some r) K (([] : List (Int × (Int × Int))), (0 : Int)) H (fun _ h => no_none h) ?_
  intro k_20 x_20 H_34
  obtain ⟨out_19, k_5⟩ := x_20
  have H_35 : palinodelaw15_in.l0 K l_1 i_2 i_3 (k_20 + 1) out_19 k_5 = some r := H_34
  rw [palinodelaw15_in.l0] at H_35
  refine V_run hN hn 3 6 [0, 3, 5, 6, 11] [0, 5] ⟨[(0, .c (.imm (.slice (.pair (.int .i64) (.pair (.int .i64) (.int .i64)))) l_1)), (3, .c (.h 0)), (5, .c (.h 5)), (6, .c (.val (.int .i64 k_5))), (11, .c (.val (.bool (decide (k_5 < (((List.length l_1) : Nat) : Int))))))], [(0, .box [.val (.int .i64 i_2), .val (.int .i64 i_3)]), (5, .row (.pair (.int .i64) (.pair (.int .i64) (.int .i64))) out_19)], 6⟩ [] (by kernel_rfl) rfl rfl ap0 ?_
  refine VL_cond ((decide (k_5 < (((List.length l_1) : Nat) : Int)))) (by kernel_rfl) ?_ ?_
  · intro b_22; have H_36 := of_t H_35 b_22
    refine V_run hN hn 2 6 [0, 3, 5, 6, 11] [0, 5] ⟨[(0, .c (.imm (.slice (.pair (.int .i64) (.pair (.int .i64) (.int .i64)))) l_1)), (3, .c (.h 0)), (5, .c (.h 5)), (6, .c (.val (.int .i64 k_5))), (11, .c (.val (.bool (decide (k_5 < (((List.length l_1) : Nat) : Int))))))], [(0, .box [.val (.int .i64 i_2), .val (.int .i64 i_3)]), (5, .row (.pair (.int .i64) (.pair (.int .i64) (.int .i64))) out_19)], 6⟩ [] (by kernel_rfl) rfl rfl ap0 ?_
    refine VL_block ?_
    refine V_run hN hn 1 6 [0, 3, 5, 6, 11] [0, 5] ⟨[(0, .c (.imm (.slice (.pair (.int .i64) (.pair (.int .i64) (.int .i64)))) l_1)), (3, .c (.h 0)), (5, .c (.h 5)), (6, .c (.val (.int .i64 k_5))), (11, .c (.val (.bool (decide (k_5 < (((List.length l_1) : Nat) : Int))))))], [(0, .box [.val (.int .i64 i_2), .val (.int .i64 i_3)]), (5, .row (.pair (.int .i64) (.pair (.int .i64) (.int .i64))) out_19)], 6⟩ [] (by kernel_rfl) rfl rfl ap0 ?_
    obtain ⟨c_25, H_38⟩ := of_if H_36
    refine V_draw hN hn (by kernel_rfl) [] [] calls_nil 6 [0, 3, 5, 6, 7] [0, 5, 6] ⟨[(0, .c (.imm (.slice (.pair (.int .i64) (.pair (.int .i64) (.int .i64)))) l_1)), (3, .c (.h 0)), (5, .c (.h 5)), (6, .c (.val (.int .i64 k_5))), (7, .c (.h 6))], [(0, .box [.val (.int .i64 i_2), .val (.int .i64 i_3)]), (5, .row (.pair (.int .i64) (.pair (.int .i64) (.int .i64))) out_19), (6, .box [.val (.int .i64 (mx2 (List.getD l_1 (Int.toNat k_5) ((0 : Int), ((0 : Int), (0 : Int)))).1 i_2)), .val (.int .i64 (mn2 (List.getD l_1 (Int.toNat k_5) ((0 : Int), ((0 : Int), (0 : Int)))).2.1 i_3)), .val (.int .i64 (List.getD l_1 (Int.toNat k_5) ((0 : Int), ((0 : Int), (0 : Int)))).2.2)])], 7⟩ [0 ≤ k_5, k_5 < (((List.length l_1) : Nat) : Int), 0 ≤ k_5, k_5 < (((List.length l_1) : Nat) : Int), 0 ≤ k_5, k_5 < (((List.length l_1) : Nat) : Int), 0 ≤ k_5, k_5 < (((List.length l_1) : Nat) : Int), 0 ≤ k_5, k_5 < (((List.length l_1) : Nat) : Int), 0 ≤ k_5, k_5 < (((List.length l_1) : Nat) : Int)] (by kernel_rfl) rfl rfl (ap2 c_25.1 (ap2 c_25.2 (ap2 c_25.1 (ap2 c_25.2 (ap2 c_25.1 (ap2 c_25.2 (ap2 c_25.1 (ap2 c_25.2 (ap2 c_25.1 (ap2 c_25.2 (ap2 c_25.1 (ap1 c_25.2)))))))))))) (by kernel_rfl) (by kernel_rfl) ?_
    refine V_run hN hn 2 7 [0, 3, 5, 6, 7, 40] [0, 5, 6] ⟨[(0, .c (.imm (.slice (.pair (.int .i64) (.pair (.int .i64) (.int .i64)))) l_1)), (3, .c (.h 0)), (5, .c (.h 5)), (6, .c (.val (.int .i64 k_5))), (7, .c (.h 6)), (40, .c (.val (.bool (decide ((mx2 (List.getD l_1 (Int.toNat k_5) ((0 : Int), ((0 : Int), (0 : Int)))).1 i_2) < (mn2 (List.getD l_1 (Int.toNat k_5) ((0 : Int), ((0 : Int), (0 : Int)))).2.1 i_3))))))], [(0, .box [.val (.int .i64 i_2), .val (.int .i64 i_3)]), (5, .row (.pair (.int .i64) (.pair (.int .i64) (.int .i64))) out_19), (6, .box [.val (.int .i64 (mx2 (List.getD l_1 (Int.toNat k_5) ((0 : Int), ((0 : Int), (0 : Int)))).1 i_2)), .val (.int .i64 (mn2 (List.getD l_1 (Int.toNat k_5) ((0 : Int), ((0 : Int), (0 : Int)))).2.1 i_3)), .val (.int .i64 (List.getD l_1 (Int.toNat k_5) ((0 : Int), ((0 : Int), (0 : Int)))).2.2)])], 7⟩ [] (by kernel_rfl) rfl rfl ap0 ?_
    refine VL_cond ((decide ((mx2 (List.getD l_1 (Int.toNat k_5) ((0 : Int), ((0 : Int), (0 : Int)))).1 i_2) < (mn2 (List.getD l_1 (Int.toNat k_5) ((0 : Int), ((0 : Int), (0 : Int)))).2.1 i_3)))) (by kernel_rfl) ?_ ?_
    · intro b_27; have H_39 := of_t H_38 b_27
      obtain ⟨c_28, H_41⟩ := of_if H_39
      refine V_run hN hn 1 7 [0, 3, 5, 6] [0, 8] ⟨[(0, .c (.imm (.slice (.pair (.int .i64) (.pair (.int .i64) (.int .i64)))) l_1)), (3, .c (.h 0)), (5, .c (.h 8)), (6, .c (.val (.int .i64 k_5)))], [(0, .box [.val (.int .i64 i_2), .val (.int .i64 i_3)]), (8, .row (.pair (.int .i64) (.pair (.int .i64) (.int .i64))) (out_19 ++ ([((mx2 (List.getD l_1 (Int.toNat k_5) ((0 : Int), ((0 : Int), (0 : Int)))).1 i_2), ((mn2 (List.getD l_1 (Int.toNat k_5) ((0 : Int), ((0 : Int), (0 : Int)))).2.1 i_3), (List.getD l_1 (Int.toNat k_5) ((0 : Int), ((0 : Int), (0 : Int)))).2.2))] : List (Int × (Int × Int)))))], 9⟩ [(List.length out_19 + List.length ([((mx2 (List.getD l_1 (Int.toNat k_5) ((0 : Int), ((0 : Int), (0 : Int)))).1 i_2), ((mn2 (List.getD l_1 (Int.toNat k_5) ((0 : Int), ((0 : Int), (0 : Int)))).2.1 i_3), (List.getD l_1 (Int.toNat k_5) ((0 : Int), ((0 : Int), (0 : Int)))).2.2))] : List (Int × (Int × Int)))) * 24 ≤ 140737488355328] (by kernel_rfl) rfl rfl (ap1 c_28) ?_
      refine VL_nil (QB_end ?_)
      refine V_run hN hn 1 9 [0, 3, 5, 6] [0, 8] ⟨[(0, .c (.imm (.slice (.pair (.int .i64) (.pair (.int .i64) (.int .i64)))) l_1)), (3, .c (.h 0)), (5, .c (.h 8)), (6, .c (.val (.int .i64 (IntKind.wrap .i64 (k_5 + (1 : Int))))))], [(0, .box [.val (.int .i64 i_2), .val (.int .i64 i_3)]), (8, .row (.pair (.int .i64) (.pair (.int .i64) (.int .i64))) (out_19 ++ ([((mx2 (List.getD l_1 (Int.toNat k_5) ((0 : Int), ((0 : Int), (0 : Int)))).1 i_2), ((mn2 (List.getD l_1 (Int.toNat k_5) ((0 : Int), ((0 : Int), (0 : Int)))).2.1 i_3), (List.getD l_1 (Int.toNat k_5) ((0 : Int), ((0 : Int), (0 : Int)))).2.2))] : List (Int × (Int × Int)))))], 9⟩ [] (by kernel_rfl) rfl rfl ap0 ?_
      refine VL_nil ?_
      exact V_roundEnd ((out_19 ++ ([((mx2 (List.getD l_1 (Int.toNat k_5) ((0 : Int), ((0 : Int), (0 : Int)))).1 i_2), ((mn2 (List.getD l_1 (Int.toNat k_5) ((0 : Int), ((0 : Int), (0 : Int)))).2.1 i_3), (List.getD l_1 (Int.toNat k_5) ((0 : Int), ((0 : Int), (0 : Int)))).2.2))] : List (Int × (Int × Int)))), (IntKind.wrap .i64 (k_5 + (1 : Int)))) H_41 [(0, 0), (5, 8)] hn (by kernel_rfl) (by kernel_rfl) rfl rfl rfl
    · intro b_27; have H_40 := of_f H_38 b_27
      refine V_run hN hn 1 7 [0, 3, 5, 6, 7, 40] [0, 5, 6] ⟨[(0, .c (.imm (.slice (.pair (.int .i64) (.pair (.int .i64) (.int .i64)))) l_1)), (3, .c (.h 0)), (5, .c (.h 5)), (6, .c (.val (.int .i64 k_5))), (7, .c (.h 6)), (40, .c (.val (.bool (decide ((mx2 (List.getD l_1 (Int.toNat k_5) ((0 : Int), ((0 : Int), (0 : Int)))).1 i_2) < (mn2 (List.getD l_1 (Int.toNat k_5) ((0 : Int), ((0 : Int), (0 : Int)))).2.1 i_3))))))], [(0, .box [.val (.int .i64 i_2), .val (.int .i64 i_3)]), (5, .row (.pair (.int .i64) (.pair (.int .i64) (.int .i64))) out_19), (6, .box [.val (.int .i64 (mx2 (List.getD l_1 (Int.toNat k_5) ((0 : Int), ((0 : Int), (0 : Int)))).1 i_2)), .val (.int .i64 (mn2 (List.getD l_1 (Int.toNat k_5) ((0 : Int), ((0 : Int), (0 : Int)))).2.1 i_3)), .val (.int .i64 (List.getD l_1 (Int.toNat k_5) ((0 : Int), ((0 : Int), (0 : Int)))).2.2)])], 7⟩ [] (by kernel_rfl) rfl rfl ap0 ?_
      refine VL_nil (QB_end ?_)
      refine V_run hN hn 1 7 [0, 3, 5, 6] [0, 5] ⟨[(0, .c (.imm (.slice (.pair (.int .i64) (.pair (.int .i64) (.int .i64)))) l_1)), (3, .c (.h 0)), (5, .c (.h 5)), (6, .c (.val (.int .i64 (IntKind.wrap .i64 (k_5 + (1 : Int))))))], [(0, .box [.val (.int .i64 i_2), .val (.int .i64 i_3)]), (5, .row (.pair (.int .i64) (.pair (.int .i64) (.int .i64))) out_19)], 7⟩ [] (by kernel_rfl) rfl rfl ap0 ?_
      refine VL_nil ?_
      exact V_roundEnd (out_19, (IntKind.wrap .i64 (k_5 + (1 : Int)))) H_40 [(0, 0), (5, 5)] hn (by kernel_rfl) (by kernel_rfl) rfl rfl rfl
  · intro b_22; have H_37 := of_f H_35 b_22
    refine VL_exit ?_
    refine QL_exit ?_
    refine QB_here ?_
    refine V_run hN hn 2 6 [4] [5] ⟨[(4, .c (.h 5))], [(5, .row (.pair (.int .i64) (.pair (.int .i64) (.int .i64))) out_19)], 6⟩ [] (by kernel_rfl) rfl rfl ap0 ?_
    have H_42 := Option.some.inj (show some out_19 = some r from H_37); subst H_42
    refine VL_ret ?_
    exact P_to [(4, .c (.h 5))] [(5, .row (.pair (.int .i64) (.pair (.int .i64) (.int .i64))) out_19)] [(5, 5)] hn (by kernel_rfl) (by kernel_rfl) rfl rfl rfl (QF_retS (by kernel_rfl) (by kernel_rfl) rfl)

theorem palinodelaw15_SpansTell_spec (K : Nat) (l_1 : (List (Int × (Int × Int)))) (s_2 : Int) (s_3 : Int) (s_4 : Int) (d_5 : Int) (d_6 : (List (Int × (Int × ByteArray)))) (at_7 : Int) (n_8 : Int) (i_9 : Int) (i_10 : Int) (r : Bool) (H : palinodelaw15_SpansTell K l_1 s_2 s_3 s_4 d_5 d_6 at_7 n_8 i_9 i_10 = some r) : Spec Try.prog 7 0 [.c (.imm (.slice (.pair (.int .i64) (.pair (.int .i64) (.int .i64)))) l_1), .agg [.val (.int .i64 s_2), .val (.int .i64 s_3), .val (.int .i64 s_4)], .agg [.val (.int .i64 d_5), .imm (.slice (.pair (.int .i64) (.pair (.int .i64) .str))) d_6], .c (.val (.int .i64 at_7)), .c (.val (.int .i64 n_8)), .agg [.val (.int .i64 i_9), .val (.int .i64 i_10)]] [] (.c (.val (.bool r))) [] := by
  refine Spec_mk (fn := Try.f7) (c := (Try.f7.body).get!) Try.func7 (by kernel_rfl) rfl ?_
  intro C hN hn
  replace hN : C.N = 100 := hN
  unfold palinodelaw15_SpansTell at H
  refine V_run hN hn 4 0 [0, 3, 4, 7, 8, 11] [0, 1, 2] ⟨[(0, .c (.imm (.slice (.pair (.int .i64) (.pair (.int .i64) (.int .i64)))) l_1)), (3, .c (.val (.int .i64 at_7))), (4, .c (.val (.int .i64 n_8))), (7, .c (.h 0)), (8, .c (.h 1)), (11, .c (.h 2))], [(0, .box [.val (.int .i64 s_2), .val (.int .i64 s_3), .val (.int .i64 s_4)]), (1, .box [.val (.int .i64 d_5), .imm (.slice (.pair (.int .i64) (.pair (.int .i64) .str))) d_6]), (2, .box [.val (.int .i64 i_9), .val (.int .i64 i_10)])], 3⟩ [] (by kernel_rfl) rfl rfl ap0 ?_
  obtain ⟨r_12, h_13, H_76⟩ := of_bind H
  refine V_reg hN hn [(0, ⟨9, 0, [], [], .c (.val (.bool r_12)), [], [], 3⟩)] [] (calls_cons (palinodelaw15_known_spec K  r_12 h_13) (by kernel_rfl) calls_nil) 3 [0, 3, 4, 7, 8, 11, 22] [0, 1, 2] ⟨[(0, .c (.imm (.slice (.pair (.int .i64) (.pair (.int .i64) (.int .i64)))) l_1)), (3, .c (.val (.int .i64 at_7))), (4, .c (.val (.int .i64 n_8))), (7, .c (.h 0)), (8, .c (.h 1)), (11, .c (.h 2)), (22, .c (.val (.bool (!r_12))))], [(0, .box [.val (.int .i64 s_2), .val (.int .i64 s_3), .val (.int .i64 s_4)]), (1, .box [.val (.int .i64 d_5), .imm (.slice (.pair (.int .i64) (.pair (.int .i64) .str))) d_6]), (2, .box [.val (.int .i64 i_9), .val (.int .i64 i_10)])], 3⟩ [] (by kernel_rfl) rfl rfl ap0 (by kernel_rfl) (by kernel_rfl) ?_
  refine VL_cond ((!r_12)) (by kernel_rfl) ?_ ?_
  · intro b_15; have H_77 := of_t H_76 b_15
    refine V_run hN hn 2 3 [12] [] ⟨[(12, .c (.val (.bool false)))], [], 3⟩ [] (by kernel_rfl) rfl rfl ap0 ?_
    have H_79 := Option.some.inj (show some false = some r from H_77); subst H_79
    refine VL_ret ?_
    exact P_to [(12, .c (.val (.bool false)))] [] [] hn (by kernel_rfl) (by kernel_rfl) rfl rfl rfl (QF_retS (by kernel_rfl) (by kernel_rfl) rfl)
  · intro b_15; have H_78 := of_f H_76 b_15
    refine V_run hN hn 3 3 [0, 3, 4, 7, 8, 11, 22] [0, 1, 2] ⟨[(0, .c (.imm (.slice (.pair (.int .i64) (.pair (.int .i64) (.int .i64)))) l_1)), (3, .c (.val (.int .i64 at_7))), (4, .c (.val (.int .i64 n_8))), (7, .c (.h 0)), (8, .c (.h 1)), (11, .c (.h 2)), (22, .c (.val (.bool (!r_12))))], [(0, .box [.val (.int .i64 s_2), .val (.int .i64 s_3), .val (.int .i64 s_4)]), (1, .box [.val (.int .i64 d_5), .imm (.slice (.pair (.int .i64) (.pair (.int .i64) .str))) d_6]), (2, .box [.val (.int .i64 i_9), .val (.int .i64 i_10)])], 3⟩ [] (by kernel_rfl) rfl rfl ap0 ?_
    obtain ⟨q_80, H_81, H_82⟩ := of_bind H_78
    refine V_cut (Y := Bool) (R := Bool) q_80 (fun y => y) (fun y => [(0, .c (.imm (.slice (.pair (.int .i64) (.pair (.int .i64) (.int .i64)))) l_1)), (3, .c (.val (.int .i64 at_7))), (4, .c (.val (.int .i64 n_8))), (7, .c (.h 0)), (8, .c (.h 1)), (11, .c (.h 2)), (30, .c (.val (.bool y)))]) (fun y => [(0, .box [.val (.int .i64 s_2), .val (.int .i64 s_3), .val (.int .i64 s_4)]), (1, .box [.val (.int .i64 d_5), .imm (.slice (.pair (.int .i64) (.pair (.int .i64) .str))) d_6]), (2, .box [.val (.int .i64 i_9), .val (.int .i64 i_10)])]) ?_ ?_
    · skip
      rcases Bool.eq_false_or_eq_true ((decide ((((List.length l_1) : Nat) : Int) > (70 : Int)))) with b_18 | b_18
      · have H_84 := of_t H_81 b_18
        refine V_reg hN hn [] [(26, true)] calls_nil 3 [0, 3, 4, 7, 8, 11, 30] [0, 1, 2] ⟨[(0, .c (.imm (.slice (.pair (.int .i64) (.pair (.int .i64) (.int .i64)))) l_1)), (3, .c (.val (.int .i64 at_7))), (4, .c (.val (.int .i64 n_8))), (7, .c (.h 0)), (8, .c (.h 1)), (11, .c (.h 2)), (30, .c (.val (.bool true)))], [(0, .box [.val (.int .i64 s_2), .val (.int .i64 s_3), .val (.int .i64 s_4)]), (1, .box [.val (.int .i64 d_5), .imm (.slice (.pair (.int .i64) (.pair (.int .i64) .str))) d_6]), (2, .box [.val (.int .i64 i_9), .val (.int .i64 i_10)])], 3⟩ [(decide ((((List.length l_1) : Nat) : Int) > (70 : Int))) = true] (by kernel_rfl) rfl rfl (ap1 b_18) (by kernel_rfl) (by kernel_rfl) ?_
        have H_86 := Option.some.inj (show some true = some q_80 from H_84); subst H_86
        refine VL_nil ?_
        exact QP_end true rfl [(0, 0), (1, 1), (2, 2)] hn (by kernel_rfl) (by kernel_rfl) rfl rfl rfl
      · have H_85 := of_f H_81 b_18
        obtain ⟨r_20, h_21, H_87⟩ := of_bind H_85
        refine V_reg hN hn [(5, ⟨16, 0, [.agg [.val (.int .i64 d_5), .imm (.slice (.pair (.int .i64) (.pair (.int .i64) .str))) d_6]], [], .c (.val (.bool r_20)), [], [], 3⟩)] [(26, false)] (calls_cons (palinodelaw15_few_spec K d_5 d_6 r_20 h_21) (by kernel_rfl) calls_nil) 3 [0, 3, 4, 7, 8, 11, 30] [0, 1, 2] ⟨[(0, .c (.imm (.slice (.pair (.int .i64) (.pair (.int .i64) (.int .i64)))) l_1)), (3, .c (.val (.int .i64 at_7))), (4, .c (.val (.int .i64 n_8))), (7, .c (.h 0)), (8, .c (.h 1)), (11, .c (.h 2)), (30, .c (.val (.bool (!r_20))))], [(0, .box [.val (.int .i64 s_2), .val (.int .i64 s_3), .val (.int .i64 s_4)]), (1, .box [.val (.int .i64 d_5), .imm (.slice (.pair (.int .i64) (.pair (.int .i64) .str))) d_6]), (2, .box [.val (.int .i64 i_9), .val (.int .i64 i_10)])], 3⟩ [(decide ((((List.length l_1) : Nat) : Int) > (70 : Int))) = false] (by kernel_rfl) rfl rfl (ap1 b_18) (by kernel_rfl) (by kernel_rfl) ?_
        have H_88 := Option.some.inj (show some (!r_20) = some q_80 from H_87); subst H_88
        refine VL_nil ?_
        exact QP_end (!r_20) rfl [(0, 0), (1, 1), (2, 2)] hn (by kernel_rfl) (by kernel_rfl) rfl rfl rfl
    · intro y_83 hy; subst hy
      skip
      skip
      refine VL_cond (y_83) (by kernel_rfl) ?_ ?_
      · intro b_24; have H_89 := of_t H_82 b_24
        refine V_run hN hn 2 3 [12] [] ⟨[(12, .c (.val (.bool true)))], [], 3⟩ [] (by kernel_rfl) rfl rfl ap0 ?_
        have H_91 := Option.some.inj (show some true = some r from H_89); subst H_91
        refine VL_ret ?_
        exact P_to [(12, .c (.val (.bool true)))] [] [] hn (by kernel_rfl) (by kernel_rfl) rfl rfl rfl (QF_retS (by kernel_rfl) (by kernel_rfl) rfl)
      · intro b_24; have H_90 := of_f H_82 b_24
        refine V_run hN hn 2 3 [0, 3, 4, 7, 8, 11, 30] [0, 1, 2] ⟨[(0, .c (.imm (.slice (.pair (.int .i64) (.pair (.int .i64) (.int .i64)))) l_1)), (3, .c (.val (.int .i64 at_7))), (4, .c (.val (.int .i64 n_8))), (7, .c (.h 0)), (8, .c (.h 1)), (11, .c (.h 2)), (30, .c (.val (.bool y_83)))], [(0, .box [.val (.int .i64 s_2), .val (.int .i64 s_3), .val (.int .i64 s_4)]), (1, .box [.val (.int .i64 d_5), .imm (.slice (.pair (.int .i64) (.pair (.int .i64) .str))) d_6]), (2, .box [.val (.int .i64 i_9), .val (.int .i64 i_10)])], 3⟩ [] (by kernel_rfl) rfl rfl ap0 ?_
        obtain ⟨r_27, h_28, H_92⟩ := of_bind H_90
        refine V_reg hN hn [(2, ⟨10, 0, [.c (.imm (.slice (.pair (.int .i64) (.pair (.int .i64) (.int .i64)))) l_1), .agg [.val (.int .i64 s_2), .val (.int .i64 s_3), .val (.int .i64 s_4)]], [], .tup [(false, [.h 9]), (false, [.val (.int .i64 r_27.2)])], [(9, .row (.pair (.int .i64) (.pair (.int .i64) (.int .i64))) r_27.1)], [(9, 3)], 4⟩)] [] (calls_cons (spans_Put_spec K l_1 s_2 s_3 s_4 r_27 h_28) (by kernel_rfl) calls_nil) 3 [0, 3, 4, 7, 8, 11, 13, 14] [0, 1, 2, 3] ⟨[(0, .c (.imm (.slice (.pair (.int .i64) (.pair (.int .i64) (.int .i64)))) l_1)), (3, .c (.val (.int .i64 at_7))), (4, .c (.val (.int .i64 n_8))), (7, .c (.h 0)), (8, .c (.h 1)), (11, .c (.h 2)), (13, .c (.h 3)), (14, .c (.val (.int .i64 r_27.2)))], [(0, .box [.val (.int .i64 s_2), .val (.int .i64 s_3), .val (.int .i64 s_4)]), (1, .box [.val (.int .i64 d_5), .imm (.slice (.pair (.int .i64) (.pair (.int .i64) .str))) d_6]), (2, .box [.val (.int .i64 i_9), .val (.int .i64 i_10)]), (3, .row (.pair (.int .i64) (.pair (.int .i64) (.int .i64))) r_27.1)], 4⟩ [] (by kernel_rfl) rfl rfl ap0 (by kernel_rfl) (by kernel_rfl) ?_
        refine V_run hN hn 1 4 [0, 3, 4, 7, 8, 11, 13, 14] [0, 1, 2, 3] ⟨[(0, .c (.imm (.slice (.pair (.int .i64) (.pair (.int .i64) (.int .i64)))) l_1)), (3, .c (.val (.int .i64 at_7))), (4, .c (.val (.int .i64 n_8))), (7, .c (.h 0)), (8, .c (.h 1)), (11, .c (.h 2)), (13, .c (.h 3)), (14, .c (.val (.int .i64 r_27.2)))], [(0, .box [.val (.int .i64 s_2), .val (.int .i64 s_3), .val (.int .i64 s_4)]), (1, .box [.val (.int .i64 d_5), .imm (.slice (.pair (.int .i64) (.pair (.int .i64) .str))) d_6]), (2, .box [.val (.int .i64 i_9), .val (.int .i64 i_10)]), (3, .row (.pair (.int .i64) (.pair (.int .i64) (.int .i64))) r_27.1)], 4⟩ [] (by kernel_rfl) rfl rfl ap0 ?_
        obtain ⟨r_31, h_32, H_93⟩ := of_bind H_92
        refine V_reg hN hn [(2, ⟨17, 0, [.c (.imm (.slice (.pair (.int .i64) (.pair (.int .i64) (.int .i64)))) l_1), .agg [.val (.int .i64 s_2), .val (.int .i64 s_3), .val (.int .i64 s_4)]], [], .tup [(false, [.imm (.slice (.pair (.int .i64) (.pair (.int .i64) (.int .i64)))) r_31.1]), (false, [.val (.int .i64 r_31.2)])], [], [], 4⟩)] [] (calls_cons (palinoderef15_Put_spec K l_1 s_2 s_3 s_4 r_31 h_32) (by kernel_rfl) calls_nil) 4 [0, 3, 4, 8, 11, 13, 14, 15, 16] [1, 2, 3] ⟨[(0, .c (.imm (.slice (.pair (.int .i64) (.pair (.int .i64) (.int .i64)))) l_1)), (3, .c (.val (.int .i64 at_7))), (4, .c (.val (.int .i64 n_8))), (8, .c (.h 1)), (11, .c (.h 2)), (13, .c (.h 3)), (14, .c (.val (.int .i64 r_27.2))), (15, .c (.imm (.slice (.pair (.int .i64) (.pair (.int .i64) (.int .i64)))) r_31.1)), (16, .c (.val (.int .i64 r_31.2)))], [(1, .box [.val (.int .i64 d_5), .imm (.slice (.pair (.int .i64) (.pair (.int .i64) .str))) d_6]), (2, .box [.val (.int .i64 i_9), .val (.int .i64 i_10)]), (3, .row (.pair (.int .i64) (.pair (.int .i64) (.int .i64))) r_27.1)], 4⟩ [] (by kernel_rfl) rfl rfl ap0 (by kernel_rfl) (by kernel_rfl) ?_
        refine V_run hN hn 1 4 [0, 3, 4, 8, 11, 13, 14, 15, 16] [1, 2, 3] ⟨[(0, .c (.imm (.slice (.pair (.int .i64) (.pair (.int .i64) (.int .i64)))) l_1)), (3, .c (.val (.int .i64 at_7))), (4, .c (.val (.int .i64 n_8))), (8, .c (.h 1)), (11, .c (.h 2)), (13, .c (.h 3)), (14, .c (.val (.int .i64 r_27.2))), (15, .c (.imm (.slice (.pair (.int .i64) (.pair (.int .i64) (.int .i64)))) r_31.1)), (16, .c (.val (.int .i64 r_31.2)))], [(1, .box [.val (.int .i64 d_5), .imm (.slice (.pair (.int .i64) (.pair (.int .i64) .str))) d_6]), (2, .box [.val (.int .i64 i_9), .val (.int .i64 i_10)]), (3, .row (.pair (.int .i64) (.pair (.int .i64) (.int .i64))) r_27.1)], 4⟩ [] (by kernel_rfl) rfl rfl ap0 ?_
        obtain ⟨r_35, h_36, H_94⟩ := of_bind H_93
        refine V_reg hN hn [(2, ⟨18, 0, [.c (.imm (.slice (.pair (.int .i64) (.pair (.int .i64) (.int .i64)))) l_1), .agg [.val (.int .i64 d_5), .imm (.slice (.pair (.int .i64) (.pair (.int .i64) .str))) d_6]], [], .tup [(false, [.h 7]), (false, [.val (.int .i64 r_35.2)])], [(7, .row (.pair (.int .i64) (.pair (.int .i64) (.int .i64))) r_35.1)], [(7, 4)], 5⟩)] [] (calls_cons (spans_Edit_spec K l_1 d_5 d_6 r_35 h_36) (by kernel_rfl) calls_nil) 4 [0, 3, 4, 8, 11, 13, 14, 15, 16, 17, 18] [1, 2, 3, 4] ⟨[(0, .c (.imm (.slice (.pair (.int .i64) (.pair (.int .i64) (.int .i64)))) l_1)), (3, .c (.val (.int .i64 at_7))), (4, .c (.val (.int .i64 n_8))), (8, .c (.h 1)), (11, .c (.h 2)), (13, .c (.h 3)), (14, .c (.val (.int .i64 r_27.2))), (15, .c (.imm (.slice (.pair (.int .i64) (.pair (.int .i64) (.int .i64)))) r_31.1)), (16, .c (.val (.int .i64 r_31.2))), (17, .c (.h 4)), (18, .c (.val (.int .i64 r_35.2)))], [(1, .box [.val (.int .i64 d_5), .imm (.slice (.pair (.int .i64) (.pair (.int .i64) .str))) d_6]), (2, .box [.val (.int .i64 i_9), .val (.int .i64 i_10)]), (3, .row (.pair (.int .i64) (.pair (.int .i64) (.int .i64))) r_27.1), (4, .row (.pair (.int .i64) (.pair (.int .i64) (.int .i64))) r_35.1)], 5⟩ [] (by kernel_rfl) rfl rfl ap0 (by kernel_rfl) (by kernel_rfl) ?_
        refine V_run hN hn 1 5 [0, 3, 4, 8, 11, 13, 14, 15, 16, 17, 18] [1, 2, 3, 4] ⟨[(0, .c (.imm (.slice (.pair (.int .i64) (.pair (.int .i64) (.int .i64)))) l_1)), (3, .c (.val (.int .i64 at_7))), (4, .c (.val (.int .i64 n_8))), (8, .c (.h 1)), (11, .c (.h 2)), (13, .c (.h 3)), (14, .c (.val (.int .i64 r_27.2))), (15, .c (.imm (.slice (.pair (.int .i64) (.pair (.int .i64) (.int .i64)))) r_31.1)), (16, .c (.val (.int .i64 r_31.2))), (17, .c (.h 4)), (18, .c (.val (.int .i64 r_35.2)))], [(1, .box [.val (.int .i64 d_5), .imm (.slice (.pair (.int .i64) (.pair (.int .i64) .str))) d_6]), (2, .box [.val (.int .i64 i_9), .val (.int .i64 i_10)]), (3, .row (.pair (.int .i64) (.pair (.int .i64) (.int .i64))) r_27.1), (4, .row (.pair (.int .i64) (.pair (.int .i64) (.int .i64))) r_35.1)], 5⟩ [] (by kernel_rfl) rfl rfl ap0 ?_
        obtain ⟨r_39, h_40, H_95⟩ := of_bind H_94
        refine V_reg hN hn [(2, ⟨19, 0, [.c (.imm (.slice (.pair (.int .i64) (.pair (.int .i64) (.int .i64)))) l_1), .agg [.val (.int .i64 d_5), .imm (.slice (.pair (.int .i64) (.pair (.int .i64) .str))) d_6]], [], .tup [(false, [.h 7]), (false, [.val (.int .i64 r_39.2)])], [(7, .row (.pair (.int .i64) (.pair (.int .i64) (.int .i64))) r_39.1)], [(7, 5)], 6⟩)] [] (calls_cons (palinoderef15_Edit_spec K l_1 d_5 d_6 r_39 h_40) (by kernel_rfl) calls_nil) 5 [0, 3, 4, 11, 13, 14, 15, 16, 17, 18, 19, 20] [2, 3, 4, 5] ⟨[(0, .c (.imm (.slice (.pair (.int .i64) (.pair (.int .i64) (.int .i64)))) l_1)), (3, .c (.val (.int .i64 at_7))), (4, .c (.val (.int .i64 n_8))), (11, .c (.h 2)), (13, .c (.h 3)), (14, .c (.val (.int .i64 r_27.2))), (15, .c (.imm (.slice (.pair (.int .i64) (.pair (.int .i64) (.int .i64)))) r_31.1)), (16, .c (.val (.int .i64 r_31.2))), (17, .c (.h 4)), (18, .c (.val (.int .i64 r_35.2))), (19, .c (.h 5)), (20, .c (.val (.int .i64 r_39.2)))], [(2, .box [.val (.int .i64 i_9), .val (.int .i64 i_10)]), (3, .row (.pair (.int .i64) (.pair (.int .i64) (.int .i64))) r_27.1), (4, .row (.pair (.int .i64) (.pair (.int .i64) (.int .i64))) r_35.1), (5, .row (.pair (.int .i64) (.pair (.int .i64) (.int .i64))) r_39.1)], 6⟩ [] (by kernel_rfl) rfl rfl ap0 (by kernel_rfl) (by kernel_rfl) ?_
        refine V_run hN hn 1 6 [0, 3, 4, 11, 13, 14, 15, 16, 17, 18, 19, 20] [2, 3, 4, 5] ⟨[(0, .c (.imm (.slice (.pair (.int .i64) (.pair (.int .i64) (.int .i64)))) l_1)), (3, .c (.val (.int .i64 at_7))), (4, .c (.val (.int .i64 n_8))), (11, .c (.h 2)), (13, .c (.h 3)), (14, .c (.val (.int .i64 r_27.2))), (15, .c (.imm (.slice (.pair (.int .i64) (.pair (.int .i64) (.int .i64)))) r_31.1)), (16, .c (.val (.int .i64 r_31.2))), (17, .c (.h 4)), (18, .c (.val (.int .i64 r_35.2))), (19, .c (.h 5)), (20, .c (.val (.int .i64 r_39.2)))], [(2, .box [.val (.int .i64 i_9), .val (.int .i64 i_10)]), (3, .row (.pair (.int .i64) (.pair (.int .i64) (.int .i64))) r_27.1), (4, .row (.pair (.int .i64) (.pair (.int .i64) (.int .i64))) r_35.1), (5, .row (.pair (.int .i64) (.pair (.int .i64) (.int .i64))) r_39.1)], 6⟩ [] (by kernel_rfl) rfl rfl ap0 ?_
        obtain ⟨r_43, h_44, H_96⟩ := of_bind H_95
        obtain ⟨r_45, h_46, H_97⟩ := of_bind H_96
        rcases Bool.eq_false_or_eq_true ((r_43 == r_45)) with b_47 | b_47
        · have H_98 := of_t H_97 b_47
          rcases Bool.eq_false_or_eq_true ((r_27.2 == r_31.2)) with b_48 | b_48
          · have H_100 := of_t H_98 b_48
            obtain ⟨r_49, h_50, H_102⟩ := of_bind H_100
            rcases Bool.eq_false_or_eq_true (r_49) with b_51 | b_51
            · have H_103 := of_t H_102 b_51
              rcases Bool.eq_false_or_eq_true ((r_35.2 == r_39.2)) with b_52 | b_52
              · have H_105 := of_t H_103 b_52
                obtain ⟨r_53, h_54, H_107⟩ := of_bind H_105
                rcases Bool.eq_false_or_eq_true (r_53) with b_55 | b_55
                · have H_108 := of_t H_107 b_55
                  obtain ⟨r_56, h_57, H_110⟩ := of_bind H_108
                  obtain ⟨r_58, h_59, H_111⟩ := of_bind H_110
                  rcases Bool.eq_false_or_eq_true ((r_56 == r_58)) with b_60 | b_60
                  · have H_112 := of_t H_111 b_60
                    obtain ⟨r_61, h_62, H_114⟩ := of_bind H_112
                    obtain ⟨r_63, h_64, H_115⟩ := of_bind H_114
                    obtain ⟨r_65, h_66, H_116⟩ := of_bind H_115
                    refine V_draw hN hn (by kernel_rfl) [(2, ⟨13, 0, [.c (.imm (.slice (.pair (.int .i64) (.pair (.int .i64) (.int .i64)))) l_1), .c (.val (.int .i64 n_8))], [], .c (.val (.bool r_43)), [], [], 6⟩), (5, ⟨20, 0, [.c (.imm (.slice (.pair (.int .i64) (.pair (.int .i64) (.int .i64)))) l_1), .c (.val (.int .i64 n_8))], [], .c (.val (.bool r_45)), [], [], 6⟩), (15, ⟨12, 1, [.c (.h 0), .c (.imm (.slice (.pair (.int .i64) (.pair (.int .i64) (.int .i64)))) r_31.1)], [(0, .row (.pair (.int .i64) (.pair (.int .i64) (.int .i64))) r_27.1)], .c (.val (.bool r_49)), [(0, .row (.pair (.int .i64) (.pair (.int .i64) (.int .i64))) r_27.1)], [(0, 3)], 6⟩), (25, ⟨12, 2, [.c (.h 0), .c (.h 1)], [(0, .row (.pair (.int .i64) (.pair (.int .i64) (.int .i64))) r_35.1), (1, .row (.pair (.int .i64) (.pair (.int .i64) (.int .i64))) r_39.1)], .c (.val (.bool r_53)), [(0, .row (.pair (.int .i64) (.pair (.int .i64) (.int .i64))) r_35.1), (1, .row (.pair (.int .i64) (.pair (.int .i64) (.int .i64))) r_39.1)], [(0, 4), (1, 5)], 6⟩), (30, ⟨11, 0, [.c (.imm (.slice (.pair (.int .i64) (.pair (.int .i64) (.int .i64)))) l_1), .c (.val (.int .i64 at_7))], [], .c (.val (.int .i64 r_56)), [], [], 6⟩), (33, ⟨21, 0, [.c (.imm (.slice (.pair (.int .i64) (.pair (.int .i64) (.int .i64)))) l_1), .c (.val (.int .i64 at_7))], [], .c (.val (.int .i64 r_58)), [], [], 6⟩), (39, ⟨14, 0, [.c (.imm (.slice (.pair (.int .i64) (.pair (.int .i64) (.int .i64)))) l_1), .agg [.val (.int .i64 i_9), .val (.int .i64 i_10)]], [], .c (.h 5), [(5, .row (.pair (.int .i64) (.pair (.int .i64) (.int .i64))) r_61)], [(5, 6)], 7⟩), (42, ⟨22, 0, [.c (.imm (.slice (.pair (.int .i64) (.pair (.int .i64) (.int .i64)))) l_1), .agg [.val (.int .i64 i_9), .val (.int .i64 i_10)]], [], .c (.h 5), [(5, .row (.pair (.int .i64) (.pair (.int .i64) (.int .i64))) r_63)], [(5, 7)], 8⟩), (43, ⟨12, 2, [.c (.h 0), .c (.h 1)], [(0, .row (.pair (.int .i64) (.pair (.int .i64) (.int .i64))) r_61), (1, .row (.pair (.int .i64) (.pair (.int .i64) (.int .i64))) r_63)], .c (.val (.bool r_65)), [(0, .row (.pair (.int .i64) (.pair (.int .i64) (.int .i64))) r_61), (1, .row (.pair (.int .i64) (.pair (.int .i64) (.int .i64))) r_63)], [(0, 6), (1, 7)], 8⟩)] [(62, true), (67, true), (72, true), (77, true), (82, true), (91, true)] (calls_cons (spans_Is_spec K l_1 n_8 r_43 h_44) (by kernel_rfl) (calls_cons (palinoderef15_Is_spec K l_1 n_8 r_45 h_46) (by kernel_rfl) (calls_cons (palinodelaw15_same_rg_spec K r_27.1 r_31.1 r_49 h_50) (by kernel_rfl) (calls_cons (palinodelaw15_same_rr_spec K r_35.1 r_39.1 r_53 h_54) (by kernel_rfl) (calls_cons (spans_At_spec K l_1 at_7 r_56 h_57) (by kernel_rfl) (calls_cons (palinoderef15_At_spec K l_1 at_7 r_58 h_59) (by kernel_rfl) (calls_cons (spans_In_spec K l_1 i_9 i_10 r_61 h_62) (by kernel_rfl) (calls_cons (palinodelaw15_in_spec K l_1 i_9 i_10 r_63 h_64) (by kernel_rfl) (calls_cons (palinodelaw15_same_rr_spec K r_61 r_63 r_65 h_66) (by kernel_rfl) calls_nil))))))))) 6 [12] [] ⟨[(12, .c (.val (.bool r_65)))], [], 8⟩ [(r_43 == r_45) = true, (r_27.2 == r_31.2) = true, r_49 = true, (r_35.2 == r_39.2) = true, r_53 = true, (r_56 == r_58) = true] (by kernel_rfl) rfl rfl (ap2 b_47 (ap2 b_48 (ap2 b_51 (ap2 b_52 (ap2 b_55 (ap1 b_60)))))) (by kernel_rfl) (by kernel_rfl) ?_
                    have H_117 := Option.some.inj (show some r_65 = some r from H_116); subst H_117
                    refine VL_ret ?_
                    exact P_to [(12, .c (.val (.bool r_65)))] [] [] hn (by kernel_rfl) (by kernel_rfl) rfl rfl rfl (QF_retS (by kernel_rfl) (by kernel_rfl) rfl)
                  · have H_113 := of_f H_111 b_60
                    refine V_draw hN hn (by kernel_rfl) [(2, ⟨13, 0, [.c (.imm (.slice (.pair (.int .i64) (.pair (.int .i64) (.int .i64)))) l_1), .c (.val (.int .i64 n_8))], [], .c (.val (.bool r_43)), [], [], 6⟩), (5, ⟨20, 0, [.c (.imm (.slice (.pair (.int .i64) (.pair (.int .i64) (.int .i64)))) l_1), .c (.val (.int .i64 n_8))], [], .c (.val (.bool r_45)), [], [], 6⟩), (15, ⟨12, 1, [.c (.h 0), .c (.imm (.slice (.pair (.int .i64) (.pair (.int .i64) (.int .i64)))) r_31.1)], [(0, .row (.pair (.int .i64) (.pair (.int .i64) (.int .i64))) r_27.1)], .c (.val (.bool r_49)), [(0, .row (.pair (.int .i64) (.pair (.int .i64) (.int .i64))) r_27.1)], [(0, 3)], 6⟩), (25, ⟨12, 2, [.c (.h 0), .c (.h 1)], [(0, .row (.pair (.int .i64) (.pair (.int .i64) (.int .i64))) r_35.1), (1, .row (.pair (.int .i64) (.pair (.int .i64) (.int .i64))) r_39.1)], .c (.val (.bool r_53)), [(0, .row (.pair (.int .i64) (.pair (.int .i64) (.int .i64))) r_35.1), (1, .row (.pair (.int .i64) (.pair (.int .i64) (.int .i64))) r_39.1)], [(0, 4), (1, 5)], 6⟩), (30, ⟨11, 0, [.c (.imm (.slice (.pair (.int .i64) (.pair (.int .i64) (.int .i64)))) l_1), .c (.val (.int .i64 at_7))], [], .c (.val (.int .i64 r_56)), [], [], 6⟩), (33, ⟨21, 0, [.c (.imm (.slice (.pair (.int .i64) (.pair (.int .i64) (.int .i64)))) l_1), .c (.val (.int .i64 at_7))], [], .c (.val (.int .i64 r_58)), [], [], 6⟩)] [(62, true), (67, true), (72, true), (77, true), (82, true), (91, false)] (calls_cons (spans_Is_spec K l_1 n_8 r_43 h_44) (by kernel_rfl) (calls_cons (palinoderef15_Is_spec K l_1 n_8 r_45 h_46) (by kernel_rfl) (calls_cons (palinodelaw15_same_rg_spec K r_27.1 r_31.1 r_49 h_50) (by kernel_rfl) (calls_cons (palinodelaw15_same_rr_spec K r_35.1 r_39.1 r_53 h_54) (by kernel_rfl) (calls_cons (spans_At_spec K l_1 at_7 r_56 h_57) (by kernel_rfl) (calls_cons (palinoderef15_At_spec K l_1 at_7 r_58 h_59) (by kernel_rfl) calls_nil)))))) 6 [12] [] ⟨[(12, .c (.val (.bool false)))], [], 6⟩ [(r_43 == r_45) = true, (r_27.2 == r_31.2) = true, r_49 = true, (r_35.2 == r_39.2) = true, r_53 = true, (r_56 == r_58) = false] (by kernel_rfl) rfl rfl (ap2 b_47 (ap2 b_48 (ap2 b_51 (ap2 b_52 (ap2 b_55 (ap1 b_60)))))) (by kernel_rfl) (by kernel_rfl) ?_
                    have H_118 := Option.some.inj (show some false = some r from H_113); subst H_118
                    refine VL_ret ?_
                    exact P_to [(12, .c (.val (.bool false)))] [] [] hn (by kernel_rfl) (by kernel_rfl) rfl rfl rfl (QF_retS (by kernel_rfl) (by kernel_rfl) rfl)
                · have H_109 := of_f H_107 b_55
                  refine V_draw hN hn (by kernel_rfl) [(2, ⟨13, 0, [.c (.imm (.slice (.pair (.int .i64) (.pair (.int .i64) (.int .i64)))) l_1), .c (.val (.int .i64 n_8))], [], .c (.val (.bool r_43)), [], [], 6⟩), (5, ⟨20, 0, [.c (.imm (.slice (.pair (.int .i64) (.pair (.int .i64) (.int .i64)))) l_1), .c (.val (.int .i64 n_8))], [], .c (.val (.bool r_45)), [], [], 6⟩), (15, ⟨12, 1, [.c (.h 0), .c (.imm (.slice (.pair (.int .i64) (.pair (.int .i64) (.int .i64)))) r_31.1)], [(0, .row (.pair (.int .i64) (.pair (.int .i64) (.int .i64))) r_27.1)], .c (.val (.bool r_49)), [(0, .row (.pair (.int .i64) (.pair (.int .i64) (.int .i64))) r_27.1)], [(0, 3)], 6⟩), (25, ⟨12, 2, [.c (.h 0), .c (.h 1)], [(0, .row (.pair (.int .i64) (.pair (.int .i64) (.int .i64))) r_35.1), (1, .row (.pair (.int .i64) (.pair (.int .i64) (.int .i64))) r_39.1)], .c (.val (.bool r_53)), [(0, .row (.pair (.int .i64) (.pair (.int .i64) (.int .i64))) r_35.1), (1, .row (.pair (.int .i64) (.pair (.int .i64) (.int .i64))) r_39.1)], [(0, 4), (1, 5)], 6⟩)] [(62, true), (67, true), (72, true), (77, true), (82, false)] (calls_cons (spans_Is_spec K l_1 n_8 r_43 h_44) (by kernel_rfl) (calls_cons (palinoderef15_Is_spec K l_1 n_8 r_45 h_46) (by kernel_rfl) (calls_cons (palinodelaw15_same_rg_spec K r_27.1 r_31.1 r_49 h_50) (by kernel_rfl) (calls_cons (palinodelaw15_same_rr_spec K r_35.1 r_39.1 r_53 h_54) (by kernel_rfl) calls_nil)))) 6 [12] [] ⟨[(12, .c (.val (.bool false)))], [], 6⟩ [(r_43 == r_45) = true, (r_27.2 == r_31.2) = true, r_49 = true, (r_35.2 == r_39.2) = true, r_53 = false] (by kernel_rfl) rfl rfl (ap2 b_47 (ap2 b_48 (ap2 b_51 (ap2 b_52 (ap1 b_55))))) (by kernel_rfl) (by kernel_rfl) ?_
                  have H_119 := Option.some.inj (show some false = some r from H_109); subst H_119
                  refine VL_ret ?_
                  exact P_to [(12, .c (.val (.bool false)))] [] [] hn (by kernel_rfl) (by kernel_rfl) rfl rfl rfl (QF_retS (by kernel_rfl) (by kernel_rfl) rfl)
              · have H_106 := of_f H_103 b_52
                refine V_draw hN hn (by kernel_rfl) [(2, ⟨13, 0, [.c (.imm (.slice (.pair (.int .i64) (.pair (.int .i64) (.int .i64)))) l_1), .c (.val (.int .i64 n_8))], [], .c (.val (.bool r_43)), [], [], 6⟩), (5, ⟨20, 0, [.c (.imm (.slice (.pair (.int .i64) (.pair (.int .i64) (.int .i64)))) l_1), .c (.val (.int .i64 n_8))], [], .c (.val (.bool r_45)), [], [], 6⟩), (15, ⟨12, 1, [.c (.h 0), .c (.imm (.slice (.pair (.int .i64) (.pair (.int .i64) (.int .i64)))) r_31.1)], [(0, .row (.pair (.int .i64) (.pair (.int .i64) (.int .i64))) r_27.1)], .c (.val (.bool r_49)), [(0, .row (.pair (.int .i64) (.pair (.int .i64) (.int .i64))) r_27.1)], [(0, 3)], 6⟩)] [(62, true), (67, true), (72, true), (77, false)] (calls_cons (spans_Is_spec K l_1 n_8 r_43 h_44) (by kernel_rfl) (calls_cons (palinoderef15_Is_spec K l_1 n_8 r_45 h_46) (by kernel_rfl) (calls_cons (palinodelaw15_same_rg_spec K r_27.1 r_31.1 r_49 h_50) (by kernel_rfl) calls_nil))) 6 [12] [] ⟨[(12, .c (.val (.bool false)))], [], 6⟩ [(r_43 == r_45) = true, (r_27.2 == r_31.2) = true, r_49 = true, (r_35.2 == r_39.2) = false] (by kernel_rfl) rfl rfl (ap2 b_47 (ap2 b_48 (ap2 b_51 (ap1 b_52)))) (by kernel_rfl) (by kernel_rfl) ?_
                have H_120 := Option.some.inj (show some false = some r from H_106); subst H_120
                refine VL_ret ?_
                exact P_to [(12, .c (.val (.bool false)))] [] [] hn (by kernel_rfl) (by kernel_rfl) rfl rfl rfl (QF_retS (by kernel_rfl) (by kernel_rfl) rfl)
            · have H_104 := of_f H_102 b_51
              refine V_draw hN hn (by kernel_rfl) [(2, ⟨13, 0, [.c (.imm (.slice (.pair (.int .i64) (.pair (.int .i64) (.int .i64)))) l_1), .c (.val (.int .i64 n_8))], [], .c (.val (.bool r_43)), [], [], 6⟩), (5, ⟨20, 0, [.c (.imm (.slice (.pair (.int .i64) (.pair (.int .i64) (.int .i64)))) l_1), .c (.val (.int .i64 n_8))], [], .c (.val (.bool r_45)), [], [], 6⟩), (15, ⟨12, 1, [.c (.h 0), .c (.imm (.slice (.pair (.int .i64) (.pair (.int .i64) (.int .i64)))) r_31.1)], [(0, .row (.pair (.int .i64) (.pair (.int .i64) (.int .i64))) r_27.1)], .c (.val (.bool r_49)), [(0, .row (.pair (.int .i64) (.pair (.int .i64) (.int .i64))) r_27.1)], [(0, 3)], 6⟩)] [(62, true), (67, true), (72, false)] (calls_cons (spans_Is_spec K l_1 n_8 r_43 h_44) (by kernel_rfl) (calls_cons (palinoderef15_Is_spec K l_1 n_8 r_45 h_46) (by kernel_rfl) (calls_cons (palinodelaw15_same_rg_spec K r_27.1 r_31.1 r_49 h_50) (by kernel_rfl) calls_nil))) 6 [12] [] ⟨[(12, .c (.val (.bool false)))], [], 6⟩ [(r_43 == r_45) = true, (r_27.2 == r_31.2) = true, r_49 = false] (by kernel_rfl) rfl rfl (ap2 b_47 (ap2 b_48 (ap1 b_51))) (by kernel_rfl) (by kernel_rfl) ?_
              have H_121 := Option.some.inj (show some false = some r from H_104); subst H_121
              refine VL_ret ?_
              exact P_to [(12, .c (.val (.bool false)))] [] [] hn (by kernel_rfl) (by kernel_rfl) rfl rfl rfl (QF_retS (by kernel_rfl) (by kernel_rfl) rfl)
          · have H_101 := of_f H_98 b_48
            refine V_draw hN hn (by kernel_rfl) [(2, ⟨13, 0, [.c (.imm (.slice (.pair (.int .i64) (.pair (.int .i64) (.int .i64)))) l_1), .c (.val (.int .i64 n_8))], [], .c (.val (.bool r_43)), [], [], 6⟩), (5, ⟨20, 0, [.c (.imm (.slice (.pair (.int .i64) (.pair (.int .i64) (.int .i64)))) l_1), .c (.val (.int .i64 n_8))], [], .c (.val (.bool r_45)), [], [], 6⟩)] [(62, true), (67, false)] (calls_cons (spans_Is_spec K l_1 n_8 r_43 h_44) (by kernel_rfl) (calls_cons (palinoderef15_Is_spec K l_1 n_8 r_45 h_46) (by kernel_rfl) calls_nil)) 6 [12] [] ⟨[(12, .c (.val (.bool false)))], [], 6⟩ [(r_43 == r_45) = true, (r_27.2 == r_31.2) = false] (by kernel_rfl) rfl rfl (ap2 b_47 (ap1 b_48)) (by kernel_rfl) (by kernel_rfl) ?_
            have H_122 := Option.some.inj (show some false = some r from H_101); subst H_122
            refine VL_ret ?_
            exact P_to [(12, .c (.val (.bool false)))] [] [] hn (by kernel_rfl) (by kernel_rfl) rfl rfl rfl (QF_retS (by kernel_rfl) (by kernel_rfl) rfl)
        · have H_99 := of_f H_97 b_47
          refine V_draw hN hn (by kernel_rfl) [(2, ⟨13, 0, [.c (.imm (.slice (.pair (.int .i64) (.pair (.int .i64) (.int .i64)))) l_1), .c (.val (.int .i64 n_8))], [], .c (.val (.bool r_43)), [], [], 6⟩), (5, ⟨20, 0, [.c (.imm (.slice (.pair (.int .i64) (.pair (.int .i64) (.int .i64)))) l_1), .c (.val (.int .i64 n_8))], [], .c (.val (.bool r_45)), [], [], 6⟩)] [(62, false)] (calls_cons (spans_Is_spec K l_1 n_8 r_43 h_44) (by kernel_rfl) (calls_cons (palinoderef15_Is_spec K l_1 n_8 r_45 h_46) (by kernel_rfl) calls_nil)) 6 [12] [] ⟨[(12, .c (.val (.bool false)))], [], 6⟩ [(r_43 == r_45) = false] (by kernel_rfl) rfl rfl (ap1 b_47) (by kernel_rfl) (by kernel_rfl) ?_
          have H_123 := Option.some.inj (show some false = some r from H_99); subst H_123
          refine VL_ret ?_
          exact P_to [(12, .c (.val (.bool false)))] [] [] hn (by kernel_rfl) (by kernel_rfl) rfl rfl rfl (QF_retS (by kernel_rfl) (by kernel_rfl) rfl)

end Go.Pal
