/- The Go functions that ComposeThree reaches compute what the plain functions say: part 1, printed by a program of this workplace. -/
import Derived.Test.YtjnhbaphmhbaaaaChecked
import Derived.Test.YtjnhbaphmhbaaaaWalkComposeThree0
namespace Go.Pal
open Go Go.Proofs
set_option maxRecDepth 100000
set_option linter.unusedVariables false

theorem delta_Apply_spec (K : Nat) (d_1 : Int) (d_2 : (List (Int × (Int × ByteArray)))) (s_3 : ByteArray) (r : (ByteArray × Int)) (H : delta_Apply K d_1 d_2 s_3 = some r) : Spec Try.prog 22 0 [.agg [.val (.int .i64 d_1), .imm (.slice (.pair (.int .i64) (.pair (.int .i64) .str))) d_2], .c (.val (.string s_3))] [] (.tup [(false, [.val (.string r.1)]), (false, [.val (.int .i64 r.2)])]) [] := by
  refine Spec_mk (fn := Try.f22) (c := (Try.f22.body).get!) Try.func22 (by kernel_rfl) rfl ?_
  intro C hN hn
  replace hN : C.N = 53 := hN
  unfold delta_Apply at H
  refine V_run hN hn 3 0 [1, 2] [0] ⟨[(1, .c (.val (.string s_3))), (2, .c (.h 0))], [(0, .box [.val (.int .i64 d_1), .imm (.slice (.pair (.int .i64) (.pair (.int .i64) .str))) d_2])], 1⟩ [] (by kernel_rfl) rfl rfl ap0 ?_
  refine VL_block ?_
  refine V_run hN hn 1 1 [1, 2] [0] ⟨[(1, .c (.val (.string s_3))), (2, .c (.h 0))], [(0, .box [.val (.int .i64 d_1), .imm (.slice (.pair (.int .i64) (.pair (.int .i64) .str))) d_2])], 1⟩ [] (by kernel_rfl) rfl rfl ap0 ?_
  obtain ⟨r_6, h_7, H_43⟩ := of_bind H
  refine V_reg hN hn [(1, ⟨30, 0, [.agg [.val (.int .i64 d_1), .imm (.slice (.pair (.int .i64) (.pair (.int .i64) .str))) d_2]], [], .c (.val (.bool r_6)), [], [], 1⟩)] [] (calls_cons (delta_Is_spec K d_1 d_2 r_6 h_7) (by kernel_rfl) calls_nil) 1 [1, 2, 10] [0] ⟨[(1, .c (.val (.string s_3))), (2, .c (.h 0)), (10, .c (.val (.bool (!r_6))))], [(0, .box [.val (.int .i64 d_1), .imm (.slice (.pair (.int .i64) (.pair (.int .i64) .str))) d_2])], 1⟩ [] (by kernel_rfl) rfl rfl ap0 (by kernel_rfl) (by kernel_rfl) ?_
  refine VL_cond ((!r_6)) (by kernel_rfl) ?_ ?_
  · intro b_9; have H_44 := of_t H_43 b_9
    refine V_run hN hn 2 1 [4, 5] [] ⟨[(4, .c (.val (.string (ByteArray.mk #[])))), (5, .c (.val (.int .i64 (12 : Int))))], [], 1⟩ [] (by kernel_rfl) rfl rfl ap0 ?_
    have H_46 := Option.some.inj (show some ((ByteArray.mk #[]), (12 : Int)) = some r from H_44); subst H_46
    refine VL_ret ?_
    refine QB_ret ?_
    exact P_to [(4, .c (.val (.string (ByteArray.mk #[])))), (5, .c (.val (.int .i64 (12 : Int))))] [] [] hn (by kernel_rfl) (by kernel_rfl) rfl rfl rfl (QF_retS (by kernel_rfl) (by kernel_rfl) rfl)
  · intro b_9; have H_45 := of_f H_43 b_9
    refine V_run hN hn 2 1 [1, 2, 14] [0] ⟨[(1, .c (.val (.string s_3))), (2, .c (.h 0)), (14, .c (.val (.bool ((((ByteArray.size s_3) : Nat) : Int) != d_1))))], [(0, .box [.val (.int .i64 d_1), .imm (.slice (.pair (.int .i64) (.pair (.int .i64) .str))) d_2])], 1⟩ [] (by kernel_rfl) rfl rfl ap0 ?_
    refine VL_cond (((((ByteArray.size s_3) : Nat) : Int) != d_1)) (by kernel_rfl) ?_ ?_
    · intro b_12; have H_47 := of_t H_45 b_12
      refine V_run hN hn 2 1 [4, 5] [] ⟨[(4, .c (.val (.string (ByteArray.mk #[])))), (5, .c (.val (.int .i64 (80 : Int))))], [], 1⟩ [] (by kernel_rfl) rfl rfl ap0 ?_
      have H_49 := Option.some.inj (show some ((ByteArray.mk #[]), (80 : Int)) = some r from H_47); subst H_49
      refine VL_ret ?_
      refine QB_ret ?_
      exact P_to [(4, .c (.val (.string (ByteArray.mk #[])))), (5, .c (.val (.int .i64 (80 : Int))))] [] [] hn (by kernel_rfl) (by kernel_rfl) rfl rfl rfl (QF_retS (by kernel_rfl) (by kernel_rfl) rfl)
    · intro b_12; have H_48 := of_f H_45 b_12
      refine V_run hN hn 1 1 [1, 2, 14] [0] ⟨[(1, .c (.val (.string s_3))), (2, .c (.h 0)), (14, .c (.val (.bool ((((ByteArray.size s_3) : Nat) : Int) != d_1))))], [(0, .box [.val (.int .i64 d_1), .imm (.slice (.pair (.int .i64) (.pair (.int .i64) .str))) d_2])], 1⟩ [] (by kernel_rfl) rfl rfl ap0 ?_
      refine VL_nil (QB_end ?_)
      refine V_run hN hn 1 1 [1, 2, 14] [0] ⟨[(1, .c (.val (.string s_3))), (2, .c (.h 0)), (14, .c (.val (.bool ((((ByteArray.size s_3) : Nat) : Int) != d_1))))], [(0, .box [.val (.int .i64 d_1), .imm (.slice (.pair (.int .i64) (.pair (.int .i64) .str))) d_2])], 1⟩ [] (by kernel_rfl) rfl rfl ap0 ?_
      obtain ⟨r_16, h_17, H_50⟩ := of_bind H_48
      obtain ⟨c_18, H_51⟩ := of_if H_50
      refine V_reg hN hn [(1, ⟨26, 0, [.agg [.val (.int .i64 d_1), .imm (.slice (.pair (.int .i64) (.pair (.int .i64) .str))) d_2]], [], .c (.val (.int .i64 r_16)), [], [], 1⟩)] [] (calls_cons (delta_Size_spec K d_1 d_2 r_16 h_17) (by kernel_rfl) calls_nil) 1 [1, 2, 6] [0, 1] ⟨[(1, .c (.val (.string s_3))), (2, .c (.h 0)), (6, .c (.h 1))], [(0, .box [.val (.int .i64 d_1), .imm (.slice (.pair (.int .i64) (.pair (.int .i64) .str))) d_2]), (1, .row (.int .u8) (List.replicate (Int.toNat r_16) (0 : Int)))], 2⟩ [(0 : Int) ≤ r_16, r_16 ≤ r_16, r_16 * 1 ≤ (140737488355328 : Int), r_16 ≤ (9223372036854775807 : Int)] (by kernel_rfl) rfl rfl (ap2 c_18.1 (ap2 c_18.2.1 (ap2 c_18.2.2.1 (ap1 c_18.2.2.2)))) (by kernel_rfl) (by kernel_rfl) ?_
      refine V_run hN hn 5 2 [1, 6, 7, 24, 25, 26] [1] ⟨[(1, .c (.val (.string s_3))), (6, .c (.h 1)), (7, .c (.val (.int .i64 (0 : Int)))), (24, .c (.imm (.slice (.pair (.int .i64) (.pair (.int .i64) .str))) d_2)), (25, .c (.val (.int .i64 (((List.length d_2) : Nat) : Int)))), (26, .c (.val (.int .i64 (0 : Int))))], [(1, .row (.int .u8) (List.replicate (Int.toNat r_16) (0 : Int)))], 2⟩ [] (by kernel_rfl) rfl rfl ap0 ?_
      refine VL_block ?_
      refine V_to [(1, .c (.val (.string s_3))), (6, .c (.h 1)), (7, .c (.val (.int .i64 (0 : Int)))), (24, .c (.imm (.slice (.pair (.int .i64) (.pair (.int .i64) .str))) d_2)), (25, .c (.val (.int .i64 (((List.length d_2) : Nat) : Int)))), (26, .c (.val (.int .i64 (0 : Int))))] [(1, .row (.int .u8) (List.replicate (Int.toNat r_16) (0 : Int)))] [(1, 1)] hn (by kernel_rfl) (by kernel_rfl) rfl rfl rfl ?_
      refine VL_loop (X := ((List Int) × Int × Int)) (fun x => [(1, .c (.val (.string s_3))), (6, .c (.h 1)), (7, .c (.val (.int .i64 x.2.1))), (24, .c (.imm (.slice (.pair (.int .i64) (.pair (.int .i64) .str))) d_2)), (25, .c (.val (.int .i64 (((List.length d_2) : Nat) : Int)))), (26, .c (.val (.int .i64 x.2.2)))]) (fun x => [(1, .row (.int .u8) x.1)]) (fun k x => delta_Apply.l0 K d_2 s_3 k x.1 x.2.1 x.2.2 = some r) K ((List.replicate (Int.toNat r_16) (0 : Int)), (0 : Int), (0 : Int)) H_51 (fun _ h => no_none h) ?_
      intro k_32 x_32 H_52
      obtain ⟨out_31, n_20, t_21⟩ := x_32
      have H_53 : delta_Apply.l0 K d_2 s_3 (k_32 + 1) out_31 n_20 t_21 = some r := H_52
      rw [delta_Apply.l0] at H_53
      refine V_run hN hn 3 3 [1, 6, 7, 24, 25, 26, 27] [1] ⟨[(1, .c (.val (.string s_3))), (6, .c (.h 1)), (7, .c (.val (.int .i64 n_20))), (24, .c (.imm (.slice (.pair (.int .i64) (.pair (.int .i64) .str))) d_2)), (25, .c (.val (.int .i64 (((List.length d_2) : Nat) : Int)))), (26, .c (.val (.int .i64 t_21))), (27, .c (.val (.bool (decide (t_21 < (((List.length d_2) : Nat) : Int))))))], [(1, .row (.int .u8) out_31)], 3⟩ [] (by kernel_rfl) rfl rfl ap0 ?_
      refine VL_cond ((decide (t_21 < (((List.length d_2) : Nat) : Int)))) (by kernel_rfl) ?_ ?_
      · intro b_34; have H_54 := of_t H_53 b_34
        refine V_run hN hn 2 3 [1, 6, 7, 24, 25, 26, 27] [1] ⟨[(1, .c (.val (.string s_3))), (6, .c (.h 1)), (7, .c (.val (.int .i64 n_20))), (24, .c (.imm (.slice (.pair (.int .i64) (.pair (.int .i64) .str))) d_2)), (25, .c (.val (.int .i64 (((List.length d_2) : Nat) : Int)))), (26, .c (.val (.int .i64 t_21))), (27, .c (.val (.bool (decide (t_21 < (((List.length d_2) : Nat) : Int))))))], [(1, .row (.int .u8) out_31)], 3⟩ [] (by kernel_rfl) rfl rfl ap0 ?_
        refine VL_block ?_
        obtain ⟨c_36, H_56⟩ := of_if H_54
        refine V_run hN hn 3 3 [1, 6, 7, 9, 24, 25, 26] [1, 3] ⟨[(1, .c (.val (.string s_3))), (6, .c (.h 1)), (7, .c (.val (.int .i64 n_20))), (9, .c (.h 3)), (24, .c (.imm (.slice (.pair (.int .i64) (.pair (.int .i64) .str))) d_2)), (25, .c (.val (.int .i64 (((List.length d_2) : Nat) : Int)))), (26, .c (.val (.int .i64 t_21)))], [(1, .row (.int .u8) out_31), (3, .box [.val (.int .i64 (List.getD d_2 (Int.toNat t_21) ((0 : Int), ((0 : Int), ByteArray.empty))).1), .val (.int .i64 (List.getD d_2 (Int.toNat t_21) ((0 : Int), ((0 : Int), ByteArray.empty))).2.1), .val (.string (List.getD d_2 (Int.toNat t_21) ((0 : Int), ((0 : Int), ByteArray.empty))).2.2)])], 4⟩ [0 ≤ t_21, t_21 < (((List.length d_2) : Nat) : Int)] (by kernel_rfl) rfl rfl (ap2 c_36.1 (ap1 c_36.2)) ?_
        obtain ⟨c_37, H_57⟩ := of_if H_56
        refine V_draw hN hn (by kernel_rfl) [] [] calls_nil 4 [1, 6, 7, 9, 24, 25, 26] [1, 3] ⟨[(1, .c (.val (.string s_3))), (6, .c (.h 1)), (7, .c (.val (.int .i64 (IntKind.wrap .i64 (n_20 + (((List.length (List.take ((List.length out_31) - (Int.toNat n_20)) (List.map (fun b => (UInt8.toNat b : Int)) (Array.toList (ByteArray.data (ByteArray.extract s_3 (Int.toNat (List.getD d_2 (Int.toNat t_21) ((0 : Int), ((0 : Int), ByteArray.empty))).1) (Int.toNat (List.getD d_2 (Int.toNat t_21) ((0 : Int), ((0 : Int), ByteArray.empty))).2.1))))))) : Nat) : Int)))))), (9, .c (.h 3)), (24, .c (.imm (.slice (.pair (.int .i64) (.pair (.int .i64) .str))) d_2)), (25, .c (.val (.int .i64 (((List.length d_2) : Nat) : Int)))), (26, .c (.val (.int .i64 t_21)))], [(1, .row (.int .u8) (putAt out_31 (List.take ((List.length out_31) - (Int.toNat n_20)) (List.map (fun b => (UInt8.toNat b : Int)) (Array.toList (ByteArray.data (ByteArray.extract s_3 (Int.toNat (List.getD d_2 (Int.toNat t_21) ((0 : Int), ((0 : Int), ByteArray.empty))).1) (Int.toNat (List.getD d_2 (Int.toNat t_21) ((0 : Int), ((0 : Int), ByteArray.empty))).2.1)))))) (Int.toNat n_20))), (3, .box [.val (.int .i64 (List.getD d_2 (Int.toNat t_21) ((0 : Int), ((0 : Int), ByteArray.empty))).1), .val (.int .i64 (List.getD d_2 (Int.toNat t_21) ((0 : Int), ((0 : Int), ByteArray.empty))).2.1), .val (.string (List.getD d_2 (Int.toNat t_21) ((0 : Int), ((0 : Int), ByteArray.empty))).2.2)])], 4⟩ [(0 : Int) ≤ n_20, n_20 ≤ (((List.length out_31) : Nat) : Int), (0 : Int) ≤ (List.getD d_2 (Int.toNat t_21) ((0 : Int), ((0 : Int), ByteArray.empty))).1, (List.getD d_2 (Int.toNat t_21) ((0 : Int), ((0 : Int), ByteArray.empty))).1 ≤ (List.getD d_2 (Int.toNat t_21) ((0 : Int), ((0 : Int), ByteArray.empty))).2.1, (List.getD d_2 (Int.toNat t_21) ((0 : Int), ((0 : Int), ByteArray.empty))).2.1 ≤ (((ByteArray.size s_3) : Nat) : Int)] (by kernel_rfl) rfl rfl (ap2 c_37.1 (ap2 c_37.2.1 (ap2 c_37.2.2.1 (ap2 c_37.2.2.2.1 (ap1 c_37.2.2.2.2))))) (by kernel_rfl) (by kernel_rfl) ?_
        obtain ⟨c_38, H_58⟩ := of_if H_57
        refine V_draw hN hn (by kernel_rfl) [] [] calls_nil 4 [1, 6, 7, 24, 25, 26] [1] ⟨[(1, .c (.val (.string s_3))), (6, .c (.h 1)), (7, .c (.val (.int .i64 (IntKind.wrap .i64 ((IntKind.wrap .i64 (n_20 + (((List.length (List.take ((List.length out_31) - (Int.toNat n_20)) (List.map (fun b => (UInt8.toNat b : Int)) (Array.toList (ByteArray.data (ByteArray.extract s_3 (Int.toNat (List.getD d_2 (Int.toNat t_21) ((0 : Int), ((0 : Int), ByteArray.empty))).1) (Int.toNat (List.getD d_2 (Int.toNat t_21) ((0 : Int), ((0 : Int), ByteArray.empty))).2.1))))))) : Nat) : Int))) + (((List.length (List.take ((List.length (putAt out_31 (List.take ((List.length out_31) - (Int.toNat n_20)) (List.map (fun b => (UInt8.toNat b : Int)) (Array.toList (ByteArray.data (ByteArray.extract s_3 (Int.toNat (List.getD d_2 (Int.toNat t_21) ((0 : Int), ((0 : Int), ByteArray.empty))).1) (Int.toNat (List.getD d_2 (Int.toNat t_21) ((0 : Int), ((0 : Int), ByteArray.empty))).2.1)))))) (Int.toNat n_20))) - (Int.toNat (IntKind.wrap .i64 (n_20 + (((List.length (List.take ((List.length out_31) - (Int.toNat n_20)) (List.map (fun b => (UInt8.toNat b : Int)) (Array.toList (ByteArray.data (ByteArray.extract s_3 (Int.toNat (List.getD d_2 (Int.toNat t_21) ((0 : Int), ((0 : Int), ByteArray.empty))).1) (Int.toNat (List.getD d_2 (Int.toNat t_21) ((0 : Int), ((0 : Int), ByteArray.empty))).2.1))))))) : Nat) : Int))))) (List.map (fun b => (UInt8.toNat b : Int)) (Array.toList (ByteArray.data (List.getD d_2 (Int.toNat t_21) ((0 : Int), ((0 : Int), ByteArray.empty))).2.2))))) : Nat) : Int)))))), (24, .c (.imm (.slice (.pair (.int .i64) (.pair (.int .i64) .str))) d_2)), (25, .c (.val (.int .i64 (((List.length d_2) : Nat) : Int)))), (26, .c (.val (.int .i64 t_21)))], [(1, .row (.int .u8) (putAt (putAt out_31 (List.take ((List.length out_31) - (Int.toNat n_20)) (List.map (fun b => (UInt8.toNat b : Int)) (Array.toList (ByteArray.data (ByteArray.extract s_3 (Int.toNat (List.getD d_2 (Int.toNat t_21) ((0 : Int), ((0 : Int), ByteArray.empty))).1) (Int.toNat (List.getD d_2 (Int.toNat t_21) ((0 : Int), ((0 : Int), ByteArray.empty))).2.1)))))) (Int.toNat n_20)) (List.take ((List.length (putAt out_31 (List.take ((List.length out_31) - (Int.toNat n_20)) (List.map (fun b => (UInt8.toNat b : Int)) (Array.toList (ByteArray.data (ByteArray.extract s_3 (Int.toNat (List.getD d_2 (Int.toNat t_21) ((0 : Int), ((0 : Int), ByteArray.empty))).1) (Int.toNat (List.getD d_2 (Int.toNat t_21) ((0 : Int), ((0 : Int), ByteArray.empty))).2.1)))))) (Int.toNat n_20))) - (Int.toNat (IntKind.wrap .i64 (n_20 + (((List.length (List.take ((List.length out_31) - (Int.toNat n_20)) (List.map (fun b => (UInt8.toNat b : Int)) (Array.toList (ByteArray.data (ByteArray.extract s_3 (Int.toNat (List.getD d_2 (Int.toNat t_21) ((0 : Int), ((0 : Int), ByteArray.empty))).1) (Int.toNat (List.getD d_2 (Int.toNat t_21) ((0 : Int), ((0 : Int), ByteArray.empty))).2.1))))))) : Nat) : Int))))) (List.map (fun b => (UInt8.toNat b : Int)) (Array.toList (ByteArray.data (List.getD d_2 (Int.toNat t_21) ((0 : Int), ((0 : Int), ByteArray.empty))).2.2)))) (Int.toNat (IntKind.wrap .i64 (n_20 + (((List.length (List.take ((List.length out_31) - (Int.toNat n_20)) (List.map (fun b => (UInt8.toNat b : Int)) (Array.toList (ByteArray.data (ByteArray.extract s_3 (Int.toNat (List.getD d_2 (Int.toNat t_21) ((0 : Int), ((0 : Int), ByteArray.empty))).1) (Int.toNat (List.getD d_2 (Int.toNat t_21) ((0 : Int), ((0 : Int), ByteArray.empty))).2.1))))))) : Nat) : Int))))))], 4⟩ [(0 : Int) ≤ (IntKind.wrap .i64 (n_20 + (((List.length (List.take ((List.length out_31) - (Int.toNat n_20)) (List.map (fun b => (UInt8.toNat b : Int)) (Array.toList (ByteArray.data (ByteArray.extract s_3 (Int.toNat (List.getD d_2 (Int.toNat t_21) ((0 : Int), ((0 : Int), ByteArray.empty))).1) (Int.toNat (List.getD d_2 (Int.toNat t_21) ((0 : Int), ((0 : Int), ByteArray.empty))).2.1))))))) : Nat) : Int))), (IntKind.wrap .i64 (n_20 + (((List.length (List.take ((List.length out_31) - (Int.toNat n_20)) (List.map (fun b => (UInt8.toNat b : Int)) (Array.toList (ByteArray.data (ByteArray.extract s_3 (Int.toNat (List.getD d_2 (Int.toNat t_21) ((0 : Int), ((0 : Int), ByteArray.empty))).1) (Int.toNat (List.getD d_2 (Int.toNat t_21) ((0 : Int), ((0 : Int), ByteArray.empty))).2.1))))))) : Nat) : Int))) ≤ (((List.length (putAt out_31 (List.take ((List.length out_31) - (Int.toNat n_20)) (List.map (fun b => (UInt8.toNat b : Int)) (Array.toList (ByteArray.data (ByteArray.extract s_3 (Int.toNat (List.getD d_2 (Int.toNat t_21) ((0 : Int), ((0 : Int), ByteArray.empty))).1) (Int.toNat (List.getD d_2 (Int.toNat t_21) ((0 : Int), ((0 : Int), ByteArray.empty))).2.1)))))) (Int.toNat n_20))) : Nat) : Int)] (by kernel_rfl) rfl rfl (ap2 c_38.1 (ap1 c_38.2)) (by kernel_rfl) (by kernel_rfl) ?_
        refine VL_nil (QB_end ?_)
        refine V_run hN hn 1 4 [1, 6, 7, 24, 25, 26] [1] ⟨[(1, .c (.val (.string s_3))), (6, .c (.h 1)), (7, .c (.val (.int .i64 (IntKind.wrap .i64 ((IntKind.wrap .i64 (n_20 + (((List.length (List.take ((List.length out_31) - (Int.toNat n_20)) (List.map (fun b => (UInt8.toNat b : Int)) (Array.toList (ByteArray.data (ByteArray.extract s_3 (Int.toNat (List.getD d_2 (Int.toNat t_21) ((0 : Int), ((0 : Int), ByteArray.empty))).1) (Int.toNat (List.getD d_2 (Int.toNat t_21) ((0 : Int), ((0 : Int), ByteArray.empty))).2.1))))))) : Nat) : Int))) + (((List.length (List.take ((List.length (putAt out_31 (List.take ((List.length out_31) - (Int.toNat n_20)) (List.map (fun b => (UInt8.toNat b : Int)) (Array.toList (ByteArray.data (ByteArray.extract s_3 (Int.toNat (List.getD d_2 (Int.toNat t_21) ((0 : Int), ((0 : Int), ByteArray.empty))).1) (Int.toNat (List.getD d_2 (Int.toNat t_21) ((0 : Int), ((0 : Int), ByteArray.empty))).2.1)))))) (Int.toNat n_20))) - (Int.toNat (IntKind.wrap .i64 (n_20 + (((List.length (List.take ((List.length out_31) - (Int.toNat n_20)) (List.map (fun b => (UInt8.toNat b : Int)) (Array.toList (ByteArray.data (ByteArray.extract s_3 (Int.toNat (List.getD d_2 (Int.toNat t_21) ((0 : Int), ((0 : Int), ByteArray.empty))).1) (Int.toNat (List.getD d_2 (Int.toNat t_21) ((0 : Int), ((0 : Int), ByteArray.empty))).2.1))))))) : Nat) : Int))))) (List.map (fun b => (UInt8.toNat b : Int)) (Array.toList (ByteArray.data (List.getD d_2 (Int.toNat t_21) ((0 : Int), ((0 : Int), ByteArray.empty))).2.2))))) : Nat) : Int)))))), (24, .c (.imm (.slice (.pair (.int .i64) (.pair (.int .i64) .str))) d_2)), (25, .c (.val (.int .i64 (((List.length d_2) : Nat) : Int)))), (26, .c (.val (.int .i64 (IntKind.wrap .i64 (t_21 + (1 : Int))))))], [(1, .row (.int .u8) (putAt (putAt out_31 (List.take ((List.length out_31) - (Int.toNat n_20)) (List.map (fun b => (UInt8.toNat b : Int)) (Array.toList (ByteArray.data (ByteArray.extract s_3 (Int.toNat (List.getD d_2 (Int.toNat t_21) ((0 : Int), ((0 : Int), ByteArray.empty))).1) (Int.toNat (List.getD d_2 (Int.toNat t_21) ((0 : Int), ((0 : Int), ByteArray.empty))).2.1)))))) (Int.toNat n_20)) (List.take ((List.length (putAt out_31 (List.take ((List.length out_31) - (Int.toNat n_20)) (List.map (fun b => (UInt8.toNat b : Int)) (Array.toList (ByteArray.data (ByteArray.extract s_3 (Int.toNat (List.getD d_2 (Int.toNat t_21) ((0 : Int), ((0 : Int), ByteArray.empty))).1) (Int.toNat (List.getD d_2 (Int.toNat t_21) ((0 : Int), ((0 : Int), ByteArray.empty))).2.1)))))) (Int.toNat n_20))) - (Int.toNat (IntKind.wrap .i64 (n_20 + (((List.length (List.take ((List.length out_31) - (Int.toNat n_20)) (List.map (fun b => (UInt8.toNat b : Int)) (Array.toList (ByteArray.data (ByteArray.extract s_3 (Int.toNat (List.getD d_2 (Int.toNat t_21) ((0 : Int), ((0 : Int), ByteArray.empty))).1) (Int.toNat (List.getD d_2 (Int.toNat t_21) ((0 : Int), ((0 : Int), ByteArray.empty))).2.1))))))) : Nat) : Int))))) (List.map (fun b => (UInt8.toNat b : Int)) (Array.toList (ByteArray.data (List.getD d_2 (Int.toNat t_21) ((0 : Int), ((0 : Int), ByteArray.empty))).2.2)))) (Int.toNat (IntKind.wrap .i64 (n_20 + (((List.length (List.take ((List.length out_31) - (Int.toNat n_20)) (List.map (fun b => (UInt8.toNat b : Int)) (Array.toList (ByteArray.data (ByteArray.extract s_3 (Int.toNat (List.getD d_2 (Int.toNat t_21) ((0 : Int), ((0 : Int), ByteArray.empty))).1) (Int.toNat (List.getD d_2 (Int.toNat t_21) ((0 : Int), ((0 : Int), ByteArray.empty))).2.1))))))) : Nat) : Int))))))], 4⟩ [] (by kernel_rfl) rfl rfl ap0 ?_
        refine VL_nil ?_
        exact V_roundEnd ((putAt (putAt out_31 (List.take ((List.length out_31) - (Int.toNat n_20)) (List.map (fun b => (UInt8.toNat b : Int)) (Array.toList (ByteArray.data (ByteArray.extract s_3 (Int.toNat (List.getD d_2 (Int.toNat t_21) ((0 : Int), ((0 : Int), ByteArray.empty))).1) (Int.toNat (List.getD d_2 (Int.toNat t_21) ((0 : Int), ((0 : Int), ByteArray.empty))).2.1)))))) (Int.toNat n_20)) (List.take ((List.length (putAt out_31 (List.take ((List.length out_31) - (Int.toNat n_20)) (List.map (fun b => (UInt8.toNat b : Int)) (Array.toList (ByteArray.data (ByteArray.extract s_3 (Int.toNat (List.getD d_2 (Int.toNat t_21) ((0 : Int), ((0 : Int), ByteArray.empty))).1) (Int.toNat (List.getD d_2 (Int.toNat t_21) ((0 : Int), ((0 : Int), ByteArray.empty))).2.1)))))) (Int.toNat n_20))) - (Int.toNat (IntKind.wrap .i64 (n_20 + (((List.length (List.take ((List.length out_31) - (Int.toNat n_20)) (List.map (fun b => (UInt8.toNat b : Int)) (Array.toList (ByteArray.data (ByteArray.extract s_3 (Int.toNat (List.getD d_2 (Int.toNat t_21) ((0 : Int), ((0 : Int), ByteArray.empty))).1) (Int.toNat (List.getD d_2 (Int.toNat t_21) ((0 : Int), ((0 : Int), ByteArray.empty))).2.1))))))) : Nat) : Int))))) (List.map (fun b => (UInt8.toNat b : Int)) (Array.toList (ByteArray.data (List.getD d_2 (Int.toNat t_21) ((0 : Int), ((0 : Int), ByteArray.empty))).2.2)))) (Int.toNat (IntKind.wrap .i64 (n_20 + (((List.length (List.take ((List.length out_31) - (Int.toNat n_20)) (List.map (fun b => (UInt8.toNat b : Int)) (Array.toList (ByteArray.data (ByteArray.extract s_3 (Int.toNat (List.getD d_2 (Int.toNat t_21) ((0 : Int), ((0 : Int), ByteArray.empty))).1) (Int.toNat (List.getD d_2 (Int.toNat t_21) ((0 : Int), ((0 : Int), ByteArray.empty))).2.1))))))) : Nat) : Int))))), (IntKind.wrap .i64 ((IntKind.wrap .i64 (n_20 + (((List.length (List.take ((List.length out_31) - (Int.toNat n_20)) (List.map (fun b => (UInt8.toNat b : Int)) (Array.toList (ByteArray.data (ByteArray.extract s_3 (Int.toNat (List.getD d_2 (Int.toNat t_21) ((0 : Int), ((0 : Int), ByteArray.empty))).1) (Int.toNat (List.getD d_2 (Int.toNat t_21) ((0 : Int), ((0 : Int), ByteArray.empty))).2.1))))))) : Nat) : Int))) + (((List.length (List.take ((List.length (putAt out_31 (List.take ((List.length out_31) - (Int.toNat n_20)) (List.map (fun b => (UInt8.toNat b : Int)) (Array.toList (ByteArray.data (ByteArray.extract s_3 (Int.toNat (List.getD d_2 (Int.toNat t_21) ((0 : Int), ((0 : Int), ByteArray.empty))).1) (Int.toNat (List.getD d_2 (Int.toNat t_21) ((0 : Int), ((0 : Int), ByteArray.empty))).2.1)))))) (Int.toNat n_20))) - (Int.toNat (IntKind.wrap .i64 (n_20 + (((List.length (List.take ((List.length out_31) - (Int.toNat n_20)) (List.map (fun b => (UInt8.toNat b : Int)) (Array.toList (ByteArray.data (ByteArray.extract s_3 (Int.toNat (List.getD d_2 (Int.toNat t_21) ((0 : Int), ((0 : Int), ByteArray.empty))).1) (Int.toNat (List.getD d_2 (Int.toNat t_21) ((0 : Int), ((0 : Int), ByteArray.empty))).2.1))))))) : Nat) : Int))))) (List.map (fun b => (UInt8.toNat b : Int)) (Array.toList (ByteArray.data (List.getD d_2 (Int.toNat t_21) ((0 : Int), ((0 : Int), ByteArray.empty))).2.2))))) : Nat) : Int))), (IntKind.wrap .i64 (t_21 + (1 : Int)))) H_58 [(1, 1)] hn (by kernel_rfl) (by kernel_rfl) rfl rfl rfl
      · intro b_34; have H_55 := of_f H_53 b_34
        refine VL_exit ?_
        refine QL_exit ?_
        refine QB_here ?_
        refine V_run hN hn 2 3 [4, 5] [] ⟨[(4, .c (.val (.string (ofBytes out_31)))), (5, .c (.val (.int .i64 (0 : Int))))], [], 3⟩ [] (by kernel_rfl) rfl rfl ap0 ?_
        have H_59 := Option.some.inj (show some ((ofBytes out_31), (0 : Int)) = some r from H_55); subst H_59
        refine VL_ret ?_
        exact P_to [(4, .c (.val (.string (ofBytes out_31)))), (5, .c (.val (.int .i64 (0 : Int))))] [] [] hn (by kernel_rfl) (by kernel_rfl) rfl rfl rfl (QF_retS (by kernel_rfl) (by kernel_rfl) rfl)

theorem delta_Keep_spec (K : Nat) (base_1 : Int) (r : (Int × (List (Int × (Int × ByteArray))))) (H : delta_Keep K base_1 = some r) : Spec Try.prog 25 0 [.c (.val (.int .i64 base_1))] [] (.agg [.val (.int .i64 r.1), .h 2]) [(2, .row (.pair (.int .i64) (.pair (.int .i64) .str)) r.2)] := by
  refine Spec_mk (fn := Try.f25) (c := (Try.f25.body).get!) Try.func25 (by kernel_rfl) rfl ?_
  intro C hN hn
  replace hN : C.N = 19 := hN
  unfold delta_Keep at H
  refine V_run hN hn 3 0 [0, 2] [0] ⟨[(0, .c (.val (.int .i64 base_1))), (2, .c (.h 0))], [(0, .box [.val (.int .i64 (0 : Int)), .val (.slice none 0 0)])], 1⟩ [] (by kernel_rfl) rfl rfl ap0 ?_
  obtain ⟨r_3, h_4, H_13⟩ := of_bind H
  refine V_reg hN hn [(3, ⟨31, 0, [.c (.val (.int .i64 (mn2 (mx2 base_1 (0 : Int)) (20000 : Int))))], [], .c (.h 0), [(0, .box [.val (.int .i64 (mn2 (mx2 base_1 (0 : Int)) (20000 : Int))), .val (.slice none 0 0)])], [(0, 1)], 2⟩)] [] (calls_cons (delta_NewMaker_spec K (mn2 (mx2 base_1 (0 : Int)) (20000 : Int)) r_3 h_4) (by kernel_rfl) calls_nil) 1 [2, 3] [0, 1] ⟨[(2, .c (.h 0)), (3, .c (.h 1))], [(0, .box [.val (.int .i64 (0 : Int)), .val (.slice none 0 0)]), (1, .box [.val (.int .i64 (mn2 (mx2 base_1 (0 : Int)) (20000 : Int))), .val (.slice none 0 0)])], 2⟩ [] (by kernel_rfl) rfl rfl ap0 (by kernel_rfl) (by kernel_rfl) ?_
  refine V_run hN hn 1 2 [2, 3] [0, 1] ⟨[(2, .c (.h 0)), (3, .c (.h 1))], [(0, .box [.val (.int .i64 (0 : Int)), .val (.slice none 0 0)]), (1, .box [.val (.int .i64 (mn2 (mx2 base_1 (0 : Int)) (20000 : Int))), .val (.slice none 0 0)])], 2⟩ [] (by kernel_rfl) rfl rfl ap0 ?_
  obtain ⟨r_7, h_8, H_14⟩ := of_bind H_13
  refine V_reg hN hn [(6, ⟨37, 1, [.c (.h 0), .c (.val (.int .i64 (0 : Int))), .c (.val (.int .i64 (mn2 (mx2 base_1 (0 : Int)) (20000 : Int))))], [(0, .box [.val (.int .i64 (mn2 (mx2 base_1 (0 : Int)) (20000 : Int))), .val (.slice none 0 0)])], .tup [], [(0, .box [.val (.int .i64 (mn2 (mx2 base_1 (0 : Int)) (20000 : Int))), .h 3]), (3, .row (.pair (.int .i64) (.pair (.int .i64) .str)) r_7)], [(0, 1), (3, 2)], 3⟩)] [] (calls_cons (delta_Maker_Copy_bgg_48161_spec K (mn2 (mx2 base_1 (0 : Int)) (20000 : Int)) (0 : Int) (mn2 (mx2 base_1 (0 : Int)) (20000 : Int)) r_7 h_8) (by kernel_rfl) calls_nil) 2 [2, 3] [0, 1, 2] ⟨[(2, .c (.h 0)), (3, .c (.h 1))], [(0, .box [.val (.int .i64 (0 : Int)), .val (.slice none 0 0)]), (1, .box [.val (.int .i64 (mn2 (mx2 base_1 (0 : Int)) (20000 : Int))), .h 2]), (2, .row (.pair (.int .i64) (.pair (.int .i64) .str)) r_7)], 3⟩ [] (by kernel_rfl) rfl rfl ap0 (by kernel_rfl) (by kernel_rfl) ?_
  refine V_run hN hn 2 3 [2] [0, 2] ⟨[(2, .c (.h 0))], [(0, .box [.val (.int .i64 (mn2 (mx2 base_1 (0 : Int)) (20000 : Int))), .h 2]), (2, .row (.pair (.int .i64) (.pair (.int .i64) .str)) r_7)], 3⟩ [] (by kernel_rfl) rfl rfl ap0 ?_
  have H_15 := Option.some.inj (show some ((mn2 (mx2 base_1 (0 : Int)) (20000 : Int)), r_7) = some r from H_14); subst H_15
  refine VL_ret ?_
  exact P_to [(2, .c (.h 0))] [(0, .box [.val (.int .i64 (mn2 (mx2 base_1 (0 : Int)) (20000 : Int))), .h 2]), (2, .row (.pair (.int .i64) (.pair (.int .i64) .str)) r_7)] [(0, 0), (2, 2)] hn (by kernel_rfl) (by kernel_rfl) rfl rfl rfl (QF_retS (by kernel_rfl) (by kernel_rfl) rfl)

theorem slices_Equal_gr_spec (K : Nat) (s1_1 : (List (Int × (Int × ByteArray)))) (s2_2 : (List (Int × (Int × ByteArray)))) (r : Bool) (H : slices_Equal_gr K s1_1 s2_2 = some r) : Spec Try.prog 41 1 [.c (.imm (.slice (.pair (.int .i64) (.pair (.int .i64) .str))) s1_1), .c (.h 0)] [(0, .row (.pair (.int .i64) (.pair (.int .i64) .str)) s2_2)] (.c (.val (.bool r))) [(0, .row (.pair (.int .i64) (.pair (.int .i64) .str)) s2_2)] := by
  refine Spec_mk (fn := Try.f41) (c := (Try.f41.body).get!) Try.func41 (by kernel_rfl) rfl ?_
  intro C hN hn
  replace hN : C.N = 26 := hN
  unfold slices_Equal_gr at H
  refine V_run hN hn 5 1 [0, 1, 10] [0] ⟨[(0, .c (.imm (.slice (.pair (.int .i64) (.pair (.int .i64) .str))) s1_1)), (1, .c (.h 0)), (10, .c (.val (.bool ((((List.length s1_1) : Nat) : Int) != (((List.length s2_2) : Nat) : Int)))))], [(0, .row (.pair (.int .i64) (.pair (.int .i64) .str)) s2_2)], 1⟩ [] (by kernel_rfl) rfl rfl ap0 ?_
  refine VL_cond (((((List.length s1_1) : Nat) : Int) != (((List.length s2_2) : Nat) : Int))) (by kernel_rfl) ?_ ?_
  · intro b_4; have H_20 := of_t H b_4
    refine V_run hN hn 2 1 [4] [0] ⟨[(4, .c (.val (.bool false)))], [(0, .row (.pair (.int .i64) (.pair (.int .i64) .str)) s2_2)], 1⟩ [] (by kernel_rfl) rfl rfl ap0 ?_
    have H_22 := Option.some.inj (show some false = some r from H_20); subst H_22
    refine VL_ret ?_
    exact P_to [(4, .c (.val (.bool false)))] [(0, .row (.pair (.int .i64) (.pair (.int .i64) .str)) s2_2)] [] hn (by kernel_rfl) (by kernel_rfl) rfl rfl rfl (QF_retS (by kernel_rfl) (by kernel_rfl) rfl)
  · intro b_4; have H_21 := of_f H b_4
    refine V_run hN hn 4 1 [0, 1, 12, 13] [0] ⟨[(0, .c (.imm (.slice (.pair (.int .i64) (.pair (.int .i64) .str))) s1_1)), (1, .c (.h 0)), (12, .c (.val (.int .i64 (((List.length s1_1) : Nat) : Int)))), (13, .c (.val (.int .i64 (0 : Int))))], [(0, .row (.pair (.int .i64) (.pair (.int .i64) .str)) s2_2)], 1⟩ [] (by kernel_rfl) rfl rfl ap0 ?_
    refine VL_block ?_
    refine V_to [(0, .c (.imm (.slice (.pair (.int .i64) (.pair (.int .i64) .str))) s1_1)), (1, .c (.h 0)), (12, .c (.val (.int .i64 (((List.length s1_1) : Nat) : Int)))), (13, .c (.val (.int .i64 (0 : Int))))] [(0, .row (.pair (.int .i64) (.pair (.int .i64) .str)) s2_2)] [] hn (by kernel_rfl) (by kernel_rfl) rfl rfl rfl ?_
    refine VL_loop (X := Int) (fun x => [(0, .c (.imm (.slice (.pair (.int .i64) (.pair (.int .i64) .str))) s1_1)), (1, .c (.h 0)), (12, .c (.val (.int .i64 (((List.length s1_1) : Nat) : Int)))), (13, .c (.val (.int .i64 x)))]) (fun x => [(0, .row (.pair (.int .i64) (.pair (.int .i64) .str)) s2_2)]) (fun k x => slices_Equal_gr.l0 K s1_1 s2_2 k x = some r) K (0 : Int) H_21 (fun _ h => no_none h) ?_
    intro k_8 t_7 H_23
    have H_24 : slices_Equal_gr.l0 K s1_1 s2_2 (k_8 + 1) t_7 = some r := H_23
    rw [slices_Equal_gr.l0] at H_24
    refine V_run hN hn 3 1 [0, 1, 12, 13, 14] [0] ⟨[(0, .c (.imm (.slice (.pair (.int .i64) (.pair (.int .i64) .str))) s1_1)), (1, .c (.h 0)), (12, .c (.val (.int .i64 (((List.length s1_1) : Nat) : Int)))), (13, .c (.val (.int .i64 t_7))), (14, .c (.val (.bool (decide (t_7 < (((List.length s1_1) : Nat) : Int))))))], [(0, .row (.pair (.int .i64) (.pair (.int .i64) .str)) s2_2)], 1⟩ [] (by kernel_rfl) rfl rfl ap0 ?_
    refine VL_cond ((decide (t_7 < (((List.length s1_1) : Nat) : Int)))) (by kernel_rfl) ?_ ?_
    · intro b_10; have H_25 := of_t H_24 b_10
      refine V_run hN hn 2 1 [0, 1, 12, 13, 14] [0] ⟨[(0, .c (.imm (.slice (.pair (.int .i64) (.pair (.int .i64) .str))) s1_1)), (1, .c (.h 0)), (12, .c (.val (.int .i64 (((List.length s1_1) : Nat) : Int)))), (13, .c (.val (.int .i64 t_7))), (14, .c (.val (.bool (decide (t_7 < (((List.length s1_1) : Nat) : Int))))))], [(0, .row (.pair (.int .i64) (.pair (.int .i64) .str)) s2_2)], 1⟩ [] (by kernel_rfl) rfl rfl ap0 ?_
      refine VL_block ?_
      refine V_run hN hn 3 1 [0, 1, 5, 12, 13] [0] ⟨[(0, .c (.imm (.slice (.pair (.int .i64) (.pair (.int .i64) .str))) s1_1)), (1, .c (.h 0)), (5, .c (.val (.int .i64 t_7))), (12, .c (.val (.int .i64 (((List.length s1_1) : Nat) : Int)))), (13, .c (.val (.int .i64 t_7)))], [(0, .row (.pair (.int .i64) (.pair (.int .i64) .str)) s2_2)], 1⟩ [] (by kernel_rfl) rfl rfl ap0 ?_
      obtain ⟨c_13, H_27⟩ := of_if H_25
      refine V_draw hN hn (by kernel_rfl) [] [] calls_nil 1 [0, 1, 12, 13, 24] [0] ⟨[(0, .c (.imm (.slice (.pair (.int .i64) (.pair (.int .i64) .str))) s1_1)), (1, .c (.h 0)), (12, .c (.val (.int .i64 (((List.length s1_1) : Nat) : Int)))), (13, .c (.val (.int .i64 t_7))), (24, .c (.val (.bool (!(((List.getD s1_1 (Int.toNat t_7) ((0 : Int), ((0 : Int), ByteArray.empty))).1 == (List.getD s2_2 (Int.toNat t_7) ((0 : Int), ((0 : Int), ByteArray.empty))).1) && (((List.getD s1_1 (Int.toNat t_7) ((0 : Int), ((0 : Int), ByteArray.empty))).2.1 == (List.getD s2_2 (Int.toNat t_7) ((0 : Int), ((0 : Int), ByteArray.empty))).2.1) && (ByteArray.toList (List.getD s1_1 (Int.toNat t_7) ((0 : Int), ((0 : Int), ByteArray.empty))).2.2 == ByteArray.toList (List.getD s2_2 (Int.toNat t_7) ((0 : Int), ((0 : Int), ByteArray.empty))).2.2)))))))], [(0, .row (.pair (.int .i64) (.pair (.int .i64) .str)) s2_2)], 1⟩ [0 ≤ t_7, t_7 < (((List.length s1_1) : Nat) : Int), 0 ≤ t_7, t_7 < (((List.length s2_2) : Nat) : Int)] (by kernel_rfl) rfl rfl (ap2 c_13.1 (ap2 c_13.2.1 (ap2 c_13.1 (ap1 c_13.2.2)))) (by kernel_rfl) (by kernel_rfl) ?_
      refine VL_cond ((!(((List.getD s1_1 (Int.toNat t_7) ((0 : Int), ((0 : Int), ByteArray.empty))).1 == (List.getD s2_2 (Int.toNat t_7) ((0 : Int), ((0 : Int), ByteArray.empty))).1) && (((List.getD s1_1 (Int.toNat t_7) ((0 : Int), ((0 : Int), ByteArray.empty))).2.1 == (List.getD s2_2 (Int.toNat t_7) ((0 : Int), ((0 : Int), ByteArray.empty))).2.1) && (ByteArray.toList (List.getD s1_1 (Int.toNat t_7) ((0 : Int), ((0 : Int), ByteArray.empty))).2.2 == ByteArray.toList (List.getD s2_2 (Int.toNat t_7) ((0 : Int), ((0 : Int), ByteArray.empty))).2.2))))) (by kernel_rfl) ?_ ?_
      · intro b_14; have H_28 := of_t H_27 b_14
        refine V_run hN hn 2 1 [4] [0] ⟨[(4, .c (.val (.bool false)))], [(0, .row (.pair (.int .i64) (.pair (.int .i64) .str)) s2_2)], 1⟩ [] (by kernel_rfl) rfl rfl ap0 ?_
        have H_30 := Option.some.inj (show some false = some r from H_28); subst H_30
        refine VL_ret ?_
        refine QB_ret ?_
        refine QL_ret ?_
        refine QB_ret ?_
        exact P_to [(4, .c (.val (.bool false)))] [(0, .row (.pair (.int .i64) (.pair (.int .i64) .str)) s2_2)] [] hn (by kernel_rfl) (by kernel_rfl) rfl rfl rfl (QF_retS (by kernel_rfl) (by kernel_rfl) rfl)
      · intro b_14; have H_29 := of_f H_27 b_14
        refine V_run hN hn 1 1 [0, 1, 12, 13, 24] [0] ⟨[(0, .c (.imm (.slice (.pair (.int .i64) (.pair (.int .i64) .str))) s1_1)), (1, .c (.h 0)), (12, .c (.val (.int .i64 (((List.length s1_1) : Nat) : Int)))), (13, .c (.val (.int .i64 t_7))), (24, .c (.val (.bool (!(((List.getD s1_1 (Int.toNat t_7) ((0 : Int), ((0 : Int), ByteArray.empty))).1 == (List.getD s2_2 (Int.toNat t_7) ((0 : Int), ((0 : Int), ByteArray.empty))).1) && (((List.getD s1_1 (Int.toNat t_7) ((0 : Int), ((0 : Int), ByteArray.empty))).2.1 == (List.getD s2_2 (Int.toNat t_7) ((0 : Int), ((0 : Int), ByteArray.empty))).2.1) && (ByteArray.toList (List.getD s1_1 (Int.toNat t_7) ((0 : Int), ((0 : Int), ByteArray.empty))).2.2 == ByteArray.toList (List.getD s2_2 (Int.toNat t_7) ((0 : Int), ((0 : Int), ByteArray.empty))).2.2)))))))], [(0, .row (.pair (.int .i64) (.pair (.int .i64) .str)) s2_2)], 1⟩ [] (by kernel_rfl) rfl rfl ap0 ?_
        refine VL_nil (QB_end ?_)
        refine V_run hN hn 1 1 [0, 1, 12, 13] [0] ⟨[(0, .c (.imm (.slice (.pair (.int .i64) (.pair (.int .i64) .str))) s1_1)), (1, .c (.h 0)), (12, .c (.val (.int .i64 (((List.length s1_1) : Nat) : Int)))), (13, .c (.val (.int .i64 (IntKind.wrap .i64 (t_7 + (1 : Int))))))], [(0, .row (.pair (.int .i64) (.pair (.int .i64) .str)) s2_2)], 1⟩ [] (by kernel_rfl) rfl rfl ap0 ?_
        refine VL_nil ?_
        exact V_roundEnd (IntKind.wrap .i64 (t_7 + (1 : Int))) H_29 [] hn (by kernel_rfl) (by kernel_rfl) rfl rfl rfl
    · intro b_10; have H_26 := of_f H_24 b_10
      refine VL_exit ?_
      refine QL_exit ?_
      refine QB_here ?_
      refine V_run hN hn 2 1 [4] [0] ⟨[(4, .c (.val (.bool true)))], [(0, .row (.pair (.int .i64) (.pair (.int .i64) .str)) s2_2)], 1⟩ [] (by kernel_rfl) rfl rfl ap0 ?_
      have H_31 := Option.some.inj (show some true = some r from H_26); subst H_31
      refine VL_ret ?_
      exact P_to [(4, .c (.val (.bool true)))] [(0, .row (.pair (.int .i64) (.pair (.int .i64) .str)) s2_2)] [] hn (by kernel_rfl) (by kernel_rfl) rfl rfl rfl (QF_retS (by kernel_rfl) (by kernel_rfl) rfl)

theorem delta_Same_sggsgr_spec (K : Nat) (a_1 : Int) (a_2 : (List (Int × (Int × ByteArray)))) (b_3 : Int) (b_4 : (List (Int × (Int × ByteArray)))) (r : Bool) (H : delta_Same_sggsgr K a_1 a_2 b_3 b_4 = some r) : Spec Try.prog 24 1 [.agg [.val (.int .i64 a_1), .imm (.slice (.pair (.int .i64) (.pair (.int .i64) .str))) a_2], .agg [.val (.int .i64 b_3), .h 0]] [(0, .row (.pair (.int .i64) (.pair (.int .i64) .str)) b_4)] (.c (.val (.bool r))) [(0, .row (.pair (.int .i64) (.pair (.int .i64) .str)) b_4)] := by
  refine Spec_mk (fn := Try.f24) (c := (Try.f24.body).get!) Try.func24 (by kernel_rfl) rfl ?_
  intro C hN hn
  replace hN : C.N = 17 := hN
  unfold delta_Same_sggsgr at H
  refine V_run hN hn 3 1 [2, 3] [0, 1, 2] ⟨[(2, .c (.h 1)), (3, .c (.h 2))], [(0, .row (.pair (.int .i64) (.pair (.int .i64) .str)) b_4), (1, .box [.val (.int .i64 a_1), .imm (.slice (.pair (.int .i64) (.pair (.int .i64) .str))) a_2]), (2, .box [.val (.int .i64 b_3), .h 0])], 3⟩ [] (by kernel_rfl) rfl rfl ap0 ?_
  rcases Bool.eq_false_or_eq_true ((a_1 == b_3)) with b_6 | b_6
  · have H_12 := of_t H b_6
    obtain ⟨r_7, h_8, H_14⟩ := of_bind H_12
    refine V_reg hN hn [(10, ⟨41, 1, [.c (.imm (.slice (.pair (.int .i64) (.pair (.int .i64) .str))) a_2), .c (.h 0)], [(0, .row (.pair (.int .i64) (.pair (.int .i64) .str)) b_4)], .c (.val (.bool r_7)), [(0, .row (.pair (.int .i64) (.pair (.int .i64) .str)) b_4)], [(0, 0)], 3⟩)] [(10, true)] (calls_cons (slices_Equal_gr_spec K a_2 b_4 r_7 h_8) (by kernel_rfl) calls_nil) 3 [4] [0] ⟨[(4, .c (.val (.bool r_7)))], [(0, .row (.pair (.int .i64) (.pair (.int .i64) .str)) b_4)], 3⟩ [(a_1 == b_3) = true] (by kernel_rfl) rfl rfl (ap1 b_6) (by kernel_rfl) (by kernel_rfl) ?_
    have H_15 := Option.some.inj (show some r_7 = some r from H_14); subst H_15
    refine VL_ret ?_
    exact P_to [(4, .c (.val (.bool r_7)))] [(0, .row (.pair (.int .i64) (.pair (.int .i64) .str)) b_4)] [] hn (by kernel_rfl) (by kernel_rfl) rfl rfl rfl (QF_retS (by kernel_rfl) (by kernel_rfl) rfl)
  · have H_13 := of_f H b_6
    refine V_reg hN hn [] [(10, false)] calls_nil 3 [4] [0] ⟨[(4, .c (.val (.bool false)))], [(0, .row (.pair (.int .i64) (.pair (.int .i64) .str)) b_4)], 3⟩ [(a_1 == b_3) = false] (by kernel_rfl) rfl rfl (ap1 b_6) (by kernel_rfl) (by kernel_rfl) ?_
    have H_16 := Option.some.inj (show some false = some r from H_13); subst H_16
    refine VL_ret ?_
    exact P_to [(4, .c (.val (.bool false)))] [(0, .row (.pair (.int .i64) (.pair (.int .i64) .str)) b_4)] [] hn (by kernel_rfl) (by kernel_rfl) rfl rfl rfl (QF_retS (by kernel_rfl) (by kernel_rfl) rfl)

theorem palinodelaw13_known_spec (K : Nat) (r : Bool) (H : palinodelaw13_known K  = some r) : Spec Try.prog 9 0 [] [] (.c (.val (.bool r))) [] := by
  refine Spec_mk (fn := Try.f9) (c := (Try.f9.body).get!) Try.func9 (by kernel_rfl) rfl ?_
  intro C hN hn
  replace hN : C.N = 78 := hN
  unfold palinodelaw13_known at H
  refine V_run hN hn 3 0 [] [] ⟨[], [], 0⟩ [] (by kernel_rfl) rfl rfl ap0 ?_
  obtain ⟨r_2, h_3, H_46⟩ := of_bind H
  refine V_reg hN hn [(2, ⟨21, 1, [.c (.val (.int .i64 (2 : Int))), .c (.h 0)], [(0, .row (.pair (.int .i64) (.pair (.int .i64) .str)) ([((1 : Int), ((1 : Int), (ByteArray.mk #[120])))] : List (Int × (Int × ByteArray))))], .tup [(true, [.val (.int .i64 r_2.1), .imm (.slice (.pair (.int .i64) (.pair (.int .i64) .str))) r_2.2.1]), (false, [.val (.int .i64 r_2.2.2)])], [(0, .row (.pair (.int .i64) (.pair (.int .i64) .str)) ([((1 : Int), ((1 : Int), (ByteArray.mk #[120])))] : List (Int × (Int × ByteArray))))], [(0, 0)], 1⟩)] [] (calls_cons (delta_Build_gr_spec K (2 : Int) ([((1 : Int), ((1 : Int), (ByteArray.mk #[120])))] : List (Int × (Int × ByteArray))) r_2 h_3) (by kernel_rfl) calls_nil) 0 [1, 2] [1] ⟨[(1, .c (.h 1)), (2, .c (.val (.int .i64 r_2.2.2)))], [(1, .box [.val (.int .i64 r_2.1), .imm (.slice (.pair (.int .i64) (.pair (.int .i64) .str))) r_2.2.1])], 2⟩ [] (by kernel_rfl) rfl rfl ap0 (by kernel_rfl) (by kernel_rfl) ?_
  refine V_run hN hn 1 2 [1, 2] [1] ⟨[(1, .c (.h 1)), (2, .c (.val (.int .i64 r_2.2.2)))], [(1, .box [.val (.int .i64 r_2.1), .imm (.slice (.pair (.int .i64) (.pair (.int .i64) .str))) r_2.2.1])], 2⟩ [] (by kernel_rfl) rfl rfl ap0 ?_
  obtain ⟨r_6, h_7, H_47⟩ := of_bind H_46
  refine V_reg hN hn [(2, ⟨21, 1, [.c (.val (.int .i64 (3 : Int))), .c (.h 0)], [(0, .row (.pair (.int .i64) (.pair (.int .i64) .str)) ([((1 : Int), ((2 : Int), ByteArray.empty))] : List (Int × (Int × ByteArray))))], .tup [(true, [.val (.int .i64 r_6.1), .imm (.slice (.pair (.int .i64) (.pair (.int .i64) .str))) r_6.2.1]), (false, [.val (.int .i64 r_6.2.2)])], [(0, .row (.pair (.int .i64) (.pair (.int .i64) .str)) ([((1 : Int), ((2 : Int), ByteArray.empty))] : List (Int × (Int × ByteArray))))], [(0, 2)], 3⟩)] [] (calls_cons (delta_Build_gr_spec K (3 : Int) ([((1 : Int), ((2 : Int), ByteArray.empty))] : List (Int × (Int × ByteArray))) r_6 h_7) (by kernel_rfl) calls_nil) 2 [1, 2, 3, 4] [1, 3] ⟨[(1, .c (.h 1)), (2, .c (.val (.int .i64 r_2.2.2))), (3, .c (.h 3)), (4, .c (.val (.int .i64 r_6.2.2)))], [(1, .box [.val (.int .i64 r_2.1), .imm (.slice (.pair (.int .i64) (.pair (.int .i64) .str))) r_2.2.1]), (3, .box [.val (.int .i64 r_6.1), .imm (.slice (.pair (.int .i64) (.pair (.int .i64) .str))) r_6.2.1])], 4⟩ [] (by kernel_rfl) rfl rfl ap0 (by kernel_rfl) (by kernel_rfl) ?_
  refine V_run hN hn 1 4 [1, 2, 3, 4] [1, 3] ⟨[(1, .c (.h 1)), (2, .c (.val (.int .i64 r_2.2.2))), (3, .c (.h 3)), (4, .c (.val (.int .i64 r_6.2.2)))], [(1, .box [.val (.int .i64 r_2.1), .imm (.slice (.pair (.int .i64) (.pair (.int .i64) .str))) r_2.2.1]), (3, .box [.val (.int .i64 r_6.1), .imm (.slice (.pair (.int .i64) (.pair (.int .i64) .str))) r_6.2.1])], 4⟩ [] (by kernel_rfl) rfl rfl ap0 ?_
  obtain ⟨r_10, h_11, H_48⟩ := of_bind H_47
  refine V_reg hN hn [(2, ⟨11, 0, [.agg [.val (.int .i64 r_2.1), .imm (.slice (.pair (.int .i64) (.pair (.int .i64) .str))) r_2.2.1], .agg [.val (.int .i64 r_6.1), .imm (.slice (.pair (.int .i64) (.pair (.int .i64) .str))) r_6.2.1]], [], .tup [(true, [.val (.int .i64 r_10.1), .imm (.slice (.pair (.int .i64) (.pair (.int .i64) .str))) r_10.2.1]), (false, [.val (.int .i64 r_10.2.2)])], [], [], 4⟩)] [] (calls_cons (compose_Two_spec K r_2.1 r_2.2.1 r_6.1 r_6.2.1 r_10 h_11) (by kernel_rfl) calls_nil) 4 [2, 3, 4, 5, 6] [3, 4] ⟨[(2, .c (.val (.int .i64 r_2.2.2))), (3, .c (.h 3)), (4, .c (.val (.int .i64 r_6.2.2))), (5, .c (.h 4)), (6, .c (.val (.int .i64 r_10.2.2)))], [(3, .box [.val (.int .i64 r_6.1), .imm (.slice (.pair (.int .i64) (.pair (.int .i64) .str))) r_6.2.1]), (4, .box [.val (.int .i64 r_10.1), .imm (.slice (.pair (.int .i64) (.pair (.int .i64) .str))) r_10.2.1])], 5⟩ [] (by kernel_rfl) rfl rfl ap0 (by kernel_rfl) (by kernel_rfl) ?_
  refine V_run hN hn 1 5 [2, 3, 4, 5, 6] [3, 4] ⟨[(2, .c (.val (.int .i64 r_2.2.2))), (3, .c (.h 3)), (4, .c (.val (.int .i64 r_6.2.2))), (5, .c (.h 4)), (6, .c (.val (.int .i64 r_10.2.2)))], [(3, .box [.val (.int .i64 r_6.1), .imm (.slice (.pair (.int .i64) (.pair (.int .i64) .str))) r_6.2.1]), (4, .box [.val (.int .i64 r_10.1), .imm (.slice (.pair (.int .i64) (.pair (.int .i64) .str))) r_10.2.1])], 5⟩ [] (by kernel_rfl) rfl rfl ap0 ?_
  obtain ⟨r_14, h_15, H_49⟩ := of_bind H_48
  refine V_reg hN hn [(2, ⟨11, 0, [.agg [.val (.int .i64 r_6.1), .imm (.slice (.pair (.int .i64) (.pair (.int .i64) .str))) r_6.2.1], .agg [.val (.int .i64 r_6.1), .imm (.slice (.pair (.int .i64) (.pair (.int .i64) .str))) r_6.2.1]], [], .tup [(true, [.val (.int .i64 r_14.1), .imm (.slice (.pair (.int .i64) (.pair (.int .i64) .str))) r_14.2.1]), (false, [.val (.int .i64 r_14.2.2)])], [], [], 5⟩)] [] (calls_cons (compose_Two_spec K r_6.1 r_6.2.1 r_6.1 r_6.2.1 r_14 h_15) (by kernel_rfl) calls_nil) 5 [2, 3, 4, 5, 6, 8] [3, 4] ⟨[(2, .c (.val (.int .i64 r_2.2.2))), (3, .c (.h 3)), (4, .c (.val (.int .i64 r_6.2.2))), (5, .c (.h 4)), (6, .c (.val (.int .i64 r_10.2.2))), (8, .c (.val (.int .i64 r_14.2.2)))], [(3, .box [.val (.int .i64 r_6.1), .imm (.slice (.pair (.int .i64) (.pair (.int .i64) .str))) r_6.2.1]), (4, .box [.val (.int .i64 r_10.1), .imm (.slice (.pair (.int .i64) (.pair (.int .i64) .str))) r_10.2.1])], 6⟩ [] (by kernel_rfl) rfl rfl ap0 (by kernel_rfl) (by kernel_rfl) ?_
  refine V_run hN hn 1 6 [2, 3, 4, 5, 6, 8] [3, 4] ⟨[(2, .c (.val (.int .i64 r_2.2.2))), (3, .c (.h 3)), (4, .c (.val (.int .i64 r_6.2.2))), (5, .c (.h 4)), (6, .c (.val (.int .i64 r_10.2.2))), (8, .c (.val (.int .i64 r_14.2.2)))], [(3, .box [.val (.int .i64 r_6.1), .imm (.slice (.pair (.int .i64) (.pair (.int .i64) .str))) r_6.2.1]), (4, .box [.val (.int .i64 r_10.1), .imm (.slice (.pair (.int .i64) (.pair (.int .i64) .str))) r_10.2.1])], 6⟩ [] (by kernel_rfl) rfl rfl ap0 ?_
  obtain ⟨r_18, h_19, H_50⟩ := of_bind H_49
  refine V_reg hN hn [(1, ⟨17, 0, [.agg [.val (.int .i64 r_6.1), .imm (.slice (.pair (.int .i64) (.pair (.int .i64) .str))) r_6.2.1], .c (.val (.string (ByteArray.mk #[97, 98, 99])))], [], .tup [(true, [.val (.int .i64 r_18.1), .imm (.slice (.pair (.int .i64) (.pair (.int .i64) .str))) r_18.2.1]), (false, [.val (.int .i64 r_18.2.2)])], [], [], 6⟩)] [] (calls_cons (compose_Invert_spec K r_6.1 r_6.2.1 (ByteArray.mk #[97, 98, 99]) r_18 h_19) (by kernel_rfl) calls_nil) 6 [2, 4, 5, 6, 8, 9, 10] [4, 6] ⟨[(2, .c (.val (.int .i64 r_2.2.2))), (4, .c (.val (.int .i64 r_6.2.2))), (5, .c (.h 4)), (6, .c (.val (.int .i64 r_10.2.2))), (8, .c (.val (.int .i64 r_14.2.2))), (9, .c (.h 6)), (10, .c (.val (.int .i64 r_18.2.2)))], [(4, .box [.val (.int .i64 r_10.1), .imm (.slice (.pair (.int .i64) (.pair (.int .i64) .str))) r_10.2.1]), (6, .box [.val (.int .i64 r_18.1), .imm (.slice (.pair (.int .i64) (.pair (.int .i64) .str))) r_18.2.1])], 7⟩ [] (by kernel_rfl) rfl rfl ap0 (by kernel_rfl) (by kernel_rfl) ?_
  refine V_run hN hn 1 7 [2, 4, 5, 6, 8, 9, 10] [4, 6] ⟨[(2, .c (.val (.int .i64 r_2.2.2))), (4, .c (.val (.int .i64 r_6.2.2))), (5, .c (.h 4)), (6, .c (.val (.int .i64 r_10.2.2))), (8, .c (.val (.int .i64 r_14.2.2))), (9, .c (.h 6)), (10, .c (.val (.int .i64 r_18.2.2)))], [(4, .box [.val (.int .i64 r_10.1), .imm (.slice (.pair (.int .i64) (.pair (.int .i64) .str))) r_10.2.1]), (6, .box [.val (.int .i64 r_18.1), .imm (.slice (.pair (.int .i64) (.pair (.int .i64) .str))) r_18.2.1])], 7⟩ [] (by kernel_rfl) rfl rfl ap0 ?_
  obtain ⟨r_22, h_23, H_51⟩ := of_bind H_50
  refine V_reg hN hn [(1, ⟨22, 0, [.agg [.val (.int .i64 r_18.1), .imm (.slice (.pair (.int .i64) (.pair (.int .i64) .str))) r_18.2.1], .c (.val (.string (ByteArray.mk #[97, 99])))], [], .tup [(false, [.val (.string r_22.1)]), (false, [.val (.int .i64 r_22.2)])], [], [], 7⟩)] [] (calls_cons (delta_Apply_spec K r_18.1 r_18.2.1 (ByteArray.mk #[97, 99]) r_22 h_23) (by kernel_rfl) calls_nil) 7 [2, 4, 5, 6, 8, 10, 11, 12] [4] ⟨[(2, .c (.val (.int .i64 r_2.2.2))), (4, .c (.val (.int .i64 r_6.2.2))), (5, .c (.h 4)), (6, .c (.val (.int .i64 r_10.2.2))), (8, .c (.val (.int .i64 r_14.2.2))), (10, .c (.val (.int .i64 r_18.2.2))), (11, .c (.val (.string r_22.1))), (12, .c (.val (.int .i64 r_22.2)))], [(4, .box [.val (.int .i64 r_10.1), .imm (.slice (.pair (.int .i64) (.pair (.int .i64) .str))) r_10.2.1])], 7⟩ [] (by kernel_rfl) rfl rfl ap0 (by kernel_rfl) (by kernel_rfl) ?_
  refine V_run hN hn 1 7 [2, 4, 5, 6, 8, 10, 11, 12] [4] ⟨[(2, .c (.val (.int .i64 r_2.2.2))), (4, .c (.val (.int .i64 r_6.2.2))), (5, .c (.h 4)), (6, .c (.val (.int .i64 r_10.2.2))), (8, .c (.val (.int .i64 r_14.2.2))), (10, .c (.val (.int .i64 r_18.2.2))), (11, .c (.val (.string r_22.1))), (12, .c (.val (.int .i64 r_22.2)))], [(4, .box [.val (.int .i64 r_10.1), .imm (.slice (.pair (.int .i64) (.pair (.int .i64) .str))) r_10.2.1])], 7⟩ [] (by kernel_rfl) rfl rfl ap0 ?_
  rcases Bool.eq_false_or_eq_true ((r_2.2.2 == (0 : Int))) with b_26 | b_26
  · have H_52 := of_t H_51 b_26
    rcases Bool.eq_false_or_eq_true ((r_6.2.2 == (0 : Int))) with b_27 | b_27
    · have H_54 := of_t H_52 b_27
      rcases Bool.eq_false_or_eq_true ((r_10.2.2 == (0 : Int))) with b_28 | b_28
      · have H_56 := of_t H_54 b_28
        obtain ⟨r_29, h_30, H_58⟩ := of_bind H_56
        obtain ⟨r_31, h_32, H_59⟩ := of_bind H_58
        rcases Bool.eq_false_or_eq_true (r_31) with b_33 | b_33
        · have H_60 := of_t H_59 b_33
          rcases Bool.eq_false_or_eq_true ((r_14.2.2 == (80 : Int))) with b_34 | b_34
          · have H_62 := of_t H_60 b_34
            rcases Bool.eq_false_or_eq_true ((r_18.2.2 == (0 : Int))) with b_35 | b_35
            · have H_64 := of_t H_62 b_35
              rcases Bool.eq_false_or_eq_true ((r_22.2 == (0 : Int))) with b_36 | b_36
              · have H_66 := of_t H_64 b_36
                refine V_draw hN hn (by kernel_rfl) [(12, ⟨25, 0, [.c (.val (.int .i64 (2 : Int)))], [], .agg [.val (.int .i64 r_29.1), .h 2], [(2, .row (.pair (.int .i64) (.pair (.int .i64) .str)) r_29.2)], [(2, 7)], 8⟩), (13, ⟨24, 1, [.agg [.val (.int .i64 r_10.1), .imm (.slice (.pair (.int .i64) (.pair (.int .i64) .str))) r_10.2.1], .agg [.val (.int .i64 r_29.1), .h 0]], [(0, .row (.pair (.int .i64) (.pair (.int .i64) .str)) r_29.2)], .c (.val (.bool r_31)), [(0, .row (.pair (.int .i64) (.pair (.int .i64) .str)) r_29.2)], [(0, 7)], 8⟩)] [(49, true), (53, true), (57, true), (62, true), (66, true), (70, true), (74, true)] (calls_cons (delta_Keep_spec K (2 : Int) r_29 h_30) (by kernel_rfl) (calls_cons (delta_Same_sggsgr_spec K r_10.1 r_10.2.1 r_29.1 r_29.2 r_31 h_32) (by kernel_rfl) calls_nil)) 7 [0] [] ⟨[(0, .c (.val (.bool (ByteArray.toList r_22.1 == ByteArray.toList (ByteArray.mk #[97, 98, 99])))))], [], 8⟩ [(r_2.2.2 == (0 : Int)) = true, (r_6.2.2 == (0 : Int)) = true, (r_10.2.2 == (0 : Int)) = true, r_31 = true, (r_14.2.2 == (80 : Int)) = true, (r_18.2.2 == (0 : Int)) = true, (r_22.2 == (0 : Int)) = true] (by kernel_rfl) rfl rfl (ap2 b_26 (ap2 b_27 (ap2 b_28 (ap2 b_33 (ap2 b_34 (ap2 b_35 (ap1 b_36))))))) (by kernel_rfl) (by kernel_rfl) ?_
                have H_68 := Option.some.inj (show some (ByteArray.toList r_22.1 == ByteArray.toList (ByteArray.mk #[97, 98, 99])) = some r from H_66); subst H_68
                refine VL_ret ?_
                exact P_to [(0, .c (.val (.bool (ByteArray.toList r_22.1 == ByteArray.toList (ByteArray.mk #[97, 98, 99])))))] [] [] hn (by kernel_rfl) (by kernel_rfl) rfl rfl rfl (QF_retS (by kernel_rfl) (by kernel_rfl) rfl)
              · have H_67 := of_f H_64 b_36
                refine V_draw hN hn (by kernel_rfl) [(12, ⟨25, 0, [.c (.val (.int .i64 (2 : Int)))], [], .agg [.val (.int .i64 r_29.1), .h 2], [(2, .row (.pair (.int .i64) (.pair (.int .i64) .str)) r_29.2)], [(2, 7)], 8⟩), (13, ⟨24, 1, [.agg [.val (.int .i64 r_10.1), .imm (.slice (.pair (.int .i64) (.pair (.int .i64) .str))) r_10.2.1], .agg [.val (.int .i64 r_29.1), .h 0]], [(0, .row (.pair (.int .i64) (.pair (.int .i64) .str)) r_29.2)], .c (.val (.bool r_31)), [(0, .row (.pair (.int .i64) (.pair (.int .i64) .str)) r_29.2)], [(0, 7)], 8⟩)] [(49, true), (53, true), (57, true), (62, true), (66, true), (70, true), (74, false)] (calls_cons (delta_Keep_spec K (2 : Int) r_29 h_30) (by kernel_rfl) (calls_cons (delta_Same_sggsgr_spec K r_10.1 r_10.2.1 r_29.1 r_29.2 r_31 h_32) (by kernel_rfl) calls_nil)) 7 [0] [] ⟨[(0, .c (.val (.bool false)))], [], 8⟩ [(r_2.2.2 == (0 : Int)) = true, (r_6.2.2 == (0 : Int)) = true, (r_10.2.2 == (0 : Int)) = true, r_31 = true, (r_14.2.2 == (80 : Int)) = true, (r_18.2.2 == (0 : Int)) = true, (r_22.2 == (0 : Int)) = false] (by kernel_rfl) rfl rfl (ap2 b_26 (ap2 b_27 (ap2 b_28 (ap2 b_33 (ap2 b_34 (ap2 b_35 (ap1 b_36))))))) (by kernel_rfl) (by kernel_rfl) ?_
                have H_69 := Option.some.inj (show some false = some r from H_67); subst H_69
                refine VL_ret ?_
                exact P_to [(0, .c (.val (.bool false)))] [] [] hn (by kernel_rfl) (by kernel_rfl) rfl rfl rfl (QF_retS (by kernel_rfl) (by kernel_rfl) rfl)
            · have H_65 := of_f H_62 b_35
              refine V_draw hN hn (by kernel_rfl) [(12, ⟨25, 0, [.c (.val (.int .i64 (2 : Int)))], [], .agg [.val (.int .i64 r_29.1), .h 2], [(2, .row (.pair (.int .i64) (.pair (.int .i64) .str)) r_29.2)], [(2, 7)], 8⟩), (13, ⟨24, 1, [.agg [.val (.int .i64 r_10.1), .imm (.slice (.pair (.int .i64) (.pair (.int .i64) .str))) r_10.2.1], .agg [.val (.int .i64 r_29.1), .h 0]], [(0, .row (.pair (.int .i64) (.pair (.int .i64) .str)) r_29.2)], .c (.val (.bool r_31)), [(0, .row (.pair (.int .i64) (.pair (.int .i64) .str)) r_29.2)], [(0, 7)], 8⟩)] [(49, true), (53, true), (57, true), (62, true), (66, true), (70, false)] (calls_cons (delta_Keep_spec K (2 : Int) r_29 h_30) (by kernel_rfl) (calls_cons (delta_Same_sggsgr_spec K r_10.1 r_10.2.1 r_29.1 r_29.2 r_31 h_32) (by kernel_rfl) calls_nil)) 7 [0] [] ⟨[(0, .c (.val (.bool false)))], [], 8⟩ [(r_2.2.2 == (0 : Int)) = true, (r_6.2.2 == (0 : Int)) = true, (r_10.2.2 == (0 : Int)) = true, r_31 = true, (r_14.2.2 == (80 : Int)) = true, (r_18.2.2 == (0 : Int)) = false] (by kernel_rfl) rfl rfl (ap2 b_26 (ap2 b_27 (ap2 b_28 (ap2 b_33 (ap2 b_34 (ap1 b_35)))))) (by kernel_rfl) (by kernel_rfl) ?_
              have H_70 := Option.some.inj (show some false = some r from H_65); subst H_70
              refine VL_ret ?_
              exact P_to [(0, .c (.val (.bool false)))] [] [] hn (by kernel_rfl) (by kernel_rfl) rfl rfl rfl (QF_retS (by kernel_rfl) (by kernel_rfl) rfl)
          · have H_63 := of_f H_60 b_34
            refine V_draw hN hn (by kernel_rfl) [(12, ⟨25, 0, [.c (.val (.int .i64 (2 : Int)))], [], .agg [.val (.int .i64 r_29.1), .h 2], [(2, .row (.pair (.int .i64) (.pair (.int .i64) .str)) r_29.2)], [(2, 7)], 8⟩), (13, ⟨24, 1, [.agg [.val (.int .i64 r_10.1), .imm (.slice (.pair (.int .i64) (.pair (.int .i64) .str))) r_10.2.1], .agg [.val (.int .i64 r_29.1), .h 0]], [(0, .row (.pair (.int .i64) (.pair (.int .i64) .str)) r_29.2)], .c (.val (.bool r_31)), [(0, .row (.pair (.int .i64) (.pair (.int .i64) .str)) r_29.2)], [(0, 7)], 8⟩)] [(49, true), (53, true), (57, true), (62, true), (66, false)] (calls_cons (delta_Keep_spec K (2 : Int) r_29 h_30) (by kernel_rfl) (calls_cons (delta_Same_sggsgr_spec K r_10.1 r_10.2.1 r_29.1 r_29.2 r_31 h_32) (by kernel_rfl) calls_nil)) 7 [0] [] ⟨[(0, .c (.val (.bool false)))], [], 8⟩ [(r_2.2.2 == (0 : Int)) = true, (r_6.2.2 == (0 : Int)) = true, (r_10.2.2 == (0 : Int)) = true, r_31 = true, (r_14.2.2 == (80 : Int)) = false] (by kernel_rfl) rfl rfl (ap2 b_26 (ap2 b_27 (ap2 b_28 (ap2 b_33 (ap1 b_34))))) (by kernel_rfl) (by kernel_rfl) ?_
            have H_71 := Option.some.inj (show some false = some r from H_63); subst H_71
            refine VL_ret ?_
            exact P_to [(0, .c (.val (.bool false)))] [] [] hn (by kernel_rfl) (by kernel_rfl) rfl rfl rfl (QF_retS (by kernel_rfl) (by kernel_rfl) rfl)
        · have H_61 := of_f H_59 b_33
          refine V_draw hN hn (by kernel_rfl) [(12, ⟨25, 0, [.c (.val (.int .i64 (2 : Int)))], [], .agg [.val (.int .i64 r_29.1), .h 2], [(2, .row (.pair (.int .i64) (.pair (.int .i64) .str)) r_29.2)], [(2, 7)], 8⟩), (13, ⟨24, 1, [.agg [.val (.int .i64 r_10.1), .imm (.slice (.pair (.int .i64) (.pair (.int .i64) .str))) r_10.2.1], .agg [.val (.int .i64 r_29.1), .h 0]], [(0, .row (.pair (.int .i64) (.pair (.int .i64) .str)) r_29.2)], .c (.val (.bool r_31)), [(0, .row (.pair (.int .i64) (.pair (.int .i64) .str)) r_29.2)], [(0, 7)], 8⟩)] [(49, true), (53, true), (57, true), (62, false)] (calls_cons (delta_Keep_spec K (2 : Int) r_29 h_30) (by kernel_rfl) (calls_cons (delta_Same_sggsgr_spec K r_10.1 r_10.2.1 r_29.1 r_29.2 r_31 h_32) (by kernel_rfl) calls_nil)) 7 [0] [] ⟨[(0, .c (.val (.bool false)))], [], 8⟩ [(r_2.2.2 == (0 : Int)) = true, (r_6.2.2 == (0 : Int)) = true, (r_10.2.2 == (0 : Int)) = true, r_31 = false] (by kernel_rfl) rfl rfl (ap2 b_26 (ap2 b_27 (ap2 b_28 (ap1 b_33)))) (by kernel_rfl) (by kernel_rfl) ?_
          have H_72 := Option.some.inj (show some false = some r from H_61); subst H_72
          refine VL_ret ?_
          exact P_to [(0, .c (.val (.bool false)))] [] [] hn (by kernel_rfl) (by kernel_rfl) rfl rfl rfl (QF_retS (by kernel_rfl) (by kernel_rfl) rfl)
      · have H_57 := of_f H_54 b_28
        refine V_draw hN hn (by kernel_rfl) [] [(49, true), (53, true), (57, false)] calls_nil 7 [0] [] ⟨[(0, .c (.val (.bool false)))], [], 7⟩ [(r_2.2.2 == (0 : Int)) = true, (r_6.2.2 == (0 : Int)) = true, (r_10.2.2 == (0 : Int)) = false] (by kernel_rfl) rfl rfl (ap2 b_26 (ap2 b_27 (ap1 b_28))) (by kernel_rfl) (by kernel_rfl) ?_
        have H_73 := Option.some.inj (show some false = some r from H_57); subst H_73
        refine VL_ret ?_
        exact P_to [(0, .c (.val (.bool false)))] [] [] hn (by kernel_rfl) (by kernel_rfl) rfl rfl rfl (QF_retS (by kernel_rfl) (by kernel_rfl) rfl)
    · have H_55 := of_f H_52 b_27
      refine V_draw hN hn (by kernel_rfl) [] [(49, true), (53, false)] calls_nil 7 [0] [] ⟨[(0, .c (.val (.bool false)))], [], 7⟩ [(r_2.2.2 == (0 : Int)) = true, (r_6.2.2 == (0 : Int)) = false] (by kernel_rfl) rfl rfl (ap2 b_26 (ap1 b_27)) (by kernel_rfl) (by kernel_rfl) ?_
      have H_74 := Option.some.inj (show some false = some r from H_55); subst H_74
      refine VL_ret ?_
      exact P_to [(0, .c (.val (.bool false)))] [] [] hn (by kernel_rfl) (by kernel_rfl) rfl rfl rfl (QF_retS (by kernel_rfl) (by kernel_rfl) rfl)
  · have H_53 := of_f H_51 b_26
    refine V_draw hN hn (by kernel_rfl) [] [(49, false)] calls_nil 7 [0] [] ⟨[(0, .c (.val (.bool false)))], [], 7⟩ [(r_2.2.2 == (0 : Int)) = false] (by kernel_rfl) rfl rfl (ap1 b_26) (by kernel_rfl) (by kernel_rfl) ?_
    have H_75 := Option.some.inj (show some false = some r from H_53); subst H_75
    refine VL_ret ?_
    exact P_to [(0, .c (.val (.bool false)))] [] [] hn (by kernel_rfl) (by kernel_rfl) rfl rfl rfl (QF_retS (by kernel_rfl) (by kernel_rfl) rfl)

theorem palinoderef1_Size_spec (K : Nat) (s_1 : ByteArray) (at_2 : Int) (r : Int) (H : palinoderef1_Size K s_1 at_2 = some r) : Spec Try.prog 38 0 [.c (.val (.string s_1)), .c (.val (.int .i64 at_2))] [] (.c (.val (.int .i64 r))) [] := by
  refine Spec_mk (fn := Try.f38) (c := (Try.f38.body).get!) Try.func38 (by kernel_rfl) rfl ?_
  intro C hN hn
  replace hN : C.N = 94 := hN
  unfold palinoderef1_Size at H
  refine V_run hN hn 4 0 [0, 1] [] ⟨[(0, .c (.val (.string s_1))), (1, .c (.val (.int .i64 at_2)))], [], 0⟩ [] (by kernel_rfl) rfl rfl ap0 ?_
  obtain ⟨q_77, H_78, H_79⟩ := of_bind H
  refine V_cut (Y := Bool) (R := Bool) q_77 (fun y => y) (fun y => [(0, .c (.val (.string s_1))), (1, .c (.val (.int .i64 at_2))), (18, .c (.val (.bool y)))]) (fun y => []) ?_ ?_
  · skip
    rcases Bool.eq_false_or_eq_true ((decide (at_2 < (0 : Int)))) with b_4 | b_4
    · have H_81 := of_t H_78 b_4
      refine V_reg hN hn [] [(13, true)] calls_nil 0 [0, 1, 18] [] ⟨[(0, .c (.val (.string s_1))), (1, .c (.val (.int .i64 at_2))), (18, .c (.val (.bool true)))], [], 0⟩ [(decide (at_2 < (0 : Int))) = true] (by kernel_rfl) rfl rfl (ap1 b_4) (by kernel_rfl) (by kernel_rfl) ?_
      have H_83 := Option.some.inj (show some true = some q_77 from H_81); subst H_83
      refine VL_nil ?_
      exact QP_end true rfl [] hn (by kernel_rfl) (by kernel_rfl) rfl rfl rfl
    · have H_82 := of_f H_78 b_4
      refine V_reg hN hn [] [(13, false)] calls_nil 0 [0, 1, 18] [] ⟨[(0, .c (.val (.string s_1))), (1, .c (.val (.int .i64 at_2))), (18, .c (.val (.bool (decide (at_2 ≥ (((ByteArray.size s_1) : Nat) : Int))))))], [], 0⟩ [(decide (at_2 < (0 : Int))) = false] (by kernel_rfl) rfl rfl (ap1 b_4) (by kernel_rfl) (by kernel_rfl) ?_
      have H_84 := Option.some.inj (show some (decide (at_2 ≥ (((ByteArray.size s_1) : Nat) : Int))) = some q_77 from H_82); subst H_84
      refine VL_nil ?_
      exact QP_end (decide (at_2 ≥ (((ByteArray.size s_1) : Nat) : Int))) rfl [] hn (by kernel_rfl) (by kernel_rfl) rfl rfl rfl
  · intro y_80 hy; subst hy
    skip
    skip
    refine VL_cond (y_80) (by kernel_rfl) ?_ ?_
    · intro b_8; have H_85 := of_t H_79 b_8
      refine V_run hN hn 2 0 [4] [] ⟨[(4, .c (.val (.int .i64 (0 : Int))))], [], 0⟩ [] (by kernel_rfl) rfl rfl ap0 ?_
      have H_87 := Option.some.inj (show some (0 : Int) = some r from H_85); subst H_87
      refine VL_ret ?_
      exact P_to [(4, .c (.val (.int .i64 (0 : Int))))] [] [] hn (by kernel_rfl) (by kernel_rfl) rfl rfl rfl (QF_retS (by kernel_rfl) (by kernel_rfl) rfl)
    · intro b_8; have H_86 := of_f H_79 b_8
      obtain ⟨c_10, H_88⟩ := of_if H_86
      refine V_run hN hn 6 0 [0, 1, 5] [] ⟨[(0, .c (.val (.string s_1))), (1, .c (.val (.int .i64 at_2))), (5, .c (.val (.int .i64 (IntKind.wrap .i64 (bt s_1 at_2)))))], [], 0⟩ [0 ≤ at_2, at_2 < (((ByteArray.size s_1) : Nat) : Int)] (by kernel_rfl) rfl rfl (ap2 c_10.1 (ap1 c_10.2)) ?_
      refine VL_block ?_
      refine V_run hN hn 2 0 [0, 1, 5, 23] [] ⟨[(0, .c (.val (.string s_1))), (1, .c (.val (.int .i64 at_2))), (5, .c (.val (.int .i64 (IntKind.wrap .i64 (bt s_1 at_2))))), (23, .c (.val (.bool (decide ((IntKind.wrap .i64 (bt s_1 at_2)) < (128 : Int))))))], [], 0⟩ [] (by kernel_rfl) rfl rfl ap0 ?_
      refine VL_cond ((decide ((IntKind.wrap .i64 (bt s_1 at_2)) < (128 : Int)))) (by kernel_rfl) ?_ ?_
      · intro b_12; have H_89 := of_t H_88 b_12
        refine V_run hN hn 2 0 [4] [] ⟨[(4, .c (.val (.int .i64 (1 : Int))))], [], 0⟩ [] (by kernel_rfl) rfl rfl ap0 ?_
        have H_91 := Option.some.inj (show some (1 : Int) = some r from H_89); subst H_91
        refine VL_ret ?_
        refine QB_ret ?_
        exact P_to [(4, .c (.val (.int .i64 (1 : Int))))] [] [] hn (by kernel_rfl) (by kernel_rfl) rfl rfl rfl (QF_retS (by kernel_rfl) (by kernel_rfl) rfl)
      · intro b_12; have H_90 := of_f H_88 b_12
        refine V_run hN hn 1 0 [0, 1, 5, 23] [] ⟨[(0, .c (.val (.string s_1))), (1, .c (.val (.int .i64 at_2))), (5, .c (.val (.int .i64 (IntKind.wrap .i64 (bt s_1 at_2))))), (23, .c (.val (.bool (decide ((IntKind.wrap .i64 (bt s_1 at_2)) < (128 : Int))))))], [], 0⟩ [] (by kernel_rfl) rfl rfl ap0 ?_
        obtain ⟨q_92, H_93, H_94⟩ := of_bind H_90
        refine V_cut (Y := Bool) (R := Bool) q_92 (fun y => y) (fun y => [(0, .c (.val (.string s_1))), (1, .c (.val (.int .i64 at_2))), (5, .c (.val (.int .i64 (IntKind.wrap .i64 (bt s_1 at_2))))), (26, .c (.val (.bool y)))]) (fun y => []) ?_ ?_
        · skip
          rcases Bool.eq_false_or_eq_true ((decide ((IntKind.wrap .i64 (bt s_1 at_2)) ≥ (192 : Int)))) with b_15 | b_15
          · have H_96 := of_t H_93 b_15
            refine V_reg hN hn [] [(29, true)] calls_nil 0 [0, 1, 5, 26] [] ⟨[(0, .c (.val (.string s_1))), (1, .c (.val (.int .i64 at_2))), (5, .c (.val (.int .i64 (IntKind.wrap .i64 (bt s_1 at_2))))), (26, .c (.val (.bool (decide ((IntKind.wrap .i64 (bt s_1 at_2)) < (224 : Int))))))], [], 0⟩ [(decide ((IntKind.wrap .i64 (bt s_1 at_2)) ≥ (192 : Int))) = true] (by kernel_rfl) rfl rfl (ap1 b_15) (by kernel_rfl) (by kernel_rfl) ?_
            have H_98 := Option.some.inj (show some (decide ((IntKind.wrap .i64 (bt s_1 at_2)) < (224 : Int))) = some q_92 from H_96); subst H_98
            refine VL_nil ?_
            exact QP_end (decide ((IntKind.wrap .i64 (bt s_1 at_2)) < (224 : Int))) rfl [] hn (by kernel_rfl) (by kernel_rfl) rfl rfl rfl
          · have H_97 := of_f H_93 b_15
            refine V_reg hN hn [] [(29, false)] calls_nil 0 [0, 1, 5, 26] [] ⟨[(0, .c (.val (.string s_1))), (1, .c (.val (.int .i64 at_2))), (5, .c (.val (.int .i64 (IntKind.wrap .i64 (bt s_1 at_2))))), (26, .c (.val (.bool false)))], [], 0⟩ [(decide ((IntKind.wrap .i64 (bt s_1 at_2)) ≥ (192 : Int))) = false] (by kernel_rfl) rfl rfl (ap1 b_15) (by kernel_rfl) (by kernel_rfl) ?_
            have H_99 := Option.some.inj (show some false = some q_92 from H_97); subst H_99
            refine VL_nil ?_
            exact QP_end false rfl [] hn (by kernel_rfl) (by kernel_rfl) rfl rfl rfl
        · intro y_95 hy; subst hy
          skip
          skip
          obtain ⟨q_100, H_101, H_102⟩ := of_bind H_94
          refine V_cut (Y := (Int × Int × Int)) (R := (Int ⊕ (Int × Int × Int))) q_100 (fun y => (Sum.inr y)) (fun y => [(0, .c (.val (.string s_1))), (1, .c (.val (.int .i64 at_2))), (6, .c (.val (.int .i64 y.1))), (7, .c (.val (.int .i64 y.2.1))), (8, .c (.val (.int .i64 y.2.2)))]) (fun y => []) ?_ ?_
          · skip
            refine VL_cond (y_95) (by kernel_rfl) ?_ ?_
            · intro b_19; have H_104 := of_t H_101 b_19
              refine V_run hN hn 1 0 [0, 1, 6, 7, 8] [] ⟨[(0, .c (.val (.string s_1))), (1, .c (.val (.int .i64 at_2))), (6, .c (.val (.int .i64 (2 : Int)))), (7, .c (.val (.int .i64 (IntKind.wrap .i64 (BitVec.toNat (BitVec.ofInt (IntKind.bits .i64) (IntKind.wrap .i64 (bt s_1 at_2)) &&& BitVec.ofInt (IntKind.bits .i64) (31 : Int))))))), (8, .c (.val (.int .i64 (128 : Int))))], [], 0⟩ [] (by kernel_rfl) rfl rfl ap0 ?_
              have H_106 := Option.some.inj (show some (Sum.inr ((2 : Int), (IntKind.wrap .i64 (BitVec.toNat (BitVec.ofInt (IntKind.bits .i64) (IntKind.wrap .i64 (bt s_1 at_2)) &&& BitVec.ofInt (IntKind.bits .i64) (31 : Int)))), (128 : Int))) = some q_100 from H_104); subst H_106
              refine VL_nil ?_
              exact QP_end ((2 : Int), (IntKind.wrap .i64 (BitVec.toNat (BitVec.ofInt (IntKind.bits .i64) (IntKind.wrap .i64 (bt s_1 at_2)) &&& BitVec.ofInt (IntKind.bits .i64) (31 : Int)))), (128 : Int)) rfl [] hn (by kernel_rfl) (by kernel_rfl) rfl rfl rfl
            · intro b_19; have H_105 := of_f H_101 b_19
              refine V_run hN hn 1 0 [0, 1, 5, 26] [] ⟨[(0, .c (.val (.string s_1))), (1, .c (.val (.int .i64 at_2))), (5, .c (.val (.int .i64 (IntKind.wrap .i64 (bt s_1 at_2))))), (26, .c (.val (.bool y_95)))], [], 0⟩ [] (by kernel_rfl) rfl rfl ap0 ?_
              obtain ⟨q_107, H_108, H_109⟩ := of_bind H_105
              refine V_cut (Y := Bool) (R := Bool) q_107 (fun y => y) (fun y => [(0, .c (.val (.string s_1))), (1, .c (.val (.int .i64 at_2))), (5, .c (.val (.int .i64 (IntKind.wrap .i64 (bt s_1 at_2))))), (35, .c (.val (.bool y)))]) (fun y => []) ?_ ?_
              · skip
                rcases Bool.eq_false_or_eq_true ((decide ((IntKind.wrap .i64 (bt s_1 at_2)) ≥ (224 : Int)))) with b_22 | b_22
                · have H_111 := of_t H_108 b_22
                  refine V_reg hN hn [] [(38, true)] calls_nil 0 [0, 1, 5, 35] [] ⟨[(0, .c (.val (.string s_1))), (1, .c (.val (.int .i64 at_2))), (5, .c (.val (.int .i64 (IntKind.wrap .i64 (bt s_1 at_2))))), (35, .c (.val (.bool (decide ((IntKind.wrap .i64 (bt s_1 at_2)) < (240 : Int))))))], [], 0⟩ [(decide ((IntKind.wrap .i64 (bt s_1 at_2)) ≥ (224 : Int))) = true] (by kernel_rfl) rfl rfl (ap1 b_22) (by kernel_rfl) (by kernel_rfl) ?_
                  have H_113 := Option.some.inj (show some (decide ((IntKind.wrap .i64 (bt s_1 at_2)) < (240 : Int))) = some q_107 from H_111); subst H_113
                  refine VL_nil ?_
                  exact QP_end (decide ((IntKind.wrap .i64 (bt s_1 at_2)) < (240 : Int))) rfl [] hn (by kernel_rfl) (by kernel_rfl) rfl rfl rfl
                · have H_112 := of_f H_108 b_22
                  refine V_reg hN hn [] [(38, false)] calls_nil 0 [0, 1, 5, 35] [] ⟨[(0, .c (.val (.string s_1))), (1, .c (.val (.int .i64 at_2))), (5, .c (.val (.int .i64 (IntKind.wrap .i64 (bt s_1 at_2))))), (35, .c (.val (.bool false)))], [], 0⟩ [(decide ((IntKind.wrap .i64 (bt s_1 at_2)) ≥ (224 : Int))) = false] (by kernel_rfl) rfl rfl (ap1 b_22) (by kernel_rfl) (by kernel_rfl) ?_
                  have H_114 := Option.some.inj (show some false = some q_107 from H_112); subst H_114
                  refine VL_nil ?_
                  exact QP_end false rfl [] hn (by kernel_rfl) (by kernel_rfl) rfl rfl rfl
              · intro y_110 hy; subst hy
                skip
                skip
                refine VL_cond (y_110) (by kernel_rfl) ?_ ?_
                · intro b_26; have H_115 := of_t H_109 b_26
                  refine V_run hN hn 1 0 [0, 1, 6, 7, 8] [] ⟨[(0, .c (.val (.string s_1))), (1, .c (.val (.int .i64 at_2))), (6, .c (.val (.int .i64 (3 : Int)))), (7, .c (.val (.int .i64 (IntKind.wrap .i64 (BitVec.toNat (BitVec.ofInt (IntKind.bits .i64) (IntKind.wrap .i64 (bt s_1 at_2)) &&& BitVec.ofInt (IntKind.bits .i64) (15 : Int))))))), (8, .c (.val (.int .i64 (2048 : Int))))], [], 0⟩ [] (by kernel_rfl) rfl rfl ap0 ?_
                  have H_117 := Option.some.inj (show some (Sum.inr ((3 : Int), (IntKind.wrap .i64 (BitVec.toNat (BitVec.ofInt (IntKind.bits .i64) (IntKind.wrap .i64 (bt s_1 at_2)) &&& BitVec.ofInt (IntKind.bits .i64) (15 : Int)))), (2048 : Int))) = some q_100 from H_115); subst H_117
                  refine VL_nil ?_
                  exact QP_end ((3 : Int), (IntKind.wrap .i64 (BitVec.toNat (BitVec.ofInt (IntKind.bits .i64) (IntKind.wrap .i64 (bt s_1 at_2)) &&& BitVec.ofInt (IntKind.bits .i64) (15 : Int)))), (2048 : Int)) rfl [] hn (by kernel_rfl) (by kernel_rfl) rfl rfl rfl
                · intro b_26; have H_116 := of_f H_109 b_26
                  refine V_run hN hn 1 0 [0, 1, 5, 35] [] ⟨[(0, .c (.val (.string s_1))), (1, .c (.val (.int .i64 at_2))), (5, .c (.val (.int .i64 (IntKind.wrap .i64 (bt s_1 at_2))))), (35, .c (.val (.bool y_110)))], [], 0⟩ [] (by kernel_rfl) rfl rfl ap0 ?_
                  obtain ⟨q_118, H_119, H_120⟩ := of_bind H_116
                  refine V_cut (Y := Bool) (R := Bool) q_118 (fun y => y) (fun y => [(0, .c (.val (.string s_1))), (1, .c (.val (.int .i64 at_2))), (5, .c (.val (.int .i64 (IntKind.wrap .i64 (bt s_1 at_2))))), (44, .c (.val (.bool y)))]) (fun y => []) ?_ ?_
                  · skip
                    rcases Bool.eq_false_or_eq_true ((decide ((IntKind.wrap .i64 (bt s_1 at_2)) ≥ (240 : Int)))) with b_29 | b_29
                    · have H_122 := of_t H_119 b_29
                      refine V_reg hN hn [] [(47, true)] calls_nil 0 [0, 1, 5, 44] [] ⟨[(0, .c (.val (.string s_1))), (1, .c (.val (.int .i64 at_2))), (5, .c (.val (.int .i64 (IntKind.wrap .i64 (bt s_1 at_2))))), (44, .c (.val (.bool (decide ((IntKind.wrap .i64 (bt s_1 at_2)) < (248 : Int))))))], [], 0⟩ [(decide ((IntKind.wrap .i64 (bt s_1 at_2)) ≥ (240 : Int))) = true] (by kernel_rfl) rfl rfl (ap1 b_29) (by kernel_rfl) (by kernel_rfl) ?_
                      have H_124 := Option.some.inj (show some (decide ((IntKind.wrap .i64 (bt s_1 at_2)) < (248 : Int))) = some q_118 from H_122); subst H_124
                      refine VL_nil ?_
                      exact QP_end (decide ((IntKind.wrap .i64 (bt s_1 at_2)) < (248 : Int))) rfl [] hn (by kernel_rfl) (by kernel_rfl) rfl rfl rfl
                    · have H_123 := of_f H_119 b_29
                      refine V_reg hN hn [] [(47, false)] calls_nil 0 [0, 1, 5, 44] [] ⟨[(0, .c (.val (.string s_1))), (1, .c (.val (.int .i64 at_2))), (5, .c (.val (.int .i64 (IntKind.wrap .i64 (bt s_1 at_2))))), (44, .c (.val (.bool false)))], [], 0⟩ [(decide ((IntKind.wrap .i64 (bt s_1 at_2)) ≥ (240 : Int))) = false] (by kernel_rfl) rfl rfl (ap1 b_29) (by kernel_rfl) (by kernel_rfl) ?_
                      have H_125 := Option.some.inj (show some false = some q_118 from H_123); subst H_125
                      refine VL_nil ?_
                      exact QP_end false rfl [] hn (by kernel_rfl) (by kernel_rfl) rfl rfl rfl
                  · intro y_121 hy; subst hy
                    skip
                    skip
                    refine VL_cond (y_121) (by kernel_rfl) ?_ ?_
                    · intro b_33; have H_126 := of_t H_120 b_33
                      refine V_run hN hn 1 0 [0, 1, 6, 7, 8] [] ⟨[(0, .c (.val (.string s_1))), (1, .c (.val (.int .i64 at_2))), (6, .c (.val (.int .i64 (4 : Int)))), (7, .c (.val (.int .i64 (IntKind.wrap .i64 (BitVec.toNat (BitVec.ofInt (IntKind.bits .i64) (IntKind.wrap .i64 (bt s_1 at_2)) &&& BitVec.ofInt (IntKind.bits .i64) (7 : Int))))))), (8, .c (.val (.int .i64 (65536 : Int))))], [], 0⟩ [] (by kernel_rfl) rfl rfl ap0 ?_
                      have H_128 := Option.some.inj (show some (Sum.inr ((4 : Int), (IntKind.wrap .i64 (BitVec.toNat (BitVec.ofInt (IntKind.bits .i64) (IntKind.wrap .i64 (bt s_1 at_2)) &&& BitVec.ofInt (IntKind.bits .i64) (7 : Int)))), (65536 : Int))) = some q_100 from H_126); subst H_128
                      refine VL_nil ?_
                      exact QP_end ((4 : Int), (IntKind.wrap .i64 (BitVec.toNat (BitVec.ofInt (IntKind.bits .i64) (IntKind.wrap .i64 (bt s_1 at_2)) &&& BitVec.ofInt (IntKind.bits .i64) (7 : Int)))), (65536 : Int)) rfl [] hn (by kernel_rfl) (by kernel_rfl) rfl rfl rfl
                    · intro b_33; have H_127 := of_f H_120 b_33
                      refine V_run hN hn 2 0 [4] [] ⟨[(4, .c (.val (.int .i64 (0 : Int))))], [], 0⟩ [] (by kernel_rfl) rfl rfl ap0 ?_
                      have H_129 := Option.some.inj (show some (Sum.inl (0 : Int)) = some q_100 from H_127); subst H_129
                      have H_130 := Option.some.inj (show some (0 : Int) = some r from H_102); subst H_130
                      refine VL_ret ?_
                      refine QP_ret ?_
                      refine QB_ret ?_
                      exact P_to [(4, .c (.val (.int .i64 (0 : Int))))] [] [] hn (by kernel_rfl) (by kernel_rfl) rfl rfl rfl (QF_retS (by kernel_rfl) (by kernel_rfl) rfl)
          · intro y_103 hy; subst hy
            obtain ⟨n_36, v_37, least_38⟩ := y_103
            refine VL_nil (QB_end ?_)
            refine V_run hN hn 3 0 [0, 1, 6, 7, 8, 58] [] ⟨[(0, .c (.val (.string s_1))), (1, .c (.val (.int .i64 at_2))), (6, .c (.val (.int .i64 n_36))), (7, .c (.val (.int .i64 v_37))), (8, .c (.val (.int .i64 least_38))), (58, .c (.val (.bool (decide ((IntKind.wrap .i64 ((((ByteArray.size s_1) : Nat) : Int) - at_2)) < n_36)))))], [], 0⟩ [] (by kernel_rfl) rfl rfl ap0 ?_
            refine VL_cond ((decide ((IntKind.wrap .i64 ((((ByteArray.size s_1) : Nat) : Int) - at_2)) < n_36))) (by kernel_rfl) ?_ ?_
            · intro b_40; have H_131 := of_t H_102 b_40
              refine V_run hN hn 2 0 [4] [] ⟨[(4, .c (.val (.int .i64 (0 : Int))))], [], 0⟩ [] (by kernel_rfl) rfl rfl ap0 ?_
              have H_133 := Option.some.inj (show some (0 : Int) = some r from H_131); subst H_133
              refine VL_ret ?_
              exact P_to [(4, .c (.val (.int .i64 (0 : Int))))] [] [] hn (by kernel_rfl) (by kernel_rfl) rfl rfl rfl (QF_retS (by kernel_rfl) (by kernel_rfl) rfl)
            · intro b_40; have H_132 := of_f H_102 b_40
              refine V_run hN hn 4 0 [0, 1, 6, 7, 8, 9] [] ⟨[(0, .c (.val (.string s_1))), (1, .c (.val (.int .i64 at_2))), (6, .c (.val (.int .i64 n_36))), (7, .c (.val (.int .i64 v_37))), (8, .c (.val (.int .i64 least_38))), (9, .c (.val (.int .i64 (1 : Int))))], [], 0⟩ [] (by kernel_rfl) rfl rfl ap0 ?_
              obtain ⟨q_134, H_135, H_136⟩ := of_bind H_132
              refine V_cut (Y := Int) (R := (Int ⊕ Int)) q_134 (fun y => (Sum.inr y)) (fun y => [(6, .c (.val (.int .i64 n_36))), (7, .c (.val (.int .i64 y))), (8, .c (.val (.int .i64 least_38)))]) (fun y => []) ?_ ?_
              · skip
                refine VL_block ?_
                refine V_to [(0, .c (.val (.string s_1))), (1, .c (.val (.int .i64 at_2))), (6, .c (.val (.int .i64 n_36))), (7, .c (.val (.int .i64 v_37))), (8, .c (.val (.int .i64 least_38))), (9, .c (.val (.int .i64 (1 : Int))))] [] [] hn (by kernel_rfl) (by kernel_rfl) rfl rfl rfl ?_
                refine VL_loop (X := (Int × Int)) (fun x => [(0, .c (.val (.string s_1))), (1, .c (.val (.int .i64 at_2))), (6, .c (.val (.int .i64 n_36))), (7, .c (.val (.int .i64 x.1))), (8, .c (.val (.int .i64 least_38))), (9, .c (.val (.int .i64 x.2)))]) (fun x => []) (fun k x => palinoderef1_Size.l0 K n_36 at_2 s_1 k x.1 x.2 = some q_134) K (v_37, (1 : Int)) H_135 (fun _ h => no_none h) ?_
                intro k_45 x_45 H_138
                obtain ⟨v_43, i_44⟩ := x_45
                have H_139 : palinoderef1_Size.l0 K n_36 at_2 s_1 (k_45 + 1) v_43 i_44 = some q_134 := H_138
                rw [palinoderef1_Size.l0] at H_139
                refine V_run hN hn 3 0 [0, 1, 6, 7, 8, 9, 61] [] ⟨[(0, .c (.val (.string s_1))), (1, .c (.val (.int .i64 at_2))), (6, .c (.val (.int .i64 n_36))), (7, .c (.val (.int .i64 v_43))), (8, .c (.val (.int .i64 least_38))), (9, .c (.val (.int .i64 i_44))), (61, .c (.val (.bool (decide (i_44 < n_36)))))], [], 0⟩ [] (by kernel_rfl) rfl rfl ap0 ?_
                refine VL_cond ((decide (i_44 < n_36))) (by kernel_rfl) ?_ ?_
                · intro b_47; have H_140 := of_t H_139 b_47
                  refine V_run hN hn 2 0 [0, 1, 6, 7, 8, 9, 61] [] ⟨[(0, .c (.val (.string s_1))), (1, .c (.val (.int .i64 at_2))), (6, .c (.val (.int .i64 n_36))), (7, .c (.val (.int .i64 v_43))), (8, .c (.val (.int .i64 least_38))), (9, .c (.val (.int .i64 i_44))), (61, .c (.val (.bool (decide (i_44 < n_36)))))], [], 0⟩ [] (by kernel_rfl) rfl rfl ap0 ?_
                  refine VL_block ?_
                  obtain ⟨c_49, H_142⟩ := of_if H_140
                  refine V_run hN hn 5 0 [0, 1, 6, 7, 8, 9, 10, 72] [] ⟨[(0, .c (.val (.string s_1))), (1, .c (.val (.int .i64 at_2))), (6, .c (.val (.int .i64 n_36))), (7, .c (.val (.int .i64 v_43))), (8, .c (.val (.int .i64 least_38))), (9, .c (.val (.int .i64 i_44))), (10, .c (.val (.int .i64 (IntKind.wrap .i64 (bt s_1 (IntKind.wrap .i64 (at_2 + i_44))))))), (72, .c (.val (.bool ((Int.fdiv (IntKind.wrap .i64 (bt s_1 (IntKind.wrap .i64 (at_2 + i_44)))) (64 : Int)) != (2 : Int)))))], [], 0⟩ [0 ≤ (IntKind.wrap .i64 (at_2 + i_44)), (IntKind.wrap .i64 (at_2 + i_44)) < (((ByteArray.size s_1) : Nat) : Int), (0 : Int) ≤ (6 : Int)] (by kernel_rfl) rfl rfl (ap2 c_49.1 (ap2 c_49.2 (ap1 (by decide)))) ?_
                  refine VL_cond (((Int.fdiv (IntKind.wrap .i64 (bt s_1 (IntKind.wrap .i64 (at_2 + i_44)))) (64 : Int)) != (2 : Int))) (by kernel_rfl) ?_ ?_
                  · intro b_50; have H_143 := of_t H_142 b_50
                    refine V_run hN hn 2 0 [4] [] ⟨[(4, .c (.val (.int .i64 (0 : Int))))], [], 0⟩ [] (by kernel_rfl) rfl rfl ap0 ?_
                    have H_145 := Option.some.inj (show some (Sum.inl (0 : Int)) = some q_134 from H_143); subst H_145
                    have H_146 := Option.some.inj (show some (0 : Int) = some r from H_136); subst H_146
                    refine VL_ret ?_
                    refine QB_ret ?_
                    refine QL_ret ?_
                    refine QB_ret ?_
                    refine QP_ret ?_
                    exact P_to [(4, .c (.val (.int .i64 (0 : Int))))] [] [] hn (by kernel_rfl) (by kernel_rfl) rfl rfl rfl (QF_retS (by kernel_rfl) (by kernel_rfl) rfl)
                  · intro b_50; have H_144 := of_f H_142 b_50
                    refine V_run hN hn 2 0 [0, 1, 6, 7, 8, 9] [] ⟨[(0, .c (.val (.string s_1))), (1, .c (.val (.int .i64 at_2))), (6, .c (.val (.int .i64 n_36))), (7, .c (.val (.int .i64 (IntKind.wrap .i64 (BitVec.toNat (BitVec.ofInt (IntKind.bits .i64) (IntKind.wrap .i64 (v_43 * (64 : Int))) ||| BitVec.ofInt (IntKind.bits .i64) (IntKind.wrap .i64 (BitVec.toNat (BitVec.ofInt (IntKind.bits .i64) (IntKind.wrap .i64 (bt s_1 (IntKind.wrap .i64 (at_2 + i_44)))) &&& BitVec.ofInt (IntKind.bits .i64) (63 : Int)))))))))), (8, .c (.val (.int .i64 least_38))), (9, .c (.val (.int .i64 i_44)))], [], 0⟩ [(0 : Int) ≤ (6 : Int)] (by kernel_rfl) rfl rfl (ap1 (by decide)) ?_
                    refine VL_nil (QB_end ?_)
                    refine V_run hN hn 1 0 [0, 1, 6, 7, 8, 9] [] ⟨[(0, .c (.val (.string s_1))), (1, .c (.val (.int .i64 at_2))), (6, .c (.val (.int .i64 n_36))), (7, .c (.val (.int .i64 (IntKind.wrap .i64 (BitVec.toNat (BitVec.ofInt (IntKind.bits .i64) (IntKind.wrap .i64 (v_43 * (64 : Int))) ||| BitVec.ofInt (IntKind.bits .i64) (IntKind.wrap .i64 (BitVec.toNat (BitVec.ofInt (IntKind.bits .i64) (IntKind.wrap .i64 (bt s_1 (IntKind.wrap .i64 (at_2 + i_44)))) &&& BitVec.ofInt (IntKind.bits .i64) (63 : Int)))))))))), (8, .c (.val (.int .i64 least_38))), (9, .c (.val (.int .i64 (IntKind.wrap .i64 (i_44 + (1 : Int))))))], [], 0⟩ [] (by kernel_rfl) rfl rfl ap0 ?_
                    refine VL_nil ?_
                    exact V_roundEnd ((IntKind.wrap .i64 (BitVec.toNat (BitVec.ofInt (IntKind.bits .i64) (IntKind.wrap .i64 (v_43 * (64 : Int))) ||| BitVec.ofInt (IntKind.bits .i64) (IntKind.wrap .i64 (BitVec.toNat (BitVec.ofInt (IntKind.bits .i64) (IntKind.wrap .i64 (bt s_1 (IntKind.wrap .i64 (at_2 + i_44)))) &&& BitVec.ofInt (IntKind.bits .i64) (63 : Int))))))), (IntKind.wrap .i64 (i_44 + (1 : Int)))) H_144 [] hn (by kernel_rfl) (by kernel_rfl) rfl rfl rfl
                · intro b_47; have H_141 := of_f H_139 b_47
                  refine VL_exit ?_
                  refine QL_exit ?_
                  refine QB_here ?_
                  have H_147 := Option.some.inj (show some (Sum.inr v_43) = some q_134 from H_141); subst H_147
                  refine VL_nil ?_
                  exact QP_end v_43 rfl [] hn (by kernel_rfl) (by kernel_rfl) rfl rfl rfl
              · intro y_137 hy; subst hy
                skip
                skip
                refine V_run hN hn 2 0 [6, 7, 8] [] ⟨[(6, .c (.val (.int .i64 n_36))), (7, .c (.val (.int .i64 y_137))), (8, .c (.val (.int .i64 least_38)))], [], 0⟩ [] (by kernel_rfl) rfl rfl ap0 ?_
                obtain ⟨q_148, H_149, H_150⟩ := of_bind H_136
                refine V_cut (Y := Bool) (R := Bool) q_148 (fun y => y) (fun y => [(6, .c (.val (.int .i64 n_36))), (92, .c (.val (.bool y)))]) (fun y => []) ?_ ?_
                · skip
                  rcases Bool.eq_false_or_eq_true ((decide (y_137 < least_38))) with b_56 | b_56
                  · have H_152 := of_t H_149 b_56
                    refine V_reg hN hn [] [(81, true)] calls_nil 0 [6, 92] [] ⟨[(6, .c (.val (.int .i64 n_36))), (92, .c (.val (.bool true)))], [], 0⟩ [(decide (y_137 < least_38)) = true] (by kernel_rfl) rfl rfl (ap1 b_56) (by kernel_rfl) (by kernel_rfl) ?_
                    have H_154 := Option.some.inj (show some true = some q_148 from H_152); subst H_154
                    refine VL_nil ?_
                    exact QP_end true rfl [] hn (by kernel_rfl) (by kernel_rfl) rfl rfl rfl
                  · have H_153 := of_f H_149 b_56
                    rcases Bool.eq_false_or_eq_true ((decide (y_137 > (1114111 : Int)))) with b_58 | b_58
                    · have H_155 := of_t H_153 b_58
                      refine V_reg hN hn [] [(81, false), (85, true)] calls_nil 0 [6, 92] [] ⟨[(6, .c (.val (.int .i64 n_36))), (92, .c (.val (.bool true)))], [], 0⟩ [(decide (y_137 < least_38)) = false, (decide (y_137 > (1114111 : Int))) = true] (by kernel_rfl) rfl rfl (ap2 b_56 (ap1 b_58)) (by kernel_rfl) (by kernel_rfl) ?_
                      have H_157 := Option.some.inj (show some true = some q_148 from H_155); subst H_157
                      refine VL_nil ?_
                      exact QP_end true rfl [] hn (by kernel_rfl) (by kernel_rfl) rfl rfl rfl
                    · have H_156 := of_f H_153 b_58
                      rcases Bool.eq_false_or_eq_true ((decide (y_137 ≥ (55296 : Int)))) with b_60 | b_60
                      · have H_158 := of_t H_156 b_60
                        refine V_reg hN hn [] [(81, false), (85, false), (88, true)] calls_nil 0 [6, 92] [] ⟨[(6, .c (.val (.int .i64 n_36))), (92, .c (.val (.bool (decide (y_137 < (57344 : Int))))))], [], 0⟩ [(decide (y_137 < least_38)) = false, (decide (y_137 > (1114111 : Int))) = false, (decide (y_137 ≥ (55296 : Int))) = true] (by kernel_rfl) rfl rfl (ap2 b_56 (ap2 b_58 (ap1 b_60))) (by kernel_rfl) (by kernel_rfl) ?_
                        have H_160 := Option.some.inj (show some (decide (y_137 < (57344 : Int))) = some q_148 from H_158); subst H_160
                        refine VL_nil ?_
                        exact QP_end (decide (y_137 < (57344 : Int))) rfl [] hn (by kernel_rfl) (by kernel_rfl) rfl rfl rfl
                      · have H_159 := of_f H_156 b_60
                        refine V_reg hN hn [] [(81, false), (85, false), (88, false)] calls_nil 0 [6, 92] [] ⟨[(6, .c (.val (.int .i64 n_36))), (92, .c (.val (.bool false)))], [], 0⟩ [(decide (y_137 < least_38)) = false, (decide (y_137 > (1114111 : Int))) = false, (decide (y_137 ≥ (55296 : Int))) = false] (by kernel_rfl) rfl rfl (ap2 b_56 (ap2 b_58 (ap1 b_60))) (by kernel_rfl) (by kernel_rfl) ?_
                        have H_161 := Option.some.inj (show some false = some q_148 from H_159); subst H_161
                        refine VL_nil ?_
                        exact QP_end false rfl [] hn (by kernel_rfl) (by kernel_rfl) rfl rfl rfl
                · intro y_151 hy; subst hy
                  skip
                  skip
                  refine VL_cond (y_151) (by kernel_rfl) ?_ ?_
                  · intro b_64; have H_162 := of_t H_150 b_64
                    refine V_run hN hn 2 0 [4] [] ⟨[(4, .c (.val (.int .i64 (0 : Int))))], [], 0⟩ [] (by kernel_rfl) rfl rfl ap0 ?_
                    have H_164 := Option.some.inj (show some (0 : Int) = some r from H_162); subst H_164
                    refine VL_ret ?_
                    exact P_to [(4, .c (.val (.int .i64 (0 : Int))))] [] [] hn (by kernel_rfl) (by kernel_rfl) rfl rfl rfl (QF_retS (by kernel_rfl) (by kernel_rfl) rfl)
                  · intro b_64; have H_163 := of_f H_150 b_64
                    refine V_run hN hn 3 0 [4] [] ⟨[(4, .c (.val (.int .i64 n_36)))], [], 0⟩ [] (by kernel_rfl) rfl rfl ap0 ?_
                    have H_165 := Option.some.inj (show some n_36 = some r from H_163); subst H_165
                    refine VL_ret ?_
                    exact P_to [(4, .c (.val (.int .i64 n_36)))] [] [] hn (by kernel_rfl) (by kernel_rfl) rfl rfl rfl (QF_retS (by kernel_rfl) (by kernel_rfl) rfl)

theorem palinoderef1_Valid_spec (K : Nat) (s_1 : ByteArray) (r : Bool) (H : palinoderef1_Valid K s_1 = some r) : Spec Try.prog 18 0 [.c (.val (.string s_1))] [] (.c (.val (.bool r))) [] := by
  refine Spec_mk (fn := Try.f18) (c := (Try.f18.body).get!) Try.func18 (by kernel_rfl) rfl ?_
  intro C hN hn
  replace hN : C.N = 17 := hN
  unfold palinoderef1_Valid at H
  refine V_run hN hn 5 0 [0, 3] [] ⟨[(0, .c (.val (.string s_1))), (3, .c (.val (.int .i64 (0 : Int))))], [], 0⟩ [] (by kernel_rfl) rfl rfl ap0 ?_
  refine VL_block ?_
  refine V_to [(0, .c (.val (.string s_1))), (3, .c (.val (.int .i64 (0 : Int))))] [] [] hn (by kernel_rfl) (by kernel_rfl) rfl rfl rfl ?_
  refine VL_loop (X := Int) (fun x => [(0, .c (.val (.string s_1))), (3, .c (.val (.int .i64 x)))]) (fun x => []) (fun k x => palinoderef1_Valid.l0 K s_1 k x = some r) K (0 : Int) H (fun _ h => no_none h) ?_
  intro k_4 at_3 H_18
  have H_19 : palinoderef1_Valid.l0 K s_1 (k_4 + 1) at_3 = some r := H_18
  rw [palinoderef1_Valid.l0] at H_19
  refine V_run hN hn 3 0 [0, 3, 8] [] ⟨[(0, .c (.val (.string s_1))), (3, .c (.val (.int .i64 at_3))), (8, .c (.val (.bool (decide (at_3 < (((ByteArray.size s_1) : Nat) : Int))))))], [], 0⟩ [] (by kernel_rfl) rfl rfl ap0 ?_
  refine VL_cond ((decide (at_3 < (((ByteArray.size s_1) : Nat) : Int)))) (by kernel_rfl) ?_ ?_
  · intro b_6; have H_20 := of_t H_19 b_6
    refine V_run hN hn 1 0 [0, 3, 8] [] ⟨[(0, .c (.val (.string s_1))), (3, .c (.val (.int .i64 at_3))), (8, .c (.val (.bool (decide (at_3 < (((ByteArray.size s_1) : Nat) : Int))))))], [], 0⟩ [] (by kernel_rfl) rfl rfl ap0 ?_
    refine VL_block ?_
    refine V_run hN hn 1 0 [0, 3, 8] [] ⟨[(0, .c (.val (.string s_1))), (3, .c (.val (.int .i64 at_3))), (8, .c (.val (.bool (decide (at_3 < (((ByteArray.size s_1) : Nat) : Int))))))], [], 0⟩ [] (by kernel_rfl) rfl rfl ap0 ?_
    obtain ⟨r_9, h_10, H_22⟩ := of_bind H_20
    refine V_reg hN hn [(2, ⟨38, 0, [.c (.val (.string s_1)), .c (.val (.int .i64 at_3))], [], .c (.val (.int .i64 r_9)), [], [], 0⟩)] [] (calls_cons (palinoderef1_Size_spec K s_1 at_3 r_9 h_10) (by kernel_rfl) calls_nil) 0 [0, 3, 4] [] ⟨[(0, .c (.val (.string s_1))), (3, .c (.val (.int .i64 at_3))), (4, .c (.val (.int .i64 r_9)))], [], 0⟩ [] (by kernel_rfl) rfl rfl ap0 (by kernel_rfl) (by kernel_rfl) ?_
    refine V_run hN hn 3 0 [0, 3, 4, 13] [] ⟨[(0, .c (.val (.string s_1))), (3, .c (.val (.int .i64 at_3))), (4, .c (.val (.int .i64 r_9))), (13, .c (.val (.bool (r_9 == (0 : Int)))))], [], 0⟩ [] (by kernel_rfl) rfl rfl ap0 ?_
    refine VL_cond ((r_9 == (0 : Int))) (by kernel_rfl) ?_ ?_
    · intro b_13; have H_23 := of_t H_22 b_13
      refine V_run hN hn 2 0 [2] [] ⟨[(2, .c (.val (.bool false)))], [], 0⟩ [] (by kernel_rfl) rfl rfl ap0 ?_
      have H_25 := Option.some.inj (show some false = some r from H_23); subst H_25
      refine VL_ret ?_
      refine QB_ret ?_
      refine QL_ret ?_
      refine QB_ret ?_
      exact P_to [(2, .c (.val (.bool false)))] [] [] hn (by kernel_rfl) (by kernel_rfl) rfl rfl rfl (QF_retS (by kernel_rfl) (by kernel_rfl) rfl)
    · intro b_13; have H_24 := of_f H_22 b_13
      refine V_run hN hn 2 0 [0, 3] [] ⟨[(0, .c (.val (.string s_1))), (3, .c (.val (.int .i64 (IntKind.wrap .i64 (at_3 + r_9)))))], [], 0⟩ [] (by kernel_rfl) rfl rfl ap0 ?_
      refine VL_nil (QB_end ?_)
      refine VL_nil ?_
      exact V_roundEnd (IntKind.wrap .i64 (at_3 + r_9)) H_24 [] hn (by kernel_rfl) (by kernel_rfl) rfl rfl rfl
  · intro b_6; have H_21 := of_f H_19 b_6
    refine VL_exit ?_
    refine QL_exit ?_
    refine QB_here ?_
    refine V_run hN hn 2 0 [2] [] ⟨[(2, .c (.val (.bool true)))], [], 0⟩ [] (by kernel_rfl) rfl rfl ap0 ?_
    have H_26 := Option.some.inj (show some true = some r from H_21); subst H_26
    refine VL_ret ?_
    exact P_to [(2, .c (.val (.bool true)))] [] [] hn (by kernel_rfl) (by kernel_rfl) rfl rfl rfl (QF_retS (by kernel_rfl) (by kernel_rfl) rfl)

theorem delta_Is_sgr_spec (K : Nat) (d_1 : Int) (d_2 : (List (Int × (Int × ByteArray)))) (r : Bool) (H : delta_Is K d_1 d_2 = some r) : Spec Try.prog 30 1 [.agg [.val (.int .i64 d_1), .h 0]] [(0, .row (.pair (.int .i64) (.pair (.int .i64) .str)) d_2)] (.c (.val (.bool r))) [(0, .row (.pair (.int .i64) (.pair (.int .i64) .str)) d_2)] := by
  refine Spec_mk (fn := Try.f30) (c := (Try.f30.body).get!) Try.func30 (by kernel_rfl) rfl ?_
  intro C hN hn
  replace hN : C.N = 68 := hN
  unfold delta_Is at H
  refine V_run hN hn 4 1 [1] [0, 1] ⟨[(1, .c (.h 1))], [(0, .row (.pair (.int .i64) (.pair (.int .i64) .str)) d_2), (1, .box [.val (.int .i64 d_1), .h 0])], 2⟩ [] (by kernel_rfl) rfl rfl ap0 ?_
  obtain ⟨q_53, H_54, H_55⟩ := of_bind H
  refine V_cut (Y := Bool) (R := Bool) q_53 (fun y => y) (fun y => [(1, .c (.h 1)), (21, .c (.val (.bool y)))]) (fun y => [(0, .row (.pair (.int .i64) (.pair (.int .i64) .str)) d_2), (1, .box [.val (.int .i64 d_1), .h 0])]) ?_ ?_
  · skip
    rcases Bool.eq_false_or_eq_true ((decide (d_1 < (0 : Int)))) with b_4 | b_4
    · have H_57 := of_t H_54 b_4
      refine V_reg hN hn [] [(11, true)] calls_nil 2 [1, 21] [0, 1] ⟨[(1, .c (.h 1)), (21, .c (.val (.bool true)))], [(0, .row (.pair (.int .i64) (.pair (.int .i64) .str)) d_2), (1, .box [.val (.int .i64 d_1), .h 0])], 2⟩ [(decide (d_1 < (0 : Int))) = true] (by kernel_rfl) rfl rfl (ap1 b_4) (by kernel_rfl) (by kernel_rfl) ?_
      have H_59 := Option.some.inj (show some true = some q_53 from H_57); subst H_59
      refine VL_nil ?_
      exact QP_end true rfl [(1, 1)] hn (by kernel_rfl) (by kernel_rfl) rfl rfl rfl
    · have H_58 := of_f H_54 b_4
      rcases Bool.eq_false_or_eq_true ((decide (d_1 > (20000 : Int)))) with b_6 | b_6
      · have H_60 := of_t H_58 b_6
        refine V_reg hN hn [] [(11, false), (16, true)] calls_nil 2 [1, 21] [0, 1] ⟨[(1, .c (.h 1)), (21, .c (.val (.bool true)))], [(0, .row (.pair (.int .i64) (.pair (.int .i64) .str)) d_2), (1, .box [.val (.int .i64 d_1), .h 0])], 2⟩ [(decide (d_1 < (0 : Int))) = false, (decide (d_1 > (20000 : Int))) = true] (by kernel_rfl) rfl rfl (ap2 b_4 (ap1 b_6)) (by kernel_rfl) (by kernel_rfl) ?_
        have H_62 := Option.some.inj (show some true = some q_53 from H_60); subst H_62
        refine VL_nil ?_
        exact QP_end true rfl [(1, 1)] hn (by kernel_rfl) (by kernel_rfl) rfl rfl rfl
      · have H_61 := of_f H_58 b_6
        refine V_reg hN hn [] [(11, false), (16, false)] calls_nil 2 [1, 21] [0, 1] ⟨[(1, .c (.h 1)), (21, .c (.val (.bool (decide ((((List.length d_2) : Nat) : Int) > (60 : Int))))))], [(0, .row (.pair (.int .i64) (.pair (.int .i64) .str)) d_2), (1, .box [.val (.int .i64 d_1), .h 0])], 2⟩ [(decide (d_1 < (0 : Int))) = false, (decide (d_1 > (20000 : Int))) = false] (by kernel_rfl) rfl rfl (ap2 b_4 (ap1 b_6)) (by kernel_rfl) (by kernel_rfl) ?_
        have H_63 := Option.some.inj (show some (decide ((((List.length d_2) : Nat) : Int) > (60 : Int))) = some q_53 from H_61); subst H_63
        refine VL_nil ?_
        exact QP_end (decide ((((List.length d_2) : Nat) : Int) > (60 : Int))) rfl [(1, 1)] hn (by kernel_rfl) (by kernel_rfl) rfl rfl rfl
  · intro y_56 hy; subst hy
    skip
    skip
    refine VL_cond (y_56) (by kernel_rfl) ?_ ?_
    · intro b_10; have H_64 := of_t H_55 b_10
      refine V_run hN hn 2 2 [2] [0] ⟨[(2, .c (.val (.bool false)))], [(0, .row (.pair (.int .i64) (.pair (.int .i64) .str)) d_2)], 2⟩ [] (by kernel_rfl) rfl rfl ap0 ?_
      have H_66 := Option.some.inj (show some false = some r from H_64); subst H_66
      refine VL_ret ?_
      exact P_to [(2, .c (.val (.bool false)))] [(0, .row (.pair (.int .i64) (.pair (.int .i64) .str)) d_2)] [] hn (by kernel_rfl) (by kernel_rfl) rfl rfl rfl (QF_retS (by kernel_rfl) (by kernel_rfl) rfl)
    · intro b_10; have H_65 := of_f H_55 b_10
      refine V_run hN hn 6 2 [1, 3, 4, 23, 24, 25] [0, 1] ⟨[(1, .c (.h 1)), (3, .c (.val (.int .i64 (0 : Int)))), (4, .c (.val (.int .i64 (0 : Int)))), (23, .c (.h 0)), (24, .c (.val (.int .i64 (((List.length d_2) : Nat) : Int)))), (25, .c (.val (.int .i64 (0 : Int))))], [(0, .row (.pair (.int .i64) (.pair (.int .i64) .str)) d_2), (1, .box [.val (.int .i64 d_1), .h 0])], 2⟩ [] (by kernel_rfl) rfl rfl ap0 ?_
      refine VL_block ?_
      refine V_to [(1, .c (.h 1)), (3, .c (.val (.int .i64 (0 : Int)))), (4, .c (.val (.int .i64 (0 : Int)))), (23, .c (.h 0)), (24, .c (.val (.int .i64 (((List.length d_2) : Nat) : Int)))), (25, .c (.val (.int .i64 (0 : Int))))] [(0, .row (.pair (.int .i64) (.pair (.int .i64) .str)) d_2), (1, .box [.val (.int .i64 d_1), .h 0])] [(1, 1)] hn (by kernel_rfl) (by kernel_rfl) rfl rfl rfl ?_
      refine VL_loop (X := (Int × Int × Int)) (fun x => [(1, .c (.h 1)), (3, .c (.val (.int .i64 x.1))), (4, .c (.val (.int .i64 x.2.1))), (23, .c (.h 0)), (24, .c (.val (.int .i64 (((List.length d_2) : Nat) : Int)))), (25, .c (.val (.int .i64 x.2.2)))]) (fun x => [(0, .row (.pair (.int .i64) (.pair (.int .i64) .str)) d_2), (1, .box [.val (.int .i64 d_1), .h 0])]) (fun k x => delta_Is.l0 K d_2 d_1 k x.1 x.2.1 x.2.2 = some r) K ((0 : Int), (0 : Int), (0 : Int)) H_65 (fun _ h => no_none h) ?_
      intro k_16 x_16 H_67
      obtain ⟨size_13, to_14, t_15⟩ := x_16
      have H_68 : delta_Is.l0 K d_2 d_1 (k_16 + 1) size_13 to_14 t_15 = some r := H_67
      rw [delta_Is.l0] at H_68
      refine V_run hN hn 3 2 [1, 3, 4, 23, 24, 25, 26] [0, 1] ⟨[(1, .c (.h 1)), (3, .c (.val (.int .i64 size_13))), (4, .c (.val (.int .i64 to_14))), (23, .c (.h 0)), (24, .c (.val (.int .i64 (((List.length d_2) : Nat) : Int)))), (25, .c (.val (.int .i64 t_15))), (26, .c (.val (.bool (decide (t_15 < (((List.length d_2) : Nat) : Int))))))], [(0, .row (.pair (.int .i64) (.pair (.int .i64) .str)) d_2), (1, .box [.val (.int .i64 d_1), .h 0])], 2⟩ [] (by kernel_rfl) rfl rfl ap0 ?_
      refine VL_cond ((decide (t_15 < (((List.length d_2) : Nat) : Int)))) (by kernel_rfl) ?_ ?_
      · intro b_18; have H_69 := of_t H_68 b_18
        refine V_run hN hn 2 2 [1, 3, 4, 23, 24, 25, 26] [0, 1] ⟨[(1, .c (.h 1)), (3, .c (.val (.int .i64 size_13))), (4, .c (.val (.int .i64 to_14))), (23, .c (.h 0)), (24, .c (.val (.int .i64 (((List.length d_2) : Nat) : Int)))), (25, .c (.val (.int .i64 t_15))), (26, .c (.val (.bool (decide (t_15 < (((List.length d_2) : Nat) : Int))))))], [(0, .row (.pair (.int .i64) (.pair (.int .i64) .str)) d_2), (1, .box [.val (.int .i64 d_1), .h 0])], 2⟩ [] (by kernel_rfl) rfl rfl ap0 ?_
        refine VL_block ?_
        obtain ⟨c_20, H_71⟩ := of_if H_69
        refine V_run hN hn 3 2 [1, 3, 4, 5, 6, 23, 24, 25] [0, 1, 2] ⟨[(1, .c (.h 1)), (3, .c (.val (.int .i64 size_13))), (4, .c (.val (.int .i64 to_14))), (5, .c (.val (.int .i64 t_15))), (6, .c (.h 2)), (23, .c (.h 0)), (24, .c (.val (.int .i64 (((List.length d_2) : Nat) : Int)))), (25, .c (.val (.int .i64 t_15)))], [(0, .row (.pair (.int .i64) (.pair (.int .i64) .str)) d_2), (1, .box [.val (.int .i64 d_1), .h 0]), (2, .box [.val (.int .i64 (List.getD d_2 (Int.toNat t_15) ((0 : Int), ((0 : Int), ByteArray.empty))).1), .val (.int .i64 (List.getD d_2 (Int.toNat t_15) ((0 : Int), ((0 : Int), ByteArray.empty))).2.1), .val (.string (List.getD d_2 (Int.toNat t_15) ((0 : Int), ((0 : Int), ByteArray.empty))).2.2)])], 3⟩ [0 ≤ t_15, t_15 < (((List.length d_2) : Nat) : Int)] (by kernel_rfl) rfl rfl (ap2 c_20.1 (ap1 c_20.2)) ?_
        obtain ⟨q_72, H_73, H_74⟩ := of_bind H_71
        refine V_cut (Y := Bool) (R := Bool) q_72 (fun y => y) (fun y => [(1, .c (.h 1)), (3, .c (.val (.int .i64 size_13))), (4, .c (.val (.int .i64 to_14))), (5, .c (.val (.int .i64 t_15))), (6, .c (.h 2)), (7, .c (.val (.bool y))), (23, .c (.h 0)), (24, .c (.val (.int .i64 (((List.length d_2) : Nat) : Int)))), (25, .c (.val (.int .i64 t_15)))]) (fun y => [(0, .row (.pair (.int .i64) (.pair (.int .i64) .str)) d_2), (1, .box [.val (.int .i64 d_1), .h 0]), (2, .box [.val (.int .i64 (List.getD d_2 (Int.toNat t_15) ((0 : Int), ((0 : Int), ByteArray.empty))).1), .val (.int .i64 (List.getD d_2 (Int.toNat t_15) ((0 : Int), ((0 : Int), ByteArray.empty))).2.1), .val (.string (List.getD d_2 (Int.toNat t_15) ((0 : Int), ((0 : Int), ByteArray.empty))).2.2)])]) ?_ ?_
        · skip
          rcases Bool.eq_false_or_eq_true ((decide (t_15 > (0 : Int)))) with b_21 | b_21
          · have H_76 := of_t H_73 b_21
            obtain ⟨r_22, h_23, H_78⟩ := of_bind H_76
            obtain ⟨c_24, H_79⟩ := of_if H_78
            refine V_reg hN hn [(9, ⟨36, 0, [.agg [.val (.int .i64 (List.getD d_2 (Int.toNat (IntKind.wrap .i64 (t_15 - (1 : Int)))) ((0 : Int), ((0 : Int), ByteArray.empty))).1), .val (.int .i64 (List.getD d_2 (Int.toNat (IntKind.wrap .i64 (t_15 - (1 : Int)))) ((0 : Int), ((0 : Int), ByteArray.empty))).2.1), .val (.string (List.getD d_2 (Int.toNat (IntKind.wrap .i64 (t_15 - (1 : Int)))) ((0 : Int), ((0 : Int), ByteArray.empty))).2.2)]], [], .c (.val (.bool r_22)), [], [], 3⟩)] [(32, true)] (calls_cons (delta_IsCopy_spec K (List.getD d_2 (Int.toNat (IntKind.wrap .i64 (t_15 - (1 : Int)))) ((0 : Int), ((0 : Int), ByteArray.empty))).1 (List.getD d_2 (Int.toNat (IntKind.wrap .i64 (t_15 - (1 : Int)))) ((0 : Int), ((0 : Int), ByteArray.empty))).2.1 (List.getD d_2 (Int.toNat (IntKind.wrap .i64 (t_15 - (1 : Int)))) ((0 : Int), ((0 : Int), ByteArray.empty))).2.2 r_22 h_23) (by kernel_rfl) calls_nil) 3 [1, 3, 4, 5, 6, 7, 23, 24, 25] [0, 1, 2] ⟨[(1, .c (.h 1)), (3, .c (.val (.int .i64 size_13))), (4, .c (.val (.int .i64 to_14))), (5, .c (.val (.int .i64 t_15))), (6, .c (.h 2)), (7, .c (.val (.bool r_22))), (23, .c (.h 0)), (24, .c (.val (.int .i64 (((List.length d_2) : Nat) : Int)))), (25, .c (.val (.int .i64 t_15)))], [(0, .row (.pair (.int .i64) (.pair (.int .i64) .str)) d_2), (1, .box [.val (.int .i64 d_1), .h 0]), (2, .box [.val (.int .i64 (List.getD d_2 (Int.toNat t_15) ((0 : Int), ((0 : Int), ByteArray.empty))).1), .val (.int .i64 (List.getD d_2 (Int.toNat t_15) ((0 : Int), ((0 : Int), ByteArray.empty))).2.1), .val (.string (List.getD d_2 (Int.toNat t_15) ((0 : Int), ((0 : Int), ByteArray.empty))).2.2)])], 3⟩ [(decide (t_15 > (0 : Int))) = true, 0 ≤ (IntKind.wrap .i64 (t_15 - (1 : Int))), (IntKind.wrap .i64 (t_15 - (1 : Int))) < (((List.length d_2) : Nat) : Int)] (by kernel_rfl) rfl rfl (ap2 b_21 (ap2 c_24.1 (ap1 c_24.2))) (by kernel_rfl) (by kernel_rfl) ?_
            have H_80 := Option.some.inj (show some r_22 = some q_72 from H_79); subst H_80
            refine VL_nil ?_
            exact QP_end r_22 rfl [(1, 1), (2, 2)] hn (by kernel_rfl) (by kernel_rfl) rfl rfl rfl
          · have H_77 := of_f H_73 b_21
            refine V_reg hN hn [] [(32, false)] calls_nil 3 [1, 3, 4, 5, 6, 7, 23, 24, 25] [0, 1, 2] ⟨[(1, .c (.h 1)), (3, .c (.val (.int .i64 size_13))), (4, .c (.val (.int .i64 to_14))), (5, .c (.val (.int .i64 t_15))), (6, .c (.h 2)), (7, .c (.val (.bool false))), (23, .c (.h 0)), (24, .c (.val (.int .i64 (((List.length d_2) : Nat) : Int)))), (25, .c (.val (.int .i64 t_15)))], [(0, .row (.pair (.int .i64) (.pair (.int .i64) .str)) d_2), (1, .box [.val (.int .i64 d_1), .h 0]), (2, .box [.val (.int .i64 (List.getD d_2 (Int.toNat t_15) ((0 : Int), ((0 : Int), ByteArray.empty))).1), .val (.int .i64 (List.getD d_2 (Int.toNat t_15) ((0 : Int), ((0 : Int), ByteArray.empty))).2.1), .val (.string (List.getD d_2 (Int.toNat t_15) ((0 : Int), ((0 : Int), ByteArray.empty))).2.2)])], 3⟩ [(decide (t_15 > (0 : Int))) = false] (by kernel_rfl) rfl rfl (ap1 b_21) (by kernel_rfl) (by kernel_rfl) ?_
            have H_81 := Option.some.inj (show some false = some q_72 from H_77); subst H_81
            refine VL_nil ?_
            exact QP_end false rfl [(1, 1), (2, 2)] hn (by kernel_rfl) (by kernel_rfl) rfl rfl rfl
        · intro y_75 hy; subst hy
          skip
          skip
          refine V_run hN hn 2 3 [1, 3, 4, 5, 6, 7, 23, 24, 25] [0, 1, 2] ⟨[(1, .c (.h 1)), (3, .c (.val (.int .i64 size_13))), (4, .c (.val (.int .i64 to_14))), (5, .c (.val (.int .i64 t_15))), (6, .c (.h 2)), (7, .c (.val (.bool y_75))), (23, .c (.h 0)), (24, .c (.val (.int .i64 (((List.length d_2) : Nat) : Int)))), (25, .c (.val (.int .i64 t_15)))], [(0, .row (.pair (.int .i64) (.pair (.int .i64) .str)) d_2), (1, .box [.val (.int .i64 d_1), .h 0]), (2, .box [.val (.int .i64 (List.getD d_2 (Int.toNat t_15) ((0 : Int), ((0 : Int), ByteArray.empty))).1), .val (.int .i64 (List.getD d_2 (Int.toNat t_15) ((0 : Int), ((0 : Int), ByteArray.empty))).2.1), .val (.string (List.getD d_2 (Int.toNat t_15) ((0 : Int), ((0 : Int), ByteArray.empty))).2.2)])], 3⟩ [] (by kernel_rfl) rfl rfl ap0 ?_
          obtain ⟨r_28, h_29, H_82⟩ := of_bind H_74
          refine V_reg hN hn [(7, ⟨43, 0, [.agg [.val (.int .i64 (List.getD d_2 (Int.toNat t_15) ((0 : Int), ((0 : Int), ByteArray.empty))).1), .val (.int .i64 (List.getD d_2 (Int.toNat t_15) ((0 : Int), ((0 : Int), ByteArray.empty))).2.1), .val (.string (List.getD d_2 (Int.toNat t_15) ((0 : Int), ((0 : Int), ByteArray.empty))).2.2)], .c (.val (.int .i64 d_1)), .c (.val (.int .i64 to_14)), .c (.val (.bool (decide (t_15 > (0 : Int))))), .c (.val (.bool y_75))], [], .c (.val (.bool r_28)), [], [], 3⟩)] [] (calls_cons (delta_elem_spec K (List.getD d_2 (Int.toNat t_15) ((0 : Int), ((0 : Int), ByteArray.empty))).1 (List.getD d_2 (Int.toNat t_15) ((0 : Int), ((0 : Int), ByteArray.empty))).2.1 (List.getD d_2 (Int.toNat t_15) ((0 : Int), ((0 : Int), ByteArray.empty))).2.2 d_1 to_14 (decide (t_15 > (0 : Int))) y_75 r_28 h_29) (by kernel_rfl) calls_nil) 3 [1, 3, 4, 6, 23, 24, 25, 49] [0, 1, 2] ⟨[(1, .c (.h 1)), (3, .c (.val (.int .i64 size_13))), (4, .c (.val (.int .i64 to_14))), (6, .c (.h 2)), (23, .c (.h 0)), (24, .c (.val (.int .i64 (((List.length d_2) : Nat) : Int)))), (25, .c (.val (.int .i64 t_15))), (49, .c (.val (.bool (!r_28))))], [(0, .row (.pair (.int .i64) (.pair (.int .i64) .str)) d_2), (1, .box [.val (.int .i64 d_1), .h 0]), (2, .box [.val (.int .i64 (List.getD d_2 (Int.toNat t_15) ((0 : Int), ((0 : Int), ByteArray.empty))).1), .val (.int .i64 (List.getD d_2 (Int.toNat t_15) ((0 : Int), ((0 : Int), ByteArray.empty))).2.1), .val (.string (List.getD d_2 (Int.toNat t_15) ((0 : Int), ((0 : Int), ByteArray.empty))).2.2)])], 3⟩ [] (by kernel_rfl) rfl rfl ap0 (by kernel_rfl) (by kernel_rfl) ?_
          refine VL_cond ((!r_28)) (by kernel_rfl) ?_ ?_
          · intro b_31; have H_83 := of_t H_82 b_31
            refine V_run hN hn 2 3 [2] [0] ⟨[(2, .c (.val (.bool false)))], [(0, .row (.pair (.int .i64) (.pair (.int .i64) .str)) d_2)], 3⟩ [] (by kernel_rfl) rfl rfl ap0 ?_
            have H_85 := Option.some.inj (show some false = some r from H_83); subst H_85
            refine VL_ret ?_
            refine QB_ret ?_
            refine QL_ret ?_
            refine QB_ret ?_
            exact P_to [(2, .c (.val (.bool false)))] [(0, .row (.pair (.int .i64) (.pair (.int .i64) .str)) d_2)] [] hn (by kernel_rfl) (by kernel_rfl) rfl rfl rfl (QF_retS (by kernel_rfl) (by kernel_rfl) rfl)
          · intro b_31; have H_84 := of_f H_82 b_31
            refine V_run hN hn 3 3 [1, 3, 4, 6, 23, 24, 25, 49] [0, 1, 2] ⟨[(1, .c (.h 1)), (3, .c (.val (.int .i64 size_13))), (4, .c (.val (.int .i64 to_14))), (6, .c (.h 2)), (23, .c (.h 0)), (24, .c (.val (.int .i64 (((List.length d_2) : Nat) : Int)))), (25, .c (.val (.int .i64 t_15))), (49, .c (.val (.bool (!r_28))))], [(0, .row (.pair (.int .i64) (.pair (.int .i64) .str)) d_2), (1, .box [.val (.int .i64 d_1), .h 0]), (2, .box [.val (.int .i64 (List.getD d_2 (Int.toNat t_15) ((0 : Int), ((0 : Int), ByteArray.empty))).1), .val (.int .i64 (List.getD d_2 (Int.toNat t_15) ((0 : Int), ((0 : Int), ByteArray.empty))).2.1), .val (.string (List.getD d_2 (Int.toNat t_15) ((0 : Int), ((0 : Int), ByteArray.empty))).2.2)])], 3⟩ [] (by kernel_rfl) rfl rfl ap0 ?_
            obtain ⟨r_34, h_35, H_86⟩ := of_bind H_84
            refine V_reg hN hn [(1, ⟨36, 0, [.agg [.val (.int .i64 (List.getD d_2 (Int.toNat t_15) ((0 : Int), ((0 : Int), ByteArray.empty))).1), .val (.int .i64 (List.getD d_2 (Int.toNat t_15) ((0 : Int), ((0 : Int), ByteArray.empty))).2.1), .val (.string (List.getD d_2 (Int.toNat t_15) ((0 : Int), ((0 : Int), ByteArray.empty))).2.2)]], [], .c (.val (.bool r_34)), [], [], 3⟩)] [] (calls_cons (delta_IsCopy_spec K (List.getD d_2 (Int.toNat t_15) ((0 : Int), ((0 : Int), ByteArray.empty))).1 (List.getD d_2 (Int.toNat t_15) ((0 : Int), ((0 : Int), ByteArray.empty))).2.1 (List.getD d_2 (Int.toNat t_15) ((0 : Int), ((0 : Int), ByteArray.empty))).2.2 r_34 h_35) (by kernel_rfl) calls_nil) 3 [1, 3, 4, 6, 23, 24, 25, 51] [0, 1, 2] ⟨[(1, .c (.h 1)), (3, .c (.val (.int .i64 size_13))), (4, .c (.val (.int .i64 to_14))), (6, .c (.h 2)), (23, .c (.h 0)), (24, .c (.val (.int .i64 (((List.length d_2) : Nat) : Int)))), (25, .c (.val (.int .i64 t_15))), (51, .c (.val (.bool r_34)))], [(0, .row (.pair (.int .i64) (.pair (.int .i64) .str)) d_2), (1, .box [.val (.int .i64 d_1), .h 0]), (2, .box [.val (.int .i64 (List.getD d_2 (Int.toNat t_15) ((0 : Int), ((0 : Int), ByteArray.empty))).1), .val (.int .i64 (List.getD d_2 (Int.toNat t_15) ((0 : Int), ((0 : Int), ByteArray.empty))).2.1), .val (.string (List.getD d_2 (Int.toNat t_15) ((0 : Int), ((0 : Int), ByteArray.empty))).2.2)])], 3⟩ [] (by kernel_rfl) rfl rfl ap0 (by kernel_rfl) (by kernel_rfl) ?_
            obtain ⟨q_87, H_88, H_89⟩ := of_bind H_86
            refine V_cut (Y := Int) (R := Int) q_87 (fun y => y) (fun y => [(1, .c (.h 1)), (3, .c (.val (.int .i64 size_13))), (4, .c (.val (.int .i64 y))), (6, .c (.h 2)), (23, .c (.h 0)), (24, .c (.val (.int .i64 (((List.length d_2) : Nat) : Int)))), (25, .c (.val (.int .i64 t_15)))]) (fun y => [(0, .row (.pair (.int .i64) (.pair (.int .i64) .str)) d_2), (1, .box [.val (.int .i64 d_1), .h 0]), (2, .box [.val (.int .i64 (List.getD d_2 (Int.toNat t_15) ((0 : Int), ((0 : Int), ByteArray.empty))).1), .val (.int .i64 (List.getD d_2 (Int.toNat t_15) ((0 : Int), ((0 : Int), ByteArray.empty))).2.1), .val (.string (List.getD d_2 (Int.toNat t_15) ((0 : Int), ((0 : Int), ByteArray.empty))).2.2)])]) ?_ ?_
            · skip
              refine VL_cond (r_34) (by kernel_rfl) ?_ ?_
              · intro b_37; have H_91 := of_t H_88 b_37
                refine V_run hN hn 1 3 [1, 3, 4, 6, 23, 24, 25] [0, 1, 2] ⟨[(1, .c (.h 1)), (3, .c (.val (.int .i64 size_13))), (4, .c (.val (.int .i64 (List.getD d_2 (Int.toNat t_15) ((0 : Int), ((0 : Int), ByteArray.empty))).2.1))), (6, .c (.h 2)), (23, .c (.h 0)), (24, .c (.val (.int .i64 (((List.length d_2) : Nat) : Int)))), (25, .c (.val (.int .i64 t_15)))], [(0, .row (.pair (.int .i64) (.pair (.int .i64) .str)) d_2), (1, .box [.val (.int .i64 d_1), .h 0]), (2, .box [.val (.int .i64 (List.getD d_2 (Int.toNat t_15) ((0 : Int), ((0 : Int), ByteArray.empty))).1), .val (.int .i64 (List.getD d_2 (Int.toNat t_15) ((0 : Int), ((0 : Int), ByteArray.empty))).2.1), .val (.string (List.getD d_2 (Int.toNat t_15) ((0 : Int), ((0 : Int), ByteArray.empty))).2.2)])], 3⟩ [] (by kernel_rfl) rfl rfl ap0 ?_
                have H_93 := Option.some.inj (show some (List.getD d_2 (Int.toNat t_15) ((0 : Int), ((0 : Int), ByteArray.empty))).2.1 = some q_87 from H_91); subst H_93
                refine VL_nil ?_
                exact QP_end (List.getD d_2 (Int.toNat t_15) ((0 : Int), ((0 : Int), ByteArray.empty))).2.1 rfl [(1, 1), (2, 2)] hn (by kernel_rfl) (by kernel_rfl) rfl rfl rfl
              · intro b_37; have H_92 := of_f H_88 b_37
                refine V_run hN hn 1 3 [1, 3, 4, 6, 23, 24, 25, 51] [0, 1, 2] ⟨[(1, .c (.h 1)), (3, .c (.val (.int .i64 size_13))), (4, .c (.val (.int .i64 to_14))), (6, .c (.h 2)), (23, .c (.h 0)), (24, .c (.val (.int .i64 (((List.length d_2) : Nat) : Int)))), (25, .c (.val (.int .i64 t_15))), (51, .c (.val (.bool r_34)))], [(0, .row (.pair (.int .i64) (.pair (.int .i64) .str)) d_2), (1, .box [.val (.int .i64 d_1), .h 0]), (2, .box [.val (.int .i64 (List.getD d_2 (Int.toNat t_15) ((0 : Int), ((0 : Int), ByteArray.empty))).1), .val (.int .i64 (List.getD d_2 (Int.toNat t_15) ((0 : Int), ((0 : Int), ByteArray.empty))).2.1), .val (.string (List.getD d_2 (Int.toNat t_15) ((0 : Int), ((0 : Int), ByteArray.empty))).2.2)])], 3⟩ [] (by kernel_rfl) rfl rfl ap0 ?_
                have H_94 := Option.some.inj (show some to_14 = some q_87 from H_92); subst H_94
                refine VL_nil ?_
                exact QP_end to_14 rfl [(1, 1), (2, 2)] hn (by kernel_rfl) (by kernel_rfl) rfl rfl rfl
            · intro y_90 hy; subst hy
              skip
              skip
              refine V_run hN hn 4 3 [1, 3, 4, 23, 24, 25, 66] [0, 1] ⟨[(1, .c (.h 1)), (3, .c (.val (.int .i64 (IntKind.wrap .i64 (size_13 + (IntKind.wrap .i64 ((IntKind.wrap .i64 ((List.getD d_2 (Int.toNat t_15) ((0 : Int), ((0 : Int), ByteArray.empty))).2.1 - (List.getD d_2 (Int.toNat t_15) ((0 : Int), ((0 : Int), ByteArray.empty))).1)) + (((ByteArray.size (List.getD d_2 (Int.toNat t_15) ((0 : Int), ((0 : Int), ByteArray.empty))).2.2) : Nat) : Int)))))))), (4, .c (.val (.int .i64 y_90))), (23, .c (.h 0)), (24, .c (.val (.int .i64 (((List.length d_2) : Nat) : Int)))), (25, .c (.val (.int .i64 t_15))), (66, .c (.val (.bool (decide ((IntKind.wrap .i64 (size_13 + (IntKind.wrap .i64 ((IntKind.wrap .i64 ((List.getD d_2 (Int.toNat t_15) ((0 : Int), ((0 : Int), ByteArray.empty))).2.1 - (List.getD d_2 (Int.toNat t_15) ((0 : Int), ((0 : Int), ByteArray.empty))).1)) + (((ByteArray.size (List.getD d_2 (Int.toNat t_15) ((0 : Int), ((0 : Int), ByteArray.empty))).2.2) : Nat) : Int))))) > (20000 : Int))))))], [(0, .row (.pair (.int .i64) (.pair (.int .i64) .str)) d_2), (1, .box [.val (.int .i64 d_1), .h 0])], 3⟩ [] (by kernel_rfl) rfl rfl ap0 ?_
              refine VL_cond ((decide ((IntKind.wrap .i64 (size_13 + (IntKind.wrap .i64 ((IntKind.wrap .i64 ((List.getD d_2 (Int.toNat t_15) ((0 : Int), ((0 : Int), ByteArray.empty))).2.1 - (List.getD d_2 (Int.toNat t_15) ((0 : Int), ((0 : Int), ByteArray.empty))).1)) + (((ByteArray.size (List.getD d_2 (Int.toNat t_15) ((0 : Int), ((0 : Int), ByteArray.empty))).2.2) : Nat) : Int))))) > (20000 : Int)))) (by kernel_rfl) ?_ ?_
              · intro b_42; have H_95 := of_t H_89 b_42
                refine V_run hN hn 2 3 [2] [0] ⟨[(2, .c (.val (.bool false)))], [(0, .row (.pair (.int .i64) (.pair (.int .i64) .str)) d_2)], 3⟩ [] (by kernel_rfl) rfl rfl ap0 ?_
                have H_97 := Option.some.inj (show some false = some r from H_95); subst H_97
                refine VL_ret ?_
                refine QB_ret ?_
                refine QL_ret ?_
                refine QB_ret ?_
                exact P_to [(2, .c (.val (.bool false)))] [(0, .row (.pair (.int .i64) (.pair (.int .i64) .str)) d_2)] [] hn (by kernel_rfl) (by kernel_rfl) rfl rfl rfl (QF_retS (by kernel_rfl) (by kernel_rfl) rfl)
              · intro b_42; have H_96 := of_f H_89 b_42
                refine V_run hN hn 1 3 [1, 3, 4, 23, 24, 25, 66] [0, 1] ⟨[(1, .c (.h 1)), (3, .c (.val (.int .i64 (IntKind.wrap .i64 (size_13 + (IntKind.wrap .i64 ((IntKind.wrap .i64 ((List.getD d_2 (Int.toNat t_15) ((0 : Int), ((0 : Int), ByteArray.empty))).2.1 - (List.getD d_2 (Int.toNat t_15) ((0 : Int), ((0 : Int), ByteArray.empty))).1)) + (((ByteArray.size (List.getD d_2 (Int.toNat t_15) ((0 : Int), ((0 : Int), ByteArray.empty))).2.2) : Nat) : Int)))))))), (4, .c (.val (.int .i64 y_90))), (23, .c (.h 0)), (24, .c (.val (.int .i64 (((List.length d_2) : Nat) : Int)))), (25, .c (.val (.int .i64 t_15))), (66, .c (.val (.bool (decide ((IntKind.wrap .i64 (size_13 + (IntKind.wrap .i64 ((IntKind.wrap .i64 ((List.getD d_2 (Int.toNat t_15) ((0 : Int), ((0 : Int), ByteArray.empty))).2.1 - (List.getD d_2 (Int.toNat t_15) ((0 : Int), ((0 : Int), ByteArray.empty))).1)) + (((ByteArray.size (List.getD d_2 (Int.toNat t_15) ((0 : Int), ((0 : Int), ByteArray.empty))).2.2) : Nat) : Int))))) > (20000 : Int))))))], [(0, .row (.pair (.int .i64) (.pair (.int .i64) .str)) d_2), (1, .box [.val (.int .i64 d_1), .h 0])], 3⟩ [] (by kernel_rfl) rfl rfl ap0 ?_
                refine VL_nil (QB_end ?_)
                refine V_run hN hn 1 3 [1, 3, 4, 23, 24, 25] [0, 1] ⟨[(1, .c (.h 1)), (3, .c (.val (.int .i64 (IntKind.wrap .i64 (size_13 + (IntKind.wrap .i64 ((IntKind.wrap .i64 ((List.getD d_2 (Int.toNat t_15) ((0 : Int), ((0 : Int), ByteArray.empty))).2.1 - (List.getD d_2 (Int.toNat t_15) ((0 : Int), ((0 : Int), ByteArray.empty))).1)) + (((ByteArray.size (List.getD d_2 (Int.toNat t_15) ((0 : Int), ((0 : Int), ByteArray.empty))).2.2) : Nat) : Int)))))))), (4, .c (.val (.int .i64 y_90))), (23, .c (.h 0)), (24, .c (.val (.int .i64 (((List.length d_2) : Nat) : Int)))), (25, .c (.val (.int .i64 (IntKind.wrap .i64 (t_15 + (1 : Int))))))], [(0, .row (.pair (.int .i64) (.pair (.int .i64) .str)) d_2), (1, .box [.val (.int .i64 d_1), .h 0])], 3⟩ [] (by kernel_rfl) rfl rfl ap0 ?_
                refine VL_nil ?_
                exact V_roundEnd ((IntKind.wrap .i64 (size_13 + (IntKind.wrap .i64 ((IntKind.wrap .i64 ((List.getD d_2 (Int.toNat t_15) ((0 : Int), ((0 : Int), ByteArray.empty))).2.1 - (List.getD d_2 (Int.toNat t_15) ((0 : Int), ((0 : Int), ByteArray.empty))).1)) + (((ByteArray.size (List.getD d_2 (Int.toNat t_15) ((0 : Int), ((0 : Int), ByteArray.empty))).2.2) : Nat) : Int))))), y_90, (IntKind.wrap .i64 (t_15 + (1 : Int)))) H_96 [(1, 1)] hn (by kernel_rfl) (by kernel_rfl) rfl rfl rfl
      · intro b_18; have H_70 := of_f H_68 b_18
        refine VL_exit ?_
        refine QL_exit ?_
        refine QB_here ?_
        refine V_run hN hn 2 2 [2] [0] ⟨[(2, .c (.val (.bool true)))], [(0, .row (.pair (.int .i64) (.pair (.int .i64) .str)) d_2)], 2⟩ [] (by kernel_rfl) rfl rfl ap0 ?_
        have H_98 := Option.some.inj (show some true = some r from H_70); subst H_98
        refine VL_ret ?_
        exact P_to [(2, .c (.val (.bool true)))] [(0, .row (.pair (.int .i64) (.pair (.int .i64) .str)) d_2)] [] hn (by kernel_rfl) (by kernel_rfl) rfl rfl rfl (QF_retS (by kernel_rfl) (by kernel_rfl) rfl)

theorem delta_sums_sgr_spec (K : Nat) (d_1 : Int) (d_2 : (List (Int × (Int × ByteArray)))) (r : (Int × Int)) (H : delta_sums K d_1 d_2 = some r) : Spec Try.prog 42 1 [.agg [.val (.int .i64 d_1), .h 0]] [(0, .row (.pair (.int .i64) (.pair (.int .i64) .str)) d_2)] (.tup [(false, [.val (.int .i64 r.1)]), (false, [.val (.int .i64 r.2)])]) [(0, .row (.pair (.int .i64) (.pair (.int .i64) .str)) d_2)] := by
  refine Spec_mk (fn := Try.f42) (c := (Try.f42.body).get!) Try.func42 (by kernel_rfl) rfl ?_
  intro C hN hn
  replace hN : C.N = 33 := hN
  unfold delta_sums at H
  refine V_run hN hn 6 1 [1, 4, 5] [0, 1] ⟨[(1, .c (.h 1)), (4, .c (.val (.int .i64 (0 : Int)))), (5, .c (.val (.int .i64 (0 : Int))))], [(0, .row (.pair (.int .i64) (.pair (.int .i64) .str)) d_2), (1, .box [.val (.int .i64 d_1), .h 0])], 2⟩ [] (by kernel_rfl) rfl rfl ap0 ?_
  obtain ⟨r_4, h_5, H_22⟩ := of_bind H
  refine V_reg hN hn [(1, ⟨30, 1, [.agg [.val (.int .i64 d_1), .h 0]], [(0, .row (.pair (.int .i64) (.pair (.int .i64) .str)) d_2)], .c (.val (.bool r_4)), [(0, .row (.pair (.int .i64) (.pair (.int .i64) .str)) d_2)], [(0, 0)], 2⟩)] [] (calls_cons (delta_Is_sgr_spec K d_1 d_2 r_4 h_5) (by kernel_rfl) calls_nil) 2 [1, 4, 5, 10] [0, 1] ⟨[(1, .c (.h 1)), (4, .c (.val (.int .i64 (0 : Int)))), (5, .c (.val (.int .i64 (0 : Int)))), (10, .c (.val (.bool (!r_4))))], [(0, .row (.pair (.int .i64) (.pair (.int .i64) .str)) d_2), (1, .box [.val (.int .i64 d_1), .h 0])], 2⟩ [] (by kernel_rfl) rfl rfl ap0 (by kernel_rfl) (by kernel_rfl) ?_
  refine VL_cond ((!r_4)) (by kernel_rfl) ?_ ?_
  · intro b_7; have H_23 := of_t H_22 b_7
    refine V_run hN hn 2 2 [2, 3] [0] ⟨[(2, .c (.val (.int .i64 (0 : Int)))), (3, .c (.val (.int .i64 (0 : Int))))], [(0, .row (.pair (.int .i64) (.pair (.int .i64) .str)) d_2)], 2⟩ [] (by kernel_rfl) rfl rfl ap0 ?_
    have H_25 := Option.some.inj (show some ((0 : Int), (0 : Int)) = some r from H_23); subst H_25
    refine VL_ret ?_
    exact P_to [(2, .c (.val (.int .i64 (0 : Int)))), (3, .c (.val (.int .i64 (0 : Int))))] [(0, .row (.pair (.int .i64) (.pair (.int .i64) .str)) d_2)] [] hn (by kernel_rfl) (by kernel_rfl) rfl rfl rfl (QF_retS (by kernel_rfl) (by kernel_rfl) rfl)
  · intro b_7; have H_24 := of_f H_22 b_7
    refine V_run hN hn 4 2 [4, 5, 12, 13, 14] [0] ⟨[(4, .c (.val (.int .i64 (0 : Int)))), (5, .c (.val (.int .i64 (0 : Int)))), (12, .c (.h 0)), (13, .c (.val (.int .i64 (((List.length d_2) : Nat) : Int)))), (14, .c (.val (.int .i64 (0 : Int))))], [(0, .row (.pair (.int .i64) (.pair (.int .i64) .str)) d_2)], 2⟩ [] (by kernel_rfl) rfl rfl ap0 ?_
    refine VL_block ?_
    refine V_to [(4, .c (.val (.int .i64 (0 : Int)))), (5, .c (.val (.int .i64 (0 : Int)))), (12, .c (.h 0)), (13, .c (.val (.int .i64 (((List.length d_2) : Nat) : Int)))), (14, .c (.val (.int .i64 (0 : Int))))] [(0, .row (.pair (.int .i64) (.pair (.int .i64) .str)) d_2)] [] hn (by kernel_rfl) (by kernel_rfl) rfl rfl rfl ?_
    refine VL_loop (X := (Int × Int × Int)) (fun x => [(4, .c (.val (.int .i64 x.1))), (5, .c (.val (.int .i64 x.2.1))), (12, .c (.h 0)), (13, .c (.val (.int .i64 (((List.length d_2) : Nat) : Int)))), (14, .c (.val (.int .i64 x.2.2)))]) (fun x => [(0, .row (.pair (.int .i64) (.pair (.int .i64) .str)) d_2)]) (fun k x => delta_sums.l0 K d_2 k x.1 x.2.1 x.2.2 = some r) K ((0 : Int), (0 : Int), (0 : Int)) H_24 (fun _ h => no_none h) ?_
    intro k_13 x_13 H_26
    obtain ⟨kept_10, put_11, t_12⟩ := x_13
    have H_27 : delta_sums.l0 K d_2 (k_13 + 1) kept_10 put_11 t_12 = some r := H_26
    rw [delta_sums.l0] at H_27
    refine V_run hN hn 3 2 [4, 5, 12, 13, 14, 15] [0] ⟨[(4, .c (.val (.int .i64 kept_10))), (5, .c (.val (.int .i64 put_11))), (12, .c (.h 0)), (13, .c (.val (.int .i64 (((List.length d_2) : Nat) : Int)))), (14, .c (.val (.int .i64 t_12))), (15, .c (.val (.bool (decide (t_12 < (((List.length d_2) : Nat) : Int))))))], [(0, .row (.pair (.int .i64) (.pair (.int .i64) .str)) d_2)], 2⟩ [] (by kernel_rfl) rfl rfl ap0 ?_
    refine VL_cond ((decide (t_12 < (((List.length d_2) : Nat) : Int)))) (by kernel_rfl) ?_ ?_
    · intro b_15; have H_28 := of_t H_27 b_15
      refine V_run hN hn 2 2 [4, 5, 12, 13, 14, 15] [0] ⟨[(4, .c (.val (.int .i64 kept_10))), (5, .c (.val (.int .i64 put_11))), (12, .c (.h 0)), (13, .c (.val (.int .i64 (((List.length d_2) : Nat) : Int)))), (14, .c (.val (.int .i64 t_12))), (15, .c (.val (.bool (decide (t_12 < (((List.length d_2) : Nat) : Int))))))], [(0, .row (.pair (.int .i64) (.pair (.int .i64) .str)) d_2)], 2⟩ [] (by kernel_rfl) rfl rfl ap0 ?_
      refine VL_block ?_
      obtain ⟨c_17, H_30⟩ := of_if H_28
      refine V_run hN hn 5 2 [4, 5, 12, 13, 14] [0] ⟨[(4, .c (.val (.int .i64 (IntKind.wrap .i64 (kept_10 + (IntKind.wrap .i64 ((List.getD d_2 (Int.toNat t_12) ((0 : Int), ((0 : Int), ByteArray.empty))).2.1 - (List.getD d_2 (Int.toNat t_12) ((0 : Int), ((0 : Int), ByteArray.empty))).1))))))), (5, .c (.val (.int .i64 (IntKind.wrap .i64 (put_11 + (((ByteArray.size (List.getD d_2 (Int.toNat t_12) ((0 : Int), ((0 : Int), ByteArray.empty))).2.2) : Nat) : Int)))))), (12, .c (.h 0)), (13, .c (.val (.int .i64 (((List.length d_2) : Nat) : Int)))), (14, .c (.val (.int .i64 t_12)))], [(0, .row (.pair (.int .i64) (.pair (.int .i64) .str)) d_2)], 3⟩ [0 ≤ t_12, t_12 < (((List.length d_2) : Nat) : Int)] (by kernel_rfl) rfl rfl (ap2 c_17.1 (ap1 c_17.2)) ?_
      refine VL_nil (QB_end ?_)
      refine V_run hN hn 1 3 [4, 5, 12, 13, 14] [0] ⟨[(4, .c (.val (.int .i64 (IntKind.wrap .i64 (kept_10 + (IntKind.wrap .i64 ((List.getD d_2 (Int.toNat t_12) ((0 : Int), ((0 : Int), ByteArray.empty))).2.1 - (List.getD d_2 (Int.toNat t_12) ((0 : Int), ((0 : Int), ByteArray.empty))).1))))))), (5, .c (.val (.int .i64 (IntKind.wrap .i64 (put_11 + (((ByteArray.size (List.getD d_2 (Int.toNat t_12) ((0 : Int), ((0 : Int), ByteArray.empty))).2.2) : Nat) : Int)))))), (12, .c (.h 0)), (13, .c (.val (.int .i64 (((List.length d_2) : Nat) : Int)))), (14, .c (.val (.int .i64 (IntKind.wrap .i64 (t_12 + (1 : Int))))))], [(0, .row (.pair (.int .i64) (.pair (.int .i64) .str)) d_2)], 3⟩ [] (by kernel_rfl) rfl rfl ap0 ?_
      refine VL_nil ?_
      exact V_roundEnd ((IntKind.wrap .i64 (kept_10 + (IntKind.wrap .i64 ((List.getD d_2 (Int.toNat t_12) ((0 : Int), ((0 : Int), ByteArray.empty))).2.1 - (List.getD d_2 (Int.toNat t_12) ((0 : Int), ((0 : Int), ByteArray.empty))).1)))), (IntKind.wrap .i64 (put_11 + (((ByteArray.size (List.getD d_2 (Int.toNat t_12) ((0 : Int), ((0 : Int), ByteArray.empty))).2.2) : Nat) : Int))), (IntKind.wrap .i64 (t_12 + (1 : Int)))) H_30 [] hn (by kernel_rfl) (by kernel_rfl) rfl rfl rfl
    · intro b_15; have H_29 := of_f H_27 b_15
      refine VL_exit ?_
      refine QL_exit ?_
      refine QB_here ?_
      refine V_run hN hn 2 2 [2, 3] [0] ⟨[(2, .c (.val (.int .i64 kept_10))), (3, .c (.val (.int .i64 put_11)))], [(0, .row (.pair (.int .i64) (.pair (.int .i64) .str)) d_2)], 2⟩ [] (by kernel_rfl) rfl rfl ap0 ?_
      have H_31 := Option.some.inj (show some (kept_10, put_11) = some r from H_29); subst H_31
      refine VL_ret ?_
      exact P_to [(2, .c (.val (.int .i64 kept_10))), (3, .c (.val (.int .i64 put_11)))] [(0, .row (.pair (.int .i64) (.pair (.int .i64) .str)) d_2)] [] hn (by kernel_rfl) (by kernel_rfl) rfl rfl rfl (QF_retS (by kernel_rfl) (by kernel_rfl) rfl)

theorem delta_Size_sgr_spec (K : Nat) (d_1 : Int) (d_2 : (List (Int × (Int × ByteArray)))) (r : Int) (H : delta_Size K d_1 d_2 = some r) : Spec Try.prog 26 1 [.agg [.val (.int .i64 d_1), .h 0]] [(0, .row (.pair (.int .i64) (.pair (.int .i64) .str)) d_2)] (.c (.val (.int .i64 r))) [(0, .row (.pair (.int .i64) (.pair (.int .i64) .str)) d_2)] := by
  refine Spec_mk (fn := Try.f26) (c := (Try.f26.body).get!) Try.func26 (by kernel_rfl) rfl ?_
  intro C hN hn
  replace hN : C.N = 13 := hN
  unfold delta_Size at H
  refine V_run hN hn 3 1 [1] [0, 1] ⟨[(1, .c (.h 1))], [(0, .row (.pair (.int .i64) (.pair (.int .i64) .str)) d_2), (1, .box [.val (.int .i64 d_1), .h 0])], 2⟩ [] (by kernel_rfl) rfl rfl ap0 ?_
  obtain ⟨r_4, h_5, H_9⟩ := of_bind H
  refine V_reg hN hn [(1, ⟨42, 1, [.agg [.val (.int .i64 d_1), .h 0]], [(0, .row (.pair (.int .i64) (.pair (.int .i64) .str)) d_2)], .tup [(false, [.val (.int .i64 r_4.1)]), (false, [.val (.int .i64 r_4.2)])], [(0, .row (.pair (.int .i64) (.pair (.int .i64) .str)) d_2)], [(0, 0)], 2⟩)] [] (calls_cons (delta_sums_sgr_spec K d_1 d_2 r_4 h_5) (by kernel_rfl) calls_nil) 2 [3, 4] [0] ⟨[(3, .c (.val (.int .i64 r_4.1))), (4, .c (.val (.int .i64 r_4.2)))], [(0, .row (.pair (.int .i64) (.pair (.int .i64) .str)) d_2)], 2⟩ [] (by kernel_rfl) rfl rfl ap0 (by kernel_rfl) (by kernel_rfl) ?_
  refine V_run hN hn 2 2 [2] [0] ⟨[(2, .c (.val (.int .i64 (IntKind.wrap .i64 (r_4.1 + r_4.2)))))], [(0, .row (.pair (.int .i64) (.pair (.int .i64) .str)) d_2)], 2⟩ [] (by kernel_rfl) rfl rfl ap0 ?_
  have H_10 := Option.some.inj (show some (IntKind.wrap .i64 (r_4.1 + r_4.2)) = some r from H_9); subst H_10
  refine VL_ret ?_
  exact P_to [(2, .c (.val (.int .i64 (IntKind.wrap .i64 (r_4.1 + r_4.2)))))] [(0, .row (.pair (.int .i64) (.pair (.int .i64) .str)) d_2)] [] hn (by kernel_rfl) (by kernel_rfl) rfl rfl rfl (QF_retS (by kernel_rfl) (by kernel_rfl) rfl)

theorem compose_part_bsgrgg_e131e_spec (K : Nat) (m_1 : Int) (m_2 : (List (Int × (Int × ByteArray)))) (a_3 : Int) (a_4 : (List (Int × (Int × ByteArray)))) (from_5 : Int) (to_6 : Int) (r : (List (Int × (Int × ByteArray)))) (H : compose_part_bsgggg_0b7b7 K m_1 m_2 a_3 a_4 from_5 to_6 = some r) : Spec Try.prog 33 3 [.c (.h 0), .agg [.val (.int .i64 a_3), .h 2], .c (.val (.int .i64 from_5)), .c (.val (.int .i64 to_6))] [(0, .box [.val (.int .i64 m_1), .h 1]), (1, .row (.pair (.int .i64) (.pair (.int .i64) .str)) m_2), (2, .row (.pair (.int .i64) (.pair (.int .i64) .str)) a_4)] (.tup []) [(0, .box [.val (.int .i64 m_1), .h 6]), (2, .row (.pair (.int .i64) (.pair (.int .i64) .str)) a_4), (6, .row (.pair (.int .i64) (.pair (.int .i64) .str)) r)] := by
  refine Spec_mk (fn := Try.f33) (c := (Try.f33.body).get!) Try.func33 (by kernel_rfl) rfl ?_
  intro C hN hn
  replace hN : C.N = 67 := hN
  unfold compose_part_bsgggg_0b7b7 at H
  refine V_run hN hn 2 3 [0, 2, 3, 5] [0, 1, 2, 3] ⟨[(0, .c (.h 0)), (2, .c (.val (.int .i64 from_5))), (3, .c (.val (.int .i64 to_6))), (5, .c (.h 3))], [(0, .box [.val (.int .i64 m_1), .h 1]), (1, .row (.pair (.int .i64) (.pair (.int .i64) .str)) m_2), (2, .row (.pair (.int .i64) (.pair (.int .i64) .str)) a_4), (3, .box [.val (.int .i64 a_3), .h 2])], 4⟩ [] (by kernel_rfl) rfl rfl ap0 ?_
  refine VL_scope ?_
  refine V_run hN hn 3 4 [0, 2, 3, 5, 8] [0, 1, 2, 3] ⟨[(0, .c (.h 0)), (2, .c (.val (.int .i64 from_5))), (3, .c (.val (.int .i64 to_6))), (5, .c (.h 3)), (8, .c (.val (.int .i64 (0 : Int))))], [(0, .box [.val (.int .i64 m_1), .h 1]), (1, .row (.pair (.int .i64) (.pair (.int .i64) .str)) m_2), (2, .row (.pair (.int .i64) (.pair (.int .i64) .str)) a_4), (3, .box [.val (.int .i64 a_3), .h 2])], 4⟩ [] (by kernel_rfl) rfl rfl ap0 ?_
  refine VL_label ?_
  refine V_run hN hn 2 4 [0, 2, 3, 8, 15, 16, 17] [0, 1, 2] ⟨[(0, .c (.h 0)), (2, .c (.val (.int .i64 from_5))), (3, .c (.val (.int .i64 to_6))), (8, .c (.val (.int .i64 (0 : Int)))), (15, .c (.h 2)), (16, .c (.val (.int .i64 (((List.length a_4) : Nat) : Int)))), (17, .c (.val (.int .i64 (0 : Int))))], [(0, .box [.val (.int .i64 m_1), .h 1]), (1, .row (.pair (.int .i64) (.pair (.int .i64) .str)) m_2), (2, .row (.pair (.int .i64) (.pair (.int .i64) .str)) a_4)], 4⟩ [] (by kernel_rfl) rfl rfl ap0 ?_
  refine VL_block ?_
  refine V_to [(0, .c (.h 0)), (2, .c (.val (.int .i64 from_5))), (3, .c (.val (.int .i64 to_6))), (8, .c (.val (.int .i64 (0 : Int)))), (15, .c (.h 2)), (16, .c (.val (.int .i64 (((List.length a_4) : Nat) : Int)))), (17, .c (.val (.int .i64 (0 : Int))))] [(0, .box [.val (.int .i64 m_1), .h 6]), (2, .row (.pair (.int .i64) (.pair (.int .i64) .str)) a_4), (6, .row (.pair (.int .i64) (.pair (.int .i64) .str)) m_2)] [(6, 1)] hn (by kernel_rfl) (by kernel_rfl) rfl rfl rfl ?_
  refine VL_loop (X := ((List (Int × (Int × ByteArray))) × Int × Int)) (fun x => [(0, .c (.h 0)), (2, .c (.val (.int .i64 from_5))), (3, .c (.val (.int .i64 to_6))), (8, .c (.val (.int .i64 x.2.1))), (15, .c (.h 2)), (16, .c (.val (.int .i64 (((List.length a_4) : Nat) : Int)))), (17, .c (.val (.int .i64 x.2.2)))]) (fun x => [(0, .box [.val (.int .i64 m_1), .h 6]), (2, .row (.pair (.int .i64) (.pair (.int .i64) .str)) a_4), (6, .row (.pair (.int .i64) (.pair (.int .i64) .str)) x.1)]) (fun k x => compose_part_bsgggg_0b7b7.l0 K a_4 from_5 to_6 m_1 k x.1 x.2.1 x.2.2 = some r) K (m_2, (0 : Int), (0 : Int)) H (fun _ h => no_none h) ?_
  intro k_34 x_34 H_56
  obtain ⟨x_33, at_10, t_11⟩ := x_34
  have H_57 : compose_part_bsgggg_0b7b7.l0 K a_4 from_5 to_6 m_1 (k_34 + 1) x_33 at_10 t_11 = some r := H_56
  rw [compose_part_bsgggg_0b7b7.l0] at H_57
  refine V_run hN hn 3 7 [0, 2, 3, 8, 15, 16, 17, 18] [0, 2, 6] ⟨[(0, .c (.h 0)), (2, .c (.val (.int .i64 from_5))), (3, .c (.val (.int .i64 to_6))), (8, .c (.val (.int .i64 at_10))), (15, .c (.h 2)), (16, .c (.val (.int .i64 (((List.length a_4) : Nat) : Int)))), (17, .c (.val (.int .i64 t_11))), (18, .c (.val (.bool (decide (t_11 < (((List.length a_4) : Nat) : Int))))))], [(0, .box [.val (.int .i64 m_1), .h 6]), (2, .row (.pair (.int .i64) (.pair (.int .i64) .str)) a_4), (6, .row (.pair (.int .i64) (.pair (.int .i64) .str)) x_33)], 7⟩ [] (by kernel_rfl) rfl rfl ap0 ?_
  refine VL_cond ((decide (t_11 < (((List.length a_4) : Nat) : Int)))) (by kernel_rfl) ?_ ?_
  · intro b_36; have H_58 := of_t H_57 b_36
    refine V_run hN hn 2 7 [0, 2, 3, 8, 15, 16, 17, 18] [0, 2, 6] ⟨[(0, .c (.h 0)), (2, .c (.val (.int .i64 from_5))), (3, .c (.val (.int .i64 to_6))), (8, .c (.val (.int .i64 at_10))), (15, .c (.h 2)), (16, .c (.val (.int .i64 (((List.length a_4) : Nat) : Int)))), (17, .c (.val (.int .i64 t_11))), (18, .c (.val (.bool (decide (t_11 < (((List.length a_4) : Nat) : Int))))))], [(0, .box [.val (.int .i64 m_1), .h 6]), (2, .row (.pair (.int .i64) (.pair (.int .i64) .str)) a_4), (6, .row (.pair (.int .i64) (.pair (.int .i64) .str)) x_33)], 7⟩ [] (by kernel_rfl) rfl rfl ap0 ?_
    refine VL_block ?_
    obtain ⟨c_38, H_60⟩ := of_if H_58
    refine V_run hN hn 8 7 [0, 2, 3, 8, 10, 12, 13, 15, 16, 17] [0, 2, 6, 7] ⟨[(0, .c (.h 0)), (2, .c (.val (.int .i64 from_5))), (3, .c (.val (.int .i64 to_6))), (8, .c (.val (.int .i64 (IntKind.wrap .i64 (at_10 + (IntKind.wrap .i64 ((IntKind.wrap .i64 ((List.getD a_4 (Int.toNat t_11) ((0 : Int), ((0 : Int), ByteArray.empty))).2.1 - (List.getD a_4 (Int.toNat t_11) ((0 : Int), ((0 : Int), ByteArray.empty))).1)) + (((ByteArray.size (List.getD a_4 (Int.toNat t_11) ((0 : Int), ((0 : Int), ByteArray.empty))).2.2) : Nat) : Int)))))))), (10, .c (.h 7)), (12, .c (.val (.int .i64 (mx2 (IntKind.wrap .i64 (from_5 - at_10)) (0 : Int))))), (13, .c (.val (.int .i64 (mn2 (IntKind.wrap .i64 (to_6 - at_10)) (IntKind.wrap .i64 ((IntKind.wrap .i64 ((List.getD a_4 (Int.toNat t_11) ((0 : Int), ((0 : Int), ByteArray.empty))).2.1 - (List.getD a_4 (Int.toNat t_11) ((0 : Int), ((0 : Int), ByteArray.empty))).1)) + (((ByteArray.size (List.getD a_4 (Int.toNat t_11) ((0 : Int), ((0 : Int), ByteArray.empty))).2.2) : Nat) : Int))))))), (15, .c (.h 2)), (16, .c (.val (.int .i64 (((List.length a_4) : Nat) : Int)))), (17, .c (.val (.int .i64 t_11)))], [(0, .box [.val (.int .i64 m_1), .h 6]), (2, .row (.pair (.int .i64) (.pair (.int .i64) .str)) a_4), (6, .row (.pair (.int .i64) (.pair (.int .i64) .str)) x_33), (7, .box [.val (.int .i64 (List.getD a_4 (Int.toNat t_11) ((0 : Int), ((0 : Int), ByteArray.empty))).1), .val (.int .i64 (List.getD a_4 (Int.toNat t_11) ((0 : Int), ((0 : Int), ByteArray.empty))).2.1), .val (.string (List.getD a_4 (Int.toNat t_11) ((0 : Int), ((0 : Int), ByteArray.empty))).2.2)])], 8⟩ [0 ≤ t_11, t_11 < (((List.length a_4) : Nat) : Int)] (by kernel_rfl) rfl rfl (ap2 c_38.1 (ap1 c_38.2)) ?_
    refine VL_block ?_
    refine V_run hN hn 2 8 [0, 2, 3, 8, 10, 12, 13, 15, 16, 17, 49] [0, 2, 6, 7] ⟨[(0, .c (.h 0)), (2, .c (.val (.int .i64 from_5))), (3, .c (.val (.int .i64 to_6))), (8, .c (.val (.int .i64 (IntKind.wrap .i64 (at_10 + (IntKind.wrap .i64 ((IntKind.wrap .i64 ((List.getD a_4 (Int.toNat t_11) ((0 : Int), ((0 : Int), ByteArray.empty))).2.1 - (List.getD a_4 (Int.toNat t_11) ((0 : Int), ((0 : Int), ByteArray.empty))).1)) + (((ByteArray.size (List.getD a_4 (Int.toNat t_11) ((0 : Int), ((0 : Int), ByteArray.empty))).2.2) : Nat) : Int)))))))), (10, .c (.h 7)), (12, .c (.val (.int .i64 (mx2 (IntKind.wrap .i64 (from_5 - at_10)) (0 : Int))))), (13, .c (.val (.int .i64 (mn2 (IntKind.wrap .i64 (to_6 - at_10)) (IntKind.wrap .i64 ((IntKind.wrap .i64 ((List.getD a_4 (Int.toNat t_11) ((0 : Int), ((0 : Int), ByteArray.empty))).2.1 - (List.getD a_4 (Int.toNat t_11) ((0 : Int), ((0 : Int), ByteArray.empty))).1)) + (((ByteArray.size (List.getD a_4 (Int.toNat t_11) ((0 : Int), ((0 : Int), ByteArray.empty))).2.2) : Nat) : Int))))))), (15, .c (.h 2)), (16, .c (.val (.int .i64 (((List.length a_4) : Nat) : Int)))), (17, .c (.val (.int .i64 t_11))), (49, .c (.val (.bool (decide ((mx2 (IntKind.wrap .i64 (from_5 - at_10)) (0 : Int)) ≥ (mn2 (IntKind.wrap .i64 (to_6 - at_10)) (IntKind.wrap .i64 ((IntKind.wrap .i64 ((List.getD a_4 (Int.toNat t_11) ((0 : Int), ((0 : Int), ByteArray.empty))).2.1 - (List.getD a_4 (Int.toNat t_11) ((0 : Int), ((0 : Int), ByteArray.empty))).1)) + (((ByteArray.size (List.getD a_4 (Int.toNat t_11) ((0 : Int), ((0 : Int), ByteArray.empty))).2.2) : Nat) : Int)))))))))], [(0, .box [.val (.int .i64 m_1), .h 6]), (2, .row (.pair (.int .i64) (.pair (.int .i64) .str)) a_4), (6, .row (.pair (.int .i64) (.pair (.int .i64) .str)) x_33), (7, .box [.val (.int .i64 (List.getD a_4 (Int.toNat t_11) ((0 : Int), ((0 : Int), ByteArray.empty))).1), .val (.int .i64 (List.getD a_4 (Int.toNat t_11) ((0 : Int), ((0 : Int), ByteArray.empty))).2.1), .val (.string (List.getD a_4 (Int.toNat t_11) ((0 : Int), ((0 : Int), ByteArray.empty))).2.2)])], 8⟩ [] (by kernel_rfl) rfl rfl ap0 ?_
    refine VL_cond ((decide ((mx2 (IntKind.wrap .i64 (from_5 - at_10)) (0 : Int)) ≥ (mn2 (IntKind.wrap .i64 (to_6 - at_10)) (IntKind.wrap .i64 ((IntKind.wrap .i64 ((List.getD a_4 (Int.toNat t_11) ((0 : Int), ((0 : Int), ByteArray.empty))).2.1 - (List.getD a_4 (Int.toNat t_11) ((0 : Int), ((0 : Int), ByteArray.empty))).1)) + (((ByteArray.size (List.getD a_4 (Int.toNat t_11) ((0 : Int), ((0 : Int), ByteArray.empty))).2.2) : Nat) : Int))))))) (by kernel_rfl) ?_ ?_
    · intro b_40; have H_61 := of_t H_60 b_40
      refine VL_exit ?_
      refine QB_out (by decide) ?_
      refine QB_here ?_
      refine V_run hN hn 1 8 [0, 2, 3, 8, 15, 16, 17] [0, 2, 6] ⟨[(0, .c (.h 0)), (2, .c (.val (.int .i64 from_5))), (3, .c (.val (.int .i64 to_6))), (8, .c (.val (.int .i64 (IntKind.wrap .i64 (at_10 + (IntKind.wrap .i64 ((IntKind.wrap .i64 ((List.getD a_4 (Int.toNat t_11) ((0 : Int), ((0 : Int), ByteArray.empty))).2.1 - (List.getD a_4 (Int.toNat t_11) ((0 : Int), ((0 : Int), ByteArray.empty))).1)) + (((ByteArray.size (List.getD a_4 (Int.toNat t_11) ((0 : Int), ((0 : Int), ByteArray.empty))).2.2) : Nat) : Int)))))))), (15, .c (.h 2)), (16, .c (.val (.int .i64 (((List.length a_4) : Nat) : Int)))), (17, .c (.val (.int .i64 (IntKind.wrap .i64 (t_11 + (1 : Int))))))], [(0, .box [.val (.int .i64 m_1), .h 6]), (2, .row (.pair (.int .i64) (.pair (.int .i64) .str)) a_4), (6, .row (.pair (.int .i64) (.pair (.int .i64) .str)) x_33)], 8⟩ [] (by kernel_rfl) rfl rfl ap0 ?_
      refine VL_nil ?_
      exact V_roundEnd (x_33, (IntKind.wrap .i64 (at_10 + (IntKind.wrap .i64 ((IntKind.wrap .i64 ((List.getD a_4 (Int.toNat t_11) ((0 : Int), ((0 : Int), ByteArray.empty))).2.1 - (List.getD a_4 (Int.toNat t_11) ((0 : Int), ((0 : Int), ByteArray.empty))).1)) + (((ByteArray.size (List.getD a_4 (Int.toNat t_11) ((0 : Int), ((0 : Int), ByteArray.empty))).2.2) : Nat) : Int))))), (IntKind.wrap .i64 (t_11 + (1 : Int)))) H_61 [(6, 6)] hn (by kernel_rfl) (by kernel_rfl) rfl rfl rfl
    · intro b_40; have H_62 := of_f H_60 b_40
      refine V_run hN hn 1 8 [0, 2, 3, 8, 10, 12, 13, 15, 16, 17, 49] [0, 2, 6, 7] ⟨[(0, .c (.h 0)), (2, .c (.val (.int .i64 from_5))), (3, .c (.val (.int .i64 to_6))), (8, .c (.val (.int .i64 (IntKind.wrap .i64 (at_10 + (IntKind.wrap .i64 ((IntKind.wrap .i64 ((List.getD a_4 (Int.toNat t_11) ((0 : Int), ((0 : Int), ByteArray.empty))).2.1 - (List.getD a_4 (Int.toNat t_11) ((0 : Int), ((0 : Int), ByteArray.empty))).1)) + (((ByteArray.size (List.getD a_4 (Int.toNat t_11) ((0 : Int), ((0 : Int), ByteArray.empty))).2.2) : Nat) : Int)))))))), (10, .c (.h 7)), (12, .c (.val (.int .i64 (mx2 (IntKind.wrap .i64 (from_5 - at_10)) (0 : Int))))), (13, .c (.val (.int .i64 (mn2 (IntKind.wrap .i64 (to_6 - at_10)) (IntKind.wrap .i64 ((IntKind.wrap .i64 ((List.getD a_4 (Int.toNat t_11) ((0 : Int), ((0 : Int), ByteArray.empty))).2.1 - (List.getD a_4 (Int.toNat t_11) ((0 : Int), ((0 : Int), ByteArray.empty))).1)) + (((ByteArray.size (List.getD a_4 (Int.toNat t_11) ((0 : Int), ((0 : Int), ByteArray.empty))).2.2) : Nat) : Int))))))), (15, .c (.h 2)), (16, .c (.val (.int .i64 (((List.length a_4) : Nat) : Int)))), (17, .c (.val (.int .i64 t_11))), (49, .c (.val (.bool (decide ((mx2 (IntKind.wrap .i64 (from_5 - at_10)) (0 : Int)) ≥ (mn2 (IntKind.wrap .i64 (to_6 - at_10)) (IntKind.wrap .i64 ((IntKind.wrap .i64 ((List.getD a_4 (Int.toNat t_11) ((0 : Int), ((0 : Int), ByteArray.empty))).2.1 - (List.getD a_4 (Int.toNat t_11) ((0 : Int), ((0 : Int), ByteArray.empty))).1)) + (((ByteArray.size (List.getD a_4 (Int.toNat t_11) ((0 : Int), ((0 : Int), ByteArray.empty))).2.2) : Nat) : Int)))))))))], [(0, .box [.val (.int .i64 m_1), .h 6]), (2, .row (.pair (.int .i64) (.pair (.int .i64) .str)) a_4), (6, .row (.pair (.int .i64) (.pair (.int .i64) .str)) x_33), (7, .box [.val (.int .i64 (List.getD a_4 (Int.toNat t_11) ((0 : Int), ((0 : Int), ByteArray.empty))).1), .val (.int .i64 (List.getD a_4 (Int.toNat t_11) ((0 : Int), ((0 : Int), ByteArray.empty))).2.1), .val (.string (List.getD a_4 (Int.toNat t_11) ((0 : Int), ((0 : Int), ByteArray.empty))).2.2)])], 8⟩ [] (by kernel_rfl) rfl rfl ap0 ?_
      obtain ⟨r_43, h_44, H_63⟩ := of_bind H_62
      refine V_reg hN hn [(1, ⟨36, 0, [.agg [.val (.int .i64 (List.getD a_4 (Int.toNat t_11) ((0 : Int), ((0 : Int), ByteArray.empty))).1), .val (.int .i64 (List.getD a_4 (Int.toNat t_11) ((0 : Int), ((0 : Int), ByteArray.empty))).2.1), .val (.string (List.getD a_4 (Int.toNat t_11) ((0 : Int), ((0 : Int), ByteArray.empty))).2.2)]], [], .c (.val (.bool r_43)), [], [], 8⟩)] [] (calls_cons (delta_IsCopy_spec K (List.getD a_4 (Int.toNat t_11) ((0 : Int), ((0 : Int), ByteArray.empty))).1 (List.getD a_4 (Int.toNat t_11) ((0 : Int), ((0 : Int), ByteArray.empty))).2.1 (List.getD a_4 (Int.toNat t_11) ((0 : Int), ((0 : Int), ByteArray.empty))).2.2 r_43 h_44) (by kernel_rfl) calls_nil) 8 [0, 2, 3, 8, 10, 12, 13, 15, 16, 17, 53] [0, 2, 6, 7] ⟨[(0, .c (.h 0)), (2, .c (.val (.int .i64 from_5))), (3, .c (.val (.int .i64 to_6))), (8, .c (.val (.int .i64 (IntKind.wrap .i64 (at_10 + (IntKind.wrap .i64 ((IntKind.wrap .i64 ((List.getD a_4 (Int.toNat t_11) ((0 : Int), ((0 : Int), ByteArray.empty))).2.1 - (List.getD a_4 (Int.toNat t_11) ((0 : Int), ((0 : Int), ByteArray.empty))).1)) + (((ByteArray.size (List.getD a_4 (Int.toNat t_11) ((0 : Int), ((0 : Int), ByteArray.empty))).2.2) : Nat) : Int)))))))), (10, .c (.h 7)), (12, .c (.val (.int .i64 (mx2 (IntKind.wrap .i64 (from_5 - at_10)) (0 : Int))))), (13, .c (.val (.int .i64 (mn2 (IntKind.wrap .i64 (to_6 - at_10)) (IntKind.wrap .i64 ((IntKind.wrap .i64 ((List.getD a_4 (Int.toNat t_11) ((0 : Int), ((0 : Int), ByteArray.empty))).2.1 - (List.getD a_4 (Int.toNat t_11) ((0 : Int), ((0 : Int), ByteArray.empty))).1)) + (((ByteArray.size (List.getD a_4 (Int.toNat t_11) ((0 : Int), ((0 : Int), ByteArray.empty))).2.2) : Nat) : Int))))))), (15, .c (.h 2)), (16, .c (.val (.int .i64 (((List.length a_4) : Nat) : Int)))), (17, .c (.val (.int .i64 t_11))), (53, .c (.val (.bool r_43)))], [(0, .box [.val (.int .i64 m_1), .h 6]), (2, .row (.pair (.int .i64) (.pair (.int .i64) .str)) a_4), (6, .row (.pair (.int .i64) (.pair (.int .i64) .str)) x_33), (7, .box [.val (.int .i64 (List.getD a_4 (Int.toNat t_11) ((0 : Int), ((0 : Int), ByteArray.empty))).1), .val (.int .i64 (List.getD a_4 (Int.toNat t_11) ((0 : Int), ((0 : Int), ByteArray.empty))).2.1), .val (.string (List.getD a_4 (Int.toNat t_11) ((0 : Int), ((0 : Int), ByteArray.empty))).2.2)])], 8⟩ [] (by kernel_rfl) rfl rfl ap0 (by kernel_rfl) (by kernel_rfl) ?_
      refine VL_cond (r_43) (by kernel_rfl) ?_ ?_
      · intro b_46; have H_64 := of_t H_63 b_46
        obtain ⟨r_47, h_48, H_66⟩ := of_bind H_64
        refine V_reg hN hn [(9, ⟨37, 2, [.c (.h 0), .c (.val (.int .i64 (IntKind.wrap .i64 ((List.getD a_4 (Int.toNat t_11) ((0 : Int), ((0 : Int), ByteArray.empty))).1 + (mx2 (IntKind.wrap .i64 (from_5 - at_10)) (0 : Int)))))), .c (.val (.int .i64 (IntKind.wrap .i64 ((List.getD a_4 (Int.toNat t_11) ((0 : Int), ((0 : Int), ByteArray.empty))).1 + (mn2 (IntKind.wrap .i64 (to_6 - at_10)) (IntKind.wrap .i64 ((IntKind.wrap .i64 ((List.getD a_4 (Int.toNat t_11) ((0 : Int), ((0 : Int), ByteArray.empty))).2.1 - (List.getD a_4 (Int.toNat t_11) ((0 : Int), ((0 : Int), ByteArray.empty))).1)) + (((ByteArray.size (List.getD a_4 (Int.toNat t_11) ((0 : Int), ((0 : Int), ByteArray.empty))).2.2) : Nat) : Int))))))))], [(0, .box [.val (.int .i64 m_1), .h 1]), (1, .row (.pair (.int .i64) (.pair (.int .i64) .str)) x_33)], .tup [], [(0, .box [.val (.int .i64 m_1), .h 4]), (4, .row (.pair (.int .i64) (.pair (.int .i64) .str)) r_47)], [(0, 0), (1, 6), (4, 8)], 9⟩)] [] (calls_cons (delta_Maker_Copy_bgg_11dec_spec K m_1 x_33 (IntKind.wrap .i64 ((List.getD a_4 (Int.toNat t_11) ((0 : Int), ((0 : Int), ByteArray.empty))).1 + (mx2 (IntKind.wrap .i64 (from_5 - at_10)) (0 : Int)))) (IntKind.wrap .i64 ((List.getD a_4 (Int.toNat t_11) ((0 : Int), ((0 : Int), ByteArray.empty))).1 + (mn2 (IntKind.wrap .i64 (to_6 - at_10)) (IntKind.wrap .i64 ((IntKind.wrap .i64 ((List.getD a_4 (Int.toNat t_11) ((0 : Int), ((0 : Int), ByteArray.empty))).2.1 - (List.getD a_4 (Int.toNat t_11) ((0 : Int), ((0 : Int), ByteArray.empty))).1)) + (((ByteArray.size (List.getD a_4 (Int.toNat t_11) ((0 : Int), ((0 : Int), ByteArray.empty))).2.2) : Nat) : Int)))))) r_47 h_48) (by kernel_rfl) calls_nil) 8 [0, 2, 3, 8, 15, 16, 17] [0, 2, 8] ⟨[(0, .c (.h 0)), (2, .c (.val (.int .i64 from_5))), (3, .c (.val (.int .i64 to_6))), (8, .c (.val (.int .i64 (IntKind.wrap .i64 (at_10 + (IntKind.wrap .i64 ((IntKind.wrap .i64 ((List.getD a_4 (Int.toNat t_11) ((0 : Int), ((0 : Int), ByteArray.empty))).2.1 - (List.getD a_4 (Int.toNat t_11) ((0 : Int), ((0 : Int), ByteArray.empty))).1)) + (((ByteArray.size (List.getD a_4 (Int.toNat t_11) ((0 : Int), ((0 : Int), ByteArray.empty))).2.2) : Nat) : Int)))))))), (15, .c (.h 2)), (16, .c (.val (.int .i64 (((List.length a_4) : Nat) : Int)))), (17, .c (.val (.int .i64 t_11)))], [(0, .box [.val (.int .i64 m_1), .h 8]), (2, .row (.pair (.int .i64) (.pair (.int .i64) .str)) a_4), (8, .row (.pair (.int .i64) (.pair (.int .i64) .str)) r_47)], 9⟩ [] (by kernel_rfl) rfl rfl ap0 (by kernel_rfl) (by kernel_rfl) ?_
        refine VL_nil (QB_end ?_)
        refine VL_nil (QB_end ?_)
        refine V_run hN hn 1 9 [0, 2, 3, 8, 15, 16, 17] [0, 2, 8] ⟨[(0, .c (.h 0)), (2, .c (.val (.int .i64 from_5))), (3, .c (.val (.int .i64 to_6))), (8, .c (.val (.int .i64 (IntKind.wrap .i64 (at_10 + (IntKind.wrap .i64 ((IntKind.wrap .i64 ((List.getD a_4 (Int.toNat t_11) ((0 : Int), ((0 : Int), ByteArray.empty))).2.1 - (List.getD a_4 (Int.toNat t_11) ((0 : Int), ((0 : Int), ByteArray.empty))).1)) + (((ByteArray.size (List.getD a_4 (Int.toNat t_11) ((0 : Int), ((0 : Int), ByteArray.empty))).2.2) : Nat) : Int)))))))), (15, .c (.h 2)), (16, .c (.val (.int .i64 (((List.length a_4) : Nat) : Int)))), (17, .c (.val (.int .i64 (IntKind.wrap .i64 (t_11 + (1 : Int))))))], [(0, .box [.val (.int .i64 m_1), .h 8]), (2, .row (.pair (.int .i64) (.pair (.int .i64) .str)) a_4), (8, .row (.pair (.int .i64) (.pair (.int .i64) .str)) r_47)], 9⟩ [] (by kernel_rfl) rfl rfl ap0 ?_
        refine VL_nil ?_
        exact V_roundEnd (r_47, (IntKind.wrap .i64 (at_10 + (IntKind.wrap .i64 ((IntKind.wrap .i64 ((List.getD a_4 (Int.toNat t_11) ((0 : Int), ((0 : Int), ByteArray.empty))).2.1 - (List.getD a_4 (Int.toNat t_11) ((0 : Int), ((0 : Int), ByteArray.empty))).1)) + (((ByteArray.size (List.getD a_4 (Int.toNat t_11) ((0 : Int), ((0 : Int), ByteArray.empty))).2.2) : Nat) : Int))))), (IntKind.wrap .i64 (t_11 + (1 : Int)))) H_66 [(6, 8)] hn (by kernel_rfl) (by kernel_rfl) rfl rfl rfl
      · intro b_46; have H_65 := of_f H_63 b_46
        obtain ⟨r_51, h_52, H_67⟩ := of_bind H_65
        obtain ⟨c_53, H_68⟩ := of_if H_67
        refine V_reg hN hn [(6, ⟨32, 2, [.c (.h 0), .c (.val (.string (ByteArray.extract (List.getD a_4 (Int.toNat t_11) ((0 : Int), ((0 : Int), ByteArray.empty))).2.2 (Int.toNat (mx2 (IntKind.wrap .i64 (from_5 - at_10)) (0 : Int))) (Int.toNat (mn2 (IntKind.wrap .i64 (to_6 - at_10)) (IntKind.wrap .i64 ((IntKind.wrap .i64 ((List.getD a_4 (Int.toNat t_11) ((0 : Int), ((0 : Int), ByteArray.empty))).2.1 - (List.getD a_4 (Int.toNat t_11) ((0 : Int), ((0 : Int), ByteArray.empty))).1)) + (((ByteArray.size (List.getD a_4 (Int.toNat t_11) ((0 : Int), ((0 : Int), ByteArray.empty))).2.2) : Nat) : Int))))))))], [(0, .box [.val (.int .i64 m_1), .h 1]), (1, .row (.pair (.int .i64) (.pair (.int .i64) .str)) x_33)], .tup [], [(0, .box [.val (.int .i64 m_1), .h 4]), (4, .row (.pair (.int .i64) (.pair (.int .i64) .str)) r_51)], [(0, 0), (1, 6), (4, 8)], 9⟩)] [] (calls_cons (delta_Maker_Put_bg_92925_spec K m_1 x_33 (ByteArray.extract (List.getD a_4 (Int.toNat t_11) ((0 : Int), ((0 : Int), ByteArray.empty))).2.2 (Int.toNat (mx2 (IntKind.wrap .i64 (from_5 - at_10)) (0 : Int))) (Int.toNat (mn2 (IntKind.wrap .i64 (to_6 - at_10)) (IntKind.wrap .i64 ((IntKind.wrap .i64 ((List.getD a_4 (Int.toNat t_11) ((0 : Int), ((0 : Int), ByteArray.empty))).2.1 - (List.getD a_4 (Int.toNat t_11) ((0 : Int), ((0 : Int), ByteArray.empty))).1)) + (((ByteArray.size (List.getD a_4 (Int.toNat t_11) ((0 : Int), ((0 : Int), ByteArray.empty))).2.2) : Nat) : Int)))))) r_51 h_52) (by kernel_rfl) calls_nil) 8 [0, 2, 3, 8, 15, 16, 17] [0, 2, 8] ⟨[(0, .c (.h 0)), (2, .c (.val (.int .i64 from_5))), (3, .c (.val (.int .i64 to_6))), (8, .c (.val (.int .i64 (IntKind.wrap .i64 (at_10 + (IntKind.wrap .i64 ((IntKind.wrap .i64 ((List.getD a_4 (Int.toNat t_11) ((0 : Int), ((0 : Int), ByteArray.empty))).2.1 - (List.getD a_4 (Int.toNat t_11) ((0 : Int), ((0 : Int), ByteArray.empty))).1)) + (((ByteArray.size (List.getD a_4 (Int.toNat t_11) ((0 : Int), ((0 : Int), ByteArray.empty))).2.2) : Nat) : Int)))))))), (15, .c (.h 2)), (16, .c (.val (.int .i64 (((List.length a_4) : Nat) : Int)))), (17, .c (.val (.int .i64 t_11)))], [(0, .box [.val (.int .i64 m_1), .h 8]), (2, .row (.pair (.int .i64) (.pair (.int .i64) .str)) a_4), (8, .row (.pair (.int .i64) (.pair (.int .i64) .str)) r_51)], 9⟩ [(0 : Int) ≤ (mx2 (IntKind.wrap .i64 (from_5 - at_10)) (0 : Int)), (mx2 (IntKind.wrap .i64 (from_5 - at_10)) (0 : Int)) ≤ (mn2 (IntKind.wrap .i64 (to_6 - at_10)) (IntKind.wrap .i64 ((IntKind.wrap .i64 ((List.getD a_4 (Int.toNat t_11) ((0 : Int), ((0 : Int), ByteArray.empty))).2.1 - (List.getD a_4 (Int.toNat t_11) ((0 : Int), ((0 : Int), ByteArray.empty))).1)) + (((ByteArray.size (List.getD a_4 (Int.toNat t_11) ((0 : Int), ((0 : Int), ByteArray.empty))).2.2) : Nat) : Int)))), (mn2 (IntKind.wrap .i64 (to_6 - at_10)) (IntKind.wrap .i64 ((IntKind.wrap .i64 ((List.getD a_4 (Int.toNat t_11) ((0 : Int), ((0 : Int), ByteArray.empty))).2.1 - (List.getD a_4 (Int.toNat t_11) ((0 : Int), ((0 : Int), ByteArray.empty))).1)) + (((ByteArray.size (List.getD a_4 (Int.toNat t_11) ((0 : Int), ((0 : Int), ByteArray.empty))).2.2) : Nat) : Int)))) ≤ (((ByteArray.size (List.getD a_4 (Int.toNat t_11) ((0 : Int), ((0 : Int), ByteArray.empty))).2.2) : Nat) : Int)] (by kernel_rfl) rfl rfl (ap2 c_53.1 (ap2 c_53.2.1 (ap1 c_53.2.2))) (by kernel_rfl) (by kernel_rfl) ?_
        refine VL_nil (QB_end ?_)
        refine VL_nil (QB_end ?_)
        refine V_run hN hn 1 9 [0, 2, 3, 8, 15, 16, 17] [0, 2, 8] ⟨[(0, .c (.h 0)), (2, .c (.val (.int .i64 from_5))), (3, .c (.val (.int .i64 to_6))), (8, .c (.val (.int .i64 (IntKind.wrap .i64 (at_10 + (IntKind.wrap .i64 ((IntKind.wrap .i64 ((List.getD a_4 (Int.toNat t_11) ((0 : Int), ((0 : Int), ByteArray.empty))).2.1 - (List.getD a_4 (Int.toNat t_11) ((0 : Int), ((0 : Int), ByteArray.empty))).1)) + (((ByteArray.size (List.getD a_4 (Int.toNat t_11) ((0 : Int), ((0 : Int), ByteArray.empty))).2.2) : Nat) : Int)))))))), (15, .c (.h 2)), (16, .c (.val (.int .i64 (((List.length a_4) : Nat) : Int)))), (17, .c (.val (.int .i64 (IntKind.wrap .i64 (t_11 + (1 : Int))))))], [(0, .box [.val (.int .i64 m_1), .h 8]), (2, .row (.pair (.int .i64) (.pair (.int .i64) .str)) a_4), (8, .row (.pair (.int .i64) (.pair (.int .i64) .str)) r_51)], 9⟩ [] (by kernel_rfl) rfl rfl ap0 ?_
        refine VL_nil ?_
        exact V_roundEnd (r_51, (IntKind.wrap .i64 (at_10 + (IntKind.wrap .i64 ((IntKind.wrap .i64 ((List.getD a_4 (Int.toNat t_11) ((0 : Int), ((0 : Int), ByteArray.empty))).2.1 - (List.getD a_4 (Int.toNat t_11) ((0 : Int), ((0 : Int), ByteArray.empty))).1)) + (((ByteArray.size (List.getD a_4 (Int.toNat t_11) ((0 : Int), ((0 : Int), ByteArray.empty))).2.2) : Nat) : Int))))), (IntKind.wrap .i64 (t_11 + (1 : Int)))) H_68 [(6, 8)] hn (by kernel_rfl) (by kernel_rfl) rfl rfl rfl
  · intro b_36; have H_59 := of_f H_57 b_36
    refine VL_exit ?_
    refine QL_exit ?_
    refine QB_here ?_
    refine VL_nil (QG_end ?_)
    have H_69 := Option.some.inj (show some x_33 = some r from H_59); subst H_69
    refine VL_nil ?_
    exact P_to [] [(0, .box [.val (.int .i64 m_1), .h 6]), (2, .row (.pair (.int .i64) (.pair (.int .i64) .str)) a_4), (6, .row (.pair (.int .i64) (.pair (.int .i64) .str)) x_33)] [(6, 6)] hn (by kernel_rfl) (by kernel_rfl) rfl rfl rfl (QF_endS (by kernel_rfl) (by kernel_rfl) rfl)

theorem compose_Two_sgrsgg_spec (K : Nat) (a_1 : Int) (a_2 : (List (Int × (Int × ByteArray)))) (b_3 : Int) (b_4 : (List (Int × (Int × ByteArray)))) (r : (Int × (List (Int × (Int × ByteArray))) × Int)) (H : compose_Two K a_1 a_2 b_3 b_4 = some r) : Spec Try.prog 11 1 [.agg [.val (.int .i64 a_1), .h 0], .agg [.val (.int .i64 b_3), .imm (.slice (.pair (.int .i64) (.pair (.int .i64) .str))) b_4]] [(0, .row (.pair (.int .i64) (.pair (.int .i64) .str)) a_2)] (.tup [(true, [.val (.int .i64 r.1), .imm (.slice (.pair (.int .i64) (.pair (.int .i64) .str))) r.2.1]), (false, [.val (.int .i64 r.2.2)])]) [(0, .row (.pair (.int .i64) (.pair (.int .i64) .str)) a_2)] := by
  refine Spec_mk (fn := Try.f11) (c := (Try.f11.body).get!) Try.func11 (by kernel_rfl) rfl ?_
  intro C hN hn
  replace hN : C.N = 52 := hN
  unfold compose_Two at H
  refine V_run hN hn 3 1 [2, 3, 4] [0, 1, 2, 3] ⟨[(2, .c (.h 1)), (3, .c (.h 2)), (4, .c (.h 3))], [(0, .row (.pair (.int .i64) (.pair (.int .i64) .str)) a_2), (1, .box [.val (.int .i64 a_1), .h 0]), (2, .box [.val (.int .i64 b_3), .imm (.slice (.pair (.int .i64) (.pair (.int .i64) .str))) b_4]), (3, .box [.val (.int .i64 (0 : Int)), .val (.slice none 0 0)])], 4⟩ [] (by kernel_rfl) rfl rfl ap0 ?_
  refine VL_block ?_
  refine V_run hN hn 1 4 [2, 3, 4] [0, 1, 2, 3] ⟨[(2, .c (.h 1)), (3, .c (.h 2)), (4, .c (.h 3))], [(0, .row (.pair (.int .i64) (.pair (.int .i64) .str)) a_2), (1, .box [.val (.int .i64 a_1), .h 0]), (2, .box [.val (.int .i64 b_3), .imm (.slice (.pair (.int .i64) (.pair (.int .i64) .str))) b_4]), (3, .box [.val (.int .i64 (0 : Int)), .val (.slice none 0 0)])], 4⟩ [] (by kernel_rfl) rfl rfl ap0 ?_
  obtain ⟨q_65, H_66, H_67⟩ := of_bind H
  refine V_cut (Y := Bool) (R := Bool) q_65 (fun y => y) (fun y => [(2, .c (.h 1)), (3, .c (.h 2)), (4, .c (.h 3)), (9, .c (.val (.bool y)))]) (fun y => [(0, .row (.pair (.int .i64) (.pair (.int .i64) .str)) a_2), (1, .box [.val (.int .i64 a_1), .h 0]), (2, .box [.val (.int .i64 b_3), .imm (.slice (.pair (.int .i64) (.pair (.int .i64) .str))) b_4]), (3, .box [.val (.int .i64 (0 : Int)), .val (.slice none 0 0)])]) ?_ ?_
  · skip
    obtain ⟨r_7, h_8, H_69⟩ := of_bind H_66
    rcases Bool.eq_false_or_eq_true ((!r_7)) with b_9 | b_9
    · have H_70 := of_t H_69 b_9
      refine V_reg hN hn [(1, ⟨30, 1, [.agg [.val (.int .i64 a_1), .h 0]], [(0, .row (.pair (.int .i64) (.pair (.int .i64) .str)) a_2)], .c (.val (.bool r_7)), [(0, .row (.pair (.int .i64) (.pair (.int .i64) .str)) a_2)], [(0, 0)], 4⟩)] [(13, true)] (calls_cons (delta_Is_sgr_spec K a_1 a_2 r_7 h_8) (by kernel_rfl) calls_nil) 4 [2, 3, 4, 9] [0, 1, 2, 3] ⟨[(2, .c (.h 1)), (3, .c (.h 2)), (4, .c (.h 3)), (9, .c (.val (.bool true)))], [(0, .row (.pair (.int .i64) (.pair (.int .i64) .str)) a_2), (1, .box [.val (.int .i64 a_1), .h 0]), (2, .box [.val (.int .i64 b_3), .imm (.slice (.pair (.int .i64) (.pair (.int .i64) .str))) b_4]), (3, .box [.val (.int .i64 (0 : Int)), .val (.slice none 0 0)])], 4⟩ [(!r_7) = true] (by kernel_rfl) rfl rfl (ap1 b_9) (by kernel_rfl) (by kernel_rfl) ?_
      have H_72 := Option.some.inj (show some true = some q_65 from H_70); subst H_72
      refine VL_nil ?_
      exact QP_end true rfl [(1, 1), (2, 2), (3, 3)] hn (by kernel_rfl) (by kernel_rfl) rfl rfl rfl
    · have H_71 := of_f H_69 b_9
      obtain ⟨r_11, h_12, H_73⟩ := of_bind H_71
      refine V_reg hN hn [(1, ⟨30, 1, [.agg [.val (.int .i64 a_1), .h 0]], [(0, .row (.pair (.int .i64) (.pair (.int .i64) .str)) a_2)], .c (.val (.bool r_7)), [(0, .row (.pair (.int .i64) (.pair (.int .i64) .str)) a_2)], [(0, 0)], 4⟩), (5, ⟨30, 0, [.agg [.val (.int .i64 b_3), .imm (.slice (.pair (.int .i64) (.pair (.int .i64) .str))) b_4]], [], .c (.val (.bool r_11)), [], [], 4⟩)] [(13, false)] (calls_cons (delta_Is_sgr_spec K a_1 a_2 r_7 h_8) (by kernel_rfl) (calls_cons (delta_Is_spec K b_3 b_4 r_11 h_12) (by kernel_rfl) calls_nil)) 4 [2, 3, 4, 9] [0, 1, 2, 3] ⟨[(2, .c (.h 1)), (3, .c (.h 2)), (4, .c (.h 3)), (9, .c (.val (.bool (!r_11))))], [(0, .row (.pair (.int .i64) (.pair (.int .i64) .str)) a_2), (1, .box [.val (.int .i64 a_1), .h 0]), (2, .box [.val (.int .i64 b_3), .imm (.slice (.pair (.int .i64) (.pair (.int .i64) .str))) b_4]), (3, .box [.val (.int .i64 (0 : Int)), .val (.slice none 0 0)])], 4⟩ [(!r_7) = false] (by kernel_rfl) rfl rfl (ap1 b_9) (by kernel_rfl) (by kernel_rfl) ?_
      have H_74 := Option.some.inj (show some (!r_11) = some q_65 from H_73); subst H_74
      refine VL_nil ?_
      exact QP_end (!r_11) rfl [(1, 1), (2, 2), (3, 3)] hn (by kernel_rfl) (by kernel_rfl) rfl rfl rfl
  · intro y_68 hy; subst hy
    skip
    skip
    refine VL_cond (y_68) (by kernel_rfl) ?_ ?_
    · intro b_15; have H_75 := of_t H_67 b_15
      refine V_run hN hn 2 4 [4, 5] [0, 3] ⟨[(4, .c (.h 3)), (5, .c (.val (.int .i64 (12 : Int))))], [(0, .row (.pair (.int .i64) (.pair (.int .i64) .str)) a_2), (3, .box [.val (.int .i64 (0 : Int)), .val (.slice none 0 0)])], 4⟩ [] (by kernel_rfl) rfl rfl ap0 ?_
      have H_77 := Option.some.inj (show some ((0 : Int), ([] : List (Int × (Int × ByteArray))), (12 : Int)) = some r from H_75); subst H_77
      refine VL_ret ?_
      refine QB_ret ?_
      refine P_ghost [.readCell 3 1 (.slice (.pair (.int .i64) (.pair (.int .i64) .str)))] 4 hn [4, 5] [0, 3] ⟨[(4, .c (.h 3)), (5, .c (.val (.int .i64 (12 : Int))))], [(0, .row (.pair (.int .i64) (.pair (.int .i64) .str)) a_2), (3, .box [.val (.int .i64 (0 : Int)), .imm (.slice (.pair (.int .i64) (.pair (.int .i64) .str))) ([] : List (Int × (Int × ByteArray)))])], 4⟩ (by kernel_rfl) rfl rfl ?_
      exact P_to [(4, .c (.h 3)), (5, .c (.val (.int .i64 (12 : Int))))] [(0, .row (.pair (.int .i64) (.pair (.int .i64) .str)) a_2), (3, .box [.val (.int .i64 (0 : Int)), .imm (.slice (.pair (.int .i64) (.pair (.int .i64) .str))) ([] : List (Int × (Int × ByteArray)))])] [(3, 3)] hn (by kernel_rfl) (by kernel_rfl) rfl rfl rfl (QF_retS (by kernel_rfl) (by kernel_rfl) rfl)
    · intro b_15; have H_76 := of_f H_67 b_15
      refine V_run hN hn 1 4 [2, 3, 4, 9] [0, 1, 2, 3] ⟨[(2, .c (.h 1)), (3, .c (.h 2)), (4, .c (.h 3)), (9, .c (.val (.bool y_68)))], [(0, .row (.pair (.int .i64) (.pair (.int .i64) .str)) a_2), (1, .box [.val (.int .i64 a_1), .h 0]), (2, .box [.val (.int .i64 b_3), .imm (.slice (.pair (.int .i64) (.pair (.int .i64) .str))) b_4]), (3, .box [.val (.int .i64 (0 : Int)), .val (.slice none 0 0)])], 4⟩ [] (by kernel_rfl) rfl rfl ap0 ?_
      obtain ⟨r_18, h_19, H_78⟩ := of_bind H_76
      refine V_draw hN hn (by kernel_rfl) [(3, ⟨26, 1, [.agg [.val (.int .i64 a_1), .h 0]], [(0, .row (.pair (.int .i64) (.pair (.int .i64) .str)) a_2)], .c (.val (.int .i64 r_18)), [(0, .row (.pair (.int .i64) (.pair (.int .i64) .str)) a_2)], [(0, 0)], 4⟩)] [] (calls_cons (delta_Size_sgr_spec K a_1 a_2 r_18 h_19) (by kernel_rfl) calls_nil) 4 [2, 3, 4, 19] [0, 1, 2, 3] ⟨[(2, .c (.h 1)), (3, .c (.h 2)), (4, .c (.h 3)), (19, .c (.val (.bool (b_3 != r_18))))], [(0, .row (.pair (.int .i64) (.pair (.int .i64) .str)) a_2), (1, .box [.val (.int .i64 a_1), .h 0]), (2, .box [.val (.int .i64 b_3), .imm (.slice (.pair (.int .i64) (.pair (.int .i64) .str))) b_4]), (3, .box [.val (.int .i64 (0 : Int)), .val (.slice none 0 0)])], 4⟩ [] (by kernel_rfl) rfl rfl ap0 (by kernel_rfl) (by kernel_rfl) ?_
      refine VL_cond ((b_3 != r_18)) (by kernel_rfl) ?_ ?_
      · intro b_21; have H_79 := of_t H_78 b_21
        refine V_run hN hn 2 4 [4, 5] [0, 3] ⟨[(4, .c (.h 3)), (5, .c (.val (.int .i64 (80 : Int))))], [(0, .row (.pair (.int .i64) (.pair (.int .i64) .str)) a_2), (3, .box [.val (.int .i64 (0 : Int)), .val (.slice none 0 0)])], 4⟩ [] (by kernel_rfl) rfl rfl ap0 ?_
        have H_81 := Option.some.inj (show some ((0 : Int), ([] : List (Int × (Int × ByteArray))), (80 : Int)) = some r from H_79); subst H_81
        refine VL_ret ?_
        refine QB_ret ?_
        refine P_ghost [.readCell 3 1 (.slice (.pair (.int .i64) (.pair (.int .i64) .str)))] 4 hn [4, 5] [0, 3] ⟨[(4, .c (.h 3)), (5, .c (.val (.int .i64 (80 : Int))))], [(0, .row (.pair (.int .i64) (.pair (.int .i64) .str)) a_2), (3, .box [.val (.int .i64 (0 : Int)), .imm (.slice (.pair (.int .i64) (.pair (.int .i64) .str))) ([] : List (Int × (Int × ByteArray)))])], 4⟩ (by kernel_rfl) rfl rfl ?_
        exact P_to [(4, .c (.h 3)), (5, .c (.val (.int .i64 (80 : Int))))] [(0, .row (.pair (.int .i64) (.pair (.int .i64) .str)) a_2), (3, .box [.val (.int .i64 (0 : Int)), .imm (.slice (.pair (.int .i64) (.pair (.int .i64) .str))) ([] : List (Int × (Int × ByteArray)))])] [(3, 3)] hn (by kernel_rfl) (by kernel_rfl) rfl rfl rfl (QF_retS (by kernel_rfl) (by kernel_rfl) rfl)
      · intro b_21; have H_80 := of_f H_78 b_21
        refine V_run hN hn 1 4 [2, 3, 4, 19] [0, 1, 2, 3] ⟨[(2, .c (.h 1)), (3, .c (.h 2)), (4, .c (.h 3)), (19, .c (.val (.bool (b_3 != r_18))))], [(0, .row (.pair (.int .i64) (.pair (.int .i64) .str)) a_2), (1, .box [.val (.int .i64 a_1), .h 0]), (2, .box [.val (.int .i64 b_3), .imm (.slice (.pair (.int .i64) (.pair (.int .i64) .str))) b_4]), (3, .box [.val (.int .i64 (0 : Int)), .val (.slice none 0 0)])], 4⟩ [] (by kernel_rfl) rfl rfl ap0 ?_
        refine VL_nil (QB_end ?_)
        refine V_run hN hn 1 4 [2, 3, 4, 19] [0, 1, 2, 3] ⟨[(2, .c (.h 1)), (3, .c (.h 2)), (4, .c (.h 3)), (19, .c (.val (.bool (b_3 != r_18))))], [(0, .row (.pair (.int .i64) (.pair (.int .i64) .str)) a_2), (1, .box [.val (.int .i64 a_1), .h 0]), (2, .box [.val (.int .i64 b_3), .imm (.slice (.pair (.int .i64) (.pair (.int .i64) .str))) b_4]), (3, .box [.val (.int .i64 (0 : Int)), .val (.slice none 0 0)])], 4⟩ [] (by kernel_rfl) rfl rfl ap0 ?_
        obtain ⟨r_25, h_26, H_82⟩ := of_bind H_80
        refine V_reg hN hn [(2, ⟨31, 0, [.c (.val (.int .i64 a_1))], [], .c (.h 0), [(0, .box [.val (.int .i64 a_1), .val (.slice none 0 0)])], [(0, 4)], 5⟩)] [] (calls_cons (delta_NewMaker_spec K a_1 r_25 h_26) (by kernel_rfl) calls_nil) 4 [2, 3, 4, 6] [0, 1, 2, 3, 4] ⟨[(2, .c (.h 1)), (3, .c (.h 2)), (4, .c (.h 3)), (6, .c (.h 4))], [(0, .row (.pair (.int .i64) (.pair (.int .i64) .str)) a_2), (1, .box [.val (.int .i64 a_1), .h 0]), (2, .box [.val (.int .i64 b_3), .imm (.slice (.pair (.int .i64) (.pair (.int .i64) .str))) b_4]), (3, .box [.val (.int .i64 (0 : Int)), .val (.slice none 0 0)]), (4, .box [.val (.int .i64 a_1), .val (.slice none 0 0)])], 5⟩ [] (by kernel_rfl) rfl rfl ap0 (by kernel_rfl) (by kernel_rfl) ?_
        refine V_run hN hn 3 5 [2, 4, 6, 30, 31, 32] [0, 1, 3, 4] ⟨[(2, .c (.h 1)), (4, .c (.h 3)), (6, .c (.h 4)), (30, .c (.imm (.slice (.pair (.int .i64) (.pair (.int .i64) .str))) b_4)), (31, .c (.val (.int .i64 (((List.length b_4) : Nat) : Int)))), (32, .c (.val (.int .i64 (0 : Int))))], [(0, .row (.pair (.int .i64) (.pair (.int .i64) .str)) a_2), (1, .box [.val (.int .i64 a_1), .h 0]), (3, .box [.val (.int .i64 (0 : Int)), .val (.slice none 0 0)]), (4, .box [.val (.int .i64 a_1), .val (.slice none 0 0)])], 5⟩ [] (by kernel_rfl) rfl rfl ap0 ?_
        obtain ⟨q_83, H_84, H_85⟩ := of_bind H_82
        refine V_cut (Y := (List (Int × (Int × ByteArray)))) (R := (List (Int × (Int × ByteArray)))) q_83 (fun y => y) (fun y => [(4, .c (.h 3)), (6, .c (.h 4))]) (fun y => [(0, .row (.pair (.int .i64) (.pair (.int .i64) .str)) a_2), (3, .box [.val (.int .i64 (0 : Int)), .val (.slice none 0 0)]), (4, .box [.val (.int .i64 a_1), .h 8]), (8, .row (.pair (.int .i64) (.pair (.int .i64) .str)) y)]) ?_ ?_
        · skip
          refine VL_block ?_
          refine V_ghost [.nilCell 4 1 (.pair (.int .i64) (.pair (.int .i64) .str))] 5 hn [2, 4, 6, 30, 31, 32] [0, 1, 3, 4, 5] ⟨[(2, .c (.h 1)), (4, .c (.h 3)), (6, .c (.h 4)), (30, .c (.imm (.slice (.pair (.int .i64) (.pair (.int .i64) .str))) b_4)), (31, .c (.val (.int .i64 (((List.length b_4) : Nat) : Int)))), (32, .c (.val (.int .i64 (0 : Int))))], [(0, .row (.pair (.int .i64) (.pair (.int .i64) .str)) a_2), (1, .box [.val (.int .i64 a_1), .h 0]), (3, .box [.val (.int .i64 (0 : Int)), .val (.slice none 0 0)]), (4, .box [.val (.int .i64 a_1), .h 5]), (5, .row (.pair (.int .i64) (.pair (.int .i64) .str)) ([] : List (Int × (Int × ByteArray))))], 6⟩ (by kernel_rfl) rfl rfl ?_
          refine V_to [(2, .c (.h 1)), (4, .c (.h 3)), (6, .c (.h 4)), (30, .c (.imm (.slice (.pair (.int .i64) (.pair (.int .i64) .str))) b_4)), (31, .c (.val (.int .i64 (((List.length b_4) : Nat) : Int)))), (32, .c (.val (.int .i64 (0 : Int))))] [(0, .row (.pair (.int .i64) (.pair (.int .i64) .str)) a_2), (1, .box [.val (.int .i64 a_1), .h 0]), (3, .box [.val (.int .i64 (0 : Int)), .val (.slice none 0 0)]), (4, .box [.val (.int .i64 a_1), .h 8]), (8, .row (.pair (.int .i64) (.pair (.int .i64) .str)) ([] : List (Int × (Int × ByteArray))))] [(1, 1), (3, 3), (4, 4), (8, 5)] hn (by kernel_rfl) (by kernel_rfl) rfl rfl rfl ?_
          refine VL_loop (X := ((List (Int × (Int × ByteArray))) × Int)) (fun x => [(2, .c (.h 1)), (4, .c (.h 3)), (6, .c (.h 4)), (30, .c (.imm (.slice (.pair (.int .i64) (.pair (.int .i64) .str))) b_4)), (31, .c (.val (.int .i64 (((List.length b_4) : Nat) : Int)))), (32, .c (.val (.int .i64 x.2)))]) (fun x => [(0, .row (.pair (.int .i64) (.pair (.int .i64) .str)) a_2), (1, .box [.val (.int .i64 a_1), .h 0]), (3, .box [.val (.int .i64 (0 : Int)), .val (.slice none 0 0)]), (4, .box [.val (.int .i64 a_1), .h 8]), (8, .row (.pair (.int .i64) (.pair (.int .i64) .str)) x.1)]) (fun k x => compose_Two.l0 K b_4 a_1 a_2 k x.1 x.2 = some q_83) K (([] : List (Int × (Int × ByteArray))), (0 : Int)) H_84 (fun _ h => no_none h) ?_
          intro k_43 x_43 H_87
          obtain ⟨x_42, t_29⟩ := x_43
          have H_88 : compose_Two.l0 K b_4 a_1 a_2 (k_43 + 1) x_42 t_29 = some q_83 := H_87
          rw [compose_Two.l0] at H_88
          refine V_run hN hn 3 9 [2, 4, 6, 30, 31, 32, 33] [0, 1, 3, 4, 8] ⟨[(2, .c (.h 1)), (4, .c (.h 3)), (6, .c (.h 4)), (30, .c (.imm (.slice (.pair (.int .i64) (.pair (.int .i64) .str))) b_4)), (31, .c (.val (.int .i64 (((List.length b_4) : Nat) : Int)))), (32, .c (.val (.int .i64 t_29))), (33, .c (.val (.bool (decide (t_29 < (((List.length b_4) : Nat) : Int))))))], [(0, .row (.pair (.int .i64) (.pair (.int .i64) .str)) a_2), (1, .box [.val (.int .i64 a_1), .h 0]), (3, .box [.val (.int .i64 (0 : Int)), .val (.slice none 0 0)]), (4, .box [.val (.int .i64 a_1), .h 8]), (8, .row (.pair (.int .i64) (.pair (.int .i64) .str)) x_42)], 9⟩ [] (by kernel_rfl) rfl rfl ap0 ?_
          refine VL_cond ((decide (t_29 < (((List.length b_4) : Nat) : Int)))) (by kernel_rfl) ?_ ?_
          · intro b_45; have H_89 := of_t H_88 b_45
            refine V_run hN hn 2 9 [2, 4, 6, 30, 31, 32, 33] [0, 1, 3, 4, 8] ⟨[(2, .c (.h 1)), (4, .c (.h 3)), (6, .c (.h 4)), (30, .c (.imm (.slice (.pair (.int .i64) (.pair (.int .i64) .str))) b_4)), (31, .c (.val (.int .i64 (((List.length b_4) : Nat) : Int)))), (32, .c (.val (.int .i64 t_29))), (33, .c (.val (.bool (decide (t_29 < (((List.length b_4) : Nat) : Int))))))], [(0, .row (.pair (.int .i64) (.pair (.int .i64) .str)) a_2), (1, .box [.val (.int .i64 a_1), .h 0]), (3, .box [.val (.int .i64 (0 : Int)), .val (.slice none 0 0)]), (4, .box [.val (.int .i64 a_1), .h 8]), (8, .row (.pair (.int .i64) (.pair (.int .i64) .str)) x_42)], 9⟩ [] (by kernel_rfl) rfl rfl ap0 ?_
            refine VL_block ?_
            obtain ⟨c_47, H_91⟩ := of_if H_89
            refine V_run hN hn 3 9 [2, 4, 6, 8, 30, 31, 32] [0, 1, 3, 4, 8, 9] ⟨[(2, .c (.h 1)), (4, .c (.h 3)), (6, .c (.h 4)), (8, .c (.h 9)), (30, .c (.imm (.slice (.pair (.int .i64) (.pair (.int .i64) .str))) b_4)), (31, .c (.val (.int .i64 (((List.length b_4) : Nat) : Int)))), (32, .c (.val (.int .i64 t_29)))], [(0, .row (.pair (.int .i64) (.pair (.int .i64) .str)) a_2), (1, .box [.val (.int .i64 a_1), .h 0]), (3, .box [.val (.int .i64 (0 : Int)), .val (.slice none 0 0)]), (4, .box [.val (.int .i64 a_1), .h 8]), (8, .row (.pair (.int .i64) (.pair (.int .i64) .str)) x_42), (9, .box [.val (.int .i64 (List.getD b_4 (Int.toNat t_29) ((0 : Int), ((0 : Int), ByteArray.empty))).1), .val (.int .i64 (List.getD b_4 (Int.toNat t_29) ((0 : Int), ((0 : Int), ByteArray.empty))).2.1), .val (.string (List.getD b_4 (Int.toNat t_29) ((0 : Int), ((0 : Int), ByteArray.empty))).2.2)])], 10⟩ [0 ≤ t_29, t_29 < (((List.length b_4) : Nat) : Int)] (by kernel_rfl) rfl rfl (ap2 c_47.1 (ap1 c_47.2)) ?_
            obtain ⟨r_48, h_49, H_92⟩ := of_bind H_91
            refine V_reg hN hn [(3, ⟨32, 2, [.c (.h 0), .c (.val (.string (List.getD b_4 (Int.toNat t_29) ((0 : Int), ((0 : Int), ByteArray.empty))).2.2))], [(0, .box [.val (.int .i64 a_1), .h 1]), (1, .row (.pair (.int .i64) (.pair (.int .i64) .str)) x_42)], .tup [], [(0, .box [.val (.int .i64 a_1), .h 4]), (4, .row (.pair (.int .i64) (.pair (.int .i64) .str)) r_48)], [(0, 4), (1, 8), (4, 10)], 11⟩)] [] (calls_cons (delta_Maker_Put_bg_92925_spec K a_1 x_42 (List.getD b_4 (Int.toNat t_29) ((0 : Int), ((0 : Int), ByteArray.empty))).2.2 r_48 h_49) (by kernel_rfl) calls_nil) 10 [2, 4, 6, 8, 30, 31, 32] [0, 1, 3, 4, 9, 10] ⟨[(2, .c (.h 1)), (4, .c (.h 3)), (6, .c (.h 4)), (8, .c (.h 9)), (30, .c (.imm (.slice (.pair (.int .i64) (.pair (.int .i64) .str))) b_4)), (31, .c (.val (.int .i64 (((List.length b_4) : Nat) : Int)))), (32, .c (.val (.int .i64 t_29)))], [(0, .row (.pair (.int .i64) (.pair (.int .i64) .str)) a_2), (1, .box [.val (.int .i64 a_1), .h 0]), (3, .box [.val (.int .i64 (0 : Int)), .val (.slice none 0 0)]), (4, .box [.val (.int .i64 a_1), .h 10]), (9, .box [.val (.int .i64 (List.getD b_4 (Int.toNat t_29) ((0 : Int), ((0 : Int), ByteArray.empty))).1), .val (.int .i64 (List.getD b_4 (Int.toNat t_29) ((0 : Int), ((0 : Int), ByteArray.empty))).2.1), .val (.string (List.getD b_4 (Int.toNat t_29) ((0 : Int), ((0 : Int), ByteArray.empty))).2.2)]), (10, .row (.pair (.int .i64) (.pair (.int .i64) .str)) r_48)], 11⟩ [] (by kernel_rfl) rfl rfl ap0 (by kernel_rfl) (by kernel_rfl) ?_
            obtain ⟨r_51, h_52, H_93⟩ := of_bind H_92
            refine V_reg hN hn [(6, ⟨33, 3, [.c (.h 0), .agg [.val (.int .i64 a_1), .h 2], .c (.val (.int .i64 (List.getD b_4 (Int.toNat t_29) ((0 : Int), ((0 : Int), ByteArray.empty))).1)), .c (.val (.int .i64 (List.getD b_4 (Int.toNat t_29) ((0 : Int), ((0 : Int), ByteArray.empty))).2.1))], [(0, .box [.val (.int .i64 a_1), .h 1]), (1, .row (.pair (.int .i64) (.pair (.int .i64) .str)) r_48), (2, .row (.pair (.int .i64) (.pair (.int .i64) .str)) a_2)], .tup [], [(0, .box [.val (.int .i64 a_1), .h 6]), (2, .row (.pair (.int .i64) (.pair (.int .i64) .str)) a_2), (6, .row (.pair (.int .i64) (.pair (.int .i64) .str)) r_51)], [(0, 4), (1, 10), (2, 0), (6, 11)], 12⟩)] [] (calls_cons (compose_part_bsgrgg_e131e_spec K a_1 r_48 a_1 a_2 (List.getD b_4 (Int.toNat t_29) ((0 : Int), ((0 : Int), ByteArray.empty))).1 (List.getD b_4 (Int.toNat t_29) ((0 : Int), ((0 : Int), ByteArray.empty))).2.1 r_51 h_52) (by kernel_rfl) calls_nil) 11 [2, 4, 6, 30, 31, 32] [0, 1, 3, 4, 11] ⟨[(2, .c (.h 1)), (4, .c (.h 3)), (6, .c (.h 4)), (30, .c (.imm (.slice (.pair (.int .i64) (.pair (.int .i64) .str))) b_4)), (31, .c (.val (.int .i64 (((List.length b_4) : Nat) : Int)))), (32, .c (.val (.int .i64 t_29)))], [(0, .row (.pair (.int .i64) (.pair (.int .i64) .str)) a_2), (1, .box [.val (.int .i64 a_1), .h 0]), (3, .box [.val (.int .i64 (0 : Int)), .val (.slice none 0 0)]), (4, .box [.val (.int .i64 a_1), .h 11]), (11, .row (.pair (.int .i64) (.pair (.int .i64) .str)) r_51)], 12⟩ [] (by kernel_rfl) rfl rfl ap0 (by kernel_rfl) (by kernel_rfl) ?_
            refine VL_nil (QB_end ?_)
            refine V_run hN hn 1 12 [2, 4, 6, 30, 31, 32] [0, 1, 3, 4, 11] ⟨[(2, .c (.h 1)), (4, .c (.h 3)), (6, .c (.h 4)), (30, .c (.imm (.slice (.pair (.int .i64) (.pair (.int .i64) .str))) b_4)), (31, .c (.val (.int .i64 (((List.length b_4) : Nat) : Int)))), (32, .c (.val (.int .i64 (IntKind.wrap .i64 (t_29 + (1 : Int))))))], [(0, .row (.pair (.int .i64) (.pair (.int .i64) .str)) a_2), (1, .box [.val (.int .i64 a_1), .h 0]), (3, .box [.val (.int .i64 (0 : Int)), .val (.slice none 0 0)]), (4, .box [.val (.int .i64 a_1), .h 11]), (11, .row (.pair (.int .i64) (.pair (.int .i64) .str)) r_51)], 12⟩ [] (by kernel_rfl) rfl rfl ap0 ?_
            refine VL_nil ?_
            exact V_roundEnd (r_51, (IntKind.wrap .i64 (t_29 + (1 : Int)))) H_93 [(1, 1), (3, 3), (4, 4), (8, 11)] hn (by kernel_rfl) (by kernel_rfl) rfl rfl rfl
          · intro b_45; have H_90 := of_f H_88 b_45
            refine VL_exit ?_
            refine QL_exit ?_
            refine QB_here ?_
            have H_94 := Option.some.inj (show some x_42 = some q_83 from H_90); subst H_94
            refine VL_nil ?_
            exact QP_end x_42 rfl [(3, 3), (4, 4), (8, 8)] hn (by kernel_rfl) (by kernel_rfl) rfl rfl rfl
        · intro y_86 hy; subst hy
          skip
          skip
          refine V_run hN hn 1 9 [4, 6] [0, 3, 4, 8] ⟨[(4, .c (.h 3)), (6, .c (.h 4))], [(0, .row (.pair (.int .i64) (.pair (.int .i64) .str)) a_2), (3, .box [.val (.int .i64 (0 : Int)), .val (.slice none 0 0)]), (4, .box [.val (.int .i64 a_1), .h 8]), (8, .row (.pair (.int .i64) (.pair (.int .i64) .str)) y_86)], 9⟩ [] (by kernel_rfl) rfl rfl ap0 ?_
          refine V_ghost [.shut 8] 9 hn [4, 6] [0, 3, 4] ⟨[(4, .c (.h 3)), (6, .c (.h 4))], [(0, .row (.pair (.int .i64) (.pair (.int .i64) .str)) a_2), (3, .box [.val (.int .i64 (0 : Int)), .val (.slice none 0 0)]), (4, .box [.val (.int .i64 a_1), .imm (.slice (.pair (.int .i64) (.pair (.int .i64) .str))) y_86])], 9⟩ (by kernel_rfl) rfl rfl ?_
          obtain ⟨r_57, h_58, H_95⟩ := of_bind H_85
          refine V_reg hN hn [(1, ⟨34, 1, [.c (.h 0)], [(0, .box [.val (.int .i64 a_1), .imm (.slice (.pair (.int .i64) (.pair (.int .i64) .str))) y_86])], .tup [(true, [.val (.int .i64 r_57.1), .imm (.slice (.pair (.int .i64) (.pair (.int .i64) .str))) r_57.2.1]), (false, [.val (.int .i64 r_57.2.2)])], [(0, .box [.val (.int .i64 a_1), .imm (.slice (.pair (.int .i64) (.pair (.int .i64) .str))) y_86])], [(0, 4)], 9⟩)] [] (calls_cons (compose_made_b_ee1c6_spec K a_1 y_86 r_57 h_58) (by kernel_rfl) calls_nil) 9 [4, 5] [0, 3] ⟨[(4, .c (.h 3)), (5, .c (.val (.int .i64 r_57.2.2)))], [(0, .row (.pair (.int .i64) (.pair (.int .i64) .str)) a_2), (3, .box [.val (.int .i64 r_57.1), .imm (.slice (.pair (.int .i64) (.pair (.int .i64) .str))) r_57.2.1])], 9⟩ [] (by kernel_rfl) rfl rfl ap0 (by kernel_rfl) (by kernel_rfl) ?_
          have H_96 := Option.some.inj (show some (r_57.1, r_57.2.1, r_57.2.2) = some r from H_95); subst H_96
          refine VL_ret ?_
          exact P_to [(4, .c (.h 3)), (5, .c (.val (.int .i64 r_57.2.2)))] [(0, .row (.pair (.int .i64) (.pair (.int .i64) .str)) a_2), (3, .box [.val (.int .i64 r_57.1), .imm (.slice (.pair (.int .i64) (.pair (.int .i64) .str))) r_57.2.1])] [(3, 3)] hn (by kernel_rfl) (by kernel_rfl) rfl rfl rfl (QF_retS (by kernel_rfl) (by kernel_rfl) rfl)

theorem slices_Equal_spec (K : Nat) (s1_1 : (List (Int × (Int × ByteArray)))) (s2_2 : (List (Int × (Int × ByteArray)))) (r : Bool) (H : slices_Equal_gr K s1_1 s2_2 = some r) : Spec Try.prog 41 0 [.c (.imm (.slice (.pair (.int .i64) (.pair (.int .i64) .str))) s1_1), .c (.imm (.slice (.pair (.int .i64) (.pair (.int .i64) .str))) s2_2)] [] (.c (.val (.bool r))) [] := by
  refine Spec_mk (fn := Try.f41) (c := (Try.f41.body).get!) Try.func41 (by kernel_rfl) rfl ?_
  intro C hN hn
  replace hN : C.N = 26 := hN
  unfold slices_Equal_gr at H
  refine V_run hN hn 5 0 [0, 1, 10] [] ⟨[(0, .c (.imm (.slice (.pair (.int .i64) (.pair (.int .i64) .str))) s1_1)), (1, .c (.imm (.slice (.pair (.int .i64) (.pair (.int .i64) .str))) s2_2)), (10, .c (.val (.bool ((((List.length s1_1) : Nat) : Int) != (((List.length s2_2) : Nat) : Int)))))], [], 0⟩ [] (by kernel_rfl) rfl rfl ap0 ?_
  refine VL_cond (((((List.length s1_1) : Nat) : Int) != (((List.length s2_2) : Nat) : Int))) (by kernel_rfl) ?_ ?_
  · intro b_4; have H_20 := of_t H b_4
    refine V_run hN hn 2 0 [4] [] ⟨[(4, .c (.val (.bool false)))], [], 0⟩ [] (by kernel_rfl) rfl rfl ap0 ?_
    have H_22 := Option.some.inj (show some false = some r from H_20); subst H_22
    refine VL_ret ?_
    exact P_to [(4, .c (.val (.bool false)))] [] [] hn (by kernel_rfl) (by kernel_rfl) rfl rfl rfl (QF_retS (by kernel_rfl) (by kernel_rfl) rfl)
  · intro b_4; have H_21 := of_f H b_4
    refine V_run hN hn 4 0 [0, 1, 12, 13] [] ⟨[(0, .c (.imm (.slice (.pair (.int .i64) (.pair (.int .i64) .str))) s1_1)), (1, .c (.imm (.slice (.pair (.int .i64) (.pair (.int .i64) .str))) s2_2)), (12, .c (.val (.int .i64 (((List.length s1_1) : Nat) : Int)))), (13, .c (.val (.int .i64 (0 : Int))))], [], 0⟩ [] (by kernel_rfl) rfl rfl ap0 ?_
    refine VL_block ?_
    refine V_to [(0, .c (.imm (.slice (.pair (.int .i64) (.pair (.int .i64) .str))) s1_1)), (1, .c (.imm (.slice (.pair (.int .i64) (.pair (.int .i64) .str))) s2_2)), (12, .c (.val (.int .i64 (((List.length s1_1) : Nat) : Int)))), (13, .c (.val (.int .i64 (0 : Int))))] [] [] hn (by kernel_rfl) (by kernel_rfl) rfl rfl rfl ?_
    refine VL_loop (X := Int) (fun x => [(0, .c (.imm (.slice (.pair (.int .i64) (.pair (.int .i64) .str))) s1_1)), (1, .c (.imm (.slice (.pair (.int .i64) (.pair (.int .i64) .str))) s2_2)), (12, .c (.val (.int .i64 (((List.length s1_1) : Nat) : Int)))), (13, .c (.val (.int .i64 x)))]) (fun x => []) (fun k x => slices_Equal_gr.l0 K s1_1 s2_2 k x = some r) K (0 : Int) H_21 (fun _ h => no_none h) ?_
    intro k_8 t_7 H_23
    have H_24 : slices_Equal_gr.l0 K s1_1 s2_2 (k_8 + 1) t_7 = some r := H_23
    rw [slices_Equal_gr.l0] at H_24
    refine V_run hN hn 3 0 [0, 1, 12, 13, 14] [] ⟨[(0, .c (.imm (.slice (.pair (.int .i64) (.pair (.int .i64) .str))) s1_1)), (1, .c (.imm (.slice (.pair (.int .i64) (.pair (.int .i64) .str))) s2_2)), (12, .c (.val (.int .i64 (((List.length s1_1) : Nat) : Int)))), (13, .c (.val (.int .i64 t_7))), (14, .c (.val (.bool (decide (t_7 < (((List.length s1_1) : Nat) : Int))))))], [], 0⟩ [] (by kernel_rfl) rfl rfl ap0 ?_
    refine VL_cond ((decide (t_7 < (((List.length s1_1) : Nat) : Int)))) (by kernel_rfl) ?_ ?_
    · intro b_10; have H_25 := of_t H_24 b_10
      refine V_run hN hn 2 0 [0, 1, 12, 13, 14] [] ⟨[(0, .c (.imm (.slice (.pair (.int .i64) (.pair (.int .i64) .str))) s1_1)), (1, .c (.imm (.slice (.pair (.int .i64) (.pair (.int .i64) .str))) s2_2)), (12, .c (.val (.int .i64 (((List.length s1_1) : Nat) : Int)))), (13, .c (.val (.int .i64 t_7))), (14, .c (.val (.bool (decide (t_7 < (((List.length s1_1) : Nat) : Int))))))], [], 0⟩ [] (by kernel_rfl) rfl rfl ap0 ?_
      refine VL_block ?_
      refine V_run hN hn 3 0 [0, 1, 5, 12, 13] [] ⟨[(0, .c (.imm (.slice (.pair (.int .i64) (.pair (.int .i64) .str))) s1_1)), (1, .c (.imm (.slice (.pair (.int .i64) (.pair (.int .i64) .str))) s2_2)), (5, .c (.val (.int .i64 t_7))), (12, .c (.val (.int .i64 (((List.length s1_1) : Nat) : Int)))), (13, .c (.val (.int .i64 t_7)))], [], 0⟩ [] (by kernel_rfl) rfl rfl ap0 ?_
      obtain ⟨c_13, H_27⟩ := of_if H_25
      refine V_draw hN hn (by kernel_rfl) [] [] calls_nil 0 [0, 1, 12, 13, 24] [] ⟨[(0, .c (.imm (.slice (.pair (.int .i64) (.pair (.int .i64) .str))) s1_1)), (1, .c (.imm (.slice (.pair (.int .i64) (.pair (.int .i64) .str))) s2_2)), (12, .c (.val (.int .i64 (((List.length s1_1) : Nat) : Int)))), (13, .c (.val (.int .i64 t_7))), (24, .c (.val (.bool (!(((List.getD s1_1 (Int.toNat t_7) ((0 : Int), ((0 : Int), ByteArray.empty))).1 == (List.getD s2_2 (Int.toNat t_7) ((0 : Int), ((0 : Int), ByteArray.empty))).1) && (((List.getD s1_1 (Int.toNat t_7) ((0 : Int), ((0 : Int), ByteArray.empty))).2.1 == (List.getD s2_2 (Int.toNat t_7) ((0 : Int), ((0 : Int), ByteArray.empty))).2.1) && (ByteArray.toList (List.getD s1_1 (Int.toNat t_7) ((0 : Int), ((0 : Int), ByteArray.empty))).2.2 == ByteArray.toList (List.getD s2_2 (Int.toNat t_7) ((0 : Int), ((0 : Int), ByteArray.empty))).2.2)))))))], [], 0⟩ [0 ≤ t_7, t_7 < (((List.length s1_1) : Nat) : Int), 0 ≤ t_7, t_7 < (((List.length s2_2) : Nat) : Int)] (by kernel_rfl) rfl rfl (ap2 c_13.1 (ap2 c_13.2.1 (ap2 c_13.1 (ap1 c_13.2.2)))) (by kernel_rfl) (by kernel_rfl) ?_
      refine VL_cond ((!(((List.getD s1_1 (Int.toNat t_7) ((0 : Int), ((0 : Int), ByteArray.empty))).1 == (List.getD s2_2 (Int.toNat t_7) ((0 : Int), ((0 : Int), ByteArray.empty))).1) && (((List.getD s1_1 (Int.toNat t_7) ((0 : Int), ((0 : Int), ByteArray.empty))).2.1 == (List.getD s2_2 (Int.toNat t_7) ((0 : Int), ((0 : Int), ByteArray.empty))).2.1) && (ByteArray.toList (List.getD s1_1 (Int.toNat t_7) ((0 : Int), ((0 : Int), ByteArray.empty))).2.2 == ByteArray.toList (List.getD s2_2 (Int.toNat t_7) ((0 : Int), ((0 : Int), ByteArray.empty))).2.2))))) (by kernel_rfl) ?_ ?_
      · intro b_14; have H_28 := of_t H_27 b_14
        refine V_run hN hn 2 0 [4] [] ⟨[(4, .c (.val (.bool false)))], [], 0⟩ [] (by kernel_rfl) rfl rfl ap0 ?_
        have H_30 := Option.some.inj (show some false = some r from H_28); subst H_30
        refine VL_ret ?_
        refine QB_ret ?_
        refine QL_ret ?_
        refine QB_ret ?_
        exact P_to [(4, .c (.val (.bool false)))] [] [] hn (by kernel_rfl) (by kernel_rfl) rfl rfl rfl (QF_retS (by kernel_rfl) (by kernel_rfl) rfl)
      · intro b_14; have H_29 := of_f H_27 b_14
        refine V_run hN hn 1 0 [0, 1, 12, 13, 24] [] ⟨[(0, .c (.imm (.slice (.pair (.int .i64) (.pair (.int .i64) .str))) s1_1)), (1, .c (.imm (.slice (.pair (.int .i64) (.pair (.int .i64) .str))) s2_2)), (12, .c (.val (.int .i64 (((List.length s1_1) : Nat) : Int)))), (13, .c (.val (.int .i64 t_7))), (24, .c (.val (.bool (!(((List.getD s1_1 (Int.toNat t_7) ((0 : Int), ((0 : Int), ByteArray.empty))).1 == (List.getD s2_2 (Int.toNat t_7) ((0 : Int), ((0 : Int), ByteArray.empty))).1) && (((List.getD s1_1 (Int.toNat t_7) ((0 : Int), ((0 : Int), ByteArray.empty))).2.1 == (List.getD s2_2 (Int.toNat t_7) ((0 : Int), ((0 : Int), ByteArray.empty))).2.1) && (ByteArray.toList (List.getD s1_1 (Int.toNat t_7) ((0 : Int), ((0 : Int), ByteArray.empty))).2.2 == ByteArray.toList (List.getD s2_2 (Int.toNat t_7) ((0 : Int), ((0 : Int), ByteArray.empty))).2.2)))))))], [], 0⟩ [] (by kernel_rfl) rfl rfl ap0 ?_
        refine VL_nil (QB_end ?_)
        refine V_run hN hn 1 0 [0, 1, 12, 13] [] ⟨[(0, .c (.imm (.slice (.pair (.int .i64) (.pair (.int .i64) .str))) s1_1)), (1, .c (.imm (.slice (.pair (.int .i64) (.pair (.int .i64) .str))) s2_2)), (12, .c (.val (.int .i64 (((List.length s1_1) : Nat) : Int)))), (13, .c (.val (.int .i64 (IntKind.wrap .i64 (t_7 + (1 : Int))))))], [], 0⟩ [] (by kernel_rfl) rfl rfl ap0 ?_
        refine VL_nil ?_
        exact V_roundEnd (IntKind.wrap .i64 (t_7 + (1 : Int))) H_29 [] hn (by kernel_rfl) (by kernel_rfl) rfl rfl rfl
    · intro b_10; have H_26 := of_f H_24 b_10
      refine VL_exit ?_
      refine QL_exit ?_
      refine QB_here ?_
      refine V_run hN hn 2 0 [4] [] ⟨[(4, .c (.val (.bool true)))], [], 0⟩ [] (by kernel_rfl) rfl rfl ap0 ?_
      have H_31 := Option.some.inj (show some true = some r from H_26); subst H_31
      refine VL_ret ?_
      exact P_to [(4, .c (.val (.bool true)))] [] [] hn (by kernel_rfl) (by kernel_rfl) rfl rfl rfl (QF_retS (by kernel_rfl) (by kernel_rfl) rfl)

theorem delta_Same_spec (K : Nat) (a_1 : Int) (a_2 : (List (Int × (Int × ByteArray)))) (b_3 : Int) (b_4 : (List (Int × (Int × ByteArray)))) (r : Bool) (H : delta_Same_sggsgr K a_1 a_2 b_3 b_4 = some r) : Spec Try.prog 24 0 [.agg [.val (.int .i64 a_1), .imm (.slice (.pair (.int .i64) (.pair (.int .i64) .str))) a_2], .agg [.val (.int .i64 b_3), .imm (.slice (.pair (.int .i64) (.pair (.int .i64) .str))) b_4]] [] (.c (.val (.bool r))) [] := by
  refine Spec_mk (fn := Try.f24) (c := (Try.f24.body).get!) Try.func24 (by kernel_rfl) rfl ?_
  intro C hN hn
  replace hN : C.N = 17 := hN
  unfold delta_Same_sggsgr at H
  refine V_run hN hn 3 0 [2, 3] [0, 1] ⟨[(2, .c (.h 0)), (3, .c (.h 1))], [(0, .box [.val (.int .i64 a_1), .imm (.slice (.pair (.int .i64) (.pair (.int .i64) .str))) a_2]), (1, .box [.val (.int .i64 b_3), .imm (.slice (.pair (.int .i64) (.pair (.int .i64) .str))) b_4])], 2⟩ [] (by kernel_rfl) rfl rfl ap0 ?_
  rcases Bool.eq_false_or_eq_true ((a_1 == b_3)) with b_6 | b_6
  · have H_12 := of_t H b_6
    obtain ⟨r_7, h_8, H_14⟩ := of_bind H_12
    refine V_reg hN hn [(10, ⟨41, 0, [.c (.imm (.slice (.pair (.int .i64) (.pair (.int .i64) .str))) a_2), .c (.imm (.slice (.pair (.int .i64) (.pair (.int .i64) .str))) b_4)], [], .c (.val (.bool r_7)), [], [], 2⟩)] [(10, true)] (calls_cons (slices_Equal_spec K a_2 b_4 r_7 h_8) (by kernel_rfl) calls_nil) 2 [4] [] ⟨[(4, .c (.val (.bool r_7)))], [], 2⟩ [(a_1 == b_3) = true] (by kernel_rfl) rfl rfl (ap1 b_6) (by kernel_rfl) (by kernel_rfl) ?_
    have H_15 := Option.some.inj (show some r_7 = some r from H_14); subst H_15
    refine VL_ret ?_
    exact P_to [(4, .c (.val (.bool r_7)))] [] [] hn (by kernel_rfl) (by kernel_rfl) rfl rfl rfl (QF_retS (by kernel_rfl) (by kernel_rfl) rfl)
  · have H_13 := of_f H b_6
    refine V_reg hN hn [] [(10, false)] calls_nil 2 [4] [] ⟨[(4, .c (.val (.bool false)))], [], 2⟩ [(a_1 == b_3) = false] (by kernel_rfl) rfl rfl (ap1 b_6) (by kernel_rfl) (by kernel_rfl) ?_
    have H_16 := Option.some.inj (show some false = some r from H_13); subst H_16
    refine VL_ret ?_
    exact P_to [(4, .c (.val (.bool false)))] [] [] hn (by kernel_rfl) (by kernel_rfl) rfl rfl rfl (QF_retS (by kernel_rfl) (by kernel_rfl) rfl)

theorem palinodelaw13_ascii_spec (K : Nat) (s_1 : ByteArray) (r : Bool) (H : palinodelaw13_ascii K s_1 = some r) : Spec Try.prog 27 0 [.c (.val (.string s_1))] [] (.c (.val (.bool r))) [] := by
  refine Spec_mk (fn := Try.f27) (c := (Try.f27.body).get!) Try.func27 (by kernel_rfl) rfl ?_
  intro C hN hn
  replace hN : C.N = 14 := hN
  unfold palinodelaw13_ascii at H
  refine V_run hN hn 5 0 [0, 3] [] ⟨[(0, .c (.val (.string s_1))), (3, .c (.val (.int .i64 (0 : Int))))], [], 0⟩ [] (by kernel_rfl) rfl rfl ap0 ?_
  refine VL_block ?_
  refine V_to [(0, .c (.val (.string s_1))), (3, .c (.val (.int .i64 (0 : Int))))] [] [] hn (by kernel_rfl) (by kernel_rfl) rfl rfl rfl ?_
  refine VL_loop (X := Int) (fun x => [(0, .c (.val (.string s_1))), (3, .c (.val (.int .i64 x)))]) (fun x => []) (fun k x => palinodelaw13_ascii.l0 K s_1 k x = some r) K (0 : Int) H (fun _ h => no_none h) ?_
  intro k_4 i_3 H_15
  have H_16 : palinodelaw13_ascii.l0 K s_1 (k_4 + 1) i_3 = some r := H_15
  rw [palinodelaw13_ascii.l0] at H_16
  refine V_run hN hn 3 0 [0, 3, 7] [] ⟨[(0, .c (.val (.string s_1))), (3, .c (.val (.int .i64 i_3))), (7, .c (.val (.bool (decide (i_3 < (((ByteArray.size s_1) : Nat) : Int))))))], [], 0⟩ [] (by kernel_rfl) rfl rfl ap0 ?_
  refine VL_cond ((decide (i_3 < (((ByteArray.size s_1) : Nat) : Int)))) (by kernel_rfl) ?_ ?_
  · intro b_6; have H_17 := of_t H_16 b_6
    refine V_run hN hn 2 0 [0, 3, 7] [] ⟨[(0, .c (.val (.string s_1))), (3, .c (.val (.int .i64 i_3))), (7, .c (.val (.bool (decide (i_3 < (((ByteArray.size s_1) : Nat) : Int))))))], [], 0⟩ [] (by kernel_rfl) rfl rfl ap0 ?_
    refine VL_block ?_
    obtain ⟨c_8, H_19⟩ := of_if H_17
    refine V_run hN hn 2 0 [0, 3, 13] [] ⟨[(0, .c (.val (.string s_1))), (3, .c (.val (.int .i64 i_3))), (13, .c (.val (.bool (decide ((bt s_1 i_3) ≥ (128 : Int))))))], [], 0⟩ [0 ≤ i_3, i_3 < (((ByteArray.size s_1) : Nat) : Int)] (by kernel_rfl) rfl rfl (ap2 c_8.1 (ap1 c_8.2)) ?_
    refine VL_cond ((decide ((bt s_1 i_3) ≥ (128 : Int)))) (by kernel_rfl) ?_ ?_
    · intro b_9; have H_20 := of_t H_19 b_9
      refine V_run hN hn 2 0 [2] [] ⟨[(2, .c (.val (.bool false)))], [], 0⟩ [] (by kernel_rfl) rfl rfl ap0 ?_
      have H_22 := Option.some.inj (show some false = some r from H_20); subst H_22
      refine VL_ret ?_
      refine QB_ret ?_
      refine QL_ret ?_
      refine QB_ret ?_
      exact P_to [(2, .c (.val (.bool false)))] [] [] hn (by kernel_rfl) (by kernel_rfl) rfl rfl rfl (QF_retS (by kernel_rfl) (by kernel_rfl) rfl)
    · intro b_9; have H_21 := of_f H_19 b_9
      refine V_run hN hn 1 0 [0, 3, 13] [] ⟨[(0, .c (.val (.string s_1))), (3, .c (.val (.int .i64 i_3))), (13, .c (.val (.bool (decide ((bt s_1 i_3) ≥ (128 : Int))))))], [], 0⟩ [] (by kernel_rfl) rfl rfl ap0 ?_
      refine VL_nil (QB_end ?_)
      refine V_run hN hn 1 0 [0, 3] [] ⟨[(0, .c (.val (.string s_1))), (3, .c (.val (.int .i64 (IntKind.wrap .i64 (i_3 + (1 : Int))))))], [], 0⟩ [] (by kernel_rfl) rfl rfl ap0 ?_
      refine VL_nil ?_
      exact V_roundEnd (IntKind.wrap .i64 (i_3 + (1 : Int))) H_21 [] hn (by kernel_rfl) (by kernel_rfl) rfl rfl rfl
  · intro b_6; have H_18 := of_f H_16 b_6
    refine VL_exit ?_
    refine QL_exit ?_
    refine QB_here ?_
    refine V_run hN hn 2 0 [2] [] ⟨[(2, .c (.val (.bool true)))], [], 0⟩ [] (by kernel_rfl) rfl rfl ap0 ?_
    have H_23 := Option.some.inj (show some true = some r from H_18); subst H_23
    refine VL_ret ?_
    exact P_to [(2, .c (.val (.bool true)))] [] [] hn (by kernel_rfl) (by kernel_rfl) rfl rfl rfl (QF_retS (by kernel_rfl) (by kernel_rfl) rfl)

theorem compose_All_sx_spec (K : Nat) (l_1 : (List (Int × (List (Int × (Int × ByteArray)))))) (llo_2 : Nat) (ln_3 : Nat) (r : (Int × (List (Int × (Int × ByteArray))) × Int)) (H : compose_All_sx K l_1 llo_2 ln_3 = some r) : Spec Try.prog 23 1 [.c (.sub 0 2 llo_2 ln_3)] [(0, .row (.pair (.int .i64) (.slice (.pair (.int .i64) (.pair (.int .i64) .str)))) l_1)] (.tup [(true, [.val (.int .i64 r.1), .imm (.slice (.pair (.int .i64) (.pair (.int .i64) .str))) r.2.1]), (false, [.val (.int .i64 r.2.2)])]) [(0, .row (.pair (.int .i64) (.slice (.pair (.int .i64) (.pair (.int .i64) .str)))) l_1)] := by
  refine Spec_mk (fn := Try.f23) (c := (Try.f23.body).get!) Try.func23 (by kernel_rfl) rfl ?_
  intro C hN hn
  replace hN : C.N = 44 := hN
  unfold compose_All_sx at H
  refine V_run hN hn 5 1 [0, 2, 9] [0, 1] ⟨[(0, .c (.sub 0 2 llo_2 ln_3)), (2, .c (.h 1)), (9, .c (.val (.bool (((ln_3 : Nat) : Int) == (0 : Int)))))], [(0, .row (.pair (.int .i64) (.slice (.pair (.int .i64) (.pair (.int .i64) .str)))) l_1), (1, .box [.val (.int .i64 (0 : Int)), .val (.slice none 0 0)])], 2⟩ [] (by kernel_rfl) rfl rfl ap0 ?_
  refine VL_cond ((((ln_3 : Nat) : Int) == (0 : Int))) (by kernel_rfl) ?_ ?_
  · intro b_5; have H_52 := of_t H b_5
    refine V_run hN hn 1 2 [0, 2, 9] [0, 1] ⟨[(0, .c (.sub 0 2 llo_2 ln_3)), (2, .c (.h 1)), (9, .c (.val (.bool (((ln_3 : Nat) : Int) == (0 : Int)))))], [(0, .row (.pair (.int .i64) (.slice (.pair (.int .i64) (.pair (.int .i64) .str)))) l_1), (1, .box [.val (.int .i64 (0 : Int)), .val (.slice none 0 0)])], 2⟩ [] (by kernel_rfl) rfl rfl ap0 ?_
    obtain ⟨r_7, h_8, H_54⟩ := of_bind H_52
    refine V_reg hN hn [(0, ⟨25, 0, [.c (.val (.int .i64 (0 : Int)))], [], .agg [.val (.int .i64 r_7.1), .h 2], [(2, .row (.pair (.int .i64) (.pair (.int .i64) .str)) r_7.2)], [(2, 2)], 3⟩)] [] (calls_cons (delta_Keep_spec K (0 : Int) r_7 h_8) (by kernel_rfl) calls_nil) 2 [2, 3] [0, 1, 2] ⟨[(2, .c (.h 1)), (3, .c (.val (.int .i64 (0 : Int))))], [(0, .row (.pair (.int .i64) (.slice (.pair (.int .i64) (.pair (.int .i64) .str)))) l_1), (1, .box [.val (.int .i64 r_7.1), .h 2]), (2, .row (.pair (.int .i64) (.pair (.int .i64) .str)) r_7.2)], 3⟩ [] (by kernel_rfl) rfl rfl ap0 (by kernel_rfl) (by kernel_rfl) ?_
    have H_55 := Option.some.inj (show some (r_7.1, r_7.2, (0 : Int)) = some r from H_54); subst H_55
    refine VL_ret ?_
    refine P_ghost [.shut 2] 3 hn [2, 3] [0, 1] ⟨[(2, .c (.h 1)), (3, .c (.val (.int .i64 (0 : Int))))], [(0, .row (.pair (.int .i64) (.slice (.pair (.int .i64) (.pair (.int .i64) .str)))) l_1), (1, .box [.val (.int .i64 r_7.1), .imm (.slice (.pair (.int .i64) (.pair (.int .i64) .str))) r_7.2])], 3⟩ (by kernel_rfl) rfl rfl ?_
    exact P_to [(2, .c (.h 1)), (3, .c (.val (.int .i64 (0 : Int))))] [(0, .row (.pair (.int .i64) (.slice (.pair (.int .i64) (.pair (.int .i64) .str)))) l_1), (1, .box [.val (.int .i64 r_7.1), .imm (.slice (.pair (.int .i64) (.pair (.int .i64) .str))) r_7.2])] [(1, 1)] hn (by kernel_rfl) (by kernel_rfl) rfl rfl rfl (QF_retS (by kernel_rfl) (by kernel_rfl) rfl)
  · intro b_5; have H_53 := of_f H b_5
    refine V_run hN hn 2 2 [0, 2, 9] [0, 1] ⟨[(0, .c (.sub 0 2 llo_2 ln_3)), (2, .c (.h 1)), (9, .c (.val (.bool (((ln_3 : Nat) : Int) == (0 : Int)))))], [(0, .row (.pair (.int .i64) (.slice (.pair (.int .i64) (.pair (.int .i64) .str)))) l_1), (1, .box [.val (.int .i64 (0 : Int)), .val (.slice none 0 0)])], 2⟩ [] (by kernel_rfl) rfl rfl ap0 ?_
    obtain ⟨r_11, h_12, H_56⟩ := of_bind H_53
    obtain ⟨r_13, h_14, H_57⟩ := of_bind H_56
    obtain ⟨c_15, H_58⟩ := of_if H_57
    refine V_draw hN hn (by kernel_rfl) [(4, ⟨25, 0, [.c (.val (.int .i64 (List.getD l_1 (llo_2 + 0) ((0 : Int), ([] : (List (Int × (Int × ByteArray)))))).1))], [], .agg [.val (.int .i64 r_11.1), .h 2], [(2, .row (.pair (.int .i64) (.pair (.int .i64) .str)) r_11.2)], [(2, 2)], 3⟩), (8, ⟨11, 1, [.agg [.val (.int .i64 r_11.1), .h 0], .agg [.val (.int .i64 (List.getD l_1 (llo_2 + 0) ((0 : Int), ([] : (List (Int × (Int × ByteArray)))))).1), .imm (.slice (.pair (.int .i64) (.pair (.int .i64) .str))) (List.getD l_1 (llo_2 + 0) ((0 : Int), ([] : (List (Int × (Int × ByteArray)))))).2]], [(0, .row (.pair (.int .i64) (.pair (.int .i64) .str)) r_11.2)], .tup [(true, [.val (.int .i64 r_13.1), .imm (.slice (.pair (.int .i64) (.pair (.int .i64) .str))) r_13.2.1]), (false, [.val (.int .i64 r_13.2.2)])], [(0, .row (.pair (.int .i64) (.pair (.int .i64) .str)) r_11.2)], [(0, 2)], 3⟩)] [] (calls_cons (delta_Keep_spec K (List.getD l_1 (llo_2 + 0) ((0 : Int), ([] : (List (Int × (Int × ByteArray)))))).1 r_11 h_12) (by kernel_rfl) (calls_cons (compose_Two_sgrsgg_spec K r_11.1 r_11.2 (List.getD l_1 (llo_2 + 0) ((0 : Int), ([] : (List (Int × (Int × ByteArray)))))).1 (List.getD l_1 (llo_2 + 0) ((0 : Int), ([] : (List (Int × (Int × ByteArray)))))).2 r_13 h_14) (by kernel_rfl) calls_nil)) 2 [0, 2, 4, 5] [0, 1, 3] ⟨[(0, .c (.sub 0 2 llo_2 ln_3)), (2, .c (.h 1)), (4, .c (.h 3)), (5, .c (.val (.int .i64 r_13.2.2)))], [(0, .row (.pair (.int .i64) (.slice (.pair (.int .i64) (.pair (.int .i64) .str)))) l_1), (1, .box [.val (.int .i64 (0 : Int)), .val (.slice none 0 0)]), (3, .box [.val (.int .i64 r_13.1), .imm (.slice (.pair (.int .i64) (.pair (.int .i64) .str))) r_13.2.1])], 4⟩ [(0 : Int) ≤ (0 : Int), (0 : Int) < ((ln_3 : Nat) : Int), (0 : Int) ≤ (0 : Int), (0 : Int) < ((ln_3 : Nat) : Int), (0 : Int) ≤ (0 : Int), (0 : Int) < ((ln_3 : Nat) : Int), (0 : Int) ≤ (0 : Int), (0 : Int) < ((ln_3 : Nat) : Int), (0 : Int) ≤ (0 : Int), (0 : Int) < ((ln_3 : Nat) : Int), (0 : Int) ≤ (0 : Int), (0 : Int) < ((ln_3 : Nat) : Int)] (by kernel_rfl) rfl rfl (ap2 (by decide) (ap2 c_15 (ap2 (by decide) (ap2 c_15 (ap2 (by decide) (ap2 c_15 (ap2 (by decide) (ap2 c_15 (ap2 (by decide) (ap2 c_15 (ap2 (by decide) (ap1 c_15)))))))))))) (by kernel_rfl) (by kernel_rfl) ?_
    refine V_run hN hn 3 4 [0, 2, 4, 5, 6] [0, 1, 3] ⟨[(0, .c (.sub 0 2 llo_2 ln_3)), (2, .c (.h 1)), (4, .c (.h 3)), (5, .c (.val (.int .i64 r_13.2.2))), (6, .c (.val (.int .i64 (1 : Int))))], [(0, .row (.pair (.int .i64) (.slice (.pair (.int .i64) (.pair (.int .i64) .str)))) l_1), (1, .box [.val (.int .i64 (0 : Int)), .val (.slice none 0 0)]), (3, .box [.val (.int .i64 r_13.1), .imm (.slice (.pair (.int .i64) (.pair (.int .i64) .str))) r_13.2.1])], 4⟩ [] (by kernel_rfl) rfl rfl ap0 ?_
    refine VL_block ?_
    refine V_to [(0, .c (.sub 0 2 llo_2 ln_3)), (2, .c (.h 1)), (4, .c (.h 3)), (5, .c (.val (.int .i64 r_13.2.2))), (6, .c (.val (.int .i64 (1 : Int))))] [(0, .row (.pair (.int .i64) (.slice (.pair (.int .i64) (.pair (.int .i64) .str)))) l_1), (1, .box [.val (.int .i64 (0 : Int)), .val (.slice none 0 0)]), (3, .box [.val (.int .i64 r_13.1), .imm (.slice (.pair (.int .i64) (.pair (.int .i64) .str))) r_13.2.1])] [(1, 1), (3, 3)] hn (by kernel_rfl) (by kernel_rfl) rfl rfl rfl ?_
    refine VL_loop (X := (Int × (List (Int × (Int × ByteArray))) × Int × Int)) (fun x => [(0, .c (.sub 0 2 llo_2 ln_3)), (2, .c (.h 1)), (4, .c (.h 3)), (5, .c (.val (.int .i64 x.2.2.1))), (6, .c (.val (.int .i64 x.2.2.2)))]) (fun x => [(0, .row (.pair (.int .i64) (.slice (.pair (.int .i64) (.pair (.int .i64) .str)))) l_1), (1, .box [.val (.int .i64 (0 : Int)), .val (.slice none 0 0)]), (3, .box [.val (.int .i64 x.1), .imm (.slice (.pair (.int .i64) (.pair (.int .i64) .str))) x.2.1])]) (fun k x => compose_All_sx.l0 K ln_3 l_1 llo_2 k x.1 x.2.1 x.2.2.1 x.2.2.2 = some r) K (r_13.1, r_13.2.1, r_13.2.2, (1 : Int)) H_58 (fun _ h => no_none h) ?_
    intro k_34 x_34 H_59
    obtain ⟨x_32, x_33, e_17, i_18⟩ := x_34
    have H_60 : compose_All_sx.l0 K ln_3 l_1 llo_2 (k_34 + 1) x_32 x_33 e_17 i_18 = some r := H_59
    rw [compose_All_sx.l0] at H_60
    refine V_run hN hn 2 4 [0, 2, 4, 5, 6] [0, 1, 3] ⟨[(0, .c (.sub 0 2 llo_2 ln_3)), (2, .c (.h 1)), (4, .c (.h 3)), (5, .c (.val (.int .i64 e_17))), (6, .c (.val (.int .i64 i_18)))], [(0, .row (.pair (.int .i64) (.slice (.pair (.int .i64) (.pair (.int .i64) .str)))) l_1), (1, .box [.val (.int .i64 (0 : Int)), .val (.slice none 0 0)]), (3, .box [.val (.int .i64 x_32), .imm (.slice (.pair (.int .i64) (.pair (.int .i64) .str))) x_33])], 4⟩ [] (by kernel_rfl) rfl rfl ap0 ?_
    obtain ⟨q_61, H_62, H_63⟩ := of_bind H_60
    refine V_cut (Y := Bool) (R := Bool) q_61 (fun y => y) (fun y => [(0, .c (.sub 0 2 llo_2 ln_3)), (2, .c (.h 1)), (4, .c (.h 3)), (5, .c (.val (.int .i64 e_17))), (6, .c (.val (.int .i64 i_18))), (30, .c (.val (.bool y)))]) (fun y => [(0, .row (.pair (.int .i64) (.slice (.pair (.int .i64) (.pair (.int .i64) .str)))) l_1), (1, .box [.val (.int .i64 (0 : Int)), .val (.slice none 0 0)]), (3, .box [.val (.int .i64 x_32), .imm (.slice (.pair (.int .i64) (.pair (.int .i64) .str))) x_33])]) ?_ ?_
    · skip
      rcases Bool.eq_false_or_eq_true ((decide (i_18 < ((ln_3 : Nat) : Int)))) with b_36 | b_36
      · have H_65 := of_t H_62 b_36
        refine V_reg hN hn [] [(27, true)] calls_nil 4 [0, 2, 4, 5, 6, 30] [0, 1, 3] ⟨[(0, .c (.sub 0 2 llo_2 ln_3)), (2, .c (.h 1)), (4, .c (.h 3)), (5, .c (.val (.int .i64 e_17))), (6, .c (.val (.int .i64 i_18))), (30, .c (.val (.bool (e_17 == (0 : Int)))))], [(0, .row (.pair (.int .i64) (.slice (.pair (.int .i64) (.pair (.int .i64) .str)))) l_1), (1, .box [.val (.int .i64 (0 : Int)), .val (.slice none 0 0)]), (3, .box [.val (.int .i64 x_32), .imm (.slice (.pair (.int .i64) (.pair (.int .i64) .str))) x_33])], 4⟩ [(decide (i_18 < ((ln_3 : Nat) : Int))) = true] (by kernel_rfl) rfl rfl (ap1 b_36) (by kernel_rfl) (by kernel_rfl) ?_
        have H_67 := Option.some.inj (show some (e_17 == (0 : Int)) = some q_61 from H_65); subst H_67
        refine VL_nil ?_
        exact QP_end (e_17 == (0 : Int)) rfl [(1, 1), (3, 3)] hn (by kernel_rfl) (by kernel_rfl) rfl rfl rfl
      · have H_66 := of_f H_62 b_36
        refine V_reg hN hn [] [(27, false)] calls_nil 4 [0, 2, 4, 5, 6, 30] [0, 1, 3] ⟨[(0, .c (.sub 0 2 llo_2 ln_3)), (2, .c (.h 1)), (4, .c (.h 3)), (5, .c (.val (.int .i64 e_17))), (6, .c (.val (.int .i64 i_18))), (30, .c (.val (.bool false)))], [(0, .row (.pair (.int .i64) (.slice (.pair (.int .i64) (.pair (.int .i64) .str)))) l_1), (1, .box [.val (.int .i64 (0 : Int)), .val (.slice none 0 0)]), (3, .box [.val (.int .i64 x_32), .imm (.slice (.pair (.int .i64) (.pair (.int .i64) .str))) x_33])], 4⟩ [(decide (i_18 < ((ln_3 : Nat) : Int))) = false] (by kernel_rfl) rfl rfl (ap1 b_36) (by kernel_rfl) (by kernel_rfl) ?_
        have H_68 := Option.some.inj (show some false = some q_61 from H_66); subst H_68
        refine VL_nil ?_
        exact QP_end false rfl [(1, 1), (3, 3)] hn (by kernel_rfl) (by kernel_rfl) rfl rfl rfl
    · intro y_64 hy; subst hy
      skip
      skip
      refine VL_cond (y_64) (by kernel_rfl) ?_ ?_
      · intro b_40; have H_69 := of_t H_63 b_40
        refine V_run hN hn 2 4 [0, 2, 4, 5, 6, 30] [0, 1, 3] ⟨[(0, .c (.sub 0 2 llo_2 ln_3)), (2, .c (.h 1)), (4, .c (.h 3)), (5, .c (.val (.int .i64 e_17))), (6, .c (.val (.int .i64 i_18))), (30, .c (.val (.bool y_64)))], [(0, .row (.pair (.int .i64) (.slice (.pair (.int .i64) (.pair (.int .i64) .str)))) l_1), (1, .box [.val (.int .i64 (0 : Int)), .val (.slice none 0 0)]), (3, .box [.val (.int .i64 x_32), .imm (.slice (.pair (.int .i64) (.pair (.int .i64) .str))) x_33])], 4⟩ [] (by kernel_rfl) rfl rfl ap0 ?_
        refine VL_block ?_
        obtain ⟨r_42, h_43, H_71⟩ := of_bind H_69
        obtain ⟨c_44, H_72⟩ := of_if H_71
        refine V_draw hN hn (by kernel_rfl) [(5, ⟨11, 0, [.agg [.val (.int .i64 x_32), .imm (.slice (.pair (.int .i64) (.pair (.int .i64) .str))) x_33], .agg [.val (.int .i64 (List.getD l_1 (llo_2 + (Int.toNat i_18)) ((0 : Int), ([] : (List (Int × (Int × ByteArray)))))).1), .imm (.slice (.pair (.int .i64) (.pair (.int .i64) .str))) (List.getD l_1 (llo_2 + (Int.toNat i_18)) ((0 : Int), ([] : (List (Int × (Int × ByteArray)))))).2]], [], .tup [(true, [.val (.int .i64 r_42.1), .imm (.slice (.pair (.int .i64) (.pair (.int .i64) .str))) r_42.2.1]), (false, [.val (.int .i64 r_42.2.2)])], [], [], 4⟩)] [] (calls_cons (compose_Two_spec K x_32 x_33 (List.getD l_1 (llo_2 + (Int.toNat i_18)) ((0 : Int), ([] : (List (Int × (Int × ByteArray)))))).1 (List.getD l_1 (llo_2 + (Int.toNat i_18)) ((0 : Int), ([] : (List (Int × (Int × ByteArray)))))).2 r_42 h_43) (by kernel_rfl) calls_nil) 4 [0, 2, 4, 5, 6] [0, 1, 3] ⟨[(0, .c (.sub 0 2 llo_2 ln_3)), (2, .c (.h 1)), (4, .c (.h 3)), (5, .c (.val (.int .i64 r_42.2.2))), (6, .c (.val (.int .i64 i_18)))], [(0, .row (.pair (.int .i64) (.slice (.pair (.int .i64) (.pair (.int .i64) .str)))) l_1), (1, .box [.val (.int .i64 (0 : Int)), .val (.slice none 0 0)]), (3, .box [.val (.int .i64 r_42.1), .imm (.slice (.pair (.int .i64) (.pair (.int .i64) .str))) r_42.2.1])], 4⟩ [0 ≤ i_18, i_18 < ((ln_3 : Nat) : Int)] (by kernel_rfl) rfl rfl (ap2 c_44.1 (ap1 c_44.2)) (by kernel_rfl) (by kernel_rfl) ?_
        refine VL_nil (QB_end ?_)
        refine V_run hN hn 1 4 [0, 2, 4, 5, 6] [0, 1, 3] ⟨[(0, .c (.sub 0 2 llo_2 ln_3)), (2, .c (.h 1)), (4, .c (.h 3)), (5, .c (.val (.int .i64 r_42.2.2))), (6, .c (.val (.int .i64 (IntKind.wrap .i64 (i_18 + (1 : Int))))))], [(0, .row (.pair (.int .i64) (.slice (.pair (.int .i64) (.pair (.int .i64) .str)))) l_1), (1, .box [.val (.int .i64 (0 : Int)), .val (.slice none 0 0)]), (3, .box [.val (.int .i64 r_42.1), .imm (.slice (.pair (.int .i64) (.pair (.int .i64) .str))) r_42.2.1])], 4⟩ [] (by kernel_rfl) rfl rfl ap0 ?_
        refine VL_nil ?_
        exact V_roundEnd (r_42.1, r_42.2.1, r_42.2.2, (IntKind.wrap .i64 (i_18 + (1 : Int)))) H_72 [(1, 1), (3, 3)] hn (by kernel_rfl) (by kernel_rfl) rfl rfl rfl
      · intro b_40; have H_70 := of_f H_63 b_40
        refine VL_exit ?_
        refine QL_exit ?_
        refine QB_here ?_
        refine V_run hN hn 2 4 [2, 3] [0, 1] ⟨[(2, .c (.h 1)), (3, .c (.val (.int .i64 e_17)))], [(0, .row (.pair (.int .i64) (.slice (.pair (.int .i64) (.pair (.int .i64) .str)))) l_1), (1, .box [.val (.int .i64 x_32), .imm (.slice (.pair (.int .i64) (.pair (.int .i64) .str))) x_33])], 4⟩ [] (by kernel_rfl) rfl rfl ap0 ?_
        have H_73 := Option.some.inj (show some (x_32, x_33, e_17) = some r from H_70); subst H_73
        refine VL_ret ?_
        exact P_to [(2, .c (.h 1)), (3, .c (.val (.int .i64 e_17)))] [(0, .row (.pair (.int .i64) (.slice (.pair (.int .i64) (.pair (.int .i64) .str)))) l_1), (1, .box [.val (.int .i64 x_32), .imm (.slice (.pair (.int .i64) (.pair (.int .i64) .str))) x_33])] [(1, 1)] hn (by kernel_rfl) (by kernel_rfl) rfl rfl rfl (QF_retS (by kernel_rfl) (by kernel_rfl) rfl)

theorem palinodelaw13_ComposeThree_spec (K : Nat) (s_1 : ByteArray) (at_2 : Int) (at_3 : Int) (at_4 : Int) (texts_5 : ByteArray) (texts_6 : ByteArray) (texts_7 : ByteArray) (cut_8 : Int) (cut_9 : Int) (cut_10 : Int) (r : Bool) (H : palinodelaw13_ComposeThree K s_1 at_2 at_3 at_4 texts_5 texts_6 texts_7 cut_8 cut_9 cut_10 = some r) : Spec Try.prog 7 0 [.c (.val (.string s_1)), .agg [.val (.int .u8 at_2), .val (.int .u8 at_3), .val (.int .u8 at_4)], .agg [.val (.string texts_5), .val (.string texts_6), .val (.string texts_7)], .agg [.val (.int .u8 cut_8), .val (.int .u8 cut_9), .val (.int .u8 cut_10)]] [] (.c (.val (.bool r))) [] := by
  refine Spec_mk (fn := Try.f7) (c := (Try.f7.body).get!) Try.func7 (by kernel_rfl) rfl ?_
  intro C hN hn
  replace hN : C.N = 154 := hN
  unfold palinodelaw13_ComposeThree at H
  refine V_run hN hn 4 0 [0, 5, 6, 7] [0, 1, 2] ⟨[(0, .c (.val (.string s_1))), (5, .c (.h 0)), (6, .c (.h 1)), (7, .c (.h 2))], [(0, .box [.val (.int .u8 at_2), .val (.int .u8 at_3), .val (.int .u8 at_4)]), (1, .box [.val (.string texts_5), .val (.string texts_6), .val (.string texts_7)]), (2, .box [.val (.int .u8 cut_8), .val (.int .u8 cut_9), .val (.int .u8 cut_10)])], 3⟩ [] (by kernel_rfl) rfl rfl ap0 ?_
  obtain ⟨r_12, h_13, H_125⟩ := of_bind H
  refine V_reg hN hn [(0, ⟨9, 0, [], [], .c (.val (.bool r_12)), [], [], 3⟩)] [] (calls_cons (palinodelaw13_known_spec K  r_12 h_13) (by kernel_rfl) calls_nil) 3 [0, 5, 6, 7, 27] [0, 1, 2] ⟨[(0, .c (.val (.string s_1))), (5, .c (.h 0)), (6, .c (.h 1)), (7, .c (.h 2)), (27, .c (.val (.bool (!r_12))))], [(0, .box [.val (.int .u8 at_2), .val (.int .u8 at_3), .val (.int .u8 at_4)]), (1, .box [.val (.string texts_5), .val (.string texts_6), .val (.string texts_7)]), (2, .box [.val (.int .u8 cut_8), .val (.int .u8 cut_9), .val (.int .u8 cut_10)])], 3⟩ [] (by kernel_rfl) rfl rfl ap0 (by kernel_rfl) (by kernel_rfl) ?_
  refine VL_cond ((!r_12)) (by kernel_rfl) ?_ ?_
  · intro b_15; have H_126 := of_t H_125 b_15
    refine V_run hN hn 2 3 [8] [] ⟨[(8, .c (.val (.bool false)))], [], 3⟩ [] (by kernel_rfl) rfl rfl ap0 ?_
    have H_128 := Option.some.inj (show some false = some r from H_126); subst H_128
    refine VL_ret ?_
    exact P_to [(8, .c (.val (.bool false)))] [] [] hn (by kernel_rfl) (by kernel_rfl) rfl rfl rfl (QF_retS (by kernel_rfl) (by kernel_rfl) rfl)
  · intro b_15; have H_127 := of_f H_125 b_15
    refine V_run hN hn 4 3 [0, 5, 6, 7, 30] [0, 1, 2] ⟨[(0, .c (.val (.string s_1))), (5, .c (.h 0)), (6, .c (.h 1)), (7, .c (.h 2)), (30, .c (.val (.bool (decide ((((ByteArray.size s_1) : Nat) : Int) > (60 : Int))))))], [(0, .box [.val (.int .u8 at_2), .val (.int .u8 at_3), .val (.int .u8 at_4)]), (1, .box [.val (.string texts_5), .val (.string texts_6), .val (.string texts_7)]), (2, .box [.val (.int .u8 cut_8), .val (.int .u8 cut_9), .val (.int .u8 cut_10)])], 3⟩ [] (by kernel_rfl) rfl rfl ap0 ?_
    refine VL_cond ((decide ((((ByteArray.size s_1) : Nat) : Int) > (60 : Int)))) (by kernel_rfl) ?_ ?_
    · intro b_18; have H_129 := of_t H_127 b_18
      refine V_run hN hn 2 3 [8] [] ⟨[(8, .c (.val (.bool true)))], [], 3⟩ [] (by kernel_rfl) rfl rfl ap0 ?_
      have H_131 := Option.some.inj (show some true = some r from H_129); subst H_131
      refine VL_ret ?_
      exact P_to [(8, .c (.val (.bool true)))] [] [] hn (by kernel_rfl) (by kernel_rfl) rfl rfl rfl (QF_retS (by kernel_rfl) (by kernel_rfl) rfl)
    · intro b_18; have H_130 := of_f H_127 b_18
      refine V_run hN hn 8 3 [5, 6, 7, 9, 10, 11] [0, 1, 2, 3] ⟨[(5, .c (.h 0)), (6, .c (.h 1)), (7, .c (.h 2)), (9, .c (.h 3)), (10, .c (.val (.int .i64 (((ByteArray.size s_1) : Nat) : Int)))), (11, .c (.val (.int .i64 (0 : Int))))], [(0, .box [.val (.int .u8 at_2), .val (.int .u8 at_3), .val (.int .u8 at_4)]), (1, .box [.val (.string texts_5), .val (.string texts_6), .val (.string texts_7)]), (2, .box [.val (.int .u8 cut_8), .val (.int .u8 cut_9), .val (.int .u8 cut_10)]), (3, .box [.val (.int .i64 (0 : Int)), .val (.slice none 0 0), .val (.int .i64 (0 : Int)), .val (.slice none 0 0), .val (.int .i64 (0 : Int)), .val (.slice none 0 0)])], 4⟩ [] (by kernel_rfl) rfl rfl ap0 ?_
      obtain ⟨q_132, H_133, H_134⟩ := of_bind H_130
      refine V_cut (Y := (List (Int × (List (Int × (Int × ByteArray)))))) (R := (Bool ⊕ (List (Int × (List (Int × (Int × ByteArray))))))) q_132 (fun y => (Sum.inr y)) (fun y => [(6, .c (.elt 11 1 0 0)), (9, .c (.elt 12 2 0 0))]) (fun y => [(11, .row .str ([texts_5, texts_6, texts_7] : List ByteArray)), (12, .row (.pair (.int .i64) (.slice (.pair (.int .i64) (.pair (.int .i64) .str)))) y)]) ?_ ?_
      · skip
        refine VL_block ?_
        refine V_ghost [.arr 0 (.int .u8) 3, .arr 1 .str 3, .arr 2 (.int .u8) 3, .arr 3 (.pair (.int .i64) (.slice (.pair (.int .i64) (.pair (.int .i64) .str)))) 3] 4 hn [5, 6, 7, 9, 10, 11] [4, 5, 6, 7] ⟨[(5, .c (.elt 4 1 0 0)), (6, .c (.elt 5 1 0 0)), (7, .c (.elt 6 1 0 0)), (9, .c (.elt 7 2 0 0)), (10, .c (.val (.int .i64 (((ByteArray.size s_1) : Nat) : Int)))), (11, .c (.val (.int .i64 (0 : Int))))], [(4, .row (.int .u8) ([at_2, at_3, at_4] : List Int)), (5, .row .str ([texts_5, texts_6, texts_7] : List ByteArray)), (6, .row (.int .u8) ([cut_8, cut_9, cut_10] : List Int)), (7, .row (.pair (.int .i64) (.slice (.pair (.int .i64) (.pair (.int .i64) .str)))) ([((0 : Int), ([] : List (Int × (Int × ByteArray)))), ((0 : Int), ([] : List (Int × (Int × ByteArray)))), ((0 : Int), ([] : List (Int × (Int × ByteArray))))] : List (Int × (List (Int × (Int × ByteArray))))))], 8⟩ (by kernel_rfl) rfl rfl ?_
        refine V_to [(5, .c (.elt 10 1 0 0)), (6, .c (.elt 11 1 0 0)), (7, .c (.elt 6 1 0 0)), (9, .c (.elt 12 2 0 0)), (10, .c (.val (.int .i64 (((ByteArray.size s_1) : Nat) : Int)))), (11, .c (.val (.int .i64 (0 : Int))))] [(6, .row (.int .u8) ([cut_8, cut_9, cut_10] : List Int)), (10, .row (.int .u8) ([at_2, at_3, at_4] : List Int)), (11, .row .str ([texts_5, texts_6, texts_7] : List ByteArray)), (12, .row (.pair (.int .i64) (.slice (.pair (.int .i64) (.pair (.int .i64) .str)))) ([((0 : Int), ([] : List (Int × (Int × ByteArray)))), ((0 : Int), ([] : List (Int × (Int × ByteArray)))), ((0 : Int), ([] : List (Int × (Int × ByteArray))))] : List (Int × (List (Int × (Int × ByteArray))))))] [(6, 6), (10, 4), (11, 5), (12, 7)] hn (by kernel_rfl) (by kernel_rfl) rfl rfl rfl ?_
        refine VL_loop (X := ((List (Int × (List (Int × (Int × ByteArray))))) × Int × Int)) (fun x => [(5, .c (.elt 10 1 0 0)), (6, .c (.elt 11 1 0 0)), (7, .c (.elt 6 1 0 0)), (9, .c (.elt 12 2 0 0)), (10, .c (.val (.int .i64 x.2.1))), (11, .c (.val (.int .i64 x.2.2)))]) (fun x => [(6, .row (.int .u8) ([cut_8, cut_9, cut_10] : List Int)), (10, .row (.int .u8) ([at_2, at_3, at_4] : List Int)), (11, .row .str ([texts_5, texts_6, texts_7] : List ByteArray)), (12, .row (.pair (.int .i64) (.slice (.pair (.int .i64) (.pair (.int .i64) .str)))) x.1)]) (fun k x => palinodelaw13_ComposeThree.l0 K texts_5 texts_6 texts_7 at_2 at_3 at_4 cut_8 cut_9 cut_10 k x.1 x.2.1 x.2.2 = some q_132) K (([((0 : Int), ([] : List (Int × (Int × ByteArray)))), ((0 : Int), ([] : List (Int × (Int × ByteArray)))), ((0 : Int), ([] : List (Int × (Int × ByteArray))))] : List (Int × (List (Int × (Int × ByteArray))))), (((ByteArray.size s_1) : Nat) : Int), (0 : Int)) H_133 (fun _ h => no_none h) ?_
        intro k_52 x_52 H_136
        obtain ⟨d_51, n_21, i_22⟩ := x_52
        have H_137 : palinodelaw13_ComposeThree.l0 K texts_5 texts_6 texts_7 at_2 at_3 at_4 cut_8 cut_9 cut_10 (k_52 + 1) d_51 n_21 i_22 = some q_132 := H_136
        rw [palinodelaw13_ComposeThree.l0] at H_137
        refine V_run hN hn 3 13 [5, 6, 7, 9, 10, 11, 34] [6, 10, 11, 12] ⟨[(5, .c (.elt 10 1 0 0)), (6, .c (.elt 11 1 0 0)), (7, .c (.elt 6 1 0 0)), (9, .c (.elt 12 2 0 0)), (10, .c (.val (.int .i64 n_21))), (11, .c (.val (.int .i64 i_22))), (34, .c (.val (.bool (decide (i_22 < (3 : Int))))))], [(6, .row (.int .u8) ([cut_8, cut_9, cut_10] : List Int)), (10, .row (.int .u8) ([at_2, at_3, at_4] : List Int)), (11, .row .str ([texts_5, texts_6, texts_7] : List ByteArray)), (12, .row (.pair (.int .i64) (.slice (.pair (.int .i64) (.pair (.int .i64) .str)))) d_51)], 13⟩ [] (by kernel_rfl) rfl rfl ap0 ?_
        refine VL_cond ((decide (i_22 < (3 : Int)))) (by kernel_rfl) ?_ ?_
        · intro b_54; have H_138 := of_t H_137 b_54
          refine V_run hN hn 2 13 [5, 6, 7, 9, 10, 11, 34] [6, 10, 11, 12] ⟨[(5, .c (.elt 10 1 0 0)), (6, .c (.elt 11 1 0 0)), (7, .c (.elt 6 1 0 0)), (9, .c (.elt 12 2 0 0)), (10, .c (.val (.int .i64 n_21))), (11, .c (.val (.int .i64 i_22))), (34, .c (.val (.bool (decide (i_22 < (3 : Int))))))], [(6, .row (.int .u8) ([cut_8, cut_9, cut_10] : List Int)), (10, .row (.int .u8) ([at_2, at_3, at_4] : List Int)), (11, .row .str ([texts_5, texts_6, texts_7] : List ByteArray)), (12, .row (.pair (.int .i64) (.slice (.pair (.int .i64) (.pair (.int .i64) .str)))) d_51)], 13⟩ [] (by kernel_rfl) rfl rfl ap0 ?_
          refine VL_block ?_
          refine V_run hN hn 2 13 [5, 6, 7, 9, 10, 11, 34] [6, 10, 11, 12] ⟨[(5, .c (.elt 10 1 0 0)), (6, .c (.elt 11 1 0 0)), (7, .c (.elt 6 1 0 0)), (9, .c (.elt 12 2 0 0)), (10, .c (.val (.int .i64 n_21))), (11, .c (.val (.int .i64 i_22))), (34, .c (.val (.bool (decide (i_22 < (3 : Int))))))], [(6, .row (.int .u8) ([cut_8, cut_9, cut_10] : List Int)), (10, .row (.int .u8) ([at_2, at_3, at_4] : List Int)), (11, .row .str ([texts_5, texts_6, texts_7] : List ByteArray)), (12, .row (.pair (.int .i64) (.slice (.pair (.int .i64) (.pair (.int .i64) .str)))) d_51)], 13⟩ [] (by kernel_rfl) rfl rfl ap0 ?_
          obtain ⟨q_140, H_141, H_142⟩ := of_bind H_138
          refine V_cut (Y := Bool) (R := Bool) q_140 (fun y => y) (fun y => [(5, .c (.elt 10 1 0 0)), (6, .c (.elt 11 1 0 0)), (7, .c (.elt 6 1 0 0)), (9, .c (.elt 12 2 0 0)), (10, .c (.val (.int .i64 n_21))), (11, .c (.val (.int .i64 i_22))), (48, .c (.val (.bool y)))]) (fun y => [(6, .row (.int .u8) ([cut_8, cut_9, cut_10] : List Int)), (10, .row (.int .u8) ([at_2, at_3, at_4] : List Int)), (11, .row .str ([texts_5, texts_6, texts_7] : List ByteArray)), (12, .row (.pair (.int .i64) (.slice (.pair (.int .i64) (.pair (.int .i64) .str)))) d_51)]) ?_ ?_
          · skip
            rcases Bool.eq_false_or_eq_true ((decide ((((ByteArray.size (List.getD ([texts_5, texts_6, texts_7] : List ByteArray) (Int.toNat i_22) ByteArray.empty)) : Nat) : Int) > (10 : Int)))) with b_57 | b_57
            · have H_144 := of_t H_141 b_57
              obtain ⟨c_58, H_146⟩ := of_if H_144
              refine V_reg hN hn [] [(42, true)] calls_nil 13 [5, 6, 7, 9, 10, 11, 48] [6, 10, 11, 12] ⟨[(5, .c (.elt 10 1 0 0)), (6, .c (.elt 11 1 0 0)), (7, .c (.elt 6 1 0 0)), (9, .c (.elt 12 2 0 0)), (10, .c (.val (.int .i64 n_21))), (11, .c (.val (.int .i64 i_22))), (48, .c (.val (.bool true)))], [(6, .row (.int .u8) ([cut_8, cut_9, cut_10] : List Int)), (10, .row (.int .u8) ([at_2, at_3, at_4] : List Int)), (11, .row .str ([texts_5, texts_6, texts_7] : List ByteArray)), (12, .row (.pair (.int .i64) (.slice (.pair (.int .i64) (.pair (.int .i64) .str)))) d_51)], 13⟩ [0 ≤ i_22, i_22 < ((3 : Nat) : Int), i_22 < (((List.length ([texts_5, texts_6, texts_7] : List ByteArray)) : Nat) : Int), (decide ((((ByteArray.size (List.getD ([texts_5, texts_6, texts_7] : List ByteArray) (Int.toNat i_22) ByteArray.empty)) : Nat) : Int) > (10 : Int))) = true] (by kernel_rfl) rfl rfl (ap2 c_58.1 (ap2 c_58.2.1 (ap2 c_58.2.2 (ap1 b_57)))) (by kernel_rfl) (by kernel_rfl) ?_
              have H_147 := Option.some.inj (show some true = some q_140 from H_146); subst H_147
              refine VL_nil ?_
              exact QP_end true rfl [(6, 6), (10, 10), (11, 11), (12, 12)] hn (by kernel_rfl) (by kernel_rfl) rfl rfl rfl
            · have H_145 := of_f H_141 b_57
              obtain ⟨r_59, h_60, H_148⟩ := of_bind H_145
              obtain ⟨c_61, H_149⟩ := of_if H_148
              refine V_reg hN hn [(9, ⟨27, 0, [.c (.val (.string (List.getD ([texts_5, texts_6, texts_7] : List ByteArray) (Int.toNat i_22) ByteArray.empty)))], [], .c (.val (.bool r_59)), [], [], 13⟩)] [(42, false)] (calls_cons (palinodelaw13_ascii_spec K (List.getD ([texts_5, texts_6, texts_7] : List ByteArray) (Int.toNat i_22) ByteArray.empty) r_59 h_60) (by kernel_rfl) calls_nil) 13 [5, 6, 7, 9, 10, 11, 48] [6, 10, 11, 12] ⟨[(5, .c (.elt 10 1 0 0)), (6, .c (.elt 11 1 0 0)), (7, .c (.elt 6 1 0 0)), (9, .c (.elt 12 2 0 0)), (10, .c (.val (.int .i64 n_21))), (11, .c (.val (.int .i64 i_22))), (48, .c (.val (.bool (!r_59))))], [(6, .row (.int .u8) ([cut_8, cut_9, cut_10] : List Int)), (10, .row (.int .u8) ([at_2, at_3, at_4] : List Int)), (11, .row .str ([texts_5, texts_6, texts_7] : List ByteArray)), (12, .row (.pair (.int .i64) (.slice (.pair (.int .i64) (.pair (.int .i64) .str)))) d_51)], 13⟩ [0 ≤ i_22, i_22 < ((3 : Nat) : Int), i_22 < (((List.length ([texts_5, texts_6, texts_7] : List ByteArray)) : Nat) : Int), (decide ((((ByteArray.size (List.getD ([texts_5, texts_6, texts_7] : List ByteArray) (Int.toNat i_22) ByteArray.empty)) : Nat) : Int) > (10 : Int))) = false, 0 ≤ i_22, i_22 < ((3 : Nat) : Int), i_22 < (((List.length ([texts_5, texts_6, texts_7] : List ByteArray)) : Nat) : Int)] (by kernel_rfl) rfl rfl (ap2 c_61.1 (ap2 c_61.2.1 (ap2 c_61.2.2 (ap2 b_57 (ap2 c_61.1 (ap2 c_61.2.1 (ap1 c_61.2.2))))))) (by kernel_rfl) (by kernel_rfl) ?_
              have H_150 := Option.some.inj (show some (!r_59) = some q_140 from H_149); subst H_150
              refine VL_nil ?_
              exact QP_end (!r_59) rfl [(6, 6), (10, 10), (11, 11), (12, 12)] hn (by kernel_rfl) (by kernel_rfl) rfl rfl rfl
          · intro y_143 hy; subst hy
            skip
            skip
            refine VL_cond (y_143) (by kernel_rfl) ?_ ?_
            · intro b_63; have H_151 := of_t H_142 b_63
              refine V_run hN hn 2 13 [8] [] ⟨[(8, .c (.val (.bool true)))], [], 13⟩ [] (by kernel_rfl) rfl rfl ap0 ?_
              have H_153 := Option.some.inj (show some (Sum.inl true) = some q_132 from H_151); subst H_153
              have H_154 := Option.some.inj (show some true = some r from H_134); subst H_154
              refine VL_ret ?_
              refine QB_ret ?_
              refine QL_ret ?_
              refine QB_ret ?_
              refine QP_ret ?_
              exact P_to [(8, .c (.val (.bool true)))] [] [] hn (by kernel_rfl) (by kernel_rfl) rfl rfl rfl (QF_retS (by kernel_rfl) (by kernel_rfl) rfl)
            · intro b_63; have H_152 := of_f H_142 b_63
              obtain ⟨c_65, H_155⟩ := of_if H_152
              refine V_run hN hn 6 13 [5, 6, 7, 9, 10, 11, 12, 13] [6, 10, 11, 12] ⟨[(5, .c (.elt 10 1 0 0)), (6, .c (.elt 11 1 0 0)), (7, .c (.elt 6 1 0 0)), (9, .c (.elt 12 2 0 0)), (10, .c (.val (.int .i64 n_21))), (11, .c (.val (.int .i64 i_22))), (12, .c (.val (.int .i64 (Int.tmod (IntKind.wrap .i64 (List.getD ([at_2, at_3, at_4] : List Int) (Int.toNat i_22) (0 : Int))) (IntKind.wrap .i64 (n_21 + (1 : Int))))))), (13, .c (.val (.int .i64 (IntKind.wrap .i64 ((Int.tmod (IntKind.wrap .i64 (List.getD ([at_2, at_3, at_4] : List Int) (Int.toNat i_22) (0 : Int))) (IntKind.wrap .i64 (n_21 + (1 : Int)))) + (Int.tmod (IntKind.wrap .i64 (List.getD ([cut_8, cut_9, cut_10] : List Int) (Int.toNat i_22) (0 : Int))) (IntKind.wrap .i64 ((IntKind.wrap .i64 (n_21 - (Int.tmod (IntKind.wrap .i64 (List.getD ([at_2, at_3, at_4] : List Int) (Int.toNat i_22) (0 : Int))) (IntKind.wrap .i64 (n_21 + (1 : Int)))))) + (1 : Int)))))))))], [(6, .row (.int .u8) ([cut_8, cut_9, cut_10] : List Int)), (10, .row (.int .u8) ([at_2, at_3, at_4] : List Int)), (11, .row .str ([texts_5, texts_6, texts_7] : List ByteArray)), (12, .row (.pair (.int .i64) (.slice (.pair (.int .i64) (.pair (.int .i64) .str)))) d_51)], 13⟩ [0 ≤ i_22, i_22 < ((3 : Nat) : Int), i_22 < (((List.length ([at_2, at_3, at_4] : List Int)) : Nat) : Int), (IntKind.wrap .i64 (n_21 + (1 : Int))) ≠ 0, 0 ≤ i_22, i_22 < ((3 : Nat) : Int), i_22 < (((List.length ([cut_8, cut_9, cut_10] : List Int)) : Nat) : Int), (IntKind.wrap .i64 ((IntKind.wrap .i64 (n_21 - (Int.tmod (IntKind.wrap .i64 (List.getD ([at_2, at_3, at_4] : List Int) (Int.toNat i_22) (0 : Int))) (IntKind.wrap .i64 (n_21 + (1 : Int)))))) + (1 : Int))) ≠ 0] (by kernel_rfl) rfl rfl (ap2 c_65.1 (ap2 c_65.2.1 (ap2 c_65.2.2.1 (ap2 c_65.2.2.2.1 (ap2 c_65.1 (ap2 c_65.2.1 (ap2 c_65.2.2.2.2.1 (ap1 c_65.2.2.2.2.2)))))))) ?_
              obtain ⟨r_66, h_67, H_156⟩ := of_bind H_155
              obtain ⟨c_68, H_157⟩ := of_if H_156
              refine V_reg hN hn [(8, ⟨21, 1, [.c (.val (.int .i64 n_21)), .c (.h 0)], [(0, .row (.pair (.int .i64) (.pair (.int .i64) .str)) ([((Int.tmod (IntKind.wrap .i64 (List.getD ([at_2, at_3, at_4] : List Int) (Int.toNat i_22) (0 : Int))) (IntKind.wrap .i64 (n_21 + (1 : Int)))), ((IntKind.wrap .i64 ((Int.tmod (IntKind.wrap .i64 (List.getD ([at_2, at_3, at_4] : List Int) (Int.toNat i_22) (0 : Int))) (IntKind.wrap .i64 (n_21 + (1 : Int)))) + (Int.tmod (IntKind.wrap .i64 (List.getD ([cut_8, cut_9, cut_10] : List Int) (Int.toNat i_22) (0 : Int))) (IntKind.wrap .i64 ((IntKind.wrap .i64 (n_21 - (Int.tmod (IntKind.wrap .i64 (List.getD ([at_2, at_3, at_4] : List Int) (Int.toNat i_22) (0 : Int))) (IntKind.wrap .i64 (n_21 + (1 : Int)))))) + (1 : Int)))))), (List.getD ([texts_5, texts_6, texts_7] : List ByteArray) (Int.toNat i_22) ByteArray.empty)))] : List (Int × (Int × ByteArray))))], .tup [(true, [.val (.int .i64 r_66.1), .imm (.slice (.pair (.int .i64) (.pair (.int .i64) .str))) r_66.2.1]), (false, [.val (.int .i64 r_66.2.2)])], [(0, .row (.pair (.int .i64) (.pair (.int .i64) .str)) ([((Int.tmod (IntKind.wrap .i64 (List.getD ([at_2, at_3, at_4] : List Int) (Int.toNat i_22) (0 : Int))) (IntKind.wrap .i64 (n_21 + (1 : Int)))), ((IntKind.wrap .i64 ((Int.tmod (IntKind.wrap .i64 (List.getD ([at_2, at_3, at_4] : List Int) (Int.toNat i_22) (0 : Int))) (IntKind.wrap .i64 (n_21 + (1 : Int)))) + (Int.tmod (IntKind.wrap .i64 (List.getD ([cut_8, cut_9, cut_10] : List Int) (Int.toNat i_22) (0 : Int))) (IntKind.wrap .i64 ((IntKind.wrap .i64 (n_21 - (Int.tmod (IntKind.wrap .i64 (List.getD ([at_2, at_3, at_4] : List Int) (Int.toNat i_22) (0 : Int))) (IntKind.wrap .i64 (n_21 + (1 : Int)))))) + (1 : Int)))))), (List.getD ([texts_5, texts_6, texts_7] : List ByteArray) (Int.toNat i_22) ByteArray.empty)))] : List (Int × (Int × ByteArray))))], [(0, 13)], 14⟩)] [] (calls_cons (delta_Build_gr_spec K n_21 ([((Int.tmod (IntKind.wrap .i64 (List.getD ([at_2, at_3, at_4] : List Int) (Int.toNat i_22) (0 : Int))) (IntKind.wrap .i64 (n_21 + (1 : Int)))), ((IntKind.wrap .i64 ((Int.tmod (IntKind.wrap .i64 (List.getD ([at_2, at_3, at_4] : List Int) (Int.toNat i_22) (0 : Int))) (IntKind.wrap .i64 (n_21 + (1 : Int)))) + (Int.tmod (IntKind.wrap .i64 (List.getD ([cut_8, cut_9, cut_10] : List Int) (Int.toNat i_22) (0 : Int))) (IntKind.wrap .i64 ((IntKind.wrap .i64 (n_21 - (Int.tmod (IntKind.wrap .i64 (List.getD ([at_2, at_3, at_4] : List Int) (Int.toNat i_22) (0 : Int))) (IntKind.wrap .i64 (n_21 + (1 : Int)))))) + (1 : Int)))))), (List.getD ([texts_5, texts_6, texts_7] : List ByteArray) (Int.toNat i_22) ByteArray.empty)))] : List (Int × (Int × ByteArray))) r_66 h_67) (by kernel_rfl) calls_nil) 13 [5, 6, 7, 9, 11, 14, 15] [6, 10, 11, 12, 14] ⟨[(5, .c (.elt 10 1 0 0)), (6, .c (.elt 11 1 0 0)), (7, .c (.elt 6 1 0 0)), (9, .c (.elt 12 2 0 0)), (11, .c (.val (.int .i64 i_22))), (14, .c (.h 14)), (15, .c (.val (.int .i64 r_66.2.2)))], [(6, .row (.int .u8) ([cut_8, cut_9, cut_10] : List Int)), (10, .row (.int .u8) ([at_2, at_3, at_4] : List Int)), (11, .row .str ([texts_5, texts_6, texts_7] : List ByteArray)), (12, .row (.pair (.int .i64) (.slice (.pair (.int .i64) (.pair (.int .i64) .str)))) d_51), (14, .box [.val (.int .i64 r_66.1), .imm (.slice (.pair (.int .i64) (.pair (.int .i64) .str))) r_66.2.1])], 15⟩ [0 ≤ i_22, i_22 < ((3 : Nat) : Int), i_22 < (((List.length ([texts_5, texts_6, texts_7] : List ByteArray)) : Nat) : Int)] (by kernel_rfl) rfl rfl (ap2 c_65.1 (ap2 c_65.2.1 (ap1 c_68))) (by kernel_rfl) (by kernel_rfl) ?_
              refine V_run hN hn 3 15 [5, 6, 7, 9, 11, 14, 80] [6, 10, 11, 12, 14] ⟨[(5, .c (.elt 10 1 0 0)), (6, .c (.elt 11 1 0 0)), (7, .c (.elt 6 1 0 0)), (9, .c (.elt 12 2 0 0)), (11, .c (.val (.int .i64 i_22))), (14, .c (.h 14)), (80, .c (.val (.bool (r_66.2.2 != (0 : Int)))))], [(6, .row (.int .u8) ([cut_8, cut_9, cut_10] : List Int)), (10, .row (.int .u8) ([at_2, at_3, at_4] : List Int)), (11, .row .str ([texts_5, texts_6, texts_7] : List ByteArray)), (12, .row (.pair (.int .i64) (.slice (.pair (.int .i64) (.pair (.int .i64) .str)))) d_51), (14, .box [.val (.int .i64 r_66.1), .imm (.slice (.pair (.int .i64) (.pair (.int .i64) .str))) r_66.2.1])], 15⟩ [] (by kernel_rfl) rfl rfl ap0 ?_
              refine VL_cond ((r_66.2.2 != (0 : Int))) (by kernel_rfl) ?_ ?_
              · intro b_70; have H_158 := of_t H_157 b_70
                refine V_run hN hn 2 15 [8] [] ⟨[(8, .c (.val (.bool false)))], [], 15⟩ [] (by kernel_rfl) rfl rfl ap0 ?_
                have H_160 := Option.some.inj (show some (Sum.inl false) = some q_132 from H_158); subst H_160
                have H_161 := Option.some.inj (show some false = some r from H_134); subst H_161
                refine VL_ret ?_
                refine QB_ret ?_
                refine QL_ret ?_
                refine QB_ret ?_
                refine QP_ret ?_
                exact P_to [(8, .c (.val (.bool false)))] [] [] hn (by kernel_rfl) (by kernel_rfl) rfl rfl rfl (QF_retS (by kernel_rfl) (by kernel_rfl) rfl)
              · intro b_70; have H_159 := of_f H_157 b_70
                obtain ⟨c_72, H_162⟩ := of_if H_159
                refine V_run hN hn 3 15 [5, 6, 7, 9, 11, 14] [6, 10, 11, 12, 14] ⟨[(5, .c (.elt 10 1 0 0)), (6, .c (.elt 11 1 0 0)), (7, .c (.elt 6 1 0 0)), (9, .c (.elt 12 2 0 0)), (11, .c (.val (.int .i64 i_22))), (14, .c (.h 14))], [(6, .row (.int .u8) ([cut_8, cut_9, cut_10] : List Int)), (10, .row (.int .u8) ([at_2, at_3, at_4] : List Int)), (11, .row .str ([texts_5, texts_6, texts_7] : List ByteArray)), (12, .row (.pair (.int .i64) (.slice (.pair (.int .i64) (.pair (.int .i64) .str)))) (List.set d_51 (Int.toNat i_22) (r_66.1, r_66.2.1))), (14, .box [.val (.int .i64 r_66.1), .imm (.slice (.pair (.int .i64) (.pair (.int .i64) .str))) r_66.2.1])], 15⟩ [0 ≤ i_22, i_22 < ((3 : Nat) : Int), i_22 < (((List.length d_51) : Nat) : Int)] (by kernel_rfl) rfl rfl (ap2 c_65.1 (ap2 c_65.2.1 (ap1 c_72))) ?_
                obtain ⟨r_73, h_74, H_163⟩ := of_bind H_162
                refine V_reg hN hn [(1, ⟨26, 0, [.agg [.val (.int .i64 r_66.1), .imm (.slice (.pair (.int .i64) (.pair (.int .i64) .str))) r_66.2.1]], [], .c (.val (.int .i64 r_73)), [], [], 15⟩)] [] (calls_cons (delta_Size_spec K r_66.1 r_66.2.1 r_73 h_74) (by kernel_rfl) calls_nil) 15 [5, 6, 7, 9, 10, 11] [6, 10, 11, 12] ⟨[(5, .c (.elt 10 1 0 0)), (6, .c (.elt 11 1 0 0)), (7, .c (.elt 6 1 0 0)), (9, .c (.elt 12 2 0 0)), (10, .c (.val (.int .i64 r_73))), (11, .c (.val (.int .i64 i_22)))], [(6, .row (.int .u8) ([cut_8, cut_9, cut_10] : List Int)), (10, .row (.int .u8) ([at_2, at_3, at_4] : List Int)), (11, .row .str ([texts_5, texts_6, texts_7] : List ByteArray)), (12, .row (.pair (.int .i64) (.slice (.pair (.int .i64) (.pair (.int .i64) .str)))) (List.set d_51 (Int.toNat i_22) (r_66.1, r_66.2.1)))], 15⟩ [] (by kernel_rfl) rfl rfl ap0 (by kernel_rfl) (by kernel_rfl) ?_
                refine VL_nil (QB_end ?_)
                refine V_run hN hn 1 15 [5, 6, 7, 9, 10, 11] [6, 10, 11, 12] ⟨[(5, .c (.elt 10 1 0 0)), (6, .c (.elt 11 1 0 0)), (7, .c (.elt 6 1 0 0)), (9, .c (.elt 12 2 0 0)), (10, .c (.val (.int .i64 r_73))), (11, .c (.val (.int .i64 (IntKind.wrap .i64 (i_22 + (1 : Int))))))], [(6, .row (.int .u8) ([cut_8, cut_9, cut_10] : List Int)), (10, .row (.int .u8) ([at_2, at_3, at_4] : List Int)), (11, .row .str ([texts_5, texts_6, texts_7] : List ByteArray)), (12, .row (.pair (.int .i64) (.slice (.pair (.int .i64) (.pair (.int .i64) .str)))) (List.set d_51 (Int.toNat i_22) (r_66.1, r_66.2.1)))], 15⟩ [] (by kernel_rfl) rfl rfl ap0 ?_
                refine VL_nil ?_
                exact V_roundEnd ((List.set d_51 (Int.toNat i_22) (r_66.1, r_66.2.1)), r_73, (IntKind.wrap .i64 (i_22 + (1 : Int)))) H_163 [(6, 6), (10, 10), (11, 11), (12, 12)] hn (by kernel_rfl) (by kernel_rfl) rfl rfl rfl
        · intro b_54; have H_139 := of_f H_137 b_54
          refine VL_exit ?_
          refine QL_exit ?_
          refine QB_here ?_
          have H_164 := Option.some.inj (show some (Sum.inr d_51) = some q_132 from H_139); subst H_164
          refine VL_nil ?_
          exact QP_end d_51 rfl [(11, 11), (12, 12)] hn (by kernel_rfl) (by kernel_rfl) rfl rfl rfl
      · intro y_135 hy; subst hy
        skip
        skip
        refine V_run hN hn 1 13 [6, 9] [11, 12] ⟨[(6, .c (.elt 11 1 0 0)), (9, .c (.elt 12 2 0 0))], [(11, .row .str ([texts_5, texts_6, texts_7] : List ByteArray)), (12, .row (.pair (.int .i64) (.slice (.pair (.int .i64) (.pair (.int .i64) .str)))) y_135)], 13⟩ [] (by kernel_rfl) rfl rfl ap0 ?_
        obtain ⟨r_79, h_80, H_165⟩ := of_bind H_134
        obtain ⟨c_81, H_166⟩ := of_if H_165
        refine V_reg hN hn [(4, ⟨11, 0, [.agg [.val (.int .i64 (List.getD y_135 0 ((0 : Int), ([] : (List (Int × (Int × ByteArray)))))).1), .imm (.slice (.pair (.int .i64) (.pair (.int .i64) .str))) (List.getD y_135 0 ((0 : Int), ([] : (List (Int × (Int × ByteArray)))))).2], .agg [.val (.int .i64 (List.getD y_135 1 ((0 : Int), ([] : (List (Int × (Int × ByteArray)))))).1), .imm (.slice (.pair (.int .i64) (.pair (.int .i64) .str))) (List.getD y_135 1 ((0 : Int), ([] : (List (Int × (Int × ByteArray)))))).2]], [], .tup [(true, [.val (.int .i64 r_79.1), .imm (.slice (.pair (.int .i64) (.pair (.int .i64) .str))) r_79.2.1]), (false, [.val (.int .i64 r_79.2.2)])], [], [], 13⟩)] [] (calls_cons (compose_Two_spec K (List.getD y_135 0 ((0 : Int), ([] : (List (Int × (Int × ByteArray)))))).1 (List.getD y_135 0 ((0 : Int), ([] : (List (Int × (Int × ByteArray)))))).2 (List.getD y_135 1 ((0 : Int), ([] : (List (Int × (Int × ByteArray)))))).1 (List.getD y_135 1 ((0 : Int), ([] : (List (Int × (Int × ByteArray)))))).2 r_79 h_80) (by kernel_rfl) calls_nil) 13 [6, 9, 16, 17] [11, 12, 13] ⟨[(6, .c (.elt 11 1 0 0)), (9, .c (.elt 12 2 0 0)), (16, .c (.h 13)), (17, .c (.val (.int .i64 r_79.2.2)))], [(11, .row .str ([texts_5, texts_6, texts_7] : List ByteArray)), (12, .row (.pair (.int .i64) (.slice (.pair (.int .i64) (.pair (.int .i64) .str)))) y_135), (13, .box [.val (.int .i64 r_79.1), .imm (.slice (.pair (.int .i64) (.pair (.int .i64) .str))) r_79.2.1])], 14⟩ [(0 : Int) ≤ (0 : Int), (0 : Int) < ((3 : Nat) : Int), (0 : Int) < (((List.length y_135) : Nat) : Int), (0 : Int) ≤ (1 : Int), (1 : Int) < ((3 : Nat) : Int), (1 : Int) < (((List.length y_135) : Nat) : Int)] (by kernel_rfl) rfl rfl (ap2 (by decide) (ap2 (by decide) (ap2 c_81.1 (ap2 (by decide) (ap2 (by decide) (ap1 c_81.2)))))) (by kernel_rfl) (by kernel_rfl) ?_
        refine V_run hN hn 1 14 [6, 9, 16, 17] [11, 12, 13] ⟨[(6, .c (.elt 11 1 0 0)), (9, .c (.elt 12 2 0 0)), (16, .c (.h 13)), (17, .c (.val (.int .i64 r_79.2.2)))], [(11, .row .str ([texts_5, texts_6, texts_7] : List ByteArray)), (12, .row (.pair (.int .i64) (.slice (.pair (.int .i64) (.pair (.int .i64) .str)))) y_135), (13, .box [.val (.int .i64 r_79.1), .imm (.slice (.pair (.int .i64) (.pair (.int .i64) .str))) r_79.2.1])], 14⟩ [] (by kernel_rfl) rfl rfl ap0 ?_
        obtain ⟨r_83, h_84, H_167⟩ := of_bind H_166
        obtain ⟨c_85, H_168⟩ := of_if H_167
        refine V_reg hN hn [(3, ⟨11, 0, [.agg [.val (.int .i64 r_79.1), .imm (.slice (.pair (.int .i64) (.pair (.int .i64) .str))) r_79.2.1], .agg [.val (.int .i64 (List.getD y_135 2 ((0 : Int), ([] : (List (Int × (Int × ByteArray)))))).1), .imm (.slice (.pair (.int .i64) (.pair (.int .i64) .str))) (List.getD y_135 2 ((0 : Int), ([] : (List (Int × (Int × ByteArray)))))).2]], [], .tup [(true, [.val (.int .i64 r_83.1), .imm (.slice (.pair (.int .i64) (.pair (.int .i64) .str))) r_83.2.1]), (false, [.val (.int .i64 r_83.2.2)])], [], [], 14⟩)] [] (calls_cons (compose_Two_spec K r_79.1 r_79.2.1 (List.getD y_135 2 ((0 : Int), ([] : (List (Int × (Int × ByteArray)))))).1 (List.getD y_135 2 ((0 : Int), ([] : (List (Int × (Int × ByteArray)))))).2 r_83 h_84) (by kernel_rfl) calls_nil) 14 [6, 9, 17, 18, 19] [11, 12, 14] ⟨[(6, .c (.elt 11 1 0 0)), (9, .c (.elt 12 2 0 0)), (17, .c (.val (.int .i64 r_79.2.2))), (18, .c (.h 14)), (19, .c (.val (.int .i64 r_83.2.2)))], [(11, .row .str ([texts_5, texts_6, texts_7] : List ByteArray)), (12, .row (.pair (.int .i64) (.slice (.pair (.int .i64) (.pair (.int .i64) .str)))) y_135), (14, .box [.val (.int .i64 r_83.1), .imm (.slice (.pair (.int .i64) (.pair (.int .i64) .str))) r_83.2.1])], 15⟩ [(0 : Int) ≤ (2 : Int), (2 : Int) < ((3 : Nat) : Int), (2 : Int) < (((List.length y_135) : Nat) : Int)] (by kernel_rfl) rfl rfl (ap2 (by decide) (ap2 (by decide) (ap1 c_85))) (by kernel_rfl) (by kernel_rfl) ?_
        refine V_run hN hn 1 15 [6, 9, 17, 18, 19] [11, 12, 14] ⟨[(6, .c (.elt 11 1 0 0)), (9, .c (.elt 12 2 0 0)), (17, .c (.val (.int .i64 r_79.2.2))), (18, .c (.h 14)), (19, .c (.val (.int .i64 r_83.2.2)))], [(11, .row .str ([texts_5, texts_6, texts_7] : List ByteArray)), (12, .row (.pair (.int .i64) (.slice (.pair (.int .i64) (.pair (.int .i64) .str)))) y_135), (14, .box [.val (.int .i64 r_83.1), .imm (.slice (.pair (.int .i64) (.pair (.int .i64) .str))) r_83.2.1])], 15⟩ [] (by kernel_rfl) rfl rfl ap0 ?_
        obtain ⟨r_87, h_88, H_169⟩ := of_bind H_168
        refine V_reg hN hn [(4, ⟨11, 0, [.agg [.val (.int .i64 (List.getD y_135 1 ((0 : Int), ([] : (List (Int × (Int × ByteArray)))))).1), .imm (.slice (.pair (.int .i64) (.pair (.int .i64) .str))) (List.getD y_135 1 ((0 : Int), ([] : (List (Int × (Int × ByteArray)))))).2], .agg [.val (.int .i64 (List.getD y_135 2 ((0 : Int), ([] : (List (Int × (Int × ByteArray)))))).1), .imm (.slice (.pair (.int .i64) (.pair (.int .i64) .str))) (List.getD y_135 2 ((0 : Int), ([] : (List (Int × (Int × ByteArray)))))).2]], [], .tup [(true, [.val (.int .i64 r_87.1), .imm (.slice (.pair (.int .i64) (.pair (.int .i64) .str))) r_87.2.1]), (false, [.val (.int .i64 r_87.2.2)])], [], [], 15⟩)] [] (calls_cons (compose_Two_spec K (List.getD y_135 1 ((0 : Int), ([] : (List (Int × (Int × ByteArray)))))).1 (List.getD y_135 1 ((0 : Int), ([] : (List (Int × (Int × ByteArray)))))).2 (List.getD y_135 2 ((0 : Int), ([] : (List (Int × (Int × ByteArray)))))).1 (List.getD y_135 2 ((0 : Int), ([] : (List (Int × (Int × ByteArray)))))).2 r_87 h_88) (by kernel_rfl) calls_nil) 15 [6, 9, 17, 18, 19, 20, 21] [11, 12, 14, 15] ⟨[(6, .c (.elt 11 1 0 0)), (9, .c (.elt 12 2 0 0)), (17, .c (.val (.int .i64 r_79.2.2))), (18, .c (.h 14)), (19, .c (.val (.int .i64 r_83.2.2))), (20, .c (.h 15)), (21, .c (.val (.int .i64 r_87.2.2)))], [(11, .row .str ([texts_5, texts_6, texts_7] : List ByteArray)), (12, .row (.pair (.int .i64) (.slice (.pair (.int .i64) (.pair (.int .i64) .str)))) y_135), (14, .box [.val (.int .i64 r_83.1), .imm (.slice (.pair (.int .i64) (.pair (.int .i64) .str))) r_83.2.1]), (15, .box [.val (.int .i64 r_87.1), .imm (.slice (.pair (.int .i64) (.pair (.int .i64) .str))) r_87.2.1])], 16⟩ [(0 : Int) ≤ (1 : Int), (1 : Int) < ((3 : Nat) : Int), (1 : Int) < (((List.length y_135) : Nat) : Int), (0 : Int) ≤ (2 : Int), (2 : Int) < ((3 : Nat) : Int), (2 : Int) < (((List.length y_135) : Nat) : Int)] (by kernel_rfl) rfl rfl (ap2 (by decide) (ap2 (by decide) (ap2 c_81.2 (ap2 (by decide) (ap2 (by decide) (ap1 c_85)))))) (by kernel_rfl) (by kernel_rfl) ?_
        refine V_run hN hn 1 16 [6, 9, 17, 18, 19, 20, 21] [11, 12, 14, 15] ⟨[(6, .c (.elt 11 1 0 0)), (9, .c (.elt 12 2 0 0)), (17, .c (.val (.int .i64 r_79.2.2))), (18, .c (.h 14)), (19, .c (.val (.int .i64 r_83.2.2))), (20, .c (.h 15)), (21, .c (.val (.int .i64 r_87.2.2)))], [(11, .row .str ([texts_5, texts_6, texts_7] : List ByteArray)), (12, .row (.pair (.int .i64) (.slice (.pair (.int .i64) (.pair (.int .i64) .str)))) y_135), (14, .box [.val (.int .i64 r_83.1), .imm (.slice (.pair (.int .i64) (.pair (.int .i64) .str))) r_83.2.1]), (15, .box [.val (.int .i64 r_87.1), .imm (.slice (.pair (.int .i64) (.pair (.int .i64) .str))) r_87.2.1])], 16⟩ [] (by kernel_rfl) rfl rfl ap0 ?_
        obtain ⟨r_91, h_92, H_170⟩ := of_bind H_169
        refine V_reg hN hn [(3, ⟨11, 0, [.agg [.val (.int .i64 (List.getD y_135 0 ((0 : Int), ([] : (List (Int × (Int × ByteArray)))))).1), .imm (.slice (.pair (.int .i64) (.pair (.int .i64) .str))) (List.getD y_135 0 ((0 : Int), ([] : (List (Int × (Int × ByteArray)))))).2], .agg [.val (.int .i64 r_87.1), .imm (.slice (.pair (.int .i64) (.pair (.int .i64) .str))) r_87.2.1]], [], .tup [(true, [.val (.int .i64 r_91.1), .imm (.slice (.pair (.int .i64) (.pair (.int .i64) .str))) r_91.2.1]), (false, [.val (.int .i64 r_91.2.2)])], [], [], 16⟩)] [] (calls_cons (compose_Two_spec K (List.getD y_135 0 ((0 : Int), ([] : (List (Int × (Int × ByteArray)))))).1 (List.getD y_135 0 ((0 : Int), ([] : (List (Int × (Int × ByteArray)))))).2 r_87.1 r_87.2.1 r_91 h_92) (by kernel_rfl) calls_nil) 16 [6, 9, 17, 18, 19, 21, 22, 23] [11, 12, 14, 16] ⟨[(6, .c (.elt 11 1 0 0)), (9, .c (.elt 12 2 0 0)), (17, .c (.val (.int .i64 r_79.2.2))), (18, .c (.h 14)), (19, .c (.val (.int .i64 r_83.2.2))), (21, .c (.val (.int .i64 r_87.2.2))), (22, .c (.h 16)), (23, .c (.val (.int .i64 r_91.2.2)))], [(11, .row .str ([texts_5, texts_6, texts_7] : List ByteArray)), (12, .row (.pair (.int .i64) (.slice (.pair (.int .i64) (.pair (.int .i64) .str)))) y_135), (14, .box [.val (.int .i64 r_83.1), .imm (.slice (.pair (.int .i64) (.pair (.int .i64) .str))) r_83.2.1]), (16, .box [.val (.int .i64 r_91.1), .imm (.slice (.pair (.int .i64) (.pair (.int .i64) .str))) r_91.2.1])], 17⟩ [(0 : Int) ≤ (0 : Int), (0 : Int) < ((3 : Nat) : Int), (0 : Int) < (((List.length y_135) : Nat) : Int)] (by kernel_rfl) rfl rfl (ap2 (by decide) (ap2 (by decide) (ap1 c_81.1))) (by kernel_rfl) (by kernel_rfl) ?_
        refine V_run hN hn 1 17 [6, 9, 17, 18, 19, 21, 22, 23] [11, 12, 14, 16] ⟨[(6, .c (.elt 11 1 0 0)), (9, .c (.elt 12 2 0 0)), (17, .c (.val (.int .i64 r_79.2.2))), (18, .c (.h 14)), (19, .c (.val (.int .i64 r_83.2.2))), (21, .c (.val (.int .i64 r_87.2.2))), (22, .c (.h 16)), (23, .c (.val (.int .i64 r_91.2.2)))], [(11, .row .str ([texts_5, texts_6, texts_7] : List ByteArray)), (12, .row (.pair (.int .i64) (.slice (.pair (.int .i64) (.pair (.int .i64) .str)))) y_135), (14, .box [.val (.int .i64 r_83.1), .imm (.slice (.pair (.int .i64) (.pair (.int .i64) .str))) r_83.2.1]), (16, .box [.val (.int .i64 r_91.1), .imm (.slice (.pair (.int .i64) (.pair (.int .i64) .str))) r_91.2.1])], 17⟩ [] (by kernel_rfl) rfl rfl ap0 ?_
        obtain ⟨r_95, h_96, H_171⟩ := of_bind H_170
        obtain ⟨c_97, H_172⟩ := of_if H_171
        refine V_reg hN hn [(1, ⟨23, 1, [.c (.sub 0 2 0 3)], [(0, .row (.pair (.int .i64) (.slice (.pair (.int .i64) (.pair (.int .i64) .str)))) y_135)], .tup [(true, [.val (.int .i64 r_95.1), .imm (.slice (.pair (.int .i64) (.pair (.int .i64) .str))) r_95.2.1]), (false, [.val (.int .i64 r_95.2.2)])], [(0, .row (.pair (.int .i64) (.slice (.pair (.int .i64) (.pair (.int .i64) .str)))) y_135)], [(0, 12)], 17⟩)] [] (calls_cons (compose_All_sx_spec K y_135 0 3 r_95 h_96) (by kernel_rfl) calls_nil) 17 [6, 17, 18, 19, 21, 22, 23, 24, 25] [11, 14, 16, 17] ⟨[(6, .c (.elt 11 1 0 0)), (17, .c (.val (.int .i64 r_79.2.2))), (18, .c (.h 14)), (19, .c (.val (.int .i64 r_83.2.2))), (21, .c (.val (.int .i64 r_87.2.2))), (22, .c (.h 16)), (23, .c (.val (.int .i64 r_91.2.2))), (24, .c (.h 17)), (25, .c (.val (.int .i64 r_95.2.2)))], [(11, .row .str ([texts_5, texts_6, texts_7] : List ByteArray)), (14, .box [.val (.int .i64 r_83.1), .imm (.slice (.pair (.int .i64) (.pair (.int .i64) .str))) r_83.2.1]), (16, .box [.val (.int .i64 r_91.1), .imm (.slice (.pair (.int .i64) (.pair (.int .i64) .str))) r_91.2.1]), (17, .box [.val (.int .i64 r_95.1), .imm (.slice (.pair (.int .i64) (.pair (.int .i64) .str))) r_95.2.1])], 18⟩ [((3 : Nat) : Int) ≤ (((List.length y_135) : Nat) : Int)] (by kernel_rfl) rfl rfl (ap1 c_97) (by kernel_rfl) (by kernel_rfl) ?_
        refine V_run hN hn 1 18 [6, 17, 18, 19, 21, 22, 23, 24, 25] [11, 14, 16, 17] ⟨[(6, .c (.elt 11 1 0 0)), (17, .c (.val (.int .i64 r_79.2.2))), (18, .c (.h 14)), (19, .c (.val (.int .i64 r_83.2.2))), (21, .c (.val (.int .i64 r_87.2.2))), (22, .c (.h 16)), (23, .c (.val (.int .i64 r_91.2.2))), (24, .c (.h 17)), (25, .c (.val (.int .i64 r_95.2.2)))], [(11, .row .str ([texts_5, texts_6, texts_7] : List ByteArray)), (14, .box [.val (.int .i64 r_83.1), .imm (.slice (.pair (.int .i64) (.pair (.int .i64) .str))) r_83.2.1]), (16, .box [.val (.int .i64 r_91.1), .imm (.slice (.pair (.int .i64) (.pair (.int .i64) .str))) r_91.2.1]), (17, .box [.val (.int .i64 r_95.1), .imm (.slice (.pair (.int .i64) (.pair (.int .i64) .str))) r_95.2.1])], 18⟩ [] (by kernel_rfl) rfl rfl ap0 ?_
        rcases Bool.eq_false_or_eq_true ((r_79.2.2 == (0 : Int))) with b_99 | b_99
        · have H_173 := of_t H_172 b_99
          rcases Bool.eq_false_or_eq_true ((r_83.2.2 == (0 : Int))) with b_100 | b_100
          · have H_175 := of_t H_173 b_100
            rcases Bool.eq_false_or_eq_true ((r_87.2.2 == (0 : Int))) with b_101 | b_101
            · have H_177 := of_t H_175 b_101
              rcases Bool.eq_false_or_eq_true ((r_91.2.2 == (0 : Int))) with b_102 | b_102
              · have H_179 := of_t H_177 b_102
                rcases Bool.eq_false_or_eq_true ((r_95.2.2 == (0 : Int))) with b_103 | b_103
                · have H_181 := of_t H_179 b_103
                  obtain ⟨r_104, h_105, H_183⟩ := of_bind H_181
                  rcases Bool.eq_false_or_eq_true (r_104) with b_106 | b_106
                  · have H_184 := of_t H_183 b_106
                    obtain ⟨r_107, h_108, H_186⟩ := of_bind H_184
                    rcases Bool.eq_false_or_eq_true (r_107) with b_109 | b_109
                    · have H_187 := of_t H_186 b_109
                      obtain ⟨r_110, h_111, H_189⟩ := of_bind H_187
                      obtain ⟨c_112, H_190⟩ := of_if H_189
                      refine V_reg hN hn [(21, ⟨24, 0, [.agg [.val (.int .i64 r_83.1), .imm (.slice (.pair (.int .i64) (.pair (.int .i64) .str))) r_83.2.1], .agg [.val (.int .i64 r_91.1), .imm (.slice (.pair (.int .i64) (.pair (.int .i64) .str))) r_91.2.1]], [], .c (.val (.bool r_104)), [], [], 18⟩), (26, ⟨24, 0, [.agg [.val (.int .i64 r_83.1), .imm (.slice (.pair (.int .i64) (.pair (.int .i64) .str))) r_83.2.1], .agg [.val (.int .i64 r_95.1), .imm (.slice (.pair (.int .i64) (.pair (.int .i64) .str))) r_95.2.1]], [], .c (.val (.bool r_107)), [], [], 18⟩), (31, ⟨18, 0, [.c (.val (.string (List.getD ([texts_5, texts_6, texts_7] : List ByteArray) 0 ByteArray.empty)))], [], .c (.val (.bool r_110)), [], [], 18⟩)] [(123, true), (127, true), (131, true), (135, true), (139, true), (144, true), (149, true)] (calls_cons (delta_Same_spec K r_83.1 r_83.2.1 r_91.1 r_91.2.1 r_104 h_105) (by kernel_rfl) (calls_cons (delta_Same_spec K r_83.1 r_83.2.1 r_95.1 r_95.2.1 r_107 h_108) (by kernel_rfl) (calls_cons (palinoderef1_Valid_spec K (List.getD ([texts_5, texts_6, texts_7] : List ByteArray) 0 ByteArray.empty) r_110 h_111) (by kernel_rfl) calls_nil))) 18 [8] [] ⟨[(8, .c (.val (.bool r_110)))], [], 18⟩ [(r_79.2.2 == (0 : Int)) = true, (r_83.2.2 == (0 : Int)) = true, (r_87.2.2 == (0 : Int)) = true, (r_91.2.2 == (0 : Int)) = true, (r_95.2.2 == (0 : Int)) = true, r_104 = true, r_107 = true, (0 : Int) ≤ (0 : Int), (0 : Int) < ((3 : Nat) : Int), (0 : Int) < (((List.length ([texts_5, texts_6, texts_7] : List ByteArray)) : Nat) : Int)] (by kernel_rfl) rfl rfl (ap2 b_99 (ap2 b_100 (ap2 b_101 (ap2 b_102 (ap2 b_103 (ap2 b_106 (ap2 b_109 (ap2 (by decide) (ap2 (by decide) (ap1 c_112)))))))))) (by kernel_rfl) (by kernel_rfl) ?_
                      have H_191 := Option.some.inj (show some r_110 = some r from H_190); subst H_191
                      refine VL_ret ?_
                      exact P_to [(8, .c (.val (.bool r_110)))] [] [] hn (by kernel_rfl) (by kernel_rfl) rfl rfl rfl (QF_retS (by kernel_rfl) (by kernel_rfl) rfl)
                    · have H_188 := of_f H_186 b_109
                      refine V_reg hN hn [(21, ⟨24, 0, [.agg [.val (.int .i64 r_83.1), .imm (.slice (.pair (.int .i64) (.pair (.int .i64) .str))) r_83.2.1], .agg [.val (.int .i64 r_91.1), .imm (.slice (.pair (.int .i64) (.pair (.int .i64) .str))) r_91.2.1]], [], .c (.val (.bool r_104)), [], [], 18⟩), (26, ⟨24, 0, [.agg [.val (.int .i64 r_83.1), .imm (.slice (.pair (.int .i64) (.pair (.int .i64) .str))) r_83.2.1], .agg [.val (.int .i64 r_95.1), .imm (.slice (.pair (.int .i64) (.pair (.int .i64) .str))) r_95.2.1]], [], .c (.val (.bool r_107)), [], [], 18⟩)] [(123, true), (127, true), (131, true), (135, true), (139, true), (144, true), (149, false)] (calls_cons (delta_Same_spec K r_83.1 r_83.2.1 r_91.1 r_91.2.1 r_104 h_105) (by kernel_rfl) (calls_cons (delta_Same_spec K r_83.1 r_83.2.1 r_95.1 r_95.2.1 r_107 h_108) (by kernel_rfl) calls_nil)) 18 [8] [] ⟨[(8, .c (.val (.bool false)))], [], 18⟩ [(r_79.2.2 == (0 : Int)) = true, (r_83.2.2 == (0 : Int)) = true, (r_87.2.2 == (0 : Int)) = true, (r_91.2.2 == (0 : Int)) = true, (r_95.2.2 == (0 : Int)) = true, r_104 = true, r_107 = false] (by kernel_rfl) rfl rfl (ap2 b_99 (ap2 b_100 (ap2 b_101 (ap2 b_102 (ap2 b_103 (ap2 b_106 (ap1 b_109))))))) (by kernel_rfl) (by kernel_rfl) ?_
                      have H_192 := Option.some.inj (show some false = some r from H_188); subst H_192
                      refine VL_ret ?_
                      exact P_to [(8, .c (.val (.bool false)))] [] [] hn (by kernel_rfl) (by kernel_rfl) rfl rfl rfl (QF_retS (by kernel_rfl) (by kernel_rfl) rfl)
                  · have H_185 := of_f H_183 b_106
                    refine V_reg hN hn [(21, ⟨24, 0, [.agg [.val (.int .i64 r_83.1), .imm (.slice (.pair (.int .i64) (.pair (.int .i64) .str))) r_83.2.1], .agg [.val (.int .i64 r_91.1), .imm (.slice (.pair (.int .i64) (.pair (.int .i64) .str))) r_91.2.1]], [], .c (.val (.bool r_104)), [], [], 18⟩)] [(123, true), (127, true), (131, true), (135, true), (139, true), (144, false)] (calls_cons (delta_Same_spec K r_83.1 r_83.2.1 r_91.1 r_91.2.1 r_104 h_105) (by kernel_rfl) calls_nil) 18 [8] [] ⟨[(8, .c (.val (.bool false)))], [], 18⟩ [(r_79.2.2 == (0 : Int)) = true, (r_83.2.2 == (0 : Int)) = true, (r_87.2.2 == (0 : Int)) = true, (r_91.2.2 == (0 : Int)) = true, (r_95.2.2 == (0 : Int)) = true, r_104 = false] (by kernel_rfl) rfl rfl (ap2 b_99 (ap2 b_100 (ap2 b_101 (ap2 b_102 (ap2 b_103 (ap1 b_106)))))) (by kernel_rfl) (by kernel_rfl) ?_
                    have H_193 := Option.some.inj (show some false = some r from H_185); subst H_193
                    refine VL_ret ?_
                    exact P_to [(8, .c (.val (.bool false)))] [] [] hn (by kernel_rfl) (by kernel_rfl) rfl rfl rfl (QF_retS (by kernel_rfl) (by kernel_rfl) rfl)
                · have H_182 := of_f H_179 b_103
                  refine V_reg hN hn [] [(123, true), (127, true), (131, true), (135, true), (139, false)] calls_nil 18 [8] [] ⟨[(8, .c (.val (.bool false)))], [], 18⟩ [(r_79.2.2 == (0 : Int)) = true, (r_83.2.2 == (0 : Int)) = true, (r_87.2.2 == (0 : Int)) = true, (r_91.2.2 == (0 : Int)) = true, (r_95.2.2 == (0 : Int)) = false] (by kernel_rfl) rfl rfl (ap2 b_99 (ap2 b_100 (ap2 b_101 (ap2 b_102 (ap1 b_103))))) (by kernel_rfl) (by kernel_rfl) ?_
                  have H_194 := Option.some.inj (show some false = some r from H_182); subst H_194
                  refine VL_ret ?_
                  exact P_to [(8, .c (.val (.bool false)))] [] [] hn (by kernel_rfl) (by kernel_rfl) rfl rfl rfl (QF_retS (by kernel_rfl) (by kernel_rfl) rfl)
              · have H_180 := of_f H_177 b_102
                refine V_reg hN hn [] [(123, true), (127, true), (131, true), (135, false)] calls_nil 18 [8] [] ⟨[(8, .c (.val (.bool false)))], [], 18⟩ [(r_79.2.2 == (0 : Int)) = true, (r_83.2.2 == (0 : Int)) = true, (r_87.2.2 == (0 : Int)) = true, (r_91.2.2 == (0 : Int)) = false] (by kernel_rfl) rfl rfl (ap2 b_99 (ap2 b_100 (ap2 b_101 (ap1 b_102)))) (by kernel_rfl) (by kernel_rfl) ?_
                have H_195 := Option.some.inj (show some false = some r from H_180); subst H_195
                refine VL_ret ?_
                exact P_to [(8, .c (.val (.bool false)))] [] [] hn (by kernel_rfl) (by kernel_rfl) rfl rfl rfl (QF_retS (by kernel_rfl) (by kernel_rfl) rfl)
            · have H_178 := of_f H_175 b_101
              refine V_reg hN hn [] [(123, true), (127, true), (131, false)] calls_nil 18 [8] [] ⟨[(8, .c (.val (.bool false)))], [], 18⟩ [(r_79.2.2 == (0 : Int)) = true, (r_83.2.2 == (0 : Int)) = true, (r_87.2.2 == (0 : Int)) = false] (by kernel_rfl) rfl rfl (ap2 b_99 (ap2 b_100 (ap1 b_101))) (by kernel_rfl) (by kernel_rfl) ?_
              have H_196 := Option.some.inj (show some false = some r from H_178); subst H_196
              refine VL_ret ?_
              exact P_to [(8, .c (.val (.bool false)))] [] [] hn (by kernel_rfl) (by kernel_rfl) rfl rfl rfl (QF_retS (by kernel_rfl) (by kernel_rfl) rfl)
          · have H_176 := of_f H_173 b_100
            refine V_reg hN hn [] [(123, true), (127, false)] calls_nil 18 [8] [] ⟨[(8, .c (.val (.bool false)))], [], 18⟩ [(r_79.2.2 == (0 : Int)) = true, (r_83.2.2 == (0 : Int)) = false] (by kernel_rfl) rfl rfl (ap2 b_99 (ap1 b_100)) (by kernel_rfl) (by kernel_rfl) ?_
            have H_197 := Option.some.inj (show some false = some r from H_176); subst H_197
            refine VL_ret ?_
            exact P_to [(8, .c (.val (.bool false)))] [] [] hn (by kernel_rfl) (by kernel_rfl) rfl rfl rfl (QF_retS (by kernel_rfl) (by kernel_rfl) rfl)
        · have H_174 := of_f H_172 b_99
          refine V_reg hN hn [] [(123, false)] calls_nil 18 [8] [] ⟨[(8, .c (.val (.bool false)))], [], 18⟩ [(r_79.2.2 == (0 : Int)) = false] (by kernel_rfl) rfl rfl (ap1 b_99) (by kernel_rfl) (by kernel_rfl) ?_
          have H_198 := Option.some.inj (show some false = some r from H_174); subst H_198
          refine VL_ret ?_
          exact P_to [(8, .c (.val (.bool false)))] [] [] hn (by kernel_rfl) (by kernel_rfl) rfl rfl rfl (QF_retS (by kernel_rfl) (by kernel_rfl) rfl)

end Go.Pal
