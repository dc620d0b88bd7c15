/- The Go functions that ComposeInverts reaches compute what the plain functions say: part 1, printed by a program of this workplace. -/
import Derived.Test.YtjnhbaphmhbaaaaChecked
import Derived.Test.YtjnhbaphmhbaaaaWalkComposeInverts0
namespace Go.Pal
open Go Go.Proofs
set_option maxRecDepth 100000
set_option linter.unusedVariables false

theorem delta_Apply_spec (K : Nat) (d_1 : Int) (d_2 : (List (Int × (Int × ByteArray)))) (s_3 : ByteArray) (r : (ByteArray × Int)) (H : delta_Apply K d_1 d_2 s_3 = some r) : Spec Try.prog 22 0 [.agg [.val (.int .i64 d_1), .imm (.slice (.pair (.int .i64) (.pair (.int .i64) .str))) d_2], .c (.val (.string s_3))] [] (.tup [(false, [.val (.string r.1)]), (false, [.val (.int .i64 r.2)])]) [] := by
  refine Spec_mk (fn := Try.f22) (c := (Try.f22.body).get!) Try.func22 (by kernel_rfl) rfl ?_
  intro C hN hn
  replace hN : C.N = 53 := hN
  unfold delta_Apply at H
  refine V_run hN hn 3 0 [1, 2] [0] ⟨[(1, .c (.val (.string s_3))), (2, .c (.h 0))], [(0, .box [.val (.int .i64 d_1), .imm (.slice (.pair (.int .i64) (.pair (.int .i64) .str))) d_2])], 1⟩ [] (by kernel_rfl) rfl rfl ap0 ?_
  refine VL_block ?_
  refine V_run hN hn 1 1 [1, 2] [0] ⟨[(1, .c (.val (.string s_3))), (2, .c (.h 0))], [(0, .box [.val (.int .i64 d_1), .imm (.slice (.pair (.int .i64) (.pair (.int .i64) .str))) d_2])], 1⟩ [] (by kernel_rfl) rfl rfl ap0 ?_
  obtain ⟨r_6, h_7, H_43⟩ := of_bind H
  refine V_reg hN hn [(1, ⟨30, 0, [.agg [.val (.int .i64 d_1), .imm (.slice (.pair (.int .i64) (.pair (.int .i64) .str))) d_2]], [], .c (.val (.bool r_6)), [], [], 1⟩)] [] (calls_cons (delta_Is_spec K d_1 d_2 r_6 h_7) (by kernel_rfl) calls_nil) 1 [1, 2, 10] [0] ⟨[(1, .c (.val (.string s_3))), (2, .c (.h 0)), (10, .c (.val (.bool (!r_6))))], [(0, .box [.val (.int .i64 d_1), .imm (.slice (.pair (.int .i64) (.pair (.int .i64) .str))) d_2])], 1⟩ [] (by kernel_rfl) rfl rfl ap0 (by kernel_rfl) (by kernel_rfl) ?_
  refine VL_cond ((!r_6)) (by kernel_rfl) ?_ ?_
  · intro b_9; have H_44 := of_t H_43 b_9
    refine V_run hN hn 2 1 [4, 5] [] ⟨[(4, .c (.val (.string (ByteArray.mk #[])))), (5, .c (.val (.int .i64 (12 : Int))))], [], 1⟩ [] (by kernel_rfl) rfl rfl ap0 ?_
    have H_46 := Option.some.inj (show some ((ByteArray.mk #[]), (12 : Int)) = some r from H_44); subst H_46
    refine VL_ret ?_
    refine QB_ret ?_
    exact P_to [(4, .c (.val (.string (ByteArray.mk #[])))), (5, .c (.val (.int .i64 (12 : Int))))] [] [] hn (by kernel_rfl) (by kernel_rfl) rfl rfl rfl (QF_retS (by kernel_rfl) (by kernel_rfl) rfl)
  · intro b_9; have H_45 := of_f H_43 b_9
    refine V_run hN hn 2 1 [1, 2, 14] [0] ⟨[(1, .c (.val (.string s_3))), (2, .c (.h 0)), (14, .c (.val (.bool ((((ByteArray.size s_3) : Nat) : Int) != d_1))))], [(0, .box [.val (.int .i64 d_1), .imm (.slice (.pair (.int .i64) (.pair (.int .i64) .str))) d_2])], 1⟩ [] (by kernel_rfl) rfl rfl ap0 ?_
    refine VL_cond (((((ByteArray.size s_3) : Nat) : Int) != d_1)) (by kernel_rfl) ?_ ?_
    · intro b_12; have H_47 := of_t H_45 b_12
      refine V_run hN hn 2 1 [4, 5] [] ⟨[(4, .c (.val (.string (ByteArray.mk #[])))), (5, .c (.val (.int .i64 (80 : Int))))], [], 1⟩ [] (by kernel_rfl) rfl rfl ap0 ?_
      have H_49 := Option.some.inj (show some ((ByteArray.mk #[]), (80 : Int)) = some r from H_47); subst H_49
      refine VL_ret ?_
      refine QB_ret ?_
      exact P_to [(4, .c (.val (.string (ByteArray.mk #[])))), (5, .c (.val (.int .i64 (80 : Int))))] [] [] hn (by kernel_rfl) (by kernel_rfl) rfl rfl rfl (QF_retS (by kernel_rfl) (by kernel_rfl) rfl)
    · intro b_12; have H_48 := of_f H_45 b_12
      refine V_run hN hn 1 1 [1, 2, 14] [0] ⟨[(1, .c (.val (.string s_3))), (2, .c (.h 0)), (14, .c (.val (.bool ((((ByteArray.size s_3) : Nat) : Int) != d_1))))], [(0, .box [.val (.int .i64 d_1), .imm (.slice (.pair (.int .i64) (.pair (.int .i64) .str))) d_2])], 1⟩ [] (by kernel_rfl) rfl rfl ap0 ?_
      refine VL_nil (QB_end ?_)
      refine V_run hN hn 1 1 [1, 2, 14] [0] ⟨[(1, .c (.val (.string s_3))), (2, .c (.h 0)), (14, .c (.val (.bool ((((ByteArray.size s_3) : Nat) : Int) != d_1))))], [(0, .box [.val (.int .i64 d_1), .imm (.slice (.pair (.int .i64) (.pair (.int .i64) .str))) d_2])], 1⟩ [] (by kernel_rfl) rfl rfl ap0 ?_
      obtain ⟨r_16, h_17, H_50⟩ := of_bind H_48
      obtain ⟨c_18, H_51⟩ := of_if H_50
      refine V_reg hN hn [(1, ⟨26, 0, [.agg [.val (.int .i64 d_1), .imm (.slice (.pair (.int .i64) (.pair (.int .i64) .str))) d_2]], [], .c (.val (.int .i64 r_16)), [], [], 1⟩)] [] (calls_cons (delta_Size_spec K d_1 d_2 r_16 h_17) (by kernel_rfl) calls_nil) 1 [1, 2, 6] [0, 1] ⟨[(1, .c (.val (.string s_3))), (2, .c (.h 0)), (6, .c (.h 1))], [(0, .box [.val (.int .i64 d_1), .imm (.slice (.pair (.int .i64) (.pair (.int .i64) .str))) d_2]), (1, .row (.int .u8) (List.replicate (Int.toNat r_16) (0 : Int)))], 2⟩ [(0 : Int) ≤ r_16, r_16 ≤ r_16, r_16 * 1 ≤ (140737488355328 : Int), r_16 ≤ (9223372036854775807 : Int)] (by kernel_rfl) rfl rfl (ap2 c_18.1 (ap2 c_18.2.1 (ap2 c_18.2.2.1 (ap1 c_18.2.2.2)))) (by kernel_rfl) (by kernel_rfl) ?_
      refine V_run hN hn 5 2 [1, 6, 7, 24, 25, 26] [1] ⟨[(1, .c (.val (.string s_3))), (6, .c (.h 1)), (7, .c (.val (.int .i64 (0 : Int)))), (24, .c (.imm (.slice (.pair (.int .i64) (.pair (.int .i64) .str))) d_2)), (25, .c (.val (.int .i64 (((List.length d_2) : Nat) : Int)))), (26, .c (.val (.int .i64 (0 : Int))))], [(1, .row (.int .u8) (List.replicate (Int.toNat r_16) (0 : Int)))], 2⟩ [] (by kernel_rfl) rfl rfl ap0 ?_
      refine VL_block ?_
      refine V_to [(1, .c (.val (.string s_3))), (6, .c (.h 1)), (7, .c (.val (.int .i64 (0 : Int)))), (24, .c (.imm (.slice (.pair (.int .i64) (.pair (.int .i64) .str))) d_2)), (25, .c (.val (.int .i64 (((List.length d_2) : Nat) : Int)))), (26, .c (.val (.int .i64 (0 : Int))))] [(1, .row (.int .u8) (List.replicate (Int.toNat r_16) (0 : Int)))] [(1, 1)] hn (by kernel_rfl) (by kernel_rfl) rfl rfl rfl ?_
      refine VL_loop (X := ((List Int) × Int × Int)) (fun x => [(1, .c (.val (.string s_3))), (6, .c (.h 1)), (7, .c (.val (.int .i64 x.2.1))), (24, .c (.imm (.slice (.pair (.int .i64) (.pair (.int .i64) .str))) d_2)), (25, .c (.val (.int .i64 (((List.length d_2) : Nat) : Int)))), (26, .c (.val (.int .i64 x.2.2)))]) (fun x => [(1, .row (.int .u8) x.1)]) (fun k x => delta_Apply.l0 K d_2 s_3 k x.1 x.2.1 x.2.2 = some r) K ((List.replicate (Int.toNat r_16) (0 : Int)), (0 : Int), (0 : Int)) H_51 (fun _ h => no_none h) ?_
      intro k_32 x_32 H_52
      obtain ⟨out_31, n_20, t_21⟩ := x_32
      have H_53 : delta_Apply.l0 K d_2 s_3 (k_32 + 1) out_31 n_20 t_21 = some r := H_52
      rw [delta_Apply.l0] at H_53
      refine V_run hN hn 3 3 [1, 6, 7, 24, 25, 26, 27] [1] ⟨[(1, .c (.val (.string s_3))), (6, .c (.h 1)), (7, .c (.val (.int .i64 n_20))), (24, .c (.imm (.slice (.pair (.int .i64) (.pair (.int .i64) .str))) d_2)), (25, .c (.val (.int .i64 (((List.length d_2) : Nat) : Int)))), (26, .c (.val (.int .i64 t_21))), (27, .c (.val (.bool (decide (t_21 < (((List.length d_2) : Nat) : Int))))))], [(1, .row (.int .u8) out_31)], 3⟩ [] (by kernel_rfl) rfl rfl ap0 ?_
      refine VL_cond ((decide (t_21 < (((List.length d_2) : Nat) : Int)))) (by kernel_rfl) ?_ ?_
      · intro b_34; have H_54 := of_t H_53 b_34
        refine V_run hN hn 2 3 [1, 6, 7, 24, 25, 26, 27] [1] ⟨[(1, .c (.val (.string s_3))), (6, .c (.h 1)), (7, .c (.val (.int .i64 n_20))), (24, .c (.imm (.slice (.pair (.int .i64) (.pair (.int .i64) .str))) d_2)), (25, .c (.val (.int .i64 (((List.length d_2) : Nat) : Int)))), (26, .c (.val (.int .i64 t_21))), (27, .c (.val (.bool (decide (t_21 < (((List.length d_2) : Nat) : Int))))))], [(1, .row (.int .u8) out_31)], 3⟩ [] (by kernel_rfl) rfl rfl ap0 ?_
        refine VL_block ?_
        obtain ⟨c_36, H_56⟩ := of_if H_54
        refine V_run hN hn 3 3 [1, 6, 7, 9, 24, 25, 26] [1, 3] ⟨[(1, .c (.val (.string s_3))), (6, .c (.h 1)), (7, .c (.val (.int .i64 n_20))), (9, .c (.h 3)), (24, .c (.imm (.slice (.pair (.int .i64) (.pair (.int .i64) .str))) d_2)), (25, .c (.val (.int .i64 (((List.length d_2) : Nat) : Int)))), (26, .c (.val (.int .i64 t_21)))], [(1, .row (.int .u8) out_31), (3, .box [.val (.int .i64 (List.getD d_2 (Int.toNat t_21) ((0 : Int), ((0 : Int), ByteArray.empty))).1), .val (.int .i64 (List.getD d_2 (Int.toNat t_21) ((0 : Int), ((0 : Int), ByteArray.empty))).2.1), .val (.string (List.getD d_2 (Int.toNat t_21) ((0 : Int), ((0 : Int), ByteArray.empty))).2.2)])], 4⟩ [0 ≤ t_21, t_21 < (((List.length d_2) : Nat) : Int)] (by kernel_rfl) rfl rfl (ap2 c_36.1 (ap1 c_36.2)) ?_
        obtain ⟨c_37, H_57⟩ := of_if H_56
        refine V_draw hN hn (by kernel_rfl) [] [] calls_nil 4 [1, 6, 7, 9, 24, 25, 26] [1, 3] ⟨[(1, .c (.val (.string s_3))), (6, .c (.h 1)), (7, .c (.val (.int .i64 (IntKind.wrap .i64 (n_20 + (((List.length (List.take ((List.length out_31) - (Int.toNat n_20)) (List.map (fun b => (UInt8.toNat b : Int)) (Array.toList (ByteArray.data (ByteArray.extract s_3 (Int.toNat (List.getD d_2 (Int.toNat t_21) ((0 : Int), ((0 : Int), ByteArray.empty))).1) (Int.toNat (List.getD d_2 (Int.toNat t_21) ((0 : Int), ((0 : Int), ByteArray.empty))).2.1))))))) : Nat) : Int)))))), (9, .c (.h 3)), (24, .c (.imm (.slice (.pair (.int .i64) (.pair (.int .i64) .str))) d_2)), (25, .c (.val (.int .i64 (((List.length d_2) : Nat) : Int)))), (26, .c (.val (.int .i64 t_21)))], [(1, .row (.int .u8) (putAt out_31 (List.take ((List.length out_31) - (Int.toNat n_20)) (List.map (fun b => (UInt8.toNat b : Int)) (Array.toList (ByteArray.data (ByteArray.extract s_3 (Int.toNat (List.getD d_2 (Int.toNat t_21) ((0 : Int), ((0 : Int), ByteArray.empty))).1) (Int.toNat (List.getD d_2 (Int.toNat t_21) ((0 : Int), ((0 : Int), ByteArray.empty))).2.1)))))) (Int.toNat n_20))), (3, .box [.val (.int .i64 (List.getD d_2 (Int.toNat t_21) ((0 : Int), ((0 : Int), ByteArray.empty))).1), .val (.int .i64 (List.getD d_2 (Int.toNat t_21) ((0 : Int), ((0 : Int), ByteArray.empty))).2.1), .val (.string (List.getD d_2 (Int.toNat t_21) ((0 : Int), ((0 : Int), ByteArray.empty))).2.2)])], 4⟩ [(0 : Int) ≤ n_20, n_20 ≤ (((List.length out_31) : Nat) : Int), (0 : Int) ≤ (List.getD d_2 (Int.toNat t_21) ((0 : Int), ((0 : Int), ByteArray.empty))).1, (List.getD d_2 (Int.toNat t_21) ((0 : Int), ((0 : Int), ByteArray.empty))).1 ≤ (List.getD d_2 (Int.toNat t_21) ((0 : Int), ((0 : Int), ByteArray.empty))).2.1, (List.getD d_2 (Int.toNat t_21) ((0 : Int), ((0 : Int), ByteArray.empty))).2.1 ≤ (((ByteArray.size s_3) : Nat) : Int)] (by kernel_rfl) rfl rfl (ap2 c_37.1 (ap2 c_37.2.1 (ap2 c_37.2.2.1 (ap2 c_37.2.2.2.1 (ap1 c_37.2.2.2.2))))) (by kernel_rfl) (by kernel_rfl) ?_
        obtain ⟨c_38, H_58⟩ := of_if H_57
        refine V_draw hN hn (by kernel_rfl) [] [] calls_nil 4 [1, 6, 7, 24, 25, 26] [1] ⟨[(1, .c (.val (.string s_3))), (6, .c (.h 1)), (7, .c (.val (.int .i64 (IntKind.wrap .i64 ((IntKind.wrap .i64 (n_20 + (((List.length (List.take ((List.length out_31) - (Int.toNat n_20)) (List.map (fun b => (UInt8.toNat b : Int)) (Array.toList (ByteArray.data (ByteArray.extract s_3 (Int.toNat (List.getD d_2 (Int.toNat t_21) ((0 : Int), ((0 : Int), ByteArray.empty))).1) (Int.toNat (List.getD d_2 (Int.toNat t_21) ((0 : Int), ((0 : Int), ByteArray.empty))).2.1))))))) : Nat) : Int))) + (((List.length (List.take ((List.length (putAt out_31 (List.take ((List.length out_31) - (Int.toNat n_20)) (List.map (fun b => (UInt8.toNat b : Int)) (Array.toList (ByteArray.data (ByteArray.extract s_3 (Int.toNat (List.getD d_2 (Int.toNat t_21) ((0 : Int), ((0 : Int), ByteArray.empty))).1) (Int.toNat (List.getD d_2 (Int.toNat t_21) ((0 : Int), ((0 : Int), ByteArray.empty))).2.1)))))) (Int.toNat n_20))) - (Int.toNat (IntKind.wrap .i64 (n_20 + (((List.length (List.take ((List.length out_31) - (Int.toNat n_20)) (List.map (fun b => (UInt8.toNat b : Int)) (Array.toList (ByteArray.data (ByteArray.extract s_3 (Int.toNat (List.getD d_2 (Int.toNat t_21) ((0 : Int), ((0 : Int), ByteArray.empty))).1) (Int.toNat (List.getD d_2 (Int.toNat t_21) ((0 : Int), ((0 : Int), ByteArray.empty))).2.1))))))) : Nat) : Int))))) (List.map (fun b => (UInt8.toNat b : Int)) (Array.toList (ByteArray.data (List.getD d_2 (Int.toNat t_21) ((0 : Int), ((0 : Int), ByteArray.empty))).2.2))))) : Nat) : Int)))))), (24, .c (.imm (.slice (.pair (.int .i64) (.pair (.int .i64) .str))) d_2)), (25, .c (.val (.int .i64 (((List.length d_2) : Nat) : Int)))), (26, .c (.val (.int .i64 t_21)))], [(1, .row (.int .u8) (putAt (putAt out_31 (List.take ((List.length out_31) - (Int.toNat n_20)) (List.map (fun b => (UInt8.toNat b : Int)) (Array.toList (ByteArray.data (ByteArray.extract s_3 (Int.toNat (List.getD d_2 (Int.toNat t_21) ((0 : Int), ((0 : Int), ByteArray.empty))).1) (Int.toNat (List.getD d_2 (Int.toNat t_21) ((0 : Int), ((0 : Int), ByteArray.empty))).2.1)))))) (Int.toNat n_20)) (List.take ((List.length (putAt out_31 (List.take ((List.length out_31) - (Int.toNat n_20)) (List.map (fun b => (UInt8.toNat b : Int)) (Array.toList (ByteArray.data (ByteArray.extract s_3 (Int.toNat (List.getD d_2 (Int.toNat t_21) ((0 : Int), ((0 : Int), ByteArray.empty))).1) (Int.toNat (List.getD d_2 (Int.toNat t_21) ((0 : Int), ((0 : Int), ByteArray.empty))).2.1)))))) (Int.toNat n_20))) - (Int.toNat (IntKind.wrap .i64 (n_20 + (((List.length (List.take ((List.length out_31) - (Int.toNat n_20)) (List.map (fun b => (UInt8.toNat b : Int)) (Array.toList (ByteArray.data (ByteArray.extract s_3 (Int.toNat (List.getD d_2 (Int.toNat t_21) ((0 : Int), ((0 : Int), ByteArray.empty))).1) (Int.toNat (List.getD d_2 (Int.toNat t_21) ((0 : Int), ((0 : Int), ByteArray.empty))).2.1))))))) : Nat) : Int))))) (List.map (fun b => (UInt8.toNat b : Int)) (Array.toList (ByteArray.data (List.getD d_2 (Int.toNat t_21) ((0 : Int), ((0 : Int), ByteArray.empty))).2.2)))) (Int.toNat (IntKind.wrap .i64 (n_20 + (((List.length (List.take ((List.length out_31) - (Int.toNat n_20)) (List.map (fun b => (UInt8.toNat b : Int)) (Array.toList (ByteArray.data (ByteArray.extract s_3 (Int.toNat (List.getD d_2 (Int.toNat t_21) ((0 : Int), ((0 : Int), ByteArray.empty))).1) (Int.toNat (List.getD d_2 (Int.toNat t_21) ((0 : Int), ((0 : Int), ByteArray.empty))).2.1))))))) : Nat) : Int))))))], 4⟩ [(0 : Int) ≤ (IntKind.wrap .i64 (n_20 + (((List.length (List.take ((List.length out_31) - (Int.toNat n_20)) (List.map (fun b => (UInt8.toNat b : Int)) (Array.toList (ByteArray.data (ByteArray.extract s_3 (Int.toNat (List.getD d_2 (Int.toNat t_21) ((0 : Int), ((0 : Int), ByteArray.empty))).1) (Int.toNat (List.getD d_2 (Int.toNat t_21) ((0 : Int), ((0 : Int), ByteArray.empty))).2.1))))))) : Nat) : Int))), (IntKind.wrap .i64 (n_20 + (((List.length (List.take ((List.length out_31) - (Int.toNat n_20)) (List.map (fun b => (UInt8.toNat b : Int)) (Array.toList (ByteArray.data (ByteArray.extract s_3 (Int.toNat (List.getD d_2 (Int.toNat t_21) ((0 : Int), ((0 : Int), ByteArray.empty))).1) (Int.toNat (List.getD d_2 (Int.toNat t_21) ((0 : Int), ((0 : Int), ByteArray.empty))).2.1))))))) : Nat) : Int))) ≤ (((List.length (putAt out_31 (List.take ((List.length out_31) - (Int.toNat n_20)) (List.map (fun b => (UInt8.toNat b : Int)) (Array.toList (ByteArray.data (ByteArray.extract s_3 (Int.toNat (List.getD d_2 (Int.toNat t_21) ((0 : Int), ((0 : Int), ByteArray.empty))).1) (Int.toNat (List.getD d_2 (Int.toNat t_21) ((0 : Int), ((0 : Int), ByteArray.empty))).2.1)))))) (Int.toNat n_20))) : Nat) : Int)] (by kernel_rfl) rfl rfl (ap2 c_38.1 (ap1 c_38.2)) (by kernel_rfl) (by kernel_rfl) ?_
        refine VL_nil (QB_end ?_)
        refine V_run hN hn 1 4 [1, 6, 7, 24, 25, 26] [1] ⟨[(1, .c (.val (.string s_3))), (6, .c (.h 1)), (7, .c (.val (.int .i64 (IntKind.wrap .i64 ((IntKind.wrap .i64 (n_20 + (((List.length (List.take ((List.length out_31) - (Int.toNat n_20)) (List.map (fun b => (UInt8.toNat b : Int)) (Array.toList (ByteArray.data (ByteArray.extract s_3 (Int.toNat (List.getD d_2 (Int.toNat t_21) ((0 : Int), ((0 : Int), ByteArray.empty))).1) (Int.toNat (List.getD d_2 (Int.toNat t_21) ((0 : Int), ((0 : Int), ByteArray.empty))).2.1))))))) : Nat) : Int))) + (((List.length (List.take ((List.length (putAt out_31 (List.take ((List.length out_31) - (Int.toNat n_20)) (List.map (fun b => (UInt8.toNat b : Int)) (Array.toList (ByteArray.data (ByteArray.extract s_3 (Int.toNat (List.getD d_2 (Int.toNat t_21) ((0 : Int), ((0 : Int), ByteArray.empty))).1) (Int.toNat (List.getD d_2 (Int.toNat t_21) ((0 : Int), ((0 : Int), ByteArray.empty))).2.1)))))) (Int.toNat n_20))) - (Int.toNat (IntKind.wrap .i64 (n_20 + (((List.length (List.take ((List.length out_31) - (Int.toNat n_20)) (List.map (fun b => (UInt8.toNat b : Int)) (Array.toList (ByteArray.data (ByteArray.extract s_3 (Int.toNat (List.getD d_2 (Int.toNat t_21) ((0 : Int), ((0 : Int), ByteArray.empty))).1) (Int.toNat (List.getD d_2 (Int.toNat t_21) ((0 : Int), ((0 : Int), ByteArray.empty))).2.1))))))) : Nat) : Int))))) (List.map (fun b => (UInt8.toNat b : Int)) (Array.toList (ByteArray.data (List.getD d_2 (Int.toNat t_21) ((0 : Int), ((0 : Int), ByteArray.empty))).2.2))))) : Nat) : Int)))))), (24, .c (.imm (.slice (.pair (.int .i64) (.pair (.int .i64) .str))) d_2)), (25, .c (.val (.int .i64 (((List.length d_2) : Nat) : Int)))), (26, .c (.val (.int .i64 (IntKind.wrap .i64 (t_21 + (1 : Int))))))], [(1, .row (.int .u8) (putAt (putAt out_31 (List.take ((List.length out_31) - (Int.toNat n_20)) (List.map (fun b => (UInt8.toNat b : Int)) (Array.toList (ByteArray.data (ByteArray.extract s_3 (Int.toNat (List.getD d_2 (Int.toNat t_21) ((0 : Int), ((0 : Int), ByteArray.empty))).1) (Int.toNat (List.getD d_2 (Int.toNat t_21) ((0 : Int), ((0 : Int), ByteArray.empty))).2.1)))))) (Int.toNat n_20)) (List.take ((List.length (putAt out_31 (List.take ((List.length out_31) - (Int.toNat n_20)) (List.map (fun b => (UInt8.toNat b : Int)) (Array.toList (ByteArray.data (ByteArray.extract s_3 (Int.toNat (List.getD d_2 (Int.toNat t_21) ((0 : Int), ((0 : Int), ByteArray.empty))).1) (Int.toNat (List.getD d_2 (Int.toNat t_21) ((0 : Int), ((0 : Int), ByteArray.empty))).2.1)))))) (Int.toNat n_20))) - (Int.toNat (IntKind.wrap .i64 (n_20 + (((List.length (List.take ((List.length out_31) - (Int.toNat n_20)) (List.map (fun b => (UInt8.toNat b : Int)) (Array.toList (ByteArray.data (ByteArray.extract s_3 (Int.toNat (List.getD d_2 (Int.toNat t_21) ((0 : Int), ((0 : Int), ByteArray.empty))).1) (Int.toNat (List.getD d_2 (Int.toNat t_21) ((0 : Int), ((0 : Int), ByteArray.empty))).2.1))))))) : Nat) : Int))))) (List.map (fun b => (UInt8.toNat b : Int)) (Array.toList (ByteArray.data (List.getD d_2 (Int.toNat t_21) ((0 : Int), ((0 : Int), ByteArray.empty))).2.2)))) (Int.toNat (IntKind.wrap .i64 (n_20 + (((List.length (List.take ((List.length out_31) - (Int.toNat n_20)) (List.map (fun b => (UInt8.toNat b : Int)) (Array.toList (ByteArray.data (ByteArray.extract s_3 (Int.toNat (List.getD d_2 (Int.toNat t_21) ((0 : Int), ((0 : Int), ByteArray.empty))).1) (Int.toNat (List.getD d_2 (Int.toNat t_21) ((0 : Int), ((0 : Int), ByteArray.empty))).2.1))))))) : Nat) : Int))))))], 4⟩ [] (by kernel_rfl) rfl rfl ap0 ?_
        refine VL_nil ?_
        exact V_roundEnd ((putAt (putAt out_31 (List.take ((List.length out_31) - (Int.toNat n_20)) (List.map (fun b => (UInt8.toNat b : Int)) (Array.toList (ByteArray.data (ByteArray.extract s_3 (Int.toNat (List.getD d_2 (Int.toNat t_21) ((0 : Int), ((0 : Int), ByteArray.empty))).1) (Int.toNat (List.getD d_2 (Int.toNat t_21) ((0 : Int), ((0 : Int), ByteArray.empty))).2.1)))))) (Int.toNat n_20)) (List.take ((List.length (putAt out_31 (List.take ((List.length out_31) - (Int.toNat n_20)) (List.map (fun b => (UInt8.toNat b : Int)) (Array.toList (ByteArray.data (ByteArray.extract s_3 (Int.toNat (List.getD d_2 (Int.toNat t_21) ((0 : Int), ((0 : Int), ByteArray.empty))).1) (Int.toNat (List.getD d_2 (Int.toNat t_21) ((0 : Int), ((0 : Int), ByteArray.empty))).2.1)))))) (Int.toNat n_20))) - (Int.toNat (IntKind.wrap .i64 (n_20 + (((List.length (List.take ((List.length out_31) - (Int.toNat n_20)) (List.map (fun b => (UInt8.toNat b : Int)) (Array.toList (ByteArray.data (ByteArray.extract s_3 (Int.toNat (List.getD d_2 (Int.toNat t_21) ((0 : Int), ((0 : Int), ByteArray.empty))).1) (Int.toNat (List.getD d_2 (Int.toNat t_21) ((0 : Int), ((0 : Int), ByteArray.empty))).2.1))))))) : Nat) : Int))))) (List.map (fun b => (UInt8.toNat b : Int)) (Array.toList (ByteArray.data (List.getD d_2 (Int.toNat t_21) ((0 : Int), ((0 : Int), ByteArray.empty))).2.2)))) (Int.toNat (IntKind.wrap .i64 (n_20 + (((List.length (List.take ((List.length out_31) - (Int.toNat n_20)) (List.map (fun b => (UInt8.toNat b : Int)) (Array.toList (ByteArray.data (ByteArray.extract s_3 (Int.toNat (List.getD d_2 (Int.toNat t_21) ((0 : Int), ((0 : Int), ByteArray.empty))).1) (Int.toNat (List.getD d_2 (Int.toNat t_21) ((0 : Int), ((0 : Int), ByteArray.empty))).2.1))))))) : Nat) : Int))))), (IntKind.wrap .i64 ((IntKind.wrap .i64 (n_20 + (((List.length (List.take ((List.length out_31) - (Int.toNat n_20)) (List.map (fun b => (UInt8.toNat b : Int)) (Array.toList (ByteArray.data (ByteArray.extract s_3 (Int.toNat (List.getD d_2 (Int.toNat t_21) ((0 : Int), ((0 : Int), ByteArray.empty))).1) (Int.toNat (List.getD d_2 (Int.toNat t_21) ((0 : Int), ((0 : Int), ByteArray.empty))).2.1))))))) : Nat) : Int))) + (((List.length (List.take ((List.length (putAt out_31 (List.take ((List.length out_31) - (Int.toNat n_20)) (List.map (fun b => (UInt8.toNat b : Int)) (Array.toList (ByteArray.data (ByteArray.extract s_3 (Int.toNat (List.getD d_2 (Int.toNat t_21) ((0 : Int), ((0 : Int), ByteArray.empty))).1) (Int.toNat (List.getD d_2 (Int.toNat t_21) ((0 : Int), ((0 : Int), ByteArray.empty))).2.1)))))) (Int.toNat n_20))) - (Int.toNat (IntKind.wrap .i64 (n_20 + (((List.length (List.take ((List.length out_31) - (Int.toNat n_20)) (List.map (fun b => (UInt8.toNat b : Int)) (Array.toList (ByteArray.data (ByteArray.extract s_3 (Int.toNat (List.getD d_2 (Int.toNat t_21) ((0 : Int), ((0 : Int), ByteArray.empty))).1) (Int.toNat (List.getD d_2 (Int.toNat t_21) ((0 : Int), ((0 : Int), ByteArray.empty))).2.1))))))) : Nat) : Int))))) (List.map (fun b => (UInt8.toNat b : Int)) (Array.toList (ByteArray.data (List.getD d_2 (Int.toNat t_21) ((0 : Int), ((0 : Int), ByteArray.empty))).2.2))))) : Nat) : Int))), (IntKind.wrap .i64 (t_21 + (1 : Int)))) H_58 [(1, 1)] hn (by kernel_rfl) (by kernel_rfl) rfl rfl rfl
      · intro b_34; have H_55 := of_f H_53 b_34
        refine VL_exit ?_
        refine QL_exit ?_
        refine QB_here ?_
        refine V_run hN hn 2 3 [4, 5] [] ⟨[(4, .c (.val (.string (ofBytes out_31)))), (5, .c (.val (.int .i64 (0 : Int))))], [], 3⟩ [] (by kernel_rfl) rfl rfl ap0 ?_
        have H_59 := Option.some.inj (show some ((ofBytes out_31), (0 : Int)) = some r from H_55); subst H_59
        refine VL_ret ?_
        exact P_to [(4, .c (.val (.string (ofBytes out_31)))), (5, .c (.val (.int .i64 (0 : Int))))] [] [] hn (by kernel_rfl) (by kernel_rfl) rfl rfl rfl (QF_retS (by kernel_rfl) (by kernel_rfl) rfl)

theorem delta_Keep_spec (K : Nat) (base_1 : Int) (r : (Int × (List (Int × (Int × ByteArray))))) (H : delta_Keep K base_1 = some r) : Spec Try.prog 25 0 [.c (.val (.int .i64 base_1))] [] (.agg [.val (.int .i64 r.1), .h 2]) [(2, .row (.pair (.int .i64) (.pair (.int .i64) .str)) r.2)] := by
  refine Spec_mk (fn := Try.f25) (c := (Try.f25.body).get!) Try.func25 (by kernel_rfl) rfl ?_
  intro C hN hn
  replace hN : C.N = 19 := hN
  unfold delta_Keep at H
  refine V_run hN hn 3 0 [0, 2] [0] ⟨[(0, .c (.val (.int .i64 base_1))), (2, .c (.h 0))], [(0, .box [.val (.int .i64 (0 : Int)), .val (.slice none 0 0)])], 1⟩ [] (by kernel_rfl) rfl rfl ap0 ?_
  obtain ⟨r_3, h_4, H_13⟩ := of_bind H
  refine V_reg hN hn [(3, ⟨31, 0, [.c (.val (.int .i64 (mn2 (mx2 base_1 (0 : Int)) (20000 : Int))))], [], .c (.h 0), [(0, .box [.val (.int .i64 (mn2 (mx2 base_1 (0 : Int)) (20000 : Int))), .val (.slice none 0 0)])], [(0, 1)], 2⟩)] [] (calls_cons (delta_NewMaker_spec K (mn2 (mx2 base_1 (0 : Int)) (20000 : Int)) r_3 h_4) (by kernel_rfl) calls_nil) 1 [2, 3] [0, 1] ⟨[(2, .c (.h 0)), (3, .c (.h 1))], [(0, .box [.val (.int .i64 (0 : Int)), .val (.slice none 0 0)]), (1, .box [.val (.int .i64 (mn2 (mx2 base_1 (0 : Int)) (20000 : Int))), .val (.slice none 0 0)])], 2⟩ [] (by kernel_rfl) rfl rfl ap0 (by kernel_rfl) (by kernel_rfl) ?_
  refine V_run hN hn 1 2 [2, 3] [0, 1] ⟨[(2, .c (.h 0)), (3, .c (.h 1))], [(0, .box [.val (.int .i64 (0 : Int)), .val (.slice none 0 0)]), (1, .box [.val (.int .i64 (mn2 (mx2 base_1 (0 : Int)) (20000 : Int))), .val (.slice none 0 0)])], 2⟩ [] (by kernel_rfl) rfl rfl ap0 ?_
  obtain ⟨r_7, h_8, H_14⟩ := of_bind H_13
  refine V_reg hN hn [(6, ⟨37, 1, [.c (.h 0), .c (.val (.int .i64 (0 : Int))), .c (.val (.int .i64 (mn2 (mx2 base_1 (0 : Int)) (20000 : Int))))], [(0, .box [.val (.int .i64 (mn2 (mx2 base_1 (0 : Int)) (20000 : Int))), .val (.slice none 0 0)])], .tup [], [(0, .box [.val (.int .i64 (mn2 (mx2 base_1 (0 : Int)) (20000 : Int))), .h 3]), (3, .row (.pair (.int .i64) (.pair (.int .i64) .str)) r_7)], [(0, 1), (3, 2)], 3⟩)] [] (calls_cons (delta_Maker_Copy_bgg_48161_spec K (mn2 (mx2 base_1 (0 : Int)) (20000 : Int)) (0 : Int) (mn2 (mx2 base_1 (0 : Int)) (20000 : Int)) r_7 h_8) (by kernel_rfl) calls_nil) 2 [2, 3] [0, 1, 2] ⟨[(2, .c (.h 0)), (3, .c (.h 1))], [(0, .box [.val (.int .i64 (0 : Int)), .val (.slice none 0 0)]), (1, .box [.val (.int .i64 (mn2 (mx2 base_1 (0 : Int)) (20000 : Int))), .h 2]), (2, .row (.pair (.int .i64) (.pair (.int .i64) .str)) r_7)], 3⟩ [] (by kernel_rfl) rfl rfl ap0 (by kernel_rfl) (by kernel_rfl) ?_
  refine V_run hN hn 2 3 [2] [0, 2] ⟨[(2, .c (.h 0))], [(0, .box [.val (.int .i64 (mn2 (mx2 base_1 (0 : Int)) (20000 : Int))), .h 2]), (2, .row (.pair (.int .i64) (.pair (.int .i64) .str)) r_7)], 3⟩ [] (by kernel_rfl) rfl rfl ap0 ?_
  have H_15 := Option.some.inj (show some ((mn2 (mx2 base_1 (0 : Int)) (20000 : Int)), r_7) = some r from H_14); subst H_15
  refine VL_ret ?_
  exact P_to [(2, .c (.h 0))] [(0, .box [.val (.int .i64 (mn2 (mx2 base_1 (0 : Int)) (20000 : Int))), .h 2]), (2, .row (.pair (.int .i64) (.pair (.int .i64) .str)) r_7)] [(0, 0), (2, 2)] hn (by kernel_rfl) (by kernel_rfl) rfl rfl rfl (QF_retS (by kernel_rfl) (by kernel_rfl) rfl)

theorem slices_Equal_gr_spec (K : Nat) (s1_1 : (List (Int × (Int × ByteArray)))) (s2_2 : (List (Int × (Int × ByteArray)))) (r : Bool) (H : slices_Equal_gr K s1_1 s2_2 = some r) : Spec Try.prog 41 1 [.c (.imm (.slice (.pair (.int .i64) (.pair (.int .i64) .str))) s1_1), .c (.h 0)] [(0, .row (.pair (.int .i64) (.pair (.int .i64) .str)) s2_2)] (.c (.val (.bool r))) [(0, .row (.pair (.int .i64) (.pair (.int .i64) .str)) s2_2)] := by
  refine Spec_mk (fn := Try.f41) (c := (Try.f41.body).get!) Try.func41 (by kernel_rfl) rfl ?_
  intro C hN hn
  replace hN : C.N = 26 := hN
  unfold slices_Equal_gr at H
  refine V_run hN hn 5 1 [0, 1, 10] [0] ⟨[(0, .c (.imm (.slice (.pair (.int .i64) (.pair (.int .i64) .str))) s1_1)), (1, .c (.h 0)), (10, .c (.val (.bool ((((List.length s1_1) : Nat) : Int) != (((List.length s2_2) : Nat) : Int)))))], [(0, .row (.pair (.int .i64) (.pair (.int .i64) .str)) s2_2)], 1⟩ [] (by kernel_rfl) rfl rfl ap0 ?_
  refine VL_cond (((((List.length s1_1) : Nat) : Int) != (((List.length s2_2) : Nat) : Int))) (by kernel_rfl) ?_ ?_
  · intro b_4; have H_20 := of_t H b_4
    refine V_run hN hn 2 1 [4] [0] ⟨[(4, .c (.val (.bool false)))], [(0, .row (.pair (.int .i64) (.pair (.int .i64) .str)) s2_2)], 1⟩ [] (by kernel_rfl) rfl rfl ap0 ?_
    have H_22 := Option.some.inj (show some false = some r from H_20); subst H_22
    refine VL_ret ?_
    exact P_to [(4, .c (.val (.bool false)))] [(0, .row (.pair (.int .i64) (.pair (.int .i64) .str)) s2_2)] [] hn (by kernel_rfl) (by kernel_rfl) rfl rfl rfl (QF_retS (by kernel_rfl) (by kernel_rfl) rfl)
  · intro b_4; have H_21 := of_f H b_4
    refine V_run hN hn 4 1 [0, 1, 12, 13] [0] ⟨[(0, .c (.imm (.slice (.pair (.int .i64) (.pair (.int .i64) .str))) s1_1)), (1, .c (.h 0)), (12, .c (.val (.int .i64 (((List.length s1_1) : Nat) : Int)))), (13, .c (.val (.int .i64 (0 : Int))))], [(0, .row (.pair (.int .i64) (.pair (.int .i64) .str)) s2_2)], 1⟩ [] (by kernel_rfl) rfl rfl ap0 ?_
    refine VL_block ?_
    refine V_to [(0, .c (.imm (.slice (.pair (.int .i64) (.pair (.int .i64) .str))) s1_1)), (1, .c (.h 0)), (12, .c (.val (.int .i64 (((List.length s1_1) : Nat) : Int)))), (13, .c (.val (.int .i64 (0 : Int))))] [(0, .row (.pair (.int .i64) (.pair (.int .i64) .str)) s2_2)] [] hn (by kernel_rfl) (by kernel_rfl) rfl rfl rfl ?_
    refine VL_loop (X := Int) (fun x => [(0, .c (.imm (.slice (.pair (.int .i64) (.pair (.int .i64) .str))) s1_1)), (1, .c (.h 0)), (12, .c (.val (.int .i64 (((List.length s1_1) : Nat) : Int)))), (13, .c (.val (.int .i64 x)))]) (fun x => [(0, .row (.pair (.int .i64) (.pair (.int .i64) .str)) s2_2)]) (fun k x => slices_Equal_gr.l0 K s1_1 s2_2 k x = some r) K (0 : Int) H_21 (fun _ h => no_none h) ?_
    intro k_8 t_7 H_23
    have H_24 : slices_Equal_gr.l0 K s1_1 s2_2 (k_8 + 1) t_7 = some r := H_23
    rw [slices_Equal_gr.l0] at H_24
    refine V_run hN hn 3 1 [0, 1, 12, 13, 14] [0] ⟨[(0, .c (.imm (.slice (.pair (.int .i64) (.pair (.int .i64) .str))) s1_1)), (1, .c (.h 0)), (12, .c (.val (.int .i64 (((List.length s1_1) : Nat) : Int)))), (13, .c (.val (.int .i64 t_7))), (14, .c (.val (.bool (decide (t_7 < (((List.length s1_1) : Nat) : Int))))))], [(0, .row (.pair (.int .i64) (.pair (.int .i64) .str)) s2_2)], 1⟩ [] (by kernel_rfl) rfl rfl ap0 ?_
    refine VL_cond ((decide (t_7 < (((List.length s1_1) : Nat) : Int)))) (by kernel_rfl) ?_ ?_
    · intro b_10; have H_25 := of_t H_24 b_10
      refine V_run hN hn 2 1 [0, 1, 12, 13, 14] [0] ⟨[(0, .c (.imm (.slice (.pair (.int .i64) (.pair (.int .i64) .str))) s1_1)), (1, .c (.h 0)), (12, .c (.val (.int .i64 (((List.length s1_1) : Nat) : Int)))), (13, .c (.val (.int .i64 t_7))), (14, .c (.val (.bool (decide (t_7 < (((List.length s1_1) : Nat) : Int))))))], [(0, .row (.pair (.int .i64) (.pair (.int .i64) .str)) s2_2)], 1⟩ [] (by kernel_rfl) rfl rfl ap0 ?_
      refine VL_block ?_
      refine V_run hN hn 3 1 [0, 1, 5, 12, 13] [0] ⟨[(0, .c (.imm (.slice (.pair (.int .i64) (.pair (.int .i64) .str))) s1_1)), (1, .c (.h 0)), (5, .c (.val (.int .i64 t_7))), (12, .c (.val (.int .i64 (((List.length s1_1) : Nat) : Int)))), (13, .c (.val (.int .i64 t_7)))], [(0, .row (.pair (.int .i64) (.pair (.int .i64) .str)) s2_2)], 1⟩ [] (by kernel_rfl) rfl rfl ap0 ?_
      obtain ⟨c_13, H_27⟩ := of_if H_25
      refine V_draw hN hn (by kernel_rfl) [] [] calls_nil 1 [0, 1, 12, 13, 24] [0] ⟨[(0, .c (.imm (.slice (.pair (.int .i64) (.pair (.int .i64) .str))) s1_1)), (1, .c (.h 0)), (12, .c (.val (.int .i64 (((List.length s1_1) : Nat) : Int)))), (13, .c (.val (.int .i64 t_7))), (24, .c (.val (.bool (!(((List.getD s1_1 (Int.toNat t_7) ((0 : Int), ((0 : Int), ByteArray.empty))).1 == (List.getD s2_2 (Int.toNat t_7) ((0 : Int), ((0 : Int), ByteArray.empty))).1) && (((List.getD s1_1 (Int.toNat t_7) ((0 : Int), ((0 : Int), ByteArray.empty))).2.1 == (List.getD s2_2 (Int.toNat t_7) ((0 : Int), ((0 : Int), ByteArray.empty))).2.1) && (ByteArray.toList (List.getD s1_1 (Int.toNat t_7) ((0 : Int), ((0 : Int), ByteArray.empty))).2.2 == ByteArray.toList (List.getD s2_2 (Int.toNat t_7) ((0 : Int), ((0 : Int), ByteArray.empty))).2.2)))))))], [(0, .row (.pair (.int .i64) (.pair (.int .i64) .str)) s2_2)], 1⟩ [0 ≤ t_7, t_7 < (((List.length s1_1) : Nat) : Int), 0 ≤ t_7, t_7 < (((List.length s2_2) : Nat) : Int)] (by kernel_rfl) rfl rfl (ap2 c_13.1 (ap2 c_13.2.1 (ap2 c_13.1 (ap1 c_13.2.2)))) (by kernel_rfl) (by kernel_rfl) ?_
      refine VL_cond ((!(((List.getD s1_1 (Int.toNat t_7) ((0 : Int), ((0 : Int), ByteArray.empty))).1 == (List.getD s2_2 (Int.toNat t_7) ((0 : Int), ((0 : Int), ByteArray.empty))).1) && (((List.getD s1_1 (Int.toNat t_7) ((0 : Int), ((0 : Int), ByteArray.empty))).2.1 == (List.getD s2_2 (Int.toNat t_7) ((0 : Int), ((0 : Int), ByteArray.empty))).2.1) && (ByteArray.toList (List.getD s1_1 (Int.toNat t_7) ((0 : Int), ((0 : Int), ByteArray.empty))).2.2 == ByteArray.toList (List.getD s2_2 (Int.toNat t_7) ((0 : Int), ((0 : Int), ByteArray.empty))).2.2))))) (by kernel_rfl) ?_ ?_
      · intro b_14; have H_28 := of_t H_27 b_14
        refine V_run hN hn 2 1 [4] [0] ⟨[(4, .c (.val (.bool false)))], [(0, .row (.pair (.int .i64) (.pair (.int .i64) .str)) s2_2)], 1⟩ [] (by kernel_rfl) rfl rfl ap0 ?_
        have H_30 := Option.some.inj (show some false = some r from H_28); subst H_30
        refine VL_ret ?_
        refine QB_ret ?_
        refine QL_ret ?_
        refine QB_ret ?_
        exact P_to [(4, .c (.val (.bool false)))] [(0, .row (.pair (.int .i64) (.pair (.int .i64) .str)) s2_2)] [] hn (by kernel_rfl) (by kernel_rfl) rfl rfl rfl (QF_retS (by kernel_rfl) (by kernel_rfl) rfl)
      · intro b_14; have H_29 := of_f H_27 b_14
        refine V_run hN hn 1 1 [0, 1, 12, 13, 24] [0] ⟨[(0, .c (.imm (.slice (.pair (.int .i64) (.pair (.int .i64) .str))) s1_1)), (1, .c (.h 0)), (12, .c (.val (.int .i64 (((List.length s1_1) : Nat) : Int)))), (13, .c (.val (.int .i64 t_7))), (24, .c (.val (.bool (!(((List.getD s1_1 (Int.toNat t_7) ((0 : Int), ((0 : Int), ByteArray.empty))).1 == (List.getD s2_2 (Int.toNat t_7) ((0 : Int), ((0 : Int), ByteArray.empty))).1) && (((List.getD s1_1 (Int.toNat t_7) ((0 : Int), ((0 : Int), ByteArray.empty))).2.1 == (List.getD s2_2 (Int.toNat t_7) ((0 : Int), ((0 : Int), ByteArray.empty))).2.1) && (ByteArray.toList (List.getD s1_1 (Int.toNat t_7) ((0 : Int), ((0 : Int), ByteArray.empty))).2.2 == ByteArray.toList (List.getD s2_2 (Int.toNat t_7) ((0 : Int), ((0 : Int), ByteArray.empty))).2.2)))))))], [(0, .row (.pair (.int .i64) (.pair (.int .i64) .str)) s2_2)], 1⟩ [] (by kernel_rfl) rfl rfl ap0 ?_
        refine VL_nil (QB_end ?_)
        refine V_run hN hn 1 1 [0, 1, 12, 13] [0] ⟨[(0, .c (.imm (.slice (.pair (.int .i64) (.pair (.int .i64) .str))) s1_1)), (1, .c (.h 0)), (12, .c (.val (.int .i64 (((List.length s1_1) : Nat) : Int)))), (13, .c (.val (.int .i64 (IntKind.wrap .i64 (t_7 + (1 : Int))))))], [(0, .row (.pair (.int .i64) (.pair (.int .i64) .str)) s2_2)], 1⟩ [] (by kernel_rfl) rfl rfl ap0 ?_
        refine VL_nil ?_
        exact V_roundEnd (IntKind.wrap .i64 (t_7 + (1 : Int))) H_29 [] hn (by kernel_rfl) (by kernel_rfl) rfl rfl rfl
    · intro b_10; have H_26 := of_f H_24 b_10
      refine VL_exit ?_
      refine QL_exit ?_
      refine QB_here ?_
      refine V_run hN hn 2 1 [4] [0] ⟨[(4, .c (.val (.bool true)))], [(0, .row (.pair (.int .i64) (.pair (.int .i64) .str)) s2_2)], 1⟩ [] (by kernel_rfl) rfl rfl ap0 ?_
      have H_31 := Option.some.inj (show some true = some r from H_26); subst H_31
      refine VL_ret ?_
      exact P_to [(4, .c (.val (.bool true)))] [(0, .row (.pair (.int .i64) (.pair (.int .i64) .str)) s2_2)] [] hn (by kernel_rfl) (by kernel_rfl) rfl rfl rfl (QF_retS (by kernel_rfl) (by kernel_rfl) rfl)

theorem delta_Same_sggsgr_spec (K : Nat) (a_1 : Int) (a_2 : (List (Int × (Int × ByteArray)))) (b_3 : Int) (b_4 : (List (Int × (Int × ByteArray)))) (r : Bool) (H : delta_Same_sggsgr K a_1 a_2 b_3 b_4 = some r) : Spec Try.prog 24 1 [.agg [.val (.int .i64 a_1), .imm (.slice (.pair (.int .i64) (.pair (.int .i64) .str))) a_2], .agg [.val (.int .i64 b_3), .h 0]] [(0, .row (.pair (.int .i64) (.pair (.int .i64) .str)) b_4)] (.c (.val (.bool r))) [(0, .row (.pair (.int .i64) (.pair (.int .i64) .str)) b_4)] := by
  refine Spec_mk (fn := Try.f24) (c := (Try.f24.body).get!) Try.func24 (by kernel_rfl) rfl ?_
  intro C hN hn
  replace hN : C.N = 17 := hN
  unfold delta_Same_sggsgr at H
  refine V_run hN hn 3 1 [2, 3] [0, 1, 2] ⟨[(2, .c (.h 1)), (3, .c (.h 2))], [(0, .row (.pair (.int .i64) (.pair (.int .i64) .str)) b_4), (1, .box [.val (.int .i64 a_1), .imm (.slice (.pair (.int .i64) (.pair (.int .i64) .str))) a_2]), (2, .box [.val (.int .i64 b_3), .h 0])], 3⟩ [] (by kernel_rfl) rfl rfl ap0 ?_
  rcases Bool.eq_false_or_eq_true ((a_1 == b_3)) with b_6 | b_6
  · have H_12 := of_t H b_6
    obtain ⟨r_7, h_8, H_14⟩ := of_bind H_12
    refine V_reg hN hn [(10, ⟨41, 1, [.c (.imm (.slice (.pair (.int .i64) (.pair (.int .i64) .str))) a_2), .c (.h 0)], [(0, .row (.pair (.int .i64) (.pair (.int .i64) .str)) b_4)], .c (.val (.bool r_7)), [(0, .row (.pair (.int .i64) (.pair (.int .i64) .str)) b_4)], [(0, 0)], 3⟩)] [(10, true)] (calls_cons (slices_Equal_gr_spec K a_2 b_4 r_7 h_8) (by kernel_rfl) calls_nil) 3 [4] [0] ⟨[(4, .c (.val (.bool r_7)))], [(0, .row (.pair (.int .i64) (.pair (.int .i64) .str)) b_4)], 3⟩ [(a_1 == b_3) = true] (by kernel_rfl) rfl rfl (ap1 b_6) (by kernel_rfl) (by kernel_rfl) ?_
    have H_15 := Option.some.inj (show some r_7 = some r from H_14); subst H_15
    refine VL_ret ?_
    exact P_to [(4, .c (.val (.bool r_7)))] [(0, .row (.pair (.int .i64) (.pair (.int .i64) .str)) b_4)] [] hn (by kernel_rfl) (by kernel_rfl) rfl rfl rfl (QF_retS (by kernel_rfl) (by kernel_rfl) rfl)
  · have H_13 := of_f H b_6
    refine V_reg hN hn [] [(10, false)] calls_nil 3 [4] [0] ⟨[(4, .c (.val (.bool false)))], [(0, .row (.pair (.int .i64) (.pair (.int .i64) .str)) b_4)], 3⟩ [(a_1 == b_3) = false] (by kernel_rfl) rfl rfl (ap1 b_6) (by kernel_rfl) (by kernel_rfl) ?_
    have H_16 := Option.some.inj (show some false = some r from H_13); subst H_16
    refine VL_ret ?_
    exact P_to [(4, .c (.val (.bool false)))] [(0, .row (.pair (.int .i64) (.pair (.int .i64) .str)) b_4)] [] hn (by kernel_rfl) (by kernel_rfl) rfl rfl rfl (QF_retS (by kernel_rfl) (by kernel_rfl) rfl)

theorem palinodelaw13_known_spec (K : Nat) (r : Bool) (H : palinodelaw13_known K  = some r) : Spec Try.prog 9 0 [] [] (.c (.val (.bool r))) [] := by
  refine Spec_mk (fn := Try.f9) (c := (Try.f9.body).get!) Try.func9 (by kernel_rfl) rfl ?_
  intro C hN hn
  replace hN : C.N = 78 := hN
  unfold palinodelaw13_known at H
  refine V_run hN hn 3 0 [] [] ⟨[], [], 0⟩ [] (by kernel_rfl) rfl rfl ap0 ?_
  obtain ⟨r_2, h_3, H_46⟩ := of_bind H
  refine V_reg hN hn [(2, ⟨21, 1, [.c (.val (.int .i64 (2 : Int))), .c (.h 0)], [(0, .row (.pair (.int .i64) (.pair (.int .i64) .str)) ([((1 : Int), ((1 : Int), (ByteArray.mk #[120])))] : List (Int × (Int × ByteArray))))], .tup [(true, [.val (.int .i64 r_2.1), .imm (.slice (.pair (.int .i64) (.pair (.int .i64) .str))) r_2.2.1]), (false, [.val (.int .i64 r_2.2.2)])], [(0, .row (.pair (.int .i64) (.pair (.int .i64) .str)) ([((1 : Int), ((1 : Int), (ByteArray.mk #[120])))] : List (Int × (Int × ByteArray))))], [(0, 0)], 1⟩)] [] (calls_cons (delta_Build_gr_spec K (2 : Int) ([((1 : Int), ((1 : Int), (ByteArray.mk #[120])))] : List (Int × (Int × ByteArray))) r_2 h_3) (by kernel_rfl) calls_nil) 0 [1, 2] [1] ⟨[(1, .c (.h 1)), (2, .c (.val (.int .i64 r_2.2.2)))], [(1, .box [.val (.int .i64 r_2.1), .imm (.slice (.pair (.int .i64) (.pair (.int .i64) .str))) r_2.2.1])], 2⟩ [] (by kernel_rfl) rfl rfl ap0 (by kernel_rfl) (by kernel_rfl) ?_
  refine V_run hN hn 1 2 [1, 2] [1] ⟨[(1, .c (.h 1)), (2, .c (.val (.int .i64 r_2.2.2)))], [(1, .box [.val (.int .i64 r_2.1), .imm (.slice (.pair (.int .i64) (.pair (.int .i64) .str))) r_2.2.1])], 2⟩ [] (by kernel_rfl) rfl rfl ap0 ?_
  obtain ⟨r_6, h_7, H_47⟩ := of_bind H_46
  refine V_reg hN hn [(2, ⟨21, 1, [.c (.val (.int .i64 (3 : Int))), .c (.h 0)], [(0, .row (.pair (.int .i64) (.pair (.int .i64) .str)) ([((1 : Int), ((2 : Int), ByteArray.empty))] : List (Int × (Int × ByteArray))))], .tup [(true, [.val (.int .i64 r_6.1), .imm (.slice (.pair (.int .i64) (.pair (.int .i64) .str))) r_6.2.1]), (false, [.val (.int .i64 r_6.2.2)])], [(0, .row (.pair (.int .i64) (.pair (.int .i64) .str)) ([((1 : Int), ((2 : Int), ByteArray.empty))] : List (Int × (Int × ByteArray))))], [(0, 2)], 3⟩)] [] (calls_cons (delta_Build_gr_spec K (3 : Int) ([((1 : Int), ((2 : Int), ByteArray.empty))] : List (Int × (Int × ByteArray))) r_6 h_7) (by kernel_rfl) calls_nil) 2 [1, 2, 3, 4] [1, 3] ⟨[(1, .c (.h 1)), (2, .c (.val (.int .i64 r_2.2.2))), (3, .c (.h 3)), (4, .c (.val (.int .i64 r_6.2.2)))], [(1, .box [.val (.int .i64 r_2.1), .imm (.slice (.pair (.int .i64) (.pair (.int .i64) .str))) r_2.2.1]), (3, .box [.val (.int .i64 r_6.1), .imm (.slice (.pair (.int .i64) (.pair (.int .i64) .str))) r_6.2.1])], 4⟩ [] (by kernel_rfl) rfl rfl ap0 (by kernel_rfl) (by kernel_rfl) ?_
  refine V_run hN hn 1 4 [1, 2, 3, 4] [1, 3] ⟨[(1, .c (.h 1)), (2, .c (.val (.int .i64 r_2.2.2))), (3, .c (.h 3)), (4, .c (.val (.int .i64 r_6.2.2)))], [(1, .box [.val (.int .i64 r_2.1), .imm (.slice (.pair (.int .i64) (.pair (.int .i64) .str))) r_2.2.1]), (3, .box [.val (.int .i64 r_6.1), .imm (.slice (.pair (.int .i64) (.pair (.int .i64) .str))) r_6.2.1])], 4⟩ [] (by kernel_rfl) rfl rfl ap0 ?_
  obtain ⟨r_10, h_11, H_48⟩ := of_bind H_47
  refine V_reg hN hn [(2, ⟨11, 0, [.agg [.val (.int .i64 r_2.1), .imm (.slice (.pair (.int .i64) (.pair (.int .i64) .str))) r_2.2.1], .agg [.val (.int .i64 r_6.1), .imm (.slice (.pair (.int .i64) (.pair (.int .i64) .str))) r_6.2.1]], [], .tup [(true, [.val (.int .i64 r_10.1), .imm (.slice (.pair (.int .i64) (.pair (.int .i64) .str))) r_10.2.1]), (false, [.val (.int .i64 r_10.2.2)])], [], [], 4⟩)] [] (calls_cons (compose_Two_spec K r_2.1 r_2.2.1 r_6.1 r_6.2.1 r_10 h_11) (by kernel_rfl) calls_nil) 4 [2, 3, 4, 5, 6] [3, 4] ⟨[(2, .c (.val (.int .i64 r_2.2.2))), (3, .c (.h 3)), (4, .c (.val (.int .i64 r_6.2.2))), (5, .c (.h 4)), (6, .c (.val (.int .i64 r_10.2.2)))], [(3, .box [.val (.int .i64 r_6.1), .imm (.slice (.pair (.int .i64) (.pair (.int .i64) .str))) r_6.2.1]), (4, .box [.val (.int .i64 r_10.1), .imm (.slice (.pair (.int .i64) (.pair (.int .i64) .str))) r_10.2.1])], 5⟩ [] (by kernel_rfl) rfl rfl ap0 (by kernel_rfl) (by kernel_rfl) ?_
  refine V_run hN hn 1 5 [2, 3, 4, 5, 6] [3, 4] ⟨[(2, .c (.val (.int .i64 r_2.2.2))), (3, .c (.h 3)), (4, .c (.val (.int .i64 r_6.2.2))), (5, .c (.h 4)), (6, .c (.val (.int .i64 r_10.2.2)))], [(3, .box [.val (.int .i64 r_6.1), .imm (.slice (.pair (.int .i64) (.pair (.int .i64) .str))) r_6.2.1]), (4, .box [.val (.int .i64 r_10.1), .imm (.slice (.pair (.int .i64) (.pair (.int .i64) .str))) r_10.2.1])], 5⟩ [] (by kernel_rfl) rfl rfl ap0 ?_
  obtain ⟨r_14, h_15, H_49⟩ := of_bind H_48
  refine V_reg hN hn [(2, ⟨11, 0, [.agg [.val (.int .i64 r_6.1), .imm (.slice (.pair (.int .i64) (.pair (.int .i64) .str))) r_6.2.1], .agg [.val (.int .i64 r_6.1), .imm (.slice (.pair (.int .i64) (.pair (.int .i64) .str))) r_6.2.1]], [], .tup [(true, [.val (.int .i64 r_14.1), .imm (.slice (.pair (.int .i64) (.pair (.int .i64) .str))) r_14.2.1]), (false, [.val (.int .i64 r_14.2.2)])], [], [], 5⟩)] [] (calls_cons (compose_Two_spec K r_6.1 r_6.2.1 r_6.1 r_6.2.1 r_14 h_15) (by kernel_rfl) calls_nil) 5 [2, 3, 4, 5, 6, 8] [3, 4] ⟨[(2, .c (.val (.int .i64 r_2.2.2))), (3, .c (.h 3)), (4, .c (.val (.int .i64 r_6.2.2))), (5, .c (.h 4)), (6, .c (.val (.int .i64 r_10.2.2))), (8, .c (.val (.int .i64 r_14.2.2)))], [(3, .box [.val (.int .i64 r_6.1), .imm (.slice (.pair (.int .i64) (.pair (.int .i64) .str))) r_6.2.1]), (4, .box [.val (.int .i64 r_10.1), .imm (.slice (.pair (.int .i64) (.pair (.int .i64) .str))) r_10.2.1])], 6⟩ [] (by kernel_rfl) rfl rfl ap0 (by kernel_rfl) (by kernel_rfl) ?_
  refine V_run hN hn 1 6 [2, 3, 4, 5, 6, 8] [3, 4] ⟨[(2, .c (.val (.int .i64 r_2.2.2))), (3, .c (.h 3)), (4, .c (.val (.int .i64 r_6.2.2))), (5, .c (.h 4)), (6, .c (.val (.int .i64 r_10.2.2))), (8, .c (.val (.int .i64 r_14.2.2)))], [(3, .box [.val (.int .i64 r_6.1), .imm (.slice (.pair (.int .i64) (.pair (.int .i64) .str))) r_6.2.1]), (4, .box [.val (.int .i64 r_10.1), .imm (.slice (.pair (.int .i64) (.pair (.int .i64) .str))) r_10.2.1])], 6⟩ [] (by kernel_rfl) rfl rfl ap0 ?_
  obtain ⟨r_18, h_19, H_50⟩ := of_bind H_49
  refine V_reg hN hn [(1, ⟨17, 0, [.agg [.val (.int .i64 r_6.1), .imm (.slice (.pair (.int .i64) (.pair (.int .i64) .str))) r_6.2.1], .c (.val (.string (ByteArray.mk #[97, 98, 99])))], [], .tup [(true, [.val (.int .i64 r_18.1), .imm (.slice (.pair (.int .i64) (.pair (.int .i64) .str))) r_18.2.1]), (false, [.val (.int .i64 r_18.2.2)])], [], [], 6⟩)] [] (calls_cons (compose_Invert_spec K r_6.1 r_6.2.1 (ByteArray.mk #[97, 98, 99]) r_18 h_19) (by kernel_rfl) calls_nil) 6 [2, 4, 5, 6, 8, 9, 10] [4, 6] ⟨[(2, .c (.val (.int .i64 r_2.2.2))), (4, .c (.val (.int .i64 r_6.2.2))), (5, .c (.h 4)), (6, .c (.val (.int .i64 r_10.2.2))), (8, .c (.val (.int .i64 r_14.2.2))), (9, .c (.h 6)), (10, .c (.val (.int .i64 r_18.2.2)))], [(4, .box [.val (.int .i64 r_10.1), .imm (.slice (.pair (.int .i64) (.pair (.int .i64) .str))) r_10.2.1]), (6, .box [.val (.int .i64 r_18.1), .imm (.slice (.pair (.int .i64) (.pair (.int .i64) .str))) r_18.2.1])], 7⟩ [] (by kernel_rfl) rfl rfl ap0 (by kernel_rfl) (by kernel_rfl) ?_
  refine V_run hN hn 1 7 [2, 4, 5, 6, 8, 9, 10] [4, 6] ⟨[(2, .c (.val (.int .i64 r_2.2.2))), (4, .c (.val (.int .i64 r_6.2.2))), (5, .c (.h 4)), (6, .c (.val (.int .i64 r_10.2.2))), (8, .c (.val (.int .i64 r_14.2.2))), (9, .c (.h 6)), (10, .c (.val (.int .i64 r_18.2.2)))], [(4, .box [.val (.int .i64 r_10.1), .imm (.slice (.pair (.int .i64) (.pair (.int .i64) .str))) r_10.2.1]), (6, .box [.val (.int .i64 r_18.1), .imm (.slice (.pair (.int .i64) (.pair (.int .i64) .str))) r_18.2.1])], 7⟩ [] (by kernel_rfl) rfl rfl ap0 ?_
  obtain ⟨r_22, h_23, H_51⟩ := of_bind H_50
  refine V_reg hN hn [(1, ⟨22, 0, [.agg [.val (.int .i64 r_18.1), .imm (.slice (.pair (.int .i64) (.pair (.int .i64) .str))) r_18.2.1], .c (.val (.string (ByteArray.mk #[97, 99])))], [], .tup [(false, [.val (.string r_22.1)]), (false, [.val (.int .i64 r_22.2)])], [], [], 7⟩)] [] (calls_cons (delta_Apply_spec K r_18.1 r_18.2.1 (ByteArray.mk #[97, 99]) r_22 h_23) (by kernel_rfl) calls_nil) 7 [2, 4, 5, 6, 8, 10, 11, 12] [4] ⟨[(2, .c (.val (.int .i64 r_2.2.2))), (4, .c (.val (.int .i64 r_6.2.2))), (5, .c (.h 4)), (6, .c (.val (.int .i64 r_10.2.2))), (8, .c (.val (.int .i64 r_14.2.2))), (10, .c (.val (.int .i64 r_18.2.2))), (11, .c (.val (.string r_22.1))), (12, .c (.val (.int .i64 r_22.2)))], [(4, .box [.val (.int .i64 r_10.1), .imm (.slice (.pair (.int .i64) (.pair (.int .i64) .str))) r_10.2.1])], 7⟩ [] (by kernel_rfl) rfl rfl ap0 (by kernel_rfl) (by kernel_rfl) ?_
  refine V_run hN hn 1 7 [2, 4, 5, 6, 8, 10, 11, 12] [4] ⟨[(2, .c (.val (.int .i64 r_2.2.2))), (4, .c (.val (.int .i64 r_6.2.2))), (5, .c (.h 4)), (6, .c (.val (.int .i64 r_10.2.2))), (8, .c (.val (.int .i64 r_14.2.2))), (10, .c (.val (.int .i64 r_18.2.2))), (11, .c (.val (.string r_22.1))), (12, .c (.val (.int .i64 r_22.2)))], [(4, .box [.val (.int .i64 r_10.1), .imm (.slice (.pair (.int .i64) (.pair (.int .i64) .str))) r_10.2.1])], 7⟩ [] (by kernel_rfl) rfl rfl ap0 ?_
  rcases Bool.eq_false_or_eq_true ((r_2.2.2 == (0 : Int))) with b_26 | b_26
  · have H_52 := of_t H_51 b_26
    rcases Bool.eq_false_or_eq_true ((r_6.2.2 == (0 : Int))) with b_27 | b_27
    · have H_54 := of_t H_52 b_27
      rcases Bool.eq_false_or_eq_true ((r_10.2.2 == (0 : Int))) with b_28 | b_28
      · have H_56 := of_t H_54 b_28
        obtain ⟨r_29, h_30, H_58⟩ := of_bind H_56
        obtain ⟨r_31, h_32, H_59⟩ := of_bind H_58
        rcases Bool.eq_false_or_eq_true (r_31) with b_33 | b_33
        · have H_60 := of_t H_59 b_33
          rcases Bool.eq_false_or_eq_true ((r_14.2.2 == (80 : Int))) with b_34 | b_34
          · have H_62 := of_t H_60 b_34
            rcases Bool.eq_false_or_eq_true ((r_18.2.2 == (0 : Int))) with b_35 | b_35
            · have H_64 := of_t H_62 b_35
              rcases Bool.eq_false_or_eq_true ((r_22.2 == (0 : Int))) with b_36 | b_36
              · have H_66 := of_t H_64 b_36
                refine V_draw hN hn (by kernel_rfl) [(12, ⟨25, 0, [.c (.val (.int .i64 (2 : Int)))], [], .agg [.val (.int .i64 r_29.1), .h 2], [(2, .row (.pair (.int .i64) (.pair (.int .i64) .str)) r_29.2)], [(2, 7)], 8⟩), (13, ⟨24, 1, [.agg [.val (.int .i64 r_10.1), .imm (.slice (.pair (.int .i64) (.pair (.int .i64) .str))) r_10.2.1], .agg [.val (.int .i64 r_29.1), .h 0]], [(0, .row (.pair (.int .i64) (.pair (.int .i64) .str)) r_29.2)], .c (.val (.bool r_31)), [(0, .row (.pair (.int .i64) (.pair (.int .i64) .str)) r_29.2)], [(0, 7)], 8⟩)] [(49, true), (53, true), (57, true), (62, true), (66, true), (70, true), (74, true)] (calls_cons (delta_Keep_spec K (2 : Int) r_29 h_30) (by kernel_rfl) (calls_cons (delta_Same_sggsgr_spec K r_10.1 r_10.2.1 r_29.1 r_29.2 r_31 h_32) (by kernel_rfl) calls_nil)) 7 [0] [] ⟨[(0, .c (.val (.bool (ByteArray.toList r_22.1 == ByteArray.toList (ByteArray.mk #[97, 98, 99])))))], [], 8⟩ [(r_2.2.2 == (0 : Int)) = true, (r_6.2.2 == (0 : Int)) = true, (r_10.2.2 == (0 : Int)) = true, r_31 = true, (r_14.2.2 == (80 : Int)) = true, (r_18.2.2 == (0 : Int)) = true, (r_22.2 == (0 : Int)) = true] (by kernel_rfl) rfl rfl (ap2 b_26 (ap2 b_27 (ap2 b_28 (ap2 b_33 (ap2 b_34 (ap2 b_35 (ap1 b_36))))))) (by kernel_rfl) (by kernel_rfl) ?_
                have H_68 := Option.some.inj (show some (ByteArray.toList r_22.1 == ByteArray.toList (ByteArray.mk #[97, 98, 99])) = some r from H_66); subst H_68
                refine VL_ret ?_
                exact P_to [(0, .c (.val (.bool (ByteArray.toList r_22.1 == ByteArray.toList (ByteArray.mk #[97, 98, 99])))))] [] [] hn (by kernel_rfl) (by kernel_rfl) rfl rfl rfl (QF_retS (by kernel_rfl) (by kernel_rfl) rfl)
              · have H_67 := of_f H_64 b_36
                refine V_draw hN hn (by kernel_rfl) [(12, ⟨25, 0, [.c (.val (.int .i64 (2 : Int)))], [], .agg [.val (.int .i64 r_29.1), .h 2], [(2, .row (.pair (.int .i64) (.pair (.int .i64) .str)) r_29.2)], [(2, 7)], 8⟩), (13, ⟨24, 1, [.agg [.val (.int .i64 r_10.1), .imm (.slice (.pair (.int .i64) (.pair (.int .i64) .str))) r_10.2.1], .agg [.val (.int .i64 r_29.1), .h 0]], [(0, .row (.pair (.int .i64) (.pair (.int .i64) .str)) r_29.2)], .c (.val (.bool r_31)), [(0, .row (.pair (.int .i64) (.pair (.int .i64) .str)) r_29.2)], [(0, 7)], 8⟩)] [(49, true), (53, true), (57, true), (62, true), (66, true), (70, true), (74, false)] (calls_cons (delta_Keep_spec K (2 : Int) r_29 h_30) (by kernel_rfl) (calls_cons (delta_Same_sggsgr_spec K r_10.1 r_10.2.1 r_29.1 r_29.2 r_31 h_32) (by kernel_rfl) calls_nil)) 7 [0] [] ⟨[(0, .c (.val (.bool false)))], [], 8⟩ [(r_2.2.2 == (0 : Int)) = true, (r_6.2.2 == (0 : Int)) = true, (r_10.2.2 == (0 : Int)) = true, r_31 = true, (r_14.2.2 == (80 : Int)) = true, (r_18.2.2 == (0 : Int)) = true, (r_22.2 == (0 : Int)) = false] (by kernel_rfl) rfl rfl (ap2 b_26 (ap2 b_27 (ap2 b_28 (ap2 b_33 (ap2 b_34 (ap2 b_35 (ap1 b_36))))))) (by kernel_rfl) (by kernel_rfl) ?_
                have H_69 := Option.some.inj (show some false = some r from H_67); subst H_69
                refine VL_ret ?_
                exact P_to [(0, .c (.val (.bool false)))] [] [] hn (by kernel_rfl) (by kernel_rfl) rfl rfl rfl (QF_retS (by kernel_rfl) (by kernel_rfl) rfl)
            · have H_65 := of_f H_62 b_35
              refine V_draw hN hn (by kernel_rfl) [(12, ⟨25, 0, [.c (.val (.int .i64 (2 : Int)))], [], .agg [.val (.int .i64 r_29.1), .h 2], [(2, .row (.pair (.int .i64) (.pair (.int .i64) .str)) r_29.2)], [(2, 7)], 8⟩), (13, ⟨24, 1, [.agg [.val (.int .i64 r_10.1), .imm (.slice (.pair (.int .i64) (.pair (.int .i64) .str))) r_10.2.1], .agg [.val (.int .i64 r_29.1), .h 0]], [(0, .row (.pair (.int .i64) (.pair (.int .i64) .str)) r_29.2)], .c (.val (.bool r_31)), [(0, .row (.pair (.int .i64) (.pair (.int .i64) .str)) r_29.2)], [(0, 7)], 8⟩)] [(49, true), (53, true), (57, true), (62, true), (66, true), (70, false)] (calls_cons (delta_Keep_spec K (2 : Int) r_29 h_30) (by kernel_rfl) (calls_cons (delta_Same_sggsgr_spec K r_10.1 r_10.2.1 r_29.1 r_29.2 r_31 h_32) (by kernel_rfl) calls_nil)) 7 [0] [] ⟨[(0, .c (.val (.bool false)))], [], 8⟩ [(r_2.2.2 == (0 : Int)) = true, (r_6.2.2 == (0 : Int)) = true, (r_10.2.2 == (0 : Int)) = true, r_31 = true, (r_14.2.2 == (80 : Int)) = true, (r_18.2.2 == (0 : Int)) = false] (by kernel_rfl) rfl rfl (ap2 b_26 (ap2 b_27 (ap2 b_28 (ap2 b_33 (ap2 b_34 (ap1 b_35)))))) (by kernel_rfl) (by kernel_rfl) ?_
              have H_70 := Option.some.inj (show some false = some r from H_65); subst H_70
              refine VL_ret ?_
              exact P_to [(0, .c (.val (.bool false)))] [] [] hn (by kernel_rfl) (by kernel_rfl) rfl rfl rfl (QF_retS (by kernel_rfl) (by kernel_rfl) rfl)
          · have H_63 := of_f H_60 b_34
            refine V_draw hN hn (by kernel_rfl) [(12, ⟨25, 0, [.c (.val (.int .i64 (2 : Int)))], [], .agg [.val (.int .i64 r_29.1), .h 2], [(2, .row (.pair (.int .i64) (.pair (.int .i64) .str)) r_29.2)], [(2, 7)], 8⟩), (13, ⟨24, 1, [.agg [.val (.int .i64 r_10.1), .imm (.slice (.pair (.int .i64) (.pair (.int .i64) .str))) r_10.2.1], .agg [.val (.int .i64 r_29.1), .h 0]], [(0, .row (.pair (.int .i64) (.pair (.int .i64) .str)) r_29.2)], .c (.val (.bool r_31)), [(0, .row (.pair (.int .i64) (.pair (.int .i64) .str)) r_29.2)], [(0, 7)], 8⟩)] [(49, true), (53, true), (57, true), (62, true), (66, false)] (calls_cons (delta_Keep_spec K (2 : Int) r_29 h_30) (by kernel_rfl) (calls_cons (delta_Same_sggsgr_spec K r_10.1 r_10.2.1 r_29.1 r_29.2 r_31 h_32) (by kernel_rfl) calls_nil)) 7 [0] [] ⟨[(0, .c (.val (.bool false)))], [], 8⟩ [(r_2.2.2 == (0 : Int)) = true, (r_6.2.2 == (0 : Int)) = true, (r_10.2.2 == (0 : Int)) = true, r_31 = true, (r_14.2.2 == (80 : Int)) = false] (by kernel_rfl) rfl rfl (ap2 b_26 (ap2 b_27 (ap2 b_28 (ap2 b_33 (ap1 b_34))))) (by kernel_rfl) (by kernel_rfl) ?_
            have H_71 := Option.some.inj (show some false = some r from H_63); subst H_71
            refine VL_ret ?_
            exact P_to [(0, .c (.val (.bool false)))] [] [] hn (by kernel_rfl) (by kernel_rfl) rfl rfl rfl (QF_retS (by kernel_rfl) (by kernel_rfl) rfl)
        · have H_61 := of_f H_59 b_33
          refine V_draw hN hn (by kernel_rfl) [(12, ⟨25, 0, [.c (.val (.int .i64 (2 : Int)))], [], .agg [.val (.int .i64 r_29.1), .h 2], [(2, .row (.pair (.int .i64) (.pair (.int .i64) .str)) r_29.2)], [(2, 7)], 8⟩), (13, ⟨24, 1, [.agg [.val (.int .i64 r_10.1), .imm (.slice (.pair (.int .i64) (.pair (.int .i64) .str))) r_10.2.1], .agg [.val (.int .i64 r_29.1), .h 0]], [(0, .row (.pair (.int .i64) (.pair (.int .i64) .str)) r_29.2)], .c (.val (.bool r_31)), [(0, .row (.pair (.int .i64) (.pair (.int .i64) .str)) r_29.2)], [(0, 7)], 8⟩)] [(49, true), (53, true), (57, true), (62, false)] (calls_cons (delta_Keep_spec K (2 : Int) r_29 h_30) (by kernel_rfl) (calls_cons (delta_Same_sggsgr_spec K r_10.1 r_10.2.1 r_29.1 r_29.2 r_31 h_32) (by kernel_rfl) calls_nil)) 7 [0] [] ⟨[(0, .c (.val (.bool false)))], [], 8⟩ [(r_2.2.2 == (0 : Int)) = true, (r_6.2.2 == (0 : Int)) = true, (r_10.2.2 == (0 : Int)) = true, r_31 = false] (by kernel_rfl) rfl rfl (ap2 b_26 (ap2 b_27 (ap2 b_28 (ap1 b_33)))) (by kernel_rfl) (by kernel_rfl) ?_
          have H_72 := Option.some.inj (show some false = some r from H_61); subst H_72
          refine VL_ret ?_
          exact P_to [(0, .c (.val (.bool false)))] [] [] hn (by kernel_rfl) (by kernel_rfl) rfl rfl rfl (QF_retS (by kernel_rfl) (by kernel_rfl) rfl)
      · have H_57 := of_f H_54 b_28
        refine V_draw hN hn (by kernel_rfl) [] [(49, true), (53, true), (57, false)] calls_nil 7 [0] [] ⟨[(0, .c (.val (.bool false)))], [], 7⟩ [(r_2.2.2 == (0 : Int)) = true, (r_6.2.2 == (0 : Int)) = true, (r_10.2.2 == (0 : Int)) = false] (by kernel_rfl) rfl rfl (ap2 b_26 (ap2 b_27 (ap1 b_28))) (by kernel_rfl) (by kernel_rfl) ?_
        have H_73 := Option.some.inj (show some false = some r from H_57); subst H_73
        refine VL_ret ?_
        exact P_to [(0, .c (.val (.bool false)))] [] [] hn (by kernel_rfl) (by kernel_rfl) rfl rfl rfl (QF_retS (by kernel_rfl) (by kernel_rfl) rfl)
    · have H_55 := of_f H_52 b_27
      refine V_draw hN hn (by kernel_rfl) [] [(49, true), (53, false)] calls_nil 7 [0] [] ⟨[(0, .c (.val (.bool false)))], [], 7⟩ [(r_2.2.2 == (0 : Int)) = true, (r_6.2.2 == (0 : Int)) = false] (by kernel_rfl) rfl rfl (ap2 b_26 (ap1 b_27)) (by kernel_rfl) (by kernel_rfl) ?_
      have H_74 := Option.some.inj (show some false = some r from H_55); subst H_74
      refine VL_ret ?_
      exact P_to [(0, .c (.val (.bool false)))] [] [] hn (by kernel_rfl) (by kernel_rfl) rfl rfl rfl (QF_retS (by kernel_rfl) (by kernel_rfl) rfl)
  · have H_53 := of_f H_51 b_26
    refine V_draw hN hn (by kernel_rfl) [] [(49, false)] calls_nil 7 [0] [] ⟨[(0, .c (.val (.bool false)))], [], 7⟩ [(r_2.2.2 == (0 : Int)) = false] (by kernel_rfl) rfl rfl (ap1 b_26) (by kernel_rfl) (by kernel_rfl) ?_
    have H_75 := Option.some.inj (show some false = some r from H_53); subst H_75
    refine VL_ret ?_
    exact P_to [(0, .c (.val (.bool false)))] [] [] hn (by kernel_rfl) (by kernel_rfl) rfl rfl rfl (QF_retS (by kernel_rfl) (by kernel_rfl) rfl)

theorem palinodelaw13_few_spec (K : Nat) (d_1 : Int) (d_2 : (List (Int × (Int × ByteArray)))) (r : Bool) (H : palinodelaw13_few K d_1 d_2 = some r) : Spec Try.prog 10 0 [.agg [.val (.int .i64 d_1), .imm (.slice (.pair (.int .i64) (.pair (.int .i64) .str))) d_2]] [] (.c (.val (.bool r))) [] := by
  refine Spec_mk (fn := Try.f10) (c := (Try.f10.body).get!) Try.func10 (by kernel_rfl) rfl ?_
  intro C hN hn
  replace hN : C.N = 28 := hN
  unfold palinodelaw13_few at H
  refine V_run hN hn 5 0 [1, 3] [0] ⟨[(1, .c (.h 0)), (3, .c (.val (.int .i64 (0 : Int))))], [(0, .box [.val (.int .i64 d_1), .imm (.slice (.pair (.int .i64) (.pair (.int .i64) .str))) d_2])], 1⟩ [] (by kernel_rfl) rfl rfl ap0 ?_
  obtain ⟨q_21, H_22, H_23⟩ := of_bind H
  refine V_cut (Y := Unit) (R := (Bool ⊕ Unit)) q_21 (fun y => (Sum.inr y)) (fun y => [(1, .c (.h 0))]) (fun y => [(0, .box [.val (.int .i64 d_1), .imm (.slice (.pair (.int .i64) (.pair (.int .i64) .str))) d_2])]) ?_ ?_
  · skip
    refine VL_block ?_
    refine V_to [(1, .c (.h 0)), (3, .c (.val (.int .i64 (0 : Int))))] [(0, .box [.val (.int .i64 d_1), .imm (.slice (.pair (.int .i64) (.pair (.int .i64) .str))) d_2])] [(0, 0)] hn (by kernel_rfl) (by kernel_rfl) rfl rfl rfl ?_
    refine VL_loop (X := Int) (fun x => [(1, .c (.h 0)), (3, .c (.val (.int .i64 x)))]) (fun x => [(0, .box [.val (.int .i64 d_1), .imm (.slice (.pair (.int .i64) (.pair (.int .i64) .str))) d_2])]) (fun k x => palinodelaw13_few.l0 K d_2 k x = some q_21) K (0 : Int) H_22 (fun _ h => no_none h) ?_
    intro k_5 i_4 H_25
    have H_26 : palinodelaw13_few.l0 K d_2 (k_5 + 1) i_4 = some q_21 := H_25
    rw [palinodelaw13_few.l0] at H_26
    refine V_run hN hn 3 1 [1, 3, 8] [0] ⟨[(1, .c (.h 0)), (3, .c (.val (.int .i64 i_4))), (8, .c (.val (.bool (decide (i_4 < (((List.length d_2) : Nat) : Int))))))], [(0, .box [.val (.int .i64 d_1), .imm (.slice (.pair (.int .i64) (.pair (.int .i64) .str))) d_2])], 1⟩ [] (by kernel_rfl) rfl rfl ap0 ?_
    refine VL_cond ((decide (i_4 < (((List.length d_2) : Nat) : Int)))) (by kernel_rfl) ?_ ?_
    · intro b_7; have H_27 := of_t H_26 b_7
      refine V_run hN hn 2 1 [1, 3, 8] [0] ⟨[(1, .c (.h 0)), (3, .c (.val (.int .i64 i_4))), (8, .c (.val (.bool (decide (i_4 < (((List.length d_2) : Nat) : Int))))))], [(0, .box [.val (.int .i64 d_1), .imm (.slice (.pair (.int .i64) (.pair (.int .i64) .str))) d_2])], 1⟩ [] (by kernel_rfl) rfl rfl ap0 ?_
      refine VL_block ?_
      obtain ⟨c_9, H_29⟩ := of_if H_27
      refine V_run hN hn 2 1 [1, 3, 18] [0] ⟨[(1, .c (.h 0)), (3, .c (.val (.int .i64 i_4))), (18, .c (.val (.bool (decide ((((ByteArray.size (List.getD d_2 (Int.toNat i_4) ((0 : Int), ((0 : Int), ByteArray.empty))).2.2) : Nat) : Int) > (200 : Int))))))], [(0, .box [.val (.int .i64 d_1), .imm (.slice (.pair (.int .i64) (.pair (.int .i64) .str))) d_2])], 1⟩ [0 ≤ i_4, i_4 < (((List.length d_2) : Nat) : Int)] (by kernel_rfl) rfl rfl (ap2 c_9.1 (ap1 c_9.2)) ?_
      refine VL_cond ((decide ((((ByteArray.size (List.getD d_2 (Int.toNat i_4) ((0 : Int), ((0 : Int), ByteArray.empty))).2.2) : Nat) : Int) > (200 : Int)))) (by kernel_rfl) ?_ ?_
      · intro b_10; have H_30 := of_t H_29 b_10
        refine V_run hN hn 2 1 [2] [] ⟨[(2, .c (.val (.bool false)))], [], 1⟩ [] (by kernel_rfl) rfl rfl ap0 ?_
        have H_32 := Option.some.inj (show some (Sum.inl false) = some q_21 from H_30); subst H_32
        have H_33 := Option.some.inj (show some false = some r from H_23); subst H_33
        refine VL_ret ?_
        refine QB_ret ?_
        refine QL_ret ?_
        refine QB_ret ?_
        refine QP_ret ?_
        exact P_to [(2, .c (.val (.bool false)))] [] [] hn (by kernel_rfl) (by kernel_rfl) rfl rfl rfl (QF_retS (by kernel_rfl) (by kernel_rfl) rfl)
      · intro b_10; have H_31 := of_f H_29 b_10
        refine V_run hN hn 1 1 [1, 3, 18] [0] ⟨[(1, .c (.h 0)), (3, .c (.val (.int .i64 i_4))), (18, .c (.val (.bool (decide ((((ByteArray.size (List.getD d_2 (Int.toNat i_4) ((0 : Int), ((0 : Int), ByteArray.empty))).2.2) : Nat) : Int) > (200 : Int))))))], [(0, .box [.val (.int .i64 d_1), .imm (.slice (.pair (.int .i64) (.pair (.int .i64) .str))) d_2])], 1⟩ [] (by kernel_rfl) rfl rfl ap0 ?_
        refine VL_nil (QB_end ?_)
        refine V_run hN hn 1 1 [1, 3] [0] ⟨[(1, .c (.h 0)), (3, .c (.val (.int .i64 (IntKind.wrap .i64 (i_4 + (1 : Int))))))], [(0, .box [.val (.int .i64 d_1), .imm (.slice (.pair (.int .i64) (.pair (.int .i64) .str))) d_2])], 1⟩ [] (by kernel_rfl) rfl rfl ap0 ?_
        refine VL_nil ?_
        exact V_roundEnd (IntKind.wrap .i64 (i_4 + (1 : Int))) H_31 [(0, 0)] hn (by kernel_rfl) (by kernel_rfl) rfl rfl rfl
    · intro b_7; have H_28 := of_f H_26 b_7
      refine VL_exit ?_
      refine QL_exit ?_
      refine QB_here ?_
      have H_34 := Option.some.inj (show some (Sum.inr ()) = some q_21 from H_28); subst H_34
      refine VL_nil ?_
      exact QP_end () rfl [(0, 0)] hn (by kernel_rfl) (by kernel_rfl) rfl rfl rfl
  · intro y_24 hy; subst hy
    skip
    refine V_run hN hn 1 1 [1] [0] ⟨[(1, .c (.h 0))], [(0, .box [.val (.int .i64 d_1), .imm (.slice (.pair (.int .i64) (.pair (.int .i64) .str))) d_2])], 1⟩ [] (by kernel_rfl) rfl rfl ap0 ?_
    rcases Bool.eq_false_or_eq_true ((decide (d_1 ≤ (400 : Int)))) with b_15 | b_15
    · have H_35 := of_t H_23 b_15
      refine V_reg hN hn [] [(22, true)] calls_nil 1 [2] [] ⟨[(2, .c (.val (.bool (decide ((((List.length d_2) : Nat) : Int) ≤ (70 : Int))))))], [], 1⟩ [(decide (d_1 ≤ (400 : Int))) = true] (by kernel_rfl) rfl rfl (ap1 b_15) (by kernel_rfl) (by kernel_rfl) ?_
      have H_37 := Option.some.inj (show some (decide ((((List.length d_2) : Nat) : Int) ≤ (70 : Int))) = some r from H_35); subst H_37
      refine VL_ret ?_
      exact P_to [(2, .c (.val (.bool (decide ((((List.length d_2) : Nat) : Int) ≤ (70 : Int))))))] [] [] hn (by kernel_rfl) (by kernel_rfl) rfl rfl rfl (QF_retS (by kernel_rfl) (by kernel_rfl) rfl)
    · have H_36 := of_f H_23 b_15
      refine V_reg hN hn [] [(22, false)] calls_nil 1 [2] [] ⟨[(2, .c (.val (.bool false)))], [], 1⟩ [(decide (d_1 ≤ (400 : Int))) = false] (by kernel_rfl) rfl rfl (ap1 b_15) (by kernel_rfl) (by kernel_rfl) ?_
      have H_38 := Option.some.inj (show some false = some r from H_36); subst H_38
      refine VL_ret ?_
      exact P_to [(2, .c (.val (.bool false)))] [] [] hn (by kernel_rfl) (by kernel_rfl) rfl rfl rfl (QF_retS (by kernel_rfl) (by kernel_rfl) rfl)

theorem palinoderef1_Size_spec (K : Nat) (s_1 : ByteArray) (at_2 : Int) (r : Int) (H : palinoderef1_Size K s_1 at_2 = some r) : Spec Try.prog 38 0 [.c (.val (.string s_1)), .c (.val (.int .i64 at_2))] [] (.c (.val (.int .i64 r))) [] := by
  refine Spec_mk (fn := Try.f38) (c := (Try.f38.body).get!) Try.func38 (by kernel_rfl) rfl ?_
  intro C hN hn
  replace hN : C.N = 94 := hN
  unfold palinoderef1_Size at H
  refine V_run hN hn 4 0 [0, 1] [] ⟨[(0, .c (.val (.string s_1))), (1, .c (.val (.int .i64 at_2)))], [], 0⟩ [] (by kernel_rfl) rfl rfl ap0 ?_
  obtain ⟨q_77, H_78, H_79⟩ := of_bind H
  refine V_cut (Y := Bool) (R := Bool) q_77 (fun y => y) (fun y => [(0, .c (.val (.string s_1))), (1, .c (.val (.int .i64 at_2))), (18, .c (.val (.bool y)))]) (fun y => []) ?_ ?_
  · skip
    rcases Bool.eq_false_or_eq_true ((decide (at_2 < (0 : Int)))) with b_4 | b_4
    · have H_81 := of_t H_78 b_4
      refine V_reg hN hn [] [(13, true)] calls_nil 0 [0, 1, 18] [] ⟨[(0, .c (.val (.string s_1))), (1, .c (.val (.int .i64 at_2))), (18, .c (.val (.bool true)))], [], 0⟩ [(decide (at_2 < (0 : Int))) = true] (by kernel_rfl) rfl rfl (ap1 b_4) (by kernel_rfl) (by kernel_rfl) ?_
      have H_83 := Option.some.inj (show some true = some q_77 from H_81); subst H_83
      refine VL_nil ?_
      exact QP_end true rfl [] hn (by kernel_rfl) (by kernel_rfl) rfl rfl rfl
    · have H_82 := of_f H_78 b_4
      refine V_reg hN hn [] [(13, false)] calls_nil 0 [0, 1, 18] [] ⟨[(0, .c (.val (.string s_1))), (1, .c (.val (.int .i64 at_2))), (18, .c (.val (.bool (decide (at_2 ≥ (((ByteArray.size s_1) : Nat) : Int))))))], [], 0⟩ [(decide (at_2 < (0 : Int))) = false] (by kernel_rfl) rfl rfl (ap1 b_4) (by kernel_rfl) (by kernel_rfl) ?_
      have H_84 := Option.some.inj (show some (decide (at_2 ≥ (((ByteArray.size s_1) : Nat) : Int))) = some q_77 from H_82); subst H_84
      refine VL_nil ?_
      exact QP_end (decide (at_2 ≥ (((ByteArray.size s_1) : Nat) : Int))) rfl [] hn (by kernel_rfl) (by kernel_rfl) rfl rfl rfl
  · intro y_80 hy; subst hy
    skip
    skip
    refine VL_cond (y_80) (by kernel_rfl) ?_ ?_
    · intro b_8; have H_85 := of_t H_79 b_8
      refine V_run hN hn 2 0 [4] [] ⟨[(4, .c (.val (.int .i64 (0 : Int))))], [], 0⟩ [] (by kernel_rfl) rfl rfl ap0 ?_
      have H_87 := Option.some.inj (show some (0 : Int) = some r from H_85); subst H_87
      refine VL_ret ?_
      exact P_to [(4, .c (.val (.int .i64 (0 : Int))))] [] [] hn (by kernel_rfl) (by kernel_rfl) rfl rfl rfl (QF_retS (by kernel_rfl) (by kernel_rfl) rfl)
    · intro b_8; have H_86 := of_f H_79 b_8
      obtain ⟨c_10, H_88⟩ := of_if H_86
      refine V_run hN hn 6 0 [0, 1, 5] [] ⟨[(0, .c (.val (.string s_1))), (1, .c (.val (.int .i64 at_2))), (5, .c (.val (.int .i64 (IntKind.wrap .i64 (bt s_1 at_2)))))], [], 0⟩ [0 ≤ at_2, at_2 < (((ByteArray.size s_1) : Nat) : Int)] (by kernel_rfl) rfl rfl (ap2 c_10.1 (ap1 c_10.2)) ?_
      refine VL_block ?_
      refine V_run hN hn 2 0 [0, 1, 5, 23] [] ⟨[(0, .c (.val (.string s_1))), (1, .c (.val (.int .i64 at_2))), (5, .c (.val (.int .i64 (IntKind.wrap .i64 (bt s_1 at_2))))), (23, .c (.val (.bool (decide ((IntKind.wrap .i64 (bt s_1 at_2)) < (128 : Int))))))], [], 0⟩ [] (by kernel_rfl) rfl rfl ap0 ?_
      refine VL_cond ((decide ((IntKind.wrap .i64 (bt s_1 at_2)) < (128 : Int)))) (by kernel_rfl) ?_ ?_
      · intro b_12; have H_89 := of_t H_88 b_12
        refine V_run hN hn 2 0 [4] [] ⟨[(4, .c (.val (.int .i64 (1 : Int))))], [], 0⟩ [] (by kernel_rfl) rfl rfl ap0 ?_
        have H_91 := Option.some.inj (show some (1 : Int) = some r from H_89); subst H_91
        refine VL_ret ?_
        refine QB_ret ?_
        exact P_to [(4, .c (.val (.int .i64 (1 : Int))))] [] [] hn (by kernel_rfl) (by kernel_rfl) rfl rfl rfl (QF_retS (by kernel_rfl) (by kernel_rfl) rfl)
      · intro b_12; have H_90 := of_f H_88 b_12
        refine V_run hN hn 1 0 [0, 1, 5, 23] [] ⟨[(0, .c (.val (.string s_1))), (1, .c (.val (.int .i64 at_2))), (5, .c (.val (.int .i64 (IntKind.wrap .i64 (bt s_1 at_2))))), (23, .c (.val (.bool (decide ((IntKind.wrap .i64 (bt s_1 at_2)) < (128 : Int))))))], [], 0⟩ [] (by kernel_rfl) rfl rfl ap0 ?_
        obtain ⟨q_92, H_93, H_94⟩ := of_bind H_90
        refine V_cut (Y := Bool) (R := Bool) q_92 (fun y => y) (fun y => [(0, .c (.val (.string s_1))), (1, .c (.val (.int .i64 at_2))), (5, .c (.val (.int .i64 (IntKind.wrap .i64 (bt s_1 at_2))))), (26, .c (.val (.bool y)))]) (fun y => []) ?_ ?_
        · skip
          rcases Bool.eq_false_or_eq_true ((decide ((IntKind.wrap .i64 (bt s_1 at_2)) ≥ (192 : Int)))) with b_15 | b_15
          · have H_96 := of_t H_93 b_15
            refine V_reg hN hn [] [(29, true)] calls_nil 0 [0, 1, 5, 26] [] ⟨[(0, .c (.val (.string s_1))), (1, .c (.val (.int .i64 at_2))), (5, .c (.val (.int .i64 (IntKind.wrap .i64 (bt s_1 at_2))))), (26, .c (.val (.bool (decide ((IntKind.wrap .i64 (bt s_1 at_2)) < (224 : Int))))))], [], 0⟩ [(decide ((IntKind.wrap .i64 (bt s_1 at_2)) ≥ (192 : Int))) = true] (by kernel_rfl) rfl rfl (ap1 b_15) (by kernel_rfl) (by kernel_rfl) ?_
            have H_98 := Option.some.inj (show some (decide ((IntKind.wrap .i64 (bt s_1 at_2)) < (224 : Int))) = some q_92 from H_96); subst H_98
            refine VL_nil ?_
            exact QP_end (decide ((IntKind.wrap .i64 (bt s_1 at_2)) < (224 : Int))) rfl [] hn (by kernel_rfl) (by kernel_rfl) rfl rfl rfl
          · have H_97 := of_f H_93 b_15
            refine V_reg hN hn [] [(29, false)] calls_nil 0 [0, 1, 5, 26] [] ⟨[(0, .c (.val (.string s_1))), (1, .c (.val (.int .i64 at_2))), (5, .c (.val (.int .i64 (IntKind.wrap .i64 (bt s_1 at_2))))), (26, .c (.val (.bool false)))], [], 0⟩ [(decide ((IntKind.wrap .i64 (bt s_1 at_2)) ≥ (192 : Int))) = false] (by kernel_rfl) rfl rfl (ap1 b_15) (by kernel_rfl) (by kernel_rfl) ?_
            have H_99 := Option.some.inj (show some false = some q_92 from H_97); subst H_99
            refine VL_nil ?_
            exact QP_end false rfl [] hn (by kernel_rfl) (by kernel_rfl) rfl rfl rfl
        · intro y_95 hy; subst hy
          skip
          skip
          obtain ⟨q_100, H_101, H_102⟩ := of_bind H_94
          refine V_cut (Y := (Int × Int × Int)) (R := (Int ⊕ (Int × Int × Int))) q_100 (fun y => (Sum.inr y)) (fun y => [(0, .c (.val (.string s_1))), (1, .c (.val (.int .i64 at_2))), (6, .c (.val (.int .i64 y.1))), (7, .c (.val (.int .i64 y.2.1))), (8, .c (.val (.int .i64 y.2.2)))]) (fun y => []) ?_ ?_
          · skip
            refine VL_cond (y_95) (by kernel_rfl) ?_ ?_
            · intro b_19; have H_104 := of_t H_101 b_19
              refine V_run hN hn 1 0 [0, 1, 6, 7, 8] [] ⟨[(0, .c (.val (.string s_1))), (1, .c (.val (.int .i64 at_2))), (6, .c (.val (.int .i64 (2 : Int)))), (7, .c (.val (.int .i64 (IntKind.wrap .i64 (BitVec.toNat (BitVec.ofInt (IntKind.bits .i64) (IntKind.wrap .i64 (bt s_1 at_2)) &&& BitVec.ofInt (IntKind.bits .i64) (31 : Int))))))), (8, .c (.val (.int .i64 (128 : Int))))], [], 0⟩ [] (by kernel_rfl) rfl rfl ap0 ?_
              have H_106 := Option.some.inj (show some (Sum.inr ((2 : Int), (IntKind.wrap .i64 (BitVec.toNat (BitVec.ofInt (IntKind.bits .i64) (IntKind.wrap .i64 (bt s_1 at_2)) &&& BitVec.ofInt (IntKind.bits .i64) (31 : Int)))), (128 : Int))) = some q_100 from H_104); subst H_106
              refine VL_nil ?_
              exact QP_end ((2 : Int), (IntKind.wrap .i64 (BitVec.toNat (BitVec.ofInt (IntKind.bits .i64) (IntKind.wrap .i64 (bt s_1 at_2)) &&& BitVec.ofInt (IntKind.bits .i64) (31 : Int)))), (128 : Int)) rfl [] hn (by kernel_rfl) (by kernel_rfl) rfl rfl rfl
            · intro b_19; have H_105 := of_f H_101 b_19
              refine V_run hN hn 1 0 [0, 1, 5, 26] [] ⟨[(0, .c (.val (.string s_1))), (1, .c (.val (.int .i64 at_2))), (5, .c (.val (.int .i64 (IntKind.wrap .i64 (bt s_1 at_2))))), (26, .c (.val (.bool y_95)))], [], 0⟩ [] (by kernel_rfl) rfl rfl ap0 ?_
              obtain ⟨q_107, H_108, H_109⟩ := of_bind H_105
              refine V_cut (Y := Bool) (R := Bool) q_107 (fun y => y) (fun y => [(0, .c (.val (.string s_1))), (1, .c (.val (.int .i64 at_2))), (5, .c (.val (.int .i64 (IntKind.wrap .i64 (bt s_1 at_2))))), (35, .c (.val (.bool y)))]) (fun y => []) ?_ ?_
              · skip
                rcases Bool.eq_false_or_eq_true ((decide ((IntKind.wrap .i64 (bt s_1 at_2)) ≥ (224 : Int)))) with b_22 | b_22
                · have H_111 := of_t H_108 b_22
                  refine V_reg hN hn [] [(38, true)] calls_nil 0 [0, 1, 5, 35] [] ⟨[(0, .c (.val (.string s_1))), (1, .c (.val (.int .i64 at_2))), (5, .c (.val (.int .i64 (IntKind.wrap .i64 (bt s_1 at_2))))), (35, .c (.val (.bool (decide ((IntKind.wrap .i64 (bt s_1 at_2)) < (240 : Int))))))], [], 0⟩ [(decide ((IntKind.wrap .i64 (bt s_1 at_2)) ≥ (224 : Int))) = true] (by kernel_rfl) rfl rfl (ap1 b_22) (by kernel_rfl) (by kernel_rfl) ?_
                  have H_113 := Option.some.inj (show some (decide ((IntKind.wrap .i64 (bt s_1 at_2)) < (240 : Int))) = some q_107 from H_111); subst H_113
                  refine VL_nil ?_
                  exact QP_end (decide ((IntKind.wrap .i64 (bt s_1 at_2)) < (240 : Int))) rfl [] hn (by kernel_rfl) (by kernel_rfl) rfl rfl rfl
                · have H_112 := of_f H_108 b_22
                  refine V_reg hN hn [] [(38, false)] calls_nil 0 [0, 1, 5, 35] [] ⟨[(0, .c (.val (.string s_1))), (1, .c (.val (.int .i64 at_2))), (5, .c (.val (.int .i64 (IntKind.wrap .i64 (bt s_1 at_2))))), (35, .c (.val (.bool false)))], [], 0⟩ [(decide ((IntKind.wrap .i64 (bt s_1 at_2)) ≥ (224 : Int))) = false] (by kernel_rfl) rfl rfl (ap1 b_22) (by kernel_rfl) (by kernel_rfl) ?_
                  have H_114 := Option.some.inj (show some false = some q_107 from H_112); subst H_114
                  refine VL_nil ?_
                  exact QP_end false rfl [] hn (by kernel_rfl) (by kernel_rfl) rfl rfl rfl
              · intro y_110 hy; subst hy
                skip
                skip
                refine VL_cond (y_110) (by kernel_rfl) ?_ ?_
                · intro b_26; have H_115 := of_t H_109 b_26
                  refine V_run hN hn 1 0 [0, 1, 6, 7, 8] [] ⟨[(0, .c (.val (.string s_1))), (1, .c (.val (.int .i64 at_2))), (6, .c (.val (.int .i64 (3 : Int)))), (7, .c (.val (.int .i64 (IntKind.wrap .i64 (BitVec.toNat (BitVec.ofInt (IntKind.bits .i64) (IntKind.wrap .i64 (bt s_1 at_2)) &&& BitVec.ofInt (IntKind.bits .i64) (15 : Int))))))), (8, .c (.val (.int .i64 (2048 : Int))))], [], 0⟩ [] (by kernel_rfl) rfl rfl ap0 ?_
                  have H_117 := Option.some.inj (show some (Sum.inr ((3 : Int), (IntKind.wrap .i64 (BitVec.toNat (BitVec.ofInt (IntKind.bits .i64) (IntKind.wrap .i64 (bt s_1 at_2)) &&& BitVec.ofInt (IntKind.bits .i64) (15 : Int)))), (2048 : Int))) = some q_100 from H_115); subst H_117
                  refine VL_nil ?_
                  exact QP_end ((3 : Int), (IntKind.wrap .i64 (BitVec.toNat (BitVec.ofInt (IntKind.bits .i64) (IntKind.wrap .i64 (bt s_1 at_2)) &&& BitVec.ofInt (IntKind.bits .i64) (15 : Int)))), (2048 : Int)) rfl [] hn (by kernel_rfl) (by kernel_rfl) rfl rfl rfl
                · intro b_26; have H_116 := of_f H_109 b_26
                  refine V_run hN hn 1 0 [0, 1, 5, 35] [] ⟨[(0, .c (.val (.string s_1))), (1, .c (.val (.int .i64 at_2))), (5, .c (.val (.int .i64 (IntKind.wrap .i64 (bt s_1 at_2))))), (35, .c (.val (.bool y_110)))], [], 0⟩ [] (by kernel_rfl) rfl rfl ap0 ?_
                  obtain ⟨q_118, H_119, H_120⟩ := of_bind H_116
                  refine V_cut (Y := Bool) (R := Bool) q_118 (fun y => y) (fun y => [(0, .c (.val (.string s_1))), (1, .c (.val (.int .i64 at_2))), (5, .c (.val (.int .i64 (IntKind.wrap .i64 (bt s_1 at_2))))), (44, .c (.val (.bool y)))]) (fun y => []) ?_ ?_
                  · skip
                    rcases Bool.eq_false_or_eq_true ((decide ((IntKind.wrap .i64 (bt s_1 at_2)) ≥ (240 : Int)))) with b_29 | b_29
                    · have H_122 := of_t H_119 b_29
                      refine V_reg hN hn [] [(47, true)] calls_nil 0 [0, 1, 5, 44] [] ⟨[(0, .c (.val (.string s_1))), (1, .c (.val (.int .i64 at_2))), (5, .c (.val (.int .i64 (IntKind.wrap .i64 (bt s_1 at_2))))), (44, .c (.val (.bool (decide ((IntKind.wrap .i64 (bt s_1 at_2)) < (248 : Int))))))], [], 0⟩ [(decide ((IntKind.wrap .i64 (bt s_1 at_2)) ≥ (240 : Int))) = true] (by kernel_rfl) rfl rfl (ap1 b_29) (by kernel_rfl) (by kernel_rfl) ?_
                      have H_124 := Option.some.inj (show some (decide ((IntKind.wrap .i64 (bt s_1 at_2)) < (248 : Int))) = some q_118 from H_122); subst H_124
                      refine VL_nil ?_
                      exact QP_end (decide ((IntKind.wrap .i64 (bt s_1 at_2)) < (248 : Int))) rfl [] hn (by kernel_rfl) (by kernel_rfl) rfl rfl rfl
                    · have H_123 := of_f H_119 b_29
                      refine V_reg hN hn [] [(47, false)] calls_nil 0 [0, 1, 5, 44] [] ⟨[(0, .c (.val (.string s_1))), (1, .c (.val (.int .i64 at_2))), (5, .c (.val (.int .i64 (IntKind.wrap .i64 (bt s_1 at_2))))), (44, .c (.val (.bool false)))], [], 0⟩ [(decide ((IntKind.wrap .i64 (bt s_1 at_2)) ≥ (240 : Int))) = false] (by kernel_rfl) rfl rfl (ap1 b_29) (by kernel_rfl) (by kernel_rfl) ?_
                      have H_125 := Option.some.inj (show some false = some q_118 from H_123); subst H_125
                      refine VL_nil ?_
                      exact QP_end false rfl [] hn (by kernel_rfl) (by kernel_rfl) rfl rfl rfl
                  · intro y_121 hy; subst hy
                    skip
                    skip
                    refine VL_cond (y_121) (by kernel_rfl) ?_ ?_
                    · intro b_33; have H_126 := of_t H_120 b_33
                      refine V_run hN hn 1 0 [0, 1, 6, 7, 8] [] ⟨[(0, .c (.val (.string s_1))), (1, .c (.val (.int .i64 at_2))), (6, .c (.val (.int .i64 (4 : Int)))), (7, .c (.val (.int .i64 (IntKind.wrap .i64 (BitVec.toNat (BitVec.ofInt (IntKind.bits .i64) (IntKind.wrap .i64 (bt s_1 at_2)) &&& BitVec.ofInt (IntKind.bits .i64) (7 : Int))))))), (8, .c (.val (.int .i64 (65536 : Int))))], [], 0⟩ [] (by kernel_rfl) rfl rfl ap0 ?_
                      have H_128 := Option.some.inj (show some (Sum.inr ((4 : Int), (IntKind.wrap .i64 (BitVec.toNat (BitVec.ofInt (IntKind.bits .i64) (IntKind.wrap .i64 (bt s_1 at_2)) &&& BitVec.ofInt (IntKind.bits .i64) (7 : Int)))), (65536 : Int))) = some q_100 from H_126); subst H_128
                      refine VL_nil ?_
                      exact QP_end ((4 : Int), (IntKind.wrap .i64 (BitVec.toNat (BitVec.ofInt (IntKind.bits .i64) (IntKind.wrap .i64 (bt s_1 at_2)) &&& BitVec.ofInt (IntKind.bits .i64) (7 : Int)))), (65536 : Int)) rfl [] hn (by kernel_rfl) (by kernel_rfl) rfl rfl rfl
                    · intro b_33; have H_127 := of_f H_120 b_33
                      refine V_run hN hn 2 0 [4] [] ⟨[(4, .c (.val (.int .i64 (0 : Int))))], [], 0⟩ [] (by kernel_rfl) rfl rfl ap0 ?_
                      have H_129 := Option.some.inj (show some (Sum.inl (0 : Int)) = some q_100 from H_127); subst H_129
                      have H_130 := Option.some.inj (show some (0 : Int) = some r from H_102); subst H_130
                      refine VL_ret ?_
                      refine QP_ret ?_
                      refine QB_ret ?_
                      exact P_to [(4, .c (.val (.int .i64 (0 : Int))))] [] [] hn (by kernel_rfl) (by kernel_rfl) rfl rfl rfl (QF_retS (by kernel_rfl) (by kernel_rfl) rfl)
          · intro y_103 hy; subst hy
            obtain ⟨n_36, v_37, least_38⟩ := y_103
            refine VL_nil (QB_end ?_)
            refine V_run hN hn 3 0 [0, 1, 6, 7, 8, 58] [] ⟨[(0, .c (.val (.string s_1))), (1, .c (.val (.int .i64 at_2))), (6, .c (.val (.int .i64 n_36))), (7, .c (.val (.int .i64 v_37))), (8, .c (.val (.int .i64 least_38))), (58, .c (.val (.bool (decide ((IntKind.wrap .i64 ((((ByteArray.size s_1) : Nat) : Int) - at_2)) < n_36)))))], [], 0⟩ [] (by kernel_rfl) rfl rfl ap0 ?_
            refine VL_cond ((decide ((IntKind.wrap .i64 ((((ByteArray.size s_1) : Nat) : Int) - at_2)) < n_36))) (by kernel_rfl) ?_ ?_
            · intro b_40; have H_131 := of_t H_102 b_40
              refine V_run hN hn 2 0 [4] [] ⟨[(4, .c (.val (.int .i64 (0 : Int))))], [], 0⟩ [] (by kernel_rfl) rfl rfl ap0 ?_
              have H_133 := Option.some.inj (show some (0 : Int) = some r from H_131); subst H_133
              refine VL_ret ?_
              exact P_to [(4, .c (.val (.int .i64 (0 : Int))))] [] [] hn (by kernel_rfl) (by kernel_rfl) rfl rfl rfl (QF_retS (by kernel_rfl) (by kernel_rfl) rfl)
            · intro b_40; have H_132 := of_f H_102 b_40
              refine V_run hN hn 4 0 [0, 1, 6, 7, 8, 9] [] ⟨[(0, .c (.val (.string s_1))), (1, .c (.val (.int .i64 at_2))), (6, .c (.val (.int .i64 n_36))), (7, .c (.val (.int .i64 v_37))), (8, .c (.val (.int .i64 least_38))), (9, .c (.val (.int .i64 (1 : Int))))], [], 0⟩ [] (by kernel_rfl) rfl rfl ap0 ?_
              obtain ⟨q_134, H_135, H_136⟩ := of_bind H_132
              refine V_cut (Y := Int) (R := (Int ⊕ Int)) q_134 (fun y => (Sum.inr y)) (fun y => [(6, .c (.val (.int .i64 n_36))), (7, .c (.val (.int .i64 y))), (8, .c (.val (.int .i64 least_38)))]) (fun y => []) ?_ ?_
              · skip
                refine VL_block ?_
                refine V_to [(0, .c (.val (.string s_1))), (1, .c (.val (.int .i64 at_2))), (6, .c (.val (.int .i64 n_36))), (7, .c (.val (.int .i64 v_37))), (8, .c (.val (.int .i64 least_38))), (9, .c (.val (.int .i64 (1 : Int))))] [] [] hn (by kernel_rfl) (by kernel_rfl) rfl rfl rfl ?_
                refine VL_loop (X := (Int × Int)) (fun x => [(0, .c (.val (.string s_1))), (1, .c (.val (.int .i64 at_2))), (6, .c (.val (.int .i64 n_36))), (7, .c (.val (.int .i64 x.1))), (8, .c (.val (.int .i64 least_38))), (9, .c (.val (.int .i64 x.2)))]) (fun x => []) (fun k x => palinoderef1_Size.l0 K n_36 at_2 s_1 k x.1 x.2 = some q_134) K (v_37, (1 : Int)) H_135 (fun _ h => no_none h) ?_
                intro k_45 x_45 H_138
                obtain ⟨v_43, i_44⟩ := x_45
                have H_139 : palinoderef1_Size.l0 K n_36 at_2 s_1 (k_45 + 1) v_43 i_44 = some q_134 := H_138
                rw [palinoderef1_Size.l0] at H_139
                refine V_run hN hn 3 0 [0, 1, 6, 7, 8, 9, 61] [] ⟨[(0, .c (.val (.string s_1))), (1, .c (.val (.int .i64 at_2))), (6, .c (.val (.int .i64 n_36))), (7, .c (.val (.int .i64 v_43))), (8, .c (.val (.int .i64 least_38))), (9, .c (.val (.int .i64 i_44))), (61, .c (.val (.bool (decide (i_44 < n_36)))))], [], 0⟩ [] (by kernel_rfl) rfl rfl ap0 ?_
                refine VL_cond ((decide (i_44 < n_36))) (by kernel_rfl) ?_ ?_
                · intro b_47; have H_140 := of_t H_139 b_47
                  refine V_run hN hn 2 0 [0, 1, 6, 7, 8, 9, 61] [] ⟨[(0, .c (.val (.string s_1))), (1, .c (.val (.int .i64 at_2))), (6, .c (.val (.int .i64 n_36))), (7, .c (.val (.int .i64 v_43))), (8, .c (.val (.int .i64 least_38))), (9, .c (.val (.int .i64 i_44))), (61, .c (.val (.bool (decide (i_44 < n_36)))))], [], 0⟩ [] (by kernel_rfl) rfl rfl ap0 ?_
                  refine VL_block ?_
                  obtain ⟨c_49, H_142⟩ := of_if H_140
                  refine V_run hN hn 5 0 [0, 1, 6, 7, 8, 9, 10, 72] [] ⟨[(0, .c (.val (.string s_1))), (1, .c (.val (.int .i64 at_2))), (6, .c (.val (.int .i64 n_36))), (7, .c (.val (.int .i64 v_43))), (8, .c (.val (.int .i64 least_38))), (9, .c (.val (.int .i64 i_44))), (10, .c (.val (.int .i64 (IntKind.wrap .i64 (bt s_1 (IntKind.wrap .i64 (at_2 + i_44))))))), (72, .c (.val (.bool ((Int.fdiv (IntKind.wrap .i64 (bt s_1 (IntKind.wrap .i64 (at_2 + i_44)))) (64 : Int)) != (2 : Int)))))], [], 0⟩ [0 ≤ (IntKind.wrap .i64 (at_2 + i_44)), (IntKind.wrap .i64 (at_2 + i_44)) < (((ByteArray.size s_1) : Nat) : Int), (0 : Int) ≤ (6 : Int)] (by kernel_rfl) rfl rfl (ap2 c_49.1 (ap2 c_49.2 (ap1 (by decide)))) ?_
                  refine VL_cond (((Int.fdiv (IntKind.wrap .i64 (bt s_1 (IntKind.wrap .i64 (at_2 + i_44)))) (64 : Int)) != (2 : Int))) (by kernel_rfl) ?_ ?_
                  · intro b_50; have H_143 := of_t H_142 b_50
                    refine V_run hN hn 2 0 [4] [] ⟨[(4, .c (.val (.int .i64 (0 : Int))))], [], 0⟩ [] (by kernel_rfl) rfl rfl ap0 ?_
                    have H_145 := Option.some.inj (show some (Sum.inl (0 : Int)) = some q_134 from H_143); subst H_145
                    have H_146 := Option.some.inj (show some (0 : Int) = some r from H_136); subst H_146
                    refine VL_ret ?_
                    refine QB_ret ?_
                    refine QL_ret ?_
                    refine QB_ret ?_
                    refine QP_ret ?_
                    exact P_to [(4, .c (.val (.int .i64 (0 : Int))))] [] [] hn (by kernel_rfl) (by kernel_rfl) rfl rfl rfl (QF_retS (by kernel_rfl) (by kernel_rfl) rfl)
                  · intro b_50; have H_144 := of_f H_142 b_50
                    refine V_run hN hn 2 0 [0, 1, 6, 7, 8, 9] [] ⟨[(0, .c (.val (.string s_1))), (1, .c (.val (.int .i64 at_2))), (6, .c (.val (.int .i64 n_36))), (7, .c (.val (.int .i64 (IntKind.wrap .i64 (BitVec.toNat (BitVec.ofInt (IntKind.bits .i64) (IntKind.wrap .i64 (v_43 * (64 : Int))) ||| BitVec.ofInt (IntKind.bits .i64) (IntKind.wrap .i64 (BitVec.toNat (BitVec.ofInt (IntKind.bits .i64) (IntKind.wrap .i64 (bt s_1 (IntKind.wrap .i64 (at_2 + i_44)))) &&& BitVec.ofInt (IntKind.bits .i64) (63 : Int)))))))))), (8, .c (.val (.int .i64 least_38))), (9, .c (.val (.int .i64 i_44)))], [], 0⟩ [(0 : Int) ≤ (6 : Int)] (by kernel_rfl) rfl rfl (ap1 (by decide)) ?_
                    refine VL_nil (QB_end ?_)
                    refine V_run hN hn 1 0 [0, 1, 6, 7, 8, 9] [] ⟨[(0, .c (.val (.string s_1))), (1, .c (.val (.int .i64 at_2))), (6, .c (.val (.int .i64 n_36))), (7, .c (.val (.int .i64 (IntKind.wrap .i64 (BitVec.toNat (BitVec.ofInt (IntKind.bits .i64) (IntKind.wrap .i64 (v_43 * (64 : Int))) ||| BitVec.ofInt (IntKind.bits .i64) (IntKind.wrap .i64 (BitVec.toNat (BitVec.ofInt (IntKind.bits .i64) (IntKind.wrap .i64 (bt s_1 (IntKind.wrap .i64 (at_2 + i_44)))) &&& BitVec.ofInt (IntKind.bits .i64) (63 : Int)))))))))), (8, .c (.val (.int .i64 least_38))), (9, .c (.val (.int .i64 (IntKind.wrap .i64 (i_44 + (1 : Int))))))], [], 0⟩ [] (by kernel_rfl) rfl rfl ap0 ?_
                    refine VL_nil ?_
                    exact V_roundEnd ((IntKind.wrap .i64 (BitVec.toNat (BitVec.ofInt (IntKind.bits .i64) (IntKind.wrap .i64 (v_43 * (64 : Int))) ||| BitVec.ofInt (IntKind.bits .i64) (IntKind.wrap .i64 (BitVec.toNat (BitVec.ofInt (IntKind.bits .i64) (IntKind.wrap .i64 (bt s_1 (IntKind.wrap .i64 (at_2 + i_44)))) &&& BitVec.ofInt (IntKind.bits .i64) (63 : Int))))))), (IntKind.wrap .i64 (i_44 + (1 : Int)))) H_144 [] hn (by kernel_rfl) (by kernel_rfl) rfl rfl rfl
                · intro b_47; have H_141 := of_f H_139 b_47
                  refine VL_exit ?_
                  refine QL_exit ?_
                  refine QB_here ?_
                  have H_147 := Option.some.inj (show some (Sum.inr v_43) = some q_134 from H_141); subst H_147
                  refine VL_nil ?_
                  exact QP_end v_43 rfl [] hn (by kernel_rfl) (by kernel_rfl) rfl rfl rfl
              · intro y_137 hy; subst hy
                skip
                skip
                refine V_run hN hn 2 0 [6, 7, 8] [] ⟨[(6, .c (.val (.int .i64 n_36))), (7, .c (.val (.int .i64 y_137))), (8, .c (.val (.int .i64 least_38)))], [], 0⟩ [] (by kernel_rfl) rfl rfl ap0 ?_
                obtain ⟨q_148, H_149, H_150⟩ := of_bind H_136
                refine V_cut (Y := Bool) (R := Bool) q_148 (fun y => y) (fun y => [(6, .c (.val (.int .i64 n_36))), (92, .c (.val (.bool y)))]) (fun y => []) ?_ ?_
                · skip
                  rcases Bool.eq_false_or_eq_true ((decide (y_137 < least_38))) with b_56 | b_56
                  · have H_152 := of_t H_149 b_56
                    refine V_reg hN hn [] [(81, true)] calls_nil 0 [6, 92] [] ⟨[(6, .c (.val (.int .i64 n_36))), (92, .c (.val (.bool true)))], [], 0⟩ [(decide (y_137 < least_38)) = true] (by kernel_rfl) rfl rfl (ap1 b_56) (by kernel_rfl) (by kernel_rfl) ?_
                    have H_154 := Option.some.inj (show some true = some q_148 from H_152); subst H_154
                    refine VL_nil ?_
                    exact QP_end true rfl [] hn (by kernel_rfl) (by kernel_rfl) rfl rfl rfl
                  · have H_153 := of_f H_149 b_56
                    rcases Bool.eq_false_or_eq_true ((decide (y_137 > (1114111 : Int)))) with b_58 | b_58
                    · have H_155 := of_t H_153 b_58
                      refine V_reg hN hn [] [(81, false), (85, true)] calls_nil 0 [6, 92] [] ⟨[(6, .c (.val (.int .i64 n_36))), (92, .c (.val (.bool true)))], [], 0⟩ [(decide (y_137 < least_38)) = false, (decide (y_137 > (1114111 : Int))) = true] (by kernel_rfl) rfl rfl (ap2 b_56 (ap1 b_58)) (by kernel_rfl) (by kernel_rfl) ?_
                      have H_157 := Option.some.inj (show some true = some q_148 from H_155); subst H_157
                      refine VL_nil ?_
                      exact QP_end true rfl [] hn (by kernel_rfl) (by kernel_rfl) rfl rfl rfl
                    · have H_156 := of_f H_153 b_58
                      rcases Bool.eq_false_or_eq_true ((decide (y_137 ≥ (55296 : Int)))) with b_60 | b_60
                      · have H_158 := of_t H_156 b_60
                        refine V_reg hN hn [] [(81, false), (85, false), (88, true)] calls_nil 0 [6, 92] [] ⟨[(6, .c (.val (.int .i64 n_36))), (92, .c (.val (.bool (decide (y_137 < (57344 : Int))))))], [], 0⟩ [(decide (y_137 < least_38)) = false, (decide (y_137 > (1114111 : Int))) = false, (decide (y_137 ≥ (55296 : Int))) = true] (by kernel_rfl) rfl rfl (ap2 b_56 (ap2 b_58 (ap1 b_60))) (by kernel_rfl) (by kernel_rfl) ?_
                        have H_160 := Option.some.inj (show some (decide (y_137 < (57344 : Int))) = some q_148 from H_158); subst H_160
                        refine VL_nil ?_
                        exact QP_end (decide (y_137 < (57344 : Int))) rfl [] hn (by kernel_rfl) (by kernel_rfl) rfl rfl rfl
                      · have H_159 := of_f H_156 b_60
                        refine V_reg hN hn [] [(81, false), (85, false), (88, false)] calls_nil 0 [6, 92] [] ⟨[(6, .c (.val (.int .i64 n_36))), (92, .c (.val (.bool false)))], [], 0⟩ [(decide (y_137 < least_38)) = false, (decide (y_137 > (1114111 : Int))) = false, (decide (y_137 ≥ (55296 : Int))) = false] (by kernel_rfl) rfl rfl (ap2 b_56 (ap2 b_58 (ap1 b_60))) (by kernel_rfl) (by kernel_rfl) ?_
                        have H_161 := Option.some.inj (show some false = some q_148 from H_159); subst H_161
                        refine VL_nil ?_
                        exact QP_end false rfl [] hn (by kernel_rfl) (by kernel_rfl) rfl rfl rfl
                · intro y_151 hy; subst hy
                  skip
                  skip
                  refine VL_cond (y_151) (by kernel_rfl) ?_ ?_
                  · intro b_64; have H_162 := of_t H_150 b_64
                    refine V_run hN hn 2 0 [4] [] ⟨[(4, .c (.val (.int .i64 (0 : Int))))], [], 0⟩ [] (by kernel_rfl) rfl rfl ap0 ?_
                    have H_164 := Option.some.inj (show some (0 : Int) = some r from H_162); subst H_164
                    refine VL_ret ?_
                    exact P_to [(4, .c (.val (.int .i64 (0 : Int))))] [] [] hn (by kernel_rfl) (by kernel_rfl) rfl rfl rfl (QF_retS (by kernel_rfl) (by kernel_rfl) rfl)
                  · intro b_64; have H_163 := of_f H_150 b_64
                    refine V_run hN hn 3 0 [4] [] ⟨[(4, .c (.val (.int .i64 n_36)))], [], 0⟩ [] (by kernel_rfl) rfl rfl ap0 ?_
                    have H_165 := Option.some.inj (show some n_36 = some r from H_163); subst H_165
                    refine VL_ret ?_
                    exact P_to [(4, .c (.val (.int .i64 n_36)))] [] [] hn (by kernel_rfl) (by kernel_rfl) rfl rfl rfl (QF_retS (by kernel_rfl) (by kernel_rfl) rfl)

theorem palinoderef1_Valid_spec (K : Nat) (s_1 : ByteArray) (r : Bool) (H : palinoderef1_Valid K s_1 = some r) : Spec Try.prog 18 0 [.c (.val (.string s_1))] [] (.c (.val (.bool r))) [] := by
  refine Spec_mk (fn := Try.f18) (c := (Try.f18.body).get!) Try.func18 (by kernel_rfl) rfl ?_
  intro C hN hn
  replace hN : C.N = 17 := hN
  unfold palinoderef1_Valid at H
  refine V_run hN hn 5 0 [0, 3] [] ⟨[(0, .c (.val (.string s_1))), (3, .c (.val (.int .i64 (0 : Int))))], [], 0⟩ [] (by kernel_rfl) rfl rfl ap0 ?_
  refine VL_block ?_
  refine V_to [(0, .c (.val (.string s_1))), (3, .c (.val (.int .i64 (0 : Int))))] [] [] hn (by kernel_rfl) (by kernel_rfl) rfl rfl rfl ?_
  refine VL_loop (X := Int) (fun x => [(0, .c (.val (.string s_1))), (3, .c (.val (.int .i64 x)))]) (fun x => []) (fun k x => palinoderef1_Valid.l0 K s_1 k x = some r) K (0 : Int) H (fun _ h => no_none h) ?_
  intro k_4 at_3 H_18
  have H_19 : palinoderef1_Valid.l0 K s_1 (k_4 + 1) at_3 = some r := H_18
  rw [palinoderef1_Valid.l0] at H_19
  refine V_run hN hn 3 0 [0, 3, 8] [] ⟨[(0, .c (.val (.string s_1))), (3, .c (.val (.int .i64 at_3))), (8, .c (.val (.bool (decide (at_3 < (((ByteArray.size s_1) : Nat) : Int))))))], [], 0⟩ [] (by kernel_rfl) rfl rfl ap0 ?_
  refine VL_cond ((decide (at_3 < (((ByteArray.size s_1) : Nat) : Int)))) (by kernel_rfl) ?_ ?_
  · intro b_6; have H_20 := of_t H_19 b_6
    refine V_run hN hn 1 0 [0, 3, 8] [] ⟨[(0, .c (.val (.string s_1))), (3, .c (.val (.int .i64 at_3))), (8, .c (.val (.bool (decide (at_3 < (((ByteArray.size s_1) : Nat) : Int))))))], [], 0⟩ [] (by kernel_rfl) rfl rfl ap0 ?_
    refine VL_block ?_
    refine V_run hN hn 1 0 [0, 3, 8] [] ⟨[(0, .c (.val (.string s_1))), (3, .c (.val (.int .i64 at_3))), (8, .c (.val (.bool (decide (at_3 < (((ByteArray.size s_1) : Nat) : Int))))))], [], 0⟩ [] (by kernel_rfl) rfl rfl ap0 ?_
    obtain ⟨r_9, h_10, H_22⟩ := of_bind H_20
    refine V_reg hN hn [(2, ⟨38, 0, [.c (.val (.string s_1)), .c (.val (.int .i64 at_3))], [], .c (.val (.int .i64 r_9)), [], [], 0⟩)] [] (calls_cons (palinoderef1_Size_spec K s_1 at_3 r_9 h_10) (by kernel_rfl) calls_nil) 0 [0, 3, 4] [] ⟨[(0, .c (.val (.string s_1))), (3, .c (.val (.int .i64 at_3))), (4, .c (.val (.int .i64 r_9)))], [], 0⟩ [] (by kernel_rfl) rfl rfl ap0 (by kernel_rfl) (by kernel_rfl) ?_
    refine V_run hN hn 3 0 [0, 3, 4, 13] [] ⟨[(0, .c (.val (.string s_1))), (3, .c (.val (.int .i64 at_3))), (4, .c (.val (.int .i64 r_9))), (13, .c (.val (.bool (r_9 == (0 : Int)))))], [], 0⟩ [] (by kernel_rfl) rfl rfl ap0 ?_
    refine VL_cond ((r_9 == (0 : Int))) (by kernel_rfl) ?_ ?_
    · intro b_13; have H_23 := of_t H_22 b_13
      refine V_run hN hn 2 0 [2] [] ⟨[(2, .c (.val (.bool false)))], [], 0⟩ [] (by kernel_rfl) rfl rfl ap0 ?_
      have H_25 := Option.some.inj (show some false = some r from H_23); subst H_25
      refine VL_ret ?_
      refine QB_ret ?_
      refine QL_ret ?_
      refine QB_ret ?_
      exact P_to [(2, .c (.val (.bool false)))] [] [] hn (by kernel_rfl) (by kernel_rfl) rfl rfl rfl (QF_retS (by kernel_rfl) (by kernel_rfl) rfl)
    · intro b_13; have H_24 := of_f H_22 b_13
      refine V_run hN hn 2 0 [0, 3] [] ⟨[(0, .c (.val (.string s_1))), (3, .c (.val (.int .i64 (IntKind.wrap .i64 (at_3 + r_9)))))], [], 0⟩ [] (by kernel_rfl) rfl rfl ap0 ?_
      refine VL_nil (QB_end ?_)
      refine VL_nil ?_
      exact V_roundEnd (IntKind.wrap .i64 (at_3 + r_9)) H_24 [] hn (by kernel_rfl) (by kernel_rfl) rfl rfl rfl
  · intro b_6; have H_21 := of_f H_19 b_6
    refine VL_exit ?_
    refine QL_exit ?_
    refine QB_here ?_
    refine V_run hN hn 2 0 [2] [] ⟨[(2, .c (.val (.bool true)))], [], 0⟩ [] (by kernel_rfl) rfl rfl ap0 ?_
    have H_26 := Option.some.inj (show some true = some r from H_21); subst H_26
    refine VL_ret ?_
    exact P_to [(2, .c (.val (.bool true)))] [] [] hn (by kernel_rfl) (by kernel_rfl) rfl rfl rfl (QF_retS (by kernel_rfl) (by kernel_rfl) rfl)

theorem palinoderef11_Is_spec (K : Nat) (d_1 : Int) (d_2 : (List (Int × (Int × ByteArray)))) (r : Bool) (H : palinoderef11_Is K d_1 d_2 = some r) : Spec Try.prog 12 0 [.agg [.val (.int .i64 d_1), .imm (.slice (.pair (.int .i64) (.pair (.int .i64) .str))) d_2]] [] (.c (.val (.bool r))) [] := by
  refine Spec_mk (fn := Try.f12) (c := (Try.f12.body).get!) Try.func12 (by kernel_rfl) rfl ?_
  intro C hN hn
  replace hN : C.N = 122 := hN
  unfold palinoderef11_Is at H
  refine V_run hN hn 4 0 [1] [0] ⟨[(1, .c (.h 0))], [(0, .box [.val (.int .i64 d_1), .imm (.slice (.pair (.int .i64) (.pair (.int .i64) .str))) d_2])], 1⟩ [] (by kernel_rfl) rfl rfl ap0 ?_
  obtain ⟨q_80, H_81, H_82⟩ := of_bind H
  refine V_cut (Y := Bool) (R := Bool) q_80 (fun y => y) (fun y => [(1, .c (.h 0)), (21, .c (.val (.bool y)))]) (fun y => [(0, .box [.val (.int .i64 d_1), .imm (.slice (.pair (.int .i64) (.pair (.int .i64) .str))) d_2])]) ?_ ?_
  · skip
    rcases Bool.eq_false_or_eq_true ((decide (d_1 < (0 : Int)))) with b_4 | b_4
    · have H_84 := of_t H_81 b_4
      refine V_reg hN hn [] [(11, true)] calls_nil 1 [1, 21] [0] ⟨[(1, .c (.h 0)), (21, .c (.val (.bool true)))], [(0, .box [.val (.int .i64 d_1), .imm (.slice (.pair (.int .i64) (.pair (.int .i64) .str))) d_2])], 1⟩ [(decide (d_1 < (0 : Int))) = true] (by kernel_rfl) rfl rfl (ap1 b_4) (by kernel_rfl) (by kernel_rfl) ?_
      have H_86 := Option.some.inj (show some true = some q_80 from H_84); subst H_86
      refine VL_nil ?_
      exact QP_end true rfl [(0, 0)] hn (by kernel_rfl) (by kernel_rfl) rfl rfl rfl
    · have H_85 := of_f H_81 b_4
      rcases Bool.eq_false_or_eq_true ((decide (d_1 > (20000 : Int)))) with b_6 | b_6
      · have H_87 := of_t H_85 b_6
        refine V_reg hN hn [] [(11, false), (16, true)] calls_nil 1 [1, 21] [0] ⟨[(1, .c (.h 0)), (21, .c (.val (.bool true)))], [(0, .box [.val (.int .i64 d_1), .imm (.slice (.pair (.int .i64) (.pair (.int .i64) .str))) d_2])], 1⟩ [(decide (d_1 < (0 : Int))) = false, (decide (d_1 > (20000 : Int))) = true] (by kernel_rfl) rfl rfl (ap2 b_4 (ap1 b_6)) (by kernel_rfl) (by kernel_rfl) ?_
        have H_89 := Option.some.inj (show some true = some q_80 from H_87); subst H_89
        refine VL_nil ?_
        exact QP_end true rfl [(0, 0)] hn (by kernel_rfl) (by kernel_rfl) rfl rfl rfl
      · have H_88 := of_f H_85 b_6
        refine V_reg hN hn [] [(11, false), (16, false)] calls_nil 1 [1, 21] [0] ⟨[(1, .c (.h 0)), (21, .c (.val (.bool (decide ((((List.length d_2) : Nat) : Int) > (60 : Int))))))], [(0, .box [.val (.int .i64 d_1), .imm (.slice (.pair (.int .i64) (.pair (.int .i64) .str))) d_2])], 1⟩ [(decide (d_1 < (0 : Int))) = false, (decide (d_1 > (20000 : Int))) = false] (by kernel_rfl) rfl rfl (ap2 b_4 (ap1 b_6)) (by kernel_rfl) (by kernel_rfl) ?_
        have H_90 := Option.some.inj (show some (decide ((((List.length d_2) : Nat) : Int) > (60 : Int))) = some q_80 from H_88); subst H_90
        refine VL_nil ?_
        exact QP_end (decide ((((List.length d_2) : Nat) : Int) > (60 : Int))) rfl [(0, 0)] hn (by kernel_rfl) (by kernel_rfl) rfl rfl rfl
  · intro y_83 hy; subst hy
    skip
    skip
    refine VL_cond (y_83) (by kernel_rfl) ?_ ?_
    · intro b_10; have H_91 := of_t H_82 b_10
      refine V_run hN hn 2 1 [2] [] ⟨[(2, .c (.val (.bool false)))], [], 1⟩ [] (by kernel_rfl) rfl rfl ap0 ?_
      have H_93 := Option.some.inj (show some false = some r from H_91); subst H_93
      refine VL_ret ?_
      exact P_to [(2, .c (.val (.bool false)))] [] [] hn (by kernel_rfl) (by kernel_rfl) rfl rfl rfl (QF_retS (by kernel_rfl) (by kernel_rfl) rfl)
    · intro b_10; have H_92 := of_f H_82 b_10
      refine V_run hN hn 6 1 [1, 3, 4, 5, 6] [0] ⟨[(1, .c (.h 0)), (3, .c (.val (.int .i64 (0 : Int)))), (4, .c (.val (.bool true))), (5, .c (.val (.int .i64 (0 : Int)))), (6, .c (.val (.int .i64 (0 : Int))))], [(0, .box [.val (.int .i64 d_1), .imm (.slice (.pair (.int .i64) (.pair (.int .i64) .str))) d_2])], 1⟩ [] (by kernel_rfl) rfl rfl ap0 ?_
      refine VL_block ?_
      refine V_to [(1, .c (.h 0)), (3, .c (.val (.int .i64 (0 : Int)))), (4, .c (.val (.bool true))), (5, .c (.val (.int .i64 (0 : Int)))), (6, .c (.val (.int .i64 (0 : Int))))] [(0, .box [.val (.int .i64 d_1), .imm (.slice (.pair (.int .i64) (.pair (.int .i64) .str))) d_2])] [(0, 0)] hn (by kernel_rfl) (by kernel_rfl) rfl rfl rfl ?_
      refine VL_loop (X := (Int × Bool × Int × Int)) (fun x => [(1, .c (.h 0)), (3, .c (.val (.int .i64 x.1))), (4, .c (.val (.bool x.2.1))), (5, .c (.val (.int .i64 x.2.2.1))), (6, .c (.val (.int .i64 x.2.2.2)))]) (fun x => [(0, .box [.val (.int .i64 d_1), .imm (.slice (.pair (.int .i64) (.pair (.int .i64) .str))) d_2])]) (fun k x => palinoderef11_Is.l0 K d_2 d_1 k x.1 x.2.1 x.2.2.1 x.2.2.2 = some r) K ((0 : Int), true, (0 : Int), (0 : Int)) H_92 (fun _ h => no_none h) ?_
      intro k_17 x_17 H_94
      obtain ⟨last_13, text_14, size_15, i_16⟩ := x_17
      have H_95 : palinoderef11_Is.l0 K d_2 d_1 (k_17 + 1) last_13 text_14 size_15 i_16 = some r := H_94
      rw [palinoderef11_Is.l0] at H_95
      refine V_run hN hn 3 1 [1, 3, 4, 5, 6, 26] [0] ⟨[(1, .c (.h 0)), (3, .c (.val (.int .i64 last_13))), (4, .c (.val (.bool text_14))), (5, .c (.val (.int .i64 size_15))), (6, .c (.val (.int .i64 i_16))), (26, .c (.val (.bool (decide (i_16 < (((List.length d_2) : Nat) : Int))))))], [(0, .box [.val (.int .i64 d_1), .imm (.slice (.pair (.int .i64) (.pair (.int .i64) .str))) d_2])], 1⟩ [] (by kernel_rfl) rfl rfl ap0 ?_
      refine VL_cond ((decide (i_16 < (((List.length d_2) : Nat) : Int)))) (by kernel_rfl) ?_ ?_
      · intro b_19; have H_96 := of_t H_95 b_19
        refine V_run hN hn 2 1 [1, 3, 4, 5, 6, 26] [0] ⟨[(1, .c (.h 0)), (3, .c (.val (.int .i64 last_13))), (4, .c (.val (.bool text_14))), (5, .c (.val (.int .i64 size_15))), (6, .c (.val (.int .i64 i_16))), (26, .c (.val (.bool (decide (i_16 < (((List.length d_2) : Nat) : Int))))))], [(0, .box [.val (.int .i64 d_1), .imm (.slice (.pair (.int .i64) (.pair (.int .i64) .str))) d_2])], 1⟩ [] (by kernel_rfl) rfl rfl ap0 ?_
        refine VL_block ?_
        obtain ⟨c_21, H_98⟩ := of_if H_96
        refine V_run hN hn 5 1 [1, 3, 4, 5, 6, 7, 36] [0, 1] ⟨[(1, .c (.h 0)), (3, .c (.val (.int .i64 last_13))), (4, .c (.val (.bool text_14))), (5, .c (.val (.int .i64 size_15))), (6, .c (.val (.int .i64 i_16))), (7, .c (.h 1)), (36, .c (.val (.bool (!(ByteArray.toList (List.getD d_2 (Int.toNat i_16) ((0 : Int), ((0 : Int), ByteArray.empty))).2.2 == ByteArray.toList (ByteArray.mk #[]))))))], [(0, .box [.val (.int .i64 d_1), .imm (.slice (.pair (.int .i64) (.pair (.int .i64) .str))) d_2]), (1, .box [.val (.int .i64 (List.getD d_2 (Int.toNat i_16) ((0 : Int), ((0 : Int), ByteArray.empty))).1), .val (.int .i64 (List.getD d_2 (Int.toNat i_16) ((0 : Int), ((0 : Int), ByteArray.empty))).2.1), .val (.string (List.getD d_2 (Int.toNat i_16) ((0 : Int), ((0 : Int), ByteArray.empty))).2.2)])], 2⟩ [0 ≤ i_16, i_16 < (((List.length d_2) : Nat) : Int)] (by kernel_rfl) rfl rfl (ap2 c_21.1 (ap1 c_21.2)) ?_
        refine VL_cond ((!(ByteArray.toList (List.getD d_2 (Int.toNat i_16) ((0 : Int), ((0 : Int), ByteArray.empty))).2.2 == ByteArray.toList (ByteArray.mk #[])))) (by kernel_rfl) ?_ ?_
        · intro b_22; have H_99 := of_t H_98 b_22
          refine V_run hN hn 2 2 [1, 3, 4, 5, 6, 7, 36] [0, 1] ⟨[(1, .c (.h 0)), (3, .c (.val (.int .i64 last_13))), (4, .c (.val (.bool text_14))), (5, .c (.val (.int .i64 size_15))), (6, .c (.val (.int .i64 i_16))), (7, .c (.h 1)), (36, .c (.val (.bool (!(ByteArray.toList (List.getD d_2 (Int.toNat i_16) ((0 : Int), ((0 : Int), ByteArray.empty))).2.2 == ByteArray.toList (ByteArray.mk #[]))))))], [(0, .box [.val (.int .i64 d_1), .imm (.slice (.pair (.int .i64) (.pair (.int .i64) .str))) d_2]), (1, .box [.val (.int .i64 (List.getD d_2 (Int.toNat i_16) ((0 : Int), ((0 : Int), ByteArray.empty))).1), .val (.int .i64 (List.getD d_2 (Int.toNat i_16) ((0 : Int), ((0 : Int), ByteArray.empty))).2.1), .val (.string (List.getD d_2 (Int.toNat i_16) ((0 : Int), ((0 : Int), ByteArray.empty))).2.2)])], 2⟩ [] (by kernel_rfl) rfl rfl ap0 ?_
          obtain ⟨q_101, H_102, H_103⟩ := of_bind H_99
          refine V_cut (Y := Bool) (R := Bool) q_101 (fun y => y) (fun y => [(1, .c (.h 0)), (3, .c (.val (.int .i64 last_13))), (5, .c (.val (.int .i64 size_15))), (6, .c (.val (.int .i64 i_16))), (7, .c (.h 1)), (65, .c (.val (.bool y)))]) (fun y => [(0, .box [.val (.int .i64 d_1), .imm (.slice (.pair (.int .i64) (.pair (.int .i64) .str))) d_2]), (1, .box [.val (.int .i64 (List.getD d_2 (Int.toNat i_16) ((0 : Int), ((0 : Int), ByteArray.empty))).1), .val (.int .i64 (List.getD d_2 (Int.toNat i_16) ((0 : Int), ((0 : Int), ByteArray.empty))).2.1), .val (.string (List.getD d_2 (Int.toNat i_16) ((0 : Int), ((0 : Int), ByteArray.empty))).2.2)])]) ?_ ?_
          · skip
            rcases Bool.eq_false_or_eq_true (((List.getD d_2 (Int.toNat i_16) ((0 : Int), ((0 : Int), ByteArray.empty))).1 != (0 : Int))) with b_24 | b_24
            · have H_105 := of_t H_102 b_24
              refine V_reg hN hn [] [(40, true)] calls_nil 2 [1, 3, 5, 6, 7, 65] [0, 1] ⟨[(1, .c (.h 0)), (3, .c (.val (.int .i64 last_13))), (5, .c (.val (.int .i64 size_15))), (6, .c (.val (.int .i64 i_16))), (7, .c (.h 1)), (65, .c (.val (.bool true)))], [(0, .box [.val (.int .i64 d_1), .imm (.slice (.pair (.int .i64) (.pair (.int .i64) .str))) d_2]), (1, .box [.val (.int .i64 (List.getD d_2 (Int.toNat i_16) ((0 : Int), ((0 : Int), ByteArray.empty))).1), .val (.int .i64 (List.getD d_2 (Int.toNat i_16) ((0 : Int), ((0 : Int), ByteArray.empty))).2.1), .val (.string (List.getD d_2 (Int.toNat i_16) ((0 : Int), ((0 : Int), ByteArray.empty))).2.2)])], 2⟩ [((List.getD d_2 (Int.toNat i_16) ((0 : Int), ((0 : Int), ByteArray.empty))).1 != (0 : Int)) = true] (by kernel_rfl) rfl rfl (ap1 b_24) (by kernel_rfl) (by kernel_rfl) ?_
              have H_107 := Option.some.inj (show some true = some q_101 from H_105); subst H_107
              refine VL_nil ?_
              exact QP_end true rfl [(0, 0), (1, 1)] hn (by kernel_rfl) (by kernel_rfl) rfl rfl rfl
            · have H_106 := of_f H_102 b_24
              rcases Bool.eq_false_or_eq_true (((List.getD d_2 (Int.toNat i_16) ((0 : Int), ((0 : Int), ByteArray.empty))).2.1 != (0 : Int))) with b_26 | b_26
              · have H_108 := of_t H_106 b_26
                refine V_reg hN hn [] [(40, false), (45, true)] calls_nil 2 [1, 3, 5, 6, 7, 65] [0, 1] ⟨[(1, .c (.h 0)), (3, .c (.val (.int .i64 last_13))), (5, .c (.val (.int .i64 size_15))), (6, .c (.val (.int .i64 i_16))), (7, .c (.h 1)), (65, .c (.val (.bool true)))], [(0, .box [.val (.int .i64 d_1), .imm (.slice (.pair (.int .i64) (.pair (.int .i64) .str))) d_2]), (1, .box [.val (.int .i64 (List.getD d_2 (Int.toNat i_16) ((0 : Int), ((0 : Int), ByteArray.empty))).1), .val (.int .i64 (List.getD d_2 (Int.toNat i_16) ((0 : Int), ((0 : Int), ByteArray.empty))).2.1), .val (.string (List.getD d_2 (Int.toNat i_16) ((0 : Int), ((0 : Int), ByteArray.empty))).2.2)])], 2⟩ [((List.getD d_2 (Int.toNat i_16) ((0 : Int), ((0 : Int), ByteArray.empty))).1 != (0 : Int)) = false, ((List.getD d_2 (Int.toNat i_16) ((0 : Int), ((0 : Int), ByteArray.empty))).2.1 != (0 : Int)) = true] (by kernel_rfl) rfl rfl (ap2 b_24 (ap1 b_26)) (by kernel_rfl) (by kernel_rfl) ?_
                have H_110 := Option.some.inj (show some true = some q_101 from H_108); subst H_110
                refine VL_nil ?_
                exact QP_end true rfl [(0, 0), (1, 1)] hn (by kernel_rfl) (by kernel_rfl) rfl rfl rfl
              · have H_109 := of_f H_106 b_26
                rcases Bool.eq_false_or_eq_true ((decide (i_16 > (0 : Int)))) with b_28 | b_28
                · have H_111 := of_t H_109 b_28
                  rcases Bool.eq_false_or_eq_true (text_14) with b_29 | b_29
                  · have H_113 := of_t H_111 b_29
                    refine V_reg hN hn [] [(40, false), (45, false), (48, true), (52, true)] calls_nil 2 [1, 3, 5, 6, 7, 65] [0, 1] ⟨[(1, .c (.h 0)), (3, .c (.val (.int .i64 last_13))), (5, .c (.val (.int .i64 size_15))), (6, .c (.val (.int .i64 i_16))), (7, .c (.h 1)), (65, .c (.val (.bool true)))], [(0, .box [.val (.int .i64 d_1), .imm (.slice (.pair (.int .i64) (.pair (.int .i64) .str))) d_2]), (1, .box [.val (.int .i64 (List.getD d_2 (Int.toNat i_16) ((0 : Int), ((0 : Int), ByteArray.empty))).1), .val (.int .i64 (List.getD d_2 (Int.toNat i_16) ((0 : Int), ((0 : Int), ByteArray.empty))).2.1), .val (.string (List.getD d_2 (Int.toNat i_16) ((0 : Int), ((0 : Int), ByteArray.empty))).2.2)])], 2⟩ [((List.getD d_2 (Int.toNat i_16) ((0 : Int), ((0 : Int), ByteArray.empty))).1 != (0 : Int)) = false, ((List.getD d_2 (Int.toNat i_16) ((0 : Int), ((0 : Int), ByteArray.empty))).2.1 != (0 : Int)) = false, (decide (i_16 > (0 : Int))) = true, text_14 = true] (by kernel_rfl) rfl rfl (ap2 b_24 (ap2 b_26 (ap2 b_28 (ap1 b_29)))) (by kernel_rfl) (by kernel_rfl) ?_
                    have H_115 := Option.some.inj (show some true = some q_101 from H_113); subst H_115
                    refine VL_nil ?_
                    exact QP_end true rfl [(0, 0), (1, 1)] hn (by kernel_rfl) (by kernel_rfl) rfl rfl rfl
                  · have H_114 := of_f H_111 b_29
                    rcases Bool.eq_false_or_eq_true ((decide ((((ByteArray.size (List.getD d_2 (Int.toNat i_16) ((0 : Int), ((0 : Int), ByteArray.empty))).2.2) : Nat) : Int) > (IntKind.wrap .i64 ((20000 : Int) - size_15))))) with b_31 | b_31
                    · have H_116 := of_t H_114 b_31
                      refine V_reg hN hn [] [(40, false), (45, false), (48, true), (52, false), (60, true)] calls_nil 2 [1, 3, 5, 6, 7, 65] [0, 1] ⟨[(1, .c (.h 0)), (3, .c (.val (.int .i64 last_13))), (5, .c (.val (.int .i64 size_15))), (6, .c (.val (.int .i64 i_16))), (7, .c (.h 1)), (65, .c (.val (.bool true)))], [(0, .box [.val (.int .i64 d_1), .imm (.slice (.pair (.int .i64) (.pair (.int .i64) .str))) d_2]), (1, .box [.val (.int .i64 (List.getD d_2 (Int.toNat i_16) ((0 : Int), ((0 : Int), ByteArray.empty))).1), .val (.int .i64 (List.getD d_2 (Int.toNat i_16) ((0 : Int), ((0 : Int), ByteArray.empty))).2.1), .val (.string (List.getD d_2 (Int.toNat i_16) ((0 : Int), ((0 : Int), ByteArray.empty))).2.2)])], 2⟩ [((List.getD d_2 (Int.toNat i_16) ((0 : Int), ((0 : Int), ByteArray.empty))).1 != (0 : Int)) = false, ((List.getD d_2 (Int.toNat i_16) ((0 : Int), ((0 : Int), ByteArray.empty))).2.1 != (0 : Int)) = false, (decide (i_16 > (0 : Int))) = true, text_14 = false, (decide ((((ByteArray.size (List.getD d_2 (Int.toNat i_16) ((0 : Int), ((0 : Int), ByteArray.empty))).2.2) : Nat) : Int) > (IntKind.wrap .i64 ((20000 : Int) - size_15)))) = true] (by kernel_rfl) rfl rfl (ap2 b_24 (ap2 b_26 (ap2 b_28 (ap2 b_29 (ap1 b_31))))) (by kernel_rfl) (by kernel_rfl) ?_
                      have H_118 := Option.some.inj (show some true = some q_101 from H_116); subst H_118
                      refine VL_nil ?_
                      exact QP_end true rfl [(0, 0), (1, 1)] hn (by kernel_rfl) (by kernel_rfl) rfl rfl rfl
                    · have H_117 := of_f H_114 b_31
                      obtain ⟨r_33, h_34, H_119⟩ := of_bind H_117
                      refine V_reg hN hn [(26, ⟨18, 0, [.c (.val (.string (List.getD d_2 (Int.toNat i_16) ((0 : Int), ((0 : Int), ByteArray.empty))).2.2))], [], .c (.val (.bool r_33)), [], [], 2⟩)] [(40, false), (45, false), (48, true), (52, false), (60, false)] (calls_cons (palinoderef1_Valid_spec K (List.getD d_2 (Int.toNat i_16) ((0 : Int), ((0 : Int), ByteArray.empty))).2.2 r_33 h_34) (by kernel_rfl) calls_nil) 2 [1, 3, 5, 6, 7, 65] [0, 1] ⟨[(1, .c (.h 0)), (3, .c (.val (.int .i64 last_13))), (5, .c (.val (.int .i64 size_15))), (6, .c (.val (.int .i64 i_16))), (7, .c (.h 1)), (65, .c (.val (.bool (!r_33))))], [(0, .box [.val (.int .i64 d_1), .imm (.slice (.pair (.int .i64) (.pair (.int .i64) .str))) d_2]), (1, .box [.val (.int .i64 (List.getD d_2 (Int.toNat i_16) ((0 : Int), ((0 : Int), ByteArray.empty))).1), .val (.int .i64 (List.getD d_2 (Int.toNat i_16) ((0 : Int), ((0 : Int), ByteArray.empty))).2.1), .val (.string (List.getD d_2 (Int.toNat i_16) ((0 : Int), ((0 : Int), ByteArray.empty))).2.2)])], 2⟩ [((List.getD d_2 (Int.toNat i_16) ((0 : Int), ((0 : Int), ByteArray.empty))).1 != (0 : Int)) = false, ((List.getD d_2 (Int.toNat i_16) ((0 : Int), ((0 : Int), ByteArray.empty))).2.1 != (0 : Int)) = false, (decide (i_16 > (0 : Int))) = true, text_14 = false, (decide ((((ByteArray.size (List.getD d_2 (Int.toNat i_16) ((0 : Int), ((0 : Int), ByteArray.empty))).2.2) : Nat) : Int) > (IntKind.wrap .i64 ((20000 : Int) - size_15)))) = false] (by kernel_rfl) rfl rfl (ap2 b_24 (ap2 b_26 (ap2 b_28 (ap2 b_29 (ap1 b_31))))) (by kernel_rfl) (by kernel_rfl) ?_
                      have H_120 := Option.some.inj (show some (!r_33) = some q_101 from H_119); subst H_120
                      refine VL_nil ?_
                      exact QP_end (!r_33) rfl [(0, 0), (1, 1)] hn (by kernel_rfl) (by kernel_rfl) rfl rfl rfl
                · have H_112 := of_f H_109 b_28
                  rcases Bool.eq_false_or_eq_true ((decide ((((ByteArray.size (List.getD d_2 (Int.toNat i_16) ((0 : Int), ((0 : Int), ByteArray.empty))).2.2) : Nat) : Int) > (IntKind.wrap .i64 ((20000 : Int) - size_15))))) with b_36 | b_36
                  · have H_121 := of_t H_112 b_36
                    refine V_reg hN hn [] [(40, false), (45, false), (48, false), (60, true)] calls_nil 2 [1, 3, 5, 6, 7, 65] [0, 1] ⟨[(1, .c (.h 0)), (3, .c (.val (.int .i64 last_13))), (5, .c (.val (.int .i64 size_15))), (6, .c (.val (.int .i64 i_16))), (7, .c (.h 1)), (65, .c (.val (.bool true)))], [(0, .box [.val (.int .i64 d_1), .imm (.slice (.pair (.int .i64) (.pair (.int .i64) .str))) d_2]), (1, .box [.val (.int .i64 (List.getD d_2 (Int.toNat i_16) ((0 : Int), ((0 : Int), ByteArray.empty))).1), .val (.int .i64 (List.getD d_2 (Int.toNat i_16) ((0 : Int), ((0 : Int), ByteArray.empty))).2.1), .val (.string (List.getD d_2 (Int.toNat i_16) ((0 : Int), ((0 : Int), ByteArray.empty))).2.2)])], 2⟩ [((List.getD d_2 (Int.toNat i_16) ((0 : Int), ((0 : Int), ByteArray.empty))).1 != (0 : Int)) = false, ((List.getD d_2 (Int.toNat i_16) ((0 : Int), ((0 : Int), ByteArray.empty))).2.1 != (0 : Int)) = false, (decide (i_16 > (0 : Int))) = false, (decide ((((ByteArray.size (List.getD d_2 (Int.toNat i_16) ((0 : Int), ((0 : Int), ByteArray.empty))).2.2) : Nat) : Int) > (IntKind.wrap .i64 ((20000 : Int) - size_15)))) = true] (by kernel_rfl) rfl rfl (ap2 b_24 (ap2 b_26 (ap2 b_28 (ap1 b_36)))) (by kernel_rfl) (by kernel_rfl) ?_
                    have H_123 := Option.some.inj (show some true = some q_101 from H_121); subst H_123
                    refine VL_nil ?_
                    exact QP_end true rfl [(0, 0), (1, 1)] hn (by kernel_rfl) (by kernel_rfl) rfl rfl rfl
                  · have H_122 := of_f H_112 b_36
                    obtain ⟨r_38, h_39, H_124⟩ := of_bind H_122
                    refine V_reg hN hn [(26, ⟨18, 0, [.c (.val (.string (List.getD d_2 (Int.toNat i_16) ((0 : Int), ((0 : Int), ByteArray.empty))).2.2))], [], .c (.val (.bool r_38)), [], [], 2⟩)] [(40, false), (45, false), (48, false), (60, false)] (calls_cons (palinoderef1_Valid_spec K (List.getD d_2 (Int.toNat i_16) ((0 : Int), ((0 : Int), ByteArray.empty))).2.2 r_38 h_39) (by kernel_rfl) calls_nil) 2 [1, 3, 5, 6, 7, 65] [0, 1] ⟨[(1, .c (.h 0)), (3, .c (.val (.int .i64 last_13))), (5, .c (.val (.int .i64 size_15))), (6, .c (.val (.int .i64 i_16))), (7, .c (.h 1)), (65, .c (.val (.bool (!r_38))))], [(0, .box [.val (.int .i64 d_1), .imm (.slice (.pair (.int .i64) (.pair (.int .i64) .str))) d_2]), (1, .box [.val (.int .i64 (List.getD d_2 (Int.toNat i_16) ((0 : Int), ((0 : Int), ByteArray.empty))).1), .val (.int .i64 (List.getD d_2 (Int.toNat i_16) ((0 : Int), ((0 : Int), ByteArray.empty))).2.1), .val (.string (List.getD d_2 (Int.toNat i_16) ((0 : Int), ((0 : Int), ByteArray.empty))).2.2)])], 2⟩ [((List.getD d_2 (Int.toNat i_16) ((0 : Int), ((0 : Int), ByteArray.empty))).1 != (0 : Int)) = false, ((List.getD d_2 (Int.toNat i_16) ((0 : Int), ((0 : Int), ByteArray.empty))).2.1 != (0 : Int)) = false, (decide (i_16 > (0 : Int))) = false, (decide ((((ByteArray.size (List.getD d_2 (Int.toNat i_16) ((0 : Int), ((0 : Int), ByteArray.empty))).2.2) : Nat) : Int) > (IntKind.wrap .i64 ((20000 : Int) - size_15)))) = false] (by kernel_rfl) rfl rfl (ap2 b_24 (ap2 b_26 (ap2 b_28 (ap1 b_36)))) (by kernel_rfl) (by kernel_rfl) ?_
                    have H_125 := Option.some.inj (show some (!r_38) = some q_101 from H_124); subst H_125
                    refine VL_nil ?_
                    exact QP_end (!r_38) rfl [(0, 0), (1, 1)] hn (by kernel_rfl) (by kernel_rfl) rfl rfl rfl
          · intro y_104 hy; subst hy
            skip
            skip
            refine VL_cond (y_104) (by kernel_rfl) ?_ ?_
            · intro b_42; have H_126 := of_t H_103 b_42
              refine V_run hN hn 2 2 [2] [] ⟨[(2, .c (.val (.bool false)))], [], 2⟩ [] (by kernel_rfl) rfl rfl ap0 ?_
              have H_128 := Option.some.inj (show some false = some r from H_126); subst H_128
              refine VL_ret ?_
              refine QB_ret ?_
              refine QL_ret ?_
              refine QB_ret ?_
              exact P_to [(2, .c (.val (.bool false)))] [] [] hn (by kernel_rfl) (by kernel_rfl) rfl rfl rfl (QF_retS (by kernel_rfl) (by kernel_rfl) rfl)
            · intro b_42; have H_127 := of_f H_103 b_42
              refine V_run hN hn 5 2 [1, 3, 4, 5, 6] [0] ⟨[(1, .c (.h 0)), (3, .c (.val (.int .i64 last_13))), (4, .c (.val (.bool true))), (5, .c (.val (.int .i64 (IntKind.wrap .i64 (size_15 + (((ByteArray.size (List.getD d_2 (Int.toNat i_16) ((0 : Int), ((0 : Int), ByteArray.empty))).2.2) : Nat) : Int)))))), (6, .c (.val (.int .i64 i_16)))], [(0, .box [.val (.int .i64 d_1), .imm (.slice (.pair (.int .i64) (.pair (.int .i64) .str))) d_2])], 2⟩ [] (by kernel_rfl) rfl rfl ap0 ?_
              refine VL_exit ?_
              refine QB_here ?_
              refine V_run hN hn 1 2 [1, 3, 4, 5, 6] [0] ⟨[(1, .c (.h 0)), (3, .c (.val (.int .i64 last_13))), (4, .c (.val (.bool true))), (5, .c (.val (.int .i64 (IntKind.wrap .i64 (size_15 + (((ByteArray.size (List.getD d_2 (Int.toNat i_16) ((0 : Int), ((0 : Int), ByteArray.empty))).2.2) : Nat) : Int)))))), (6, .c (.val (.int .i64 (IntKind.wrap .i64 (i_16 + (1 : Int))))))], [(0, .box [.val (.int .i64 d_1), .imm (.slice (.pair (.int .i64) (.pair (.int .i64) .str))) d_2])], 2⟩ [] (by kernel_rfl) rfl rfl ap0 ?_
              refine VL_nil ?_
              exact V_roundEnd (last_13, true, (IntKind.wrap .i64 (size_15 + (((ByteArray.size (List.getD d_2 (Int.toNat i_16) ((0 : Int), ((0 : Int), ByteArray.empty))).2.2) : Nat) : Int))), (IntKind.wrap .i64 (i_16 + (1 : Int)))) H_127 [(0, 0)] hn (by kernel_rfl) (by kernel_rfl) rfl rfl rfl
        · intro b_22; have H_100 := of_f H_98 b_22
          refine V_run hN hn 3 2 [1, 3, 4, 5, 6, 7, 36] [0, 1] ⟨[(1, .c (.h 0)), (3, .c (.val (.int .i64 last_13))), (4, .c (.val (.bool text_14))), (5, .c (.val (.int .i64 size_15))), (6, .c (.val (.int .i64 i_16))), (7, .c (.h 1)), (36, .c (.val (.bool (!(ByteArray.toList (List.getD d_2 (Int.toNat i_16) ((0 : Int), ((0 : Int), ByteArray.empty))).2.2 == ByteArray.toList (ByteArray.mk #[]))))))], [(0, .box [.val (.int .i64 d_1), .imm (.slice (.pair (.int .i64) (.pair (.int .i64) .str))) d_2]), (1, .box [.val (.int .i64 (List.getD d_2 (Int.toNat i_16) ((0 : Int), ((0 : Int), ByteArray.empty))).1), .val (.int .i64 (List.getD d_2 (Int.toNat i_16) ((0 : Int), ((0 : Int), ByteArray.empty))).2.1), .val (.string (List.getD d_2 (Int.toNat i_16) ((0 : Int), ((0 : Int), ByteArray.empty))).2.2)])], 2⟩ [] (by kernel_rfl) rfl rfl ap0 ?_
          obtain ⟨q_129, H_130, H_131⟩ := of_bind H_100
          refine V_cut (Y := Bool) (R := Bool) q_129 (fun y => y) (fun y => [(1, .c (.h 0)), (5, .c (.val (.int .i64 size_15))), (6, .c (.val (.int .i64 i_16))), (7, .c (.h 1)), (112, .c (.val (.bool y)))]) (fun y => [(0, .box [.val (.int .i64 d_1), .imm (.slice (.pair (.int .i64) (.pair (.int .i64) .str))) d_2]), (1, .box [.val (.int .i64 (List.getD d_2 (Int.toNat i_16) ((0 : Int), ((0 : Int), ByteArray.empty))).1), .val (.int .i64 (List.getD d_2 (Int.toNat i_16) ((0 : Int), ((0 : Int), ByteArray.empty))).2.1), .val (.string (List.getD d_2 (Int.toNat i_16) ((0 : Int), ((0 : Int), ByteArray.empty))).2.2)])]) ?_ ?_
          · skip
            rcases Bool.eq_false_or_eq_true ((decide ((List.getD d_2 (Int.toNat i_16) ((0 : Int), ((0 : Int), ByteArray.empty))).1 < last_13))) with b_47 | b_47
            · have H_133 := of_t H_130 b_47
              refine V_reg hN hn [] [(75, true)] calls_nil 2 [1, 5, 6, 7, 112] [0, 1] ⟨[(1, .c (.h 0)), (5, .c (.val (.int .i64 size_15))), (6, .c (.val (.int .i64 i_16))), (7, .c (.h 1)), (112, .c (.val (.bool true)))], [(0, .box [.val (.int .i64 d_1), .imm (.slice (.pair (.int .i64) (.pair (.int .i64) .str))) d_2]), (1, .box [.val (.int .i64 (List.getD d_2 (Int.toNat i_16) ((0 : Int), ((0 : Int), ByteArray.empty))).1), .val (.int .i64 (List.getD d_2 (Int.toNat i_16) ((0 : Int), ((0 : Int), ByteArray.empty))).2.1), .val (.string (List.getD d_2 (Int.toNat i_16) ((0 : Int), ((0 : Int), ByteArray.empty))).2.2)])], 2⟩ [(decide ((List.getD d_2 (Int.toNat i_16) ((0 : Int), ((0 : Int), ByteArray.empty))).1 < last_13)) = true] (by kernel_rfl) rfl rfl (ap1 b_47) (by kernel_rfl) (by kernel_rfl) ?_
              have H_135 := Option.some.inj (show some true = some q_129 from H_133); subst H_135
              refine VL_nil ?_
              exact QP_end true rfl [(0, 0), (1, 1)] hn (by kernel_rfl) (by kernel_rfl) rfl rfl rfl
            · have H_134 := of_f H_130 b_47
              rcases Bool.eq_false_or_eq_true ((decide (i_16 > (0 : Int)))) with b_49 | b_49
              · have H_136 := of_t H_134 b_49
                rcases Bool.eq_false_or_eq_true ((!text_14)) with b_50 | b_50
                · have H_138 := of_t H_136 b_50
                  rcases Bool.eq_false_or_eq_true (((List.getD d_2 (Int.toNat i_16) ((0 : Int), ((0 : Int), ByteArray.empty))).1 == last_13)) with b_51 | b_51
                  · have H_140 := of_t H_138 b_51
                    refine V_reg hN hn [] [(75, false), (78, true), (82, true), (89, true)] calls_nil 2 [1, 5, 6, 7, 112] [0, 1] ⟨[(1, .c (.h 0)), (5, .c (.val (.int .i64 size_15))), (6, .c (.val (.int .i64 i_16))), (7, .c (.h 1)), (112, .c (.val (.bool true)))], [(0, .box [.val (.int .i64 d_1), .imm (.slice (.pair (.int .i64) (.pair (.int .i64) .str))) d_2]), (1, .box [.val (.int .i64 (List.getD d_2 (Int.toNat i_16) ((0 : Int), ((0 : Int), ByteArray.empty))).1), .val (.int .i64 (List.getD d_2 (Int.toNat i_16) ((0 : Int), ((0 : Int), ByteArray.empty))).2.1), .val (.string (List.getD d_2 (Int.toNat i_16) ((0 : Int), ((0 : Int), ByteArray.empty))).2.2)])], 2⟩ [(decide ((List.getD d_2 (Int.toNat i_16) ((0 : Int), ((0 : Int), ByteArray.empty))).1 < last_13)) = false, (decide (i_16 > (0 : Int))) = true, (!text_14) = true, ((List.getD d_2 (Int.toNat i_16) ((0 : Int), ((0 : Int), ByteArray.empty))).1 == last_13) = true] (by kernel_rfl) rfl rfl (ap2 b_47 (ap2 b_49 (ap2 b_50 (ap1 b_51)))) (by kernel_rfl) (by kernel_rfl) ?_
                    have H_142 := Option.some.inj (show some true = some q_129 from H_140); subst H_142
                    refine VL_nil ?_
                    exact QP_end true rfl [(0, 0), (1, 1)] hn (by kernel_rfl) (by kernel_rfl) rfl rfl rfl
                  · have H_141 := of_f H_138 b_51
                    rcases Bool.eq_false_or_eq_true ((decide ((List.getD d_2 (Int.toNat i_16) ((0 : Int), ((0 : Int), ByteArray.empty))).2.1 ≤ (List.getD d_2 (Int.toNat i_16) ((0 : Int), ((0 : Int), ByteArray.empty))).1))) with b_53 | b_53
                    · have H_143 := of_t H_141 b_53
                      refine V_reg hN hn [] [(75, false), (78, true), (82, true), (89, false), (96, true)] calls_nil 2 [1, 5, 6, 7, 112] [0, 1] ⟨[(1, .c (.h 0)), (5, .c (.val (.int .i64 size_15))), (6, .c (.val (.int .i64 i_16))), (7, .c (.h 1)), (112, .c (.val (.bool true)))], [(0, .box [.val (.int .i64 d_1), .imm (.slice (.pair (.int .i64) (.pair (.int .i64) .str))) d_2]), (1, .box [.val (.int .i64 (List.getD d_2 (Int.toNat i_16) ((0 : Int), ((0 : Int), ByteArray.empty))).1), .val (.int .i64 (List.getD d_2 (Int.toNat i_16) ((0 : Int), ((0 : Int), ByteArray.empty))).2.1), .val (.string (List.getD d_2 (Int.toNat i_16) ((0 : Int), ((0 : Int), ByteArray.empty))).2.2)])], 2⟩ [(decide ((List.getD d_2 (Int.toNat i_16) ((0 : Int), ((0 : Int), ByteArray.empty))).1 < last_13)) = false, (decide (i_16 > (0 : Int))) = true, (!text_14) = true, ((List.getD d_2 (Int.toNat i_16) ((0 : Int), ((0 : Int), ByteArray.empty))).1 == last_13) = false, (decide ((List.getD d_2 (Int.toNat i_16) ((0 : Int), ((0 : Int), ByteArray.empty))).2.1 ≤ (List.getD d_2 (Int.toNat i_16) ((0 : Int), ((0 : Int), ByteArray.empty))).1)) = true] (by kernel_rfl) rfl rfl (ap2 b_47 (ap2 b_49 (ap2 b_50 (ap2 b_51 (ap1 b_53))))) (by kernel_rfl) (by kernel_rfl) ?_
                      have H_145 := Option.some.inj (show some true = some q_129 from H_143); subst H_145
                      refine VL_nil ?_
                      exact QP_end true rfl [(0, 0), (1, 1)] hn (by kernel_rfl) (by kernel_rfl) rfl rfl rfl
                    · have H_144 := of_f H_141 b_53
                      rcases Bool.eq_false_or_eq_true ((decide ((List.getD d_2 (Int.toNat i_16) ((0 : Int), ((0 : Int), ByteArray.empty))).2.1 > d_1))) with b_55 | b_55
                      · have H_146 := of_t H_144 b_55
                        refine V_reg hN hn [] [(75, false), (78, true), (82, true), (89, false), (96, false), (103, true)] calls_nil 2 [1, 5, 6, 7, 112] [0, 1] ⟨[(1, .c (.h 0)), (5, .c (.val (.int .i64 size_15))), (6, .c (.val (.int .i64 i_16))), (7, .c (.h 1)), (112, .c (.val (.bool true)))], [(0, .box [.val (.int .i64 d_1), .imm (.slice (.pair (.int .i64) (.pair (.int .i64) .str))) d_2]), (1, .box [.val (.int .i64 (List.getD d_2 (Int.toNat i_16) ((0 : Int), ((0 : Int), ByteArray.empty))).1), .val (.int .i64 (List.getD d_2 (Int.toNat i_16) ((0 : Int), ((0 : Int), ByteArray.empty))).2.1), .val (.string (List.getD d_2 (Int.toNat i_16) ((0 : Int), ((0 : Int), ByteArray.empty))).2.2)])], 2⟩ [(decide ((List.getD d_2 (Int.toNat i_16) ((0 : Int), ((0 : Int), ByteArray.empty))).1 < last_13)) = false, (decide (i_16 > (0 : Int))) = true, (!text_14) = true, ((List.getD d_2 (Int.toNat i_16) ((0 : Int), ((0 : Int), ByteArray.empty))).1 == last_13) = false, (decide ((List.getD d_2 (Int.toNat i_16) ((0 : Int), ((0 : Int), ByteArray.empty))).2.1 ≤ (List.getD d_2 (Int.toNat i_16) ((0 : Int), ((0 : Int), ByteArray.empty))).1)) = false, (decide ((List.getD d_2 (Int.toNat i_16) ((0 : Int), ((0 : Int), ByteArray.empty))).2.1 > d_1)) = true] (by kernel_rfl) rfl rfl (ap2 b_47 (ap2 b_49 (ap2 b_50 (ap2 b_51 (ap2 b_53 (ap1 b_55)))))) (by kernel_rfl) (by kernel_rfl) ?_
                        have H_148 := Option.some.inj (show some true = some q_129 from H_146); subst H_148
                        refine VL_nil ?_
                        exact QP_end true rfl [(0, 0), (1, 1)] hn (by kernel_rfl) (by kernel_rfl) rfl rfl rfl
                      · have H_147 := of_f H_144 b_55
                        refine V_reg hN hn [] [(75, false), (78, true), (82, true), (89, false), (96, false), (103, false)] calls_nil 2 [1, 5, 6, 7, 112] [0, 1] ⟨[(1, .c (.h 0)), (5, .c (.val (.int .i64 size_15))), (6, .c (.val (.int .i64 i_16))), (7, .c (.h 1)), (112, .c (.val (.bool (decide ((IntKind.wrap .i64 ((List.getD d_2 (Int.toNat i_16) ((0 : Int), ((0 : Int), ByteArray.empty))).2.1 - (List.getD d_2 (Int.toNat i_16) ((0 : Int), ((0 : Int), ByteArray.empty))).1)) > (IntKind.wrap .i64 ((20000 : Int) - size_15)))))))], [(0, .box [.val (.int .i64 d_1), .imm (.slice (.pair (.int .i64) (.pair (.int .i64) .str))) d_2]), (1, .box [.val (.int .i64 (List.getD d_2 (Int.toNat i_16) ((0 : Int), ((0 : Int), ByteArray.empty))).1), .val (.int .i64 (List.getD d_2 (Int.toNat i_16) ((0 : Int), ((0 : Int), ByteArray.empty))).2.1), .val (.string (List.getD d_2 (Int.toNat i_16) ((0 : Int), ((0 : Int), ByteArray.empty))).2.2)])], 2⟩ [(decide ((List.getD d_2 (Int.toNat i_16) ((0 : Int), ((0 : Int), ByteArray.empty))).1 < last_13)) = false, (decide (i_16 > (0 : Int))) = true, (!text_14) = true, ((List.getD d_2 (Int.toNat i_16) ((0 : Int), ((0 : Int), ByteArray.empty))).1 == last_13) = false, (decide ((List.getD d_2 (Int.toNat i_16) ((0 : Int), ((0 : Int), ByteArray.empty))).2.1 ≤ (List.getD d_2 (Int.toNat i_16) ((0 : Int), ((0 : Int), ByteArray.empty))).1)) = false, (decide ((List.getD d_2 (Int.toNat i_16) ((0 : Int), ((0 : Int), ByteArray.empty))).2.1 > d_1)) = false] (by kernel_rfl) rfl rfl (ap2 b_47 (ap2 b_49 (ap2 b_50 (ap2 b_51 (ap2 b_53 (ap1 b_55)))))) (by kernel_rfl) (by kernel_rfl) ?_
                        have H_149 := Option.some.inj (show some (decide ((IntKind.wrap .i64 ((List.getD d_2 (Int.toNat i_16) ((0 : Int), ((0 : Int), ByteArray.empty))).2.1 - (List.getD d_2 (Int.toNat i_16) ((0 : Int), ((0 : Int), ByteArray.empty))).1)) > (IntKind.wrap .i64 ((20000 : Int) - size_15)))) = some q_129 from H_147); subst H_149
                        refine VL_nil ?_
                        exact QP_end (decide ((IntKind.wrap .i64 ((List.getD d_2 (Int.toNat i_16) ((0 : Int), ((0 : Int), ByteArray.empty))).2.1 - (List.getD d_2 (Int.toNat i_16) ((0 : Int), ((0 : Int), ByteArray.empty))).1)) > (IntKind.wrap .i64 ((20000 : Int) - size_15)))) rfl [(0, 0), (1, 1)] hn (by kernel_rfl) (by kernel_rfl) rfl rfl rfl
                · have H_139 := of_f H_136 b_50
                  rcases Bool.eq_false_or_eq_true ((decide ((List.getD d_2 (Int.toNat i_16) ((0 : Int), ((0 : Int), ByteArray.empty))).2.1 ≤ (List.getD d_2 (Int.toNat i_16) ((0 : Int), ((0 : Int), ByteArray.empty))).1))) with b_58 | b_58
                  · have H_150 := of_t H_139 b_58
                    refine V_reg hN hn [] [(75, false), (78, true), (82, false), (96, true)] calls_nil 2 [1, 5, 6, 7, 112] [0, 1] ⟨[(1, .c (.h 0)), (5, .c (.val (.int .i64 size_15))), (6, .c (.val (.int .i64 i_16))), (7, .c (.h 1)), (112, .c (.val (.bool true)))], [(0, .box [.val (.int .i64 d_1), .imm (.slice (.pair (.int .i64) (.pair (.int .i64) .str))) d_2]), (1, .box [.val (.int .i64 (List.getD d_2 (Int.toNat i_16) ((0 : Int), ((0 : Int), ByteArray.empty))).1), .val (.int .i64 (List.getD d_2 (Int.toNat i_16) ((0 : Int), ((0 : Int), ByteArray.empty))).2.1), .val (.string (List.getD d_2 (Int.toNat i_16) ((0 : Int), ((0 : Int), ByteArray.empty))).2.2)])], 2⟩ [(decide ((List.getD d_2 (Int.toNat i_16) ((0 : Int), ((0 : Int), ByteArray.empty))).1 < last_13)) = false, (decide (i_16 > (0 : Int))) = true, (!text_14) = false, (decide ((List.getD d_2 (Int.toNat i_16) ((0 : Int), ((0 : Int), ByteArray.empty))).2.1 ≤ (List.getD d_2 (Int.toNat i_16) ((0 : Int), ((0 : Int), ByteArray.empty))).1)) = true] (by kernel_rfl) rfl rfl (ap2 b_47 (ap2 b_49 (ap2 b_50 (ap1 b_58)))) (by kernel_rfl) (by kernel_rfl) ?_
                    have H_152 := Option.some.inj (show some true = some q_129 from H_150); subst H_152
                    refine VL_nil ?_
                    exact QP_end true rfl [(0, 0), (1, 1)] hn (by kernel_rfl) (by kernel_rfl) rfl rfl rfl
                  · have H_151 := of_f H_139 b_58
                    rcases Bool.eq_false_or_eq_true ((decide ((List.getD d_2 (Int.toNat i_16) ((0 : Int), ((0 : Int), ByteArray.empty))).2.1 > d_1))) with b_60 | b_60
                    · have H_153 := of_t H_151 b_60
                      refine V_reg hN hn [] [(75, false), (78, true), (82, false), (96, false), (103, true)] calls_nil 2 [1, 5, 6, 7, 112] [0, 1] ⟨[(1, .c (.h 0)), (5, .c (.val (.int .i64 size_15))), (6, .c (.val (.int .i64 i_16))), (7, .c (.h 1)), (112, .c (.val (.bool true)))], [(0, .box [.val (.int .i64 d_1), .imm (.slice (.pair (.int .i64) (.pair (.int .i64) .str))) d_2]), (1, .box [.val (.int .i64 (List.getD d_2 (Int.toNat i_16) ((0 : Int), ((0 : Int), ByteArray.empty))).1), .val (.int .i64 (List.getD d_2 (Int.toNat i_16) ((0 : Int), ((0 : Int), ByteArray.empty))).2.1), .val (.string (List.getD d_2 (Int.toNat i_16) ((0 : Int), ((0 : Int), ByteArray.empty))).2.2)])], 2⟩ [(decide ((List.getD d_2 (Int.toNat i_16) ((0 : Int), ((0 : Int), ByteArray.empty))).1 < last_13)) = false, (decide (i_16 > (0 : Int))) = true, (!text_14) = false, (decide ((List.getD d_2 (Int.toNat i_16) ((0 : Int), ((0 : Int), ByteArray.empty))).2.1 ≤ (List.getD d_2 (Int.toNat i_16) ((0 : Int), ((0 : Int), ByteArray.empty))).1)) = false, (decide ((List.getD d_2 (Int.toNat i_16) ((0 : Int), ((0 : Int), ByteArray.empty))).2.1 > d_1)) = true] (by kernel_rfl) rfl rfl (ap2 b_47 (ap2 b_49 (ap2 b_50 (ap2 b_58 (ap1 b_60))))) (by kernel_rfl) (by kernel_rfl) ?_
                      have H_155 := Option.some.inj (show some true = some q_129 from H_153); subst H_155
                      refine VL_nil ?_
                      exact QP_end true rfl [(0, 0), (1, 1)] hn (by kernel_rfl) (by kernel_rfl) rfl rfl rfl
                    · have H_154 := of_f H_151 b_60
                      refine V_reg hN hn [] [(75, false), (78, true), (82, false), (96, false), (103, false)] calls_nil 2 [1, 5, 6, 7, 112] [0, 1] ⟨[(1, .c (.h 0)), (5, .c (.val (.int .i64 size_15))), (6, .c (.val (.int .i64 i_16))), (7, .c (.h 1)), (112, .c (.val (.bool (decide ((IntKind.wrap .i64 ((List.getD d_2 (Int.toNat i_16) ((0 : Int), ((0 : Int), ByteArray.empty))).2.1 - (List.getD d_2 (Int.toNat i_16) ((0 : Int), ((0 : Int), ByteArray.empty))).1)) > (IntKind.wrap .i64 ((20000 : Int) - size_15)))))))], [(0, .box [.val (.int .i64 d_1), .imm (.slice (.pair (.int .i64) (.pair (.int .i64) .str))) d_2]), (1, .box [.val (.int .i64 (List.getD d_2 (Int.toNat i_16) ((0 : Int), ((0 : Int), ByteArray.empty))).1), .val (.int .i64 (List.getD d_2 (Int.toNat i_16) ((0 : Int), ((0 : Int), ByteArray.empty))).2.1), .val (.string (List.getD d_2 (Int.toNat i_16) ((0 : Int), ((0 : Int), ByteArray.empty))).2.2)])], 2⟩ [(decide ((List.getD d_2 (Int.toNat i_16) ((0 : Int), ((0 : Int), ByteArray.empty))).1 < last_13)) = false, (decide (i_16 > (0 : Int))) = true, (!text_14) = false, (decide ((List.getD d_2 (Int.toNat i_16) ((0 : Int), ((0 : Int), ByteArray.empty))).2.1 ≤ (List.getD d_2 (Int.toNat i_16) ((0 : Int), ((0 : Int), ByteArray.empty))).1)) = false, (decide ((List.getD d_2 (Int.toNat i_16) ((0 : Int), ((0 : Int), ByteArray.empty))).2.1 > d_1)) = false] (by kernel_rfl) rfl rfl (ap2 b_47 (ap2 b_49 (ap2 b_50 (ap2 b_58 (ap1 b_60))))) (by kernel_rfl) (by kernel_rfl) ?_
                      have H_156 := Option.some.inj (show some (decide ((IntKind.wrap .i64 ((List.getD d_2 (Int.toNat i_16) ((0 : Int), ((0 : Int), ByteArray.empty))).2.1 - (List.getD d_2 (Int.toNat i_16) ((0 : Int), ((0 : Int), ByteArray.empty))).1)) > (IntKind.wrap .i64 ((20000 : Int) - size_15)))) = some q_129 from H_154); subst H_156
                      refine VL_nil ?_
                      exact QP_end (decide ((IntKind.wrap .i64 ((List.getD d_2 (Int.toNat i_16) ((0 : Int), ((0 : Int), ByteArray.empty))).2.1 - (List.getD d_2 (Int.toNat i_16) ((0 : Int), ((0 : Int), ByteArray.empty))).1)) > (IntKind.wrap .i64 ((20000 : Int) - size_15)))) rfl [(0, 0), (1, 1)] hn (by kernel_rfl) (by kernel_rfl) rfl rfl rfl
              · have H_137 := of_f H_134 b_49
                rcases Bool.eq_false_or_eq_true ((decide ((List.getD d_2 (Int.toNat i_16) ((0 : Int), ((0 : Int), ByteArray.empty))).2.1 ≤ (List.getD d_2 (Int.toNat i_16) ((0 : Int), ((0 : Int), ByteArray.empty))).1))) with b_63 | b_63
                · have H_157 := of_t H_137 b_63
                  refine V_reg hN hn [] [(75, false), (78, false), (96, true)] calls_nil 2 [1, 5, 6, 7, 112] [0, 1] ⟨[(1, .c (.h 0)), (5, .c (.val (.int .i64 size_15))), (6, .c (.val (.int .i64 i_16))), (7, .c (.h 1)), (112, .c (.val (.bool true)))], [(0, .box [.val (.int .i64 d_1), .imm (.slice (.pair (.int .i64) (.pair (.int .i64) .str))) d_2]), (1, .box [.val (.int .i64 (List.getD d_2 (Int.toNat i_16) ((0 : Int), ((0 : Int), ByteArray.empty))).1), .val (.int .i64 (List.getD d_2 (Int.toNat i_16) ((0 : Int), ((0 : Int), ByteArray.empty))).2.1), .val (.string (List.getD d_2 (Int.toNat i_16) ((0 : Int), ((0 : Int), ByteArray.empty))).2.2)])], 2⟩ [(decide ((List.getD d_2 (Int.toNat i_16) ((0 : Int), ((0 : Int), ByteArray.empty))).1 < last_13)) = false, (decide (i_16 > (0 : Int))) = false, (decide ((List.getD d_2 (Int.toNat i_16) ((0 : Int), ((0 : Int), ByteArray.empty))).2.1 ≤ (List.getD d_2 (Int.toNat i_16) ((0 : Int), ((0 : Int), ByteArray.empty))).1)) = true] (by kernel_rfl) rfl rfl (ap2 b_47 (ap2 b_49 (ap1 b_63))) (by kernel_rfl) (by kernel_rfl) ?_
                  have H_159 := Option.some.inj (show some true = some q_129 from H_157); subst H_159
                  refine VL_nil ?_
                  exact QP_end true rfl [(0, 0), (1, 1)] hn (by kernel_rfl) (by kernel_rfl) rfl rfl rfl
                · have H_158 := of_f H_137 b_63
                  rcases Bool.eq_false_or_eq_true ((decide ((List.getD d_2 (Int.toNat i_16) ((0 : Int), ((0 : Int), ByteArray.empty))).2.1 > d_1))) with b_65 | b_65
                  · have H_160 := of_t H_158 b_65
                    refine V_reg hN hn [] [(75, false), (78, false), (96, false), (103, true)] calls_nil 2 [1, 5, 6, 7, 112] [0, 1] ⟨[(1, .c (.h 0)), (5, .c (.val (.int .i64 size_15))), (6, .c (.val (.int .i64 i_16))), (7, .c (.h 1)), (112, .c (.val (.bool true)))], [(0, .box [.val (.int .i64 d_1), .imm (.slice (.pair (.int .i64) (.pair (.int .i64) .str))) d_2]), (1, .box [.val (.int .i64 (List.getD d_2 (Int.toNat i_16) ((0 : Int), ((0 : Int), ByteArray.empty))).1), .val (.int .i64 (List.getD d_2 (Int.toNat i_16) ((0 : Int), ((0 : Int), ByteArray.empty))).2.1), .val (.string (List.getD d_2 (Int.toNat i_16) ((0 : Int), ((0 : Int), ByteArray.empty))).2.2)])], 2⟩ [(decide ((List.getD d_2 (Int.toNat i_16) ((0 : Int), ((0 : Int), ByteArray.empty))).1 < last_13)) = false, (decide (i_16 > (0 : Int))) = false, (decide ((List.getD d_2 (Int.toNat i_16) ((0 : Int), ((0 : Int), ByteArray.empty))).2.1 ≤ (List.getD d_2 (Int.toNat i_16) ((0 : Int), ((0 : Int), ByteArray.empty))).1)) = false, (decide ((List.getD d_2 (Int.toNat i_16) ((0 : Int), ((0 : Int), ByteArray.empty))).2.1 > d_1)) = true] (by kernel_rfl) rfl rfl (ap2 b_47 (ap2 b_49 (ap2 b_63 (ap1 b_65)))) (by kernel_rfl) (by kernel_rfl) ?_
                    have H_162 := Option.some.inj (show some true = some q_129 from H_160); subst H_162
                    refine VL_nil ?_
                    exact QP_end true rfl [(0, 0), (1, 1)] hn (by kernel_rfl) (by kernel_rfl) rfl rfl rfl
                  · have H_161 := of_f H_158 b_65
                    refine V_reg hN hn [] [(75, false), (78, false), (96, false), (103, false)] calls_nil 2 [1, 5, 6, 7, 112] [0, 1] ⟨[(1, .c (.h 0)), (5, .c (.val (.int .i64 size_15))), (6, .c (.val (.int .i64 i_16))), (7, .c (.h 1)), (112, .c (.val (.bool (decide ((IntKind.wrap .i64 ((List.getD d_2 (Int.toNat i_16) ((0 : Int), ((0 : Int), ByteArray.empty))).2.1 - (List.getD d_2 (Int.toNat i_16) ((0 : Int), ((0 : Int), ByteArray.empty))).1)) > (IntKind.wrap .i64 ((20000 : Int) - size_15)))))))], [(0, .box [.val (.int .i64 d_1), .imm (.slice (.pair (.int .i64) (.pair (.int .i64) .str))) d_2]), (1, .box [.val (.int .i64 (List.getD d_2 (Int.toNat i_16) ((0 : Int), ((0 : Int), ByteArray.empty))).1), .val (.int .i64 (List.getD d_2 (Int.toNat i_16) ((0 : Int), ((0 : Int), ByteArray.empty))).2.1), .val (.string (List.getD d_2 (Int.toNat i_16) ((0 : Int), ((0 : Int), ByteArray.empty))).2.2)])], 2⟩ [(decide ((List.getD d_2 (Int.toNat i_16) ((0 : Int), ((0 : Int), ByteArray.empty))).1 < last_13)) = false, (decide (i_16 > (0 : Int))) = false, (decide ((List.getD d_2 (Int.toNat i_16) ((0 : Int), ((0 : Int), ByteArray.empty))).2.1 ≤ (List.getD d_2 (Int.toNat i_16) ((0 : Int), ((0 : Int), ByteArray.empty))).1)) = false, (decide ((List.getD d_2 (Int.toNat i_16) ((0 : Int), ((0 : Int), ByteArray.empty))).2.1 > d_1)) = false] (by kernel_rfl) rfl rfl (ap2 b_47 (ap2 b_49 (ap2 b_63 (ap1 b_65)))) (by kernel_rfl) (by kernel_rfl) ?_
                    have H_163 := Option.some.inj (show some (decide ((IntKind.wrap .i64 ((List.getD d_2 (Int.toNat i_16) ((0 : Int), ((0 : Int), ByteArray.empty))).2.1 - (List.getD d_2 (Int.toNat i_16) ((0 : Int), ((0 : Int), ByteArray.empty))).1)) > (IntKind.wrap .i64 ((20000 : Int) - size_15)))) = some q_129 from H_161); subst H_163
                    refine VL_nil ?_
                    exact QP_end (decide ((IntKind.wrap .i64 ((List.getD d_2 (Int.toNat i_16) ((0 : Int), ((0 : Int), ByteArray.empty))).2.1 - (List.getD d_2 (Int.toNat i_16) ((0 : Int), ((0 : Int), ByteArray.empty))).1)) > (IntKind.wrap .i64 ((20000 : Int) - size_15)))) rfl [(0, 0), (1, 1)] hn (by kernel_rfl) (by kernel_rfl) rfl rfl rfl
          · intro y_132 hy; subst hy
            skip
            skip
            refine VL_cond (y_132) (by kernel_rfl) ?_ ?_
            · intro b_69; have H_164 := of_t H_131 b_69
              refine V_run hN hn 2 2 [2] [] ⟨[(2, .c (.val (.bool false)))], [], 2⟩ [] (by kernel_rfl) rfl rfl ap0 ?_
              have H_166 := Option.some.inj (show some false = some r from H_164); subst H_166
              refine VL_ret ?_
              refine QB_ret ?_
              refine QL_ret ?_
              refine QB_ret ?_
              exact P_to [(2, .c (.val (.bool false)))] [] [] hn (by kernel_rfl) (by kernel_rfl) rfl rfl rfl (QF_retS (by kernel_rfl) (by kernel_rfl) rfl)
            · intro b_69; have H_165 := of_f H_131 b_69
              refine V_run hN hn 4 2 [1, 3, 4, 5, 6] [0] ⟨[(1, .c (.h 0)), (3, .c (.val (.int .i64 (List.getD d_2 (Int.toNat i_16) ((0 : Int), ((0 : Int), ByteArray.empty))).2.1))), (4, .c (.val (.bool false))), (5, .c (.val (.int .i64 (IntKind.wrap .i64 ((IntKind.wrap .i64 (size_15 + (List.getD d_2 (Int.toNat i_16) ((0 : Int), ((0 : Int), ByteArray.empty))).2.1)) - (List.getD d_2 (Int.toNat i_16) ((0 : Int), ((0 : Int), ByteArray.empty))).1))))), (6, .c (.val (.int .i64 i_16)))], [(0, .box [.val (.int .i64 d_1), .imm (.slice (.pair (.int .i64) (.pair (.int .i64) .str))) d_2])], 2⟩ [] (by kernel_rfl) rfl rfl ap0 ?_
              refine VL_nil (QB_end ?_)
              refine V_run hN hn 1 2 [1, 3, 4, 5, 6] [0] ⟨[(1, .c (.h 0)), (3, .c (.val (.int .i64 (List.getD d_2 (Int.toNat i_16) ((0 : Int), ((0 : Int), ByteArray.empty))).2.1))), (4, .c (.val (.bool false))), (5, .c (.val (.int .i64 (IntKind.wrap .i64 ((IntKind.wrap .i64 (size_15 + (List.getD d_2 (Int.toNat i_16) ((0 : Int), ((0 : Int), ByteArray.empty))).2.1)) - (List.getD d_2 (Int.toNat i_16) ((0 : Int), ((0 : Int), ByteArray.empty))).1))))), (6, .c (.val (.int .i64 (IntKind.wrap .i64 (i_16 + (1 : Int))))))], [(0, .box [.val (.int .i64 d_1), .imm (.slice (.pair (.int .i64) (.pair (.int .i64) .str))) d_2])], 2⟩ [] (by kernel_rfl) rfl rfl ap0 ?_
              refine VL_nil ?_
              exact V_roundEnd ((List.getD d_2 (Int.toNat i_16) ((0 : Int), ((0 : Int), ByteArray.empty))).2.1, false, (IntKind.wrap .i64 ((IntKind.wrap .i64 (size_15 + (List.getD d_2 (Int.toNat i_16) ((0 : Int), ((0 : Int), ByteArray.empty))).2.1)) - (List.getD d_2 (Int.toNat i_16) ((0 : Int), ((0 : Int), ByteArray.empty))).1)), (IntKind.wrap .i64 (i_16 + (1 : Int)))) H_165 [(0, 0)] hn (by kernel_rfl) (by kernel_rfl) rfl rfl rfl
      · intro b_19; have H_97 := of_f H_95 b_19
        refine VL_exit ?_
        refine QL_exit ?_
        refine QB_here ?_
        refine V_run hN hn 2 1 [2] [] ⟨[(2, .c (.val (.bool true)))], [], 1⟩ [] (by kernel_rfl) rfl rfl ap0 ?_
        have H_167 := Option.some.inj (show some true = some r from H_97); subst H_167
        refine VL_ret ?_
        exact P_to [(2, .c (.val (.bool true)))] [] [] hn (by kernel_rfl) (by kernel_rfl) rfl rfl rfl (QF_retS (by kernel_rfl) (by kernel_rfl) rfl)

theorem palinoderef11_Cells_spec (K : Nat) (d_1 : Int) (d_2 : (List (Int × (Int × ByteArray)))) (r : (List (Int × Int))) (H : palinoderef11_Cells K d_1 d_2 = some r) : Spec Try.prog 13 0 [.agg [.val (.int .i64 d_1), .imm (.slice (.pair (.int .i64) (.pair (.int .i64) .str))) d_2]] [] (.c (.h 9)) [(9, .row (.pair (.int .i64) (.int .u8)) r)] := by
  refine Spec_mk (fn := Try.f13) (c := (Try.f13.body).get!) Try.func13 (by kernel_rfl) rfl ?_
  intro C hN hn
  replace hN : C.N = 49 := hN
  unfold palinoderef11_Cells at H
  refine V_run hN hn 7 0 [1, 3, 4] [0] ⟨[(1, .c (.h 0)), (3, .c (.val (.slice none 0 0))), (4, .c (.val (.int .i64 (0 : Int))))], [(0, .box [.val (.int .i64 d_1), .imm (.slice (.pair (.int .i64) (.pair (.int .i64) .str))) d_2])], 1⟩ [] (by kernel_rfl) rfl rfl ap0 ?_
  refine VL_block ?_
  refine V_ghost [.nilSlot 3 (.pair (.int .i64) (.int .u8))] 1 hn [1, 3, 4] [0, 1] ⟨[(1, .c (.h 0)), (3, .c (.h 1)), (4, .c (.val (.int .i64 (0 : Int))))], [(0, .box [.val (.int .i64 d_1), .imm (.slice (.pair (.int .i64) (.pair (.int .i64) .str))) d_2]), (1, .row (.pair (.int .i64) (.int .u8)) ([] : List (Int × Int)))], 2⟩ (by kernel_rfl) rfl rfl ?_
  refine V_to [(1, .c (.h 0)), (3, .c (.h 9)), (4, .c (.val (.int .i64 (0 : Int))))] [(0, .box [.val (.int .i64 d_1), .imm (.slice (.pair (.int .i64) (.pair (.int .i64) .str))) d_2]), (9, .row (.pair (.int .i64) (.int .u8)) ([] : List (Int × Int)))] [(0, 0), (9, 1)] hn (by kernel_rfl) (by kernel_rfl) rfl rfl rfl ?_
  refine VL_loop (X := ((List (Int × Int)) × Int)) (fun x => [(1, .c (.h 0)), (3, .c (.h 9)), (4, .c (.val (.int .i64 x.2)))]) (fun x => [(0, .box [.val (.int .i64 d_1), .imm (.slice (.pair (.int .i64) (.pair (.int .i64) .str))) d_2]), (9, .row (.pair (.int .i64) (.int .u8)) x.1)]) (fun k x => palinoderef11_Cells.l0 K d_2 k x.1 x.2 = some r) K (([] : List (Int × Int)), (0 : Int)) H (fun _ h => no_none h) ?_
  intro k_44 x_44 H_87
  obtain ⟨out_43, i_4⟩ := x_44
  have H_88 : palinoderef11_Cells.l0 K d_2 (k_44 + 1) out_43 i_4 = some r := H_87
  rw [palinoderef11_Cells.l0] at H_88
  refine V_run hN hn 3 10 [1, 3, 4, 12] [0, 9] ⟨[(1, .c (.h 0)), (3, .c (.h 9)), (4, .c (.val (.int .i64 i_4))), (12, .c (.val (.bool (decide (i_4 < (((List.length d_2) : Nat) : Int))))))], [(0, .box [.val (.int .i64 d_1), .imm (.slice (.pair (.int .i64) (.pair (.int .i64) .str))) d_2]), (9, .row (.pair (.int .i64) (.int .u8)) out_43)], 10⟩ [] (by kernel_rfl) rfl rfl ap0 ?_
  refine VL_cond ((decide (i_4 < (((List.length d_2) : Nat) : Int)))) (by kernel_rfl) ?_ ?_
  · intro b_46; have H_89 := of_t H_88 b_46
    refine V_run hN hn 2 10 [1, 3, 4, 12] [0, 9] ⟨[(1, .c (.h 0)), (3, .c (.h 9)), (4, .c (.val (.int .i64 i_4))), (12, .c (.val (.bool (decide (i_4 < (((List.length d_2) : Nat) : Int))))))], [(0, .box [.val (.int .i64 d_1), .imm (.slice (.pair (.int .i64) (.pair (.int .i64) .str))) d_2]), (9, .row (.pair (.int .i64) (.int .u8)) out_43)], 10⟩ [] (by kernel_rfl) rfl rfl ap0 ?_
    obtain ⟨q_91, H_92, H_93⟩ := of_bind H_89
    refine V_cut (Y := (List (Int × Int))) (R := (List (Int × Int))) q_91 (fun y => y) (fun y => [(1, .c (.h 0)), (3, .c (.h 16)), (4, .c (.val (.int .i64 i_4)))]) (fun y => [(0, .box [.val (.int .i64 d_1), .imm (.slice (.pair (.int .i64) (.pair (.int .i64) .str))) d_2]), (16, .row (.pair (.int .i64) (.int .u8)) y)]) ?_ ?_
    · skip
      refine VL_block ?_
      obtain ⟨c_48, H_95⟩ := of_if H_92
      refine V_run hN hn 5 10 [1, 3, 4, 5, 6] [0, 9, 10] ⟨[(1, .c (.h 0)), (3, .c (.h 9)), (4, .c (.val (.int .i64 i_4))), (5, .c (.h 10)), (6, .c (.val (.int .i64 (0 : Int))))], [(0, .box [.val (.int .i64 d_1), .imm (.slice (.pair (.int .i64) (.pair (.int .i64) .str))) d_2]), (9, .row (.pair (.int .i64) (.int .u8)) out_43), (10, .box [.val (.int .i64 (List.getD d_2 (Int.toNat i_4) ((0 : Int), ((0 : Int), ByteArray.empty))).1), .val (.int .i64 (List.getD d_2 (Int.toNat i_4) ((0 : Int), ((0 : Int), ByteArray.empty))).2.1), .val (.string (List.getD d_2 (Int.toNat i_4) ((0 : Int), ((0 : Int), ByteArray.empty))).2.2)])], 11⟩ [0 ≤ i_4, i_4 < (((List.length d_2) : Nat) : Int)] (by kernel_rfl) rfl rfl (ap2 c_48.1 (ap1 c_48.2)) ?_
      obtain ⟨q_96, H_97, H_98⟩ := of_bind H_95
      refine V_cut (Y := (List (Int × Int))) (R := (List (Int × Int))) q_96 (fun y => y) (fun y => [(1, .c (.h 0)), (3, .c (.h 13)), (4, .c (.val (.int .i64 i_4))), (5, .c (.h 10))]) (fun y => [(0, .box [.val (.int .i64 d_1), .imm (.slice (.pair (.int .i64) (.pair (.int .i64) .str))) d_2]), (10, .box [.val (.int .i64 (List.getD d_2 (Int.toNat i_4) ((0 : Int), ((0 : Int), ByteArray.empty))).1), .val (.int .i64 (List.getD d_2 (Int.toNat i_4) ((0 : Int), ((0 : Int), ByteArray.empty))).2.1), .val (.string (List.getD d_2 (Int.toNat i_4) ((0 : Int), ((0 : Int), ByteArray.empty))).2.2)]), (13, .row (.pair (.int .i64) (.int .u8)) y)]) ?_ ?_
      · skip
        refine VL_block ?_
        refine V_to [(1, .c (.h 0)), (3, .c (.h 13)), (4, .c (.val (.int .i64 i_4))), (5, .c (.h 10)), (6, .c (.val (.int .i64 (0 : Int))))] [(0, .box [.val (.int .i64 d_1), .imm (.slice (.pair (.int .i64) (.pair (.int .i64) .str))) d_2]), (10, .box [.val (.int .i64 (List.getD d_2 (Int.toNat i_4) ((0 : Int), ((0 : Int), ByteArray.empty))).1), .val (.int .i64 (List.getD d_2 (Int.toNat i_4) ((0 : Int), ((0 : Int), ByteArray.empty))).2.1), .val (.string (List.getD d_2 (Int.toNat i_4) ((0 : Int), ((0 : Int), ByteArray.empty))).2.2)]), (13, .row (.pair (.int .i64) (.int .u8)) out_43)] [(0, 0), (10, 10), (13, 9)] hn (by kernel_rfl) (by kernel_rfl) rfl rfl rfl ?_
        refine VL_loop (X := ((List (Int × Int)) × Int)) (fun x => [(1, .c (.h 0)), (3, .c (.h 13)), (4, .c (.val (.int .i64 i_4))), (5, .c (.h 10)), (6, .c (.val (.int .i64 x.2)))]) (fun x => [(0, .box [.val (.int .i64 d_1), .imm (.slice (.pair (.int .i64) (.pair (.int .i64) .str))) d_2]), (10, .box [.val (.int .i64 (List.getD d_2 (Int.toNat i_4) ((0 : Int), ((0 : Int), ByteArray.empty))).1), .val (.int .i64 (List.getD d_2 (Int.toNat i_4) ((0 : Int), ((0 : Int), ByteArray.empty))).2.1), .val (.string (List.getD d_2 (Int.toNat i_4) ((0 : Int), ((0 : Int), ByteArray.empty))).2.2)]), (13, .row (.pair (.int .i64) (.int .u8)) x.1)]) (fun k x => palinoderef11_Cells.l1 K d_2 i_4 k x.1 x.2 = some q_96) K (out_43, (0 : Int)) H_97 (fun _ h => no_none h) ?_
        intro k_57 x_57 H_100
        obtain ⟨out_56, k_49⟩ := x_57
        have H_101 : palinoderef11_Cells.l1 K d_2 i_4 (k_57 + 1) out_56 k_49 = some q_96 := H_100
        rw [palinoderef11_Cells.l1] at H_101
        refine V_run hN hn 3 14 [1, 3, 4, 5, 6, 24] [0, 10, 13] ⟨[(1, .c (.h 0)), (3, .c (.h 13)), (4, .c (.val (.int .i64 i_4))), (5, .c (.h 10)), (6, .c (.val (.int .i64 k_49))), (24, .c (.val (.bool (decide (k_49 < (((ByteArray.size (List.getD d_2 (Int.toNat i_4) ((0 : Int), ((0 : Int), ByteArray.empty))).2.2) : Nat) : Int))))))], [(0, .box [.val (.int .i64 d_1), .imm (.slice (.pair (.int .i64) (.pair (.int .i64) .str))) d_2]), (10, .box [.val (.int .i64 (List.getD d_2 (Int.toNat i_4) ((0 : Int), ((0 : Int), ByteArray.empty))).1), .val (.int .i64 (List.getD d_2 (Int.toNat i_4) ((0 : Int), ((0 : Int), ByteArray.empty))).2.1), .val (.string (List.getD d_2 (Int.toNat i_4) ((0 : Int), ((0 : Int), ByteArray.empty))).2.2)]), (13, .row (.pair (.int .i64) (.int .u8)) out_56)], 14⟩ [] (by kernel_rfl) rfl rfl ap0 ?_
        refine VL_cond ((decide (k_49 < (((ByteArray.size (List.getD d_2 (Int.toNat i_4) ((0 : Int), ((0 : Int), ByteArray.empty))).2.2) : Nat) : Int)))) (by kernel_rfl) ?_ ?_
        · intro b_59; have H_102 := of_t H_101 b_59
          refine V_run hN hn 2 14 [1, 3, 4, 5, 6, 24] [0, 10, 13] ⟨[(1, .c (.h 0)), (3, .c (.h 13)), (4, .c (.val (.int .i64 i_4))), (5, .c (.h 10)), (6, .c (.val (.int .i64 k_49))), (24, .c (.val (.bool (decide (k_49 < (((ByteArray.size (List.getD d_2 (Int.toNat i_4) ((0 : Int), ((0 : Int), ByteArray.empty))).2.2) : Nat) : Int))))))], [(0, .box [.val (.int .i64 d_1), .imm (.slice (.pair (.int .i64) (.pair (.int .i64) .str))) d_2]), (10, .box [.val (.int .i64 (List.getD d_2 (Int.toNat i_4) ((0 : Int), ((0 : Int), ByteArray.empty))).1), .val (.int .i64 (List.getD d_2 (Int.toNat i_4) ((0 : Int), ((0 : Int), ByteArray.empty))).2.1), .val (.string (List.getD d_2 (Int.toNat i_4) ((0 : Int), ((0 : Int), ByteArray.empty))).2.2)]), (13, .row (.pair (.int .i64) (.int .u8)) out_56)], 14⟩ [] (by kernel_rfl) rfl rfl ap0 ?_
          refine VL_block ?_
          obtain ⟨c_61, H_104⟩ := of_if H_102
          refine V_run hN hn 1 14 [1, 3, 4, 5, 6] [0, 10, 15] ⟨[(1, .c (.h 0)), (3, .c (.h 15)), (4, .c (.val (.int .i64 i_4))), (5, .c (.h 10)), (6, .c (.val (.int .i64 k_49)))], [(0, .box [.val (.int .i64 d_1), .imm (.slice (.pair (.int .i64) (.pair (.int .i64) .str))) d_2]), (10, .box [.val (.int .i64 (List.getD d_2 (Int.toNat i_4) ((0 : Int), ((0 : Int), ByteArray.empty))).1), .val (.int .i64 (List.getD d_2 (Int.toNat i_4) ((0 : Int), ((0 : Int), ByteArray.empty))).2.1), .val (.string (List.getD d_2 (Int.toNat i_4) ((0 : Int), ((0 : Int), ByteArray.empty))).2.2)]), (15, .row (.pair (.int .i64) (.int .u8)) (out_56 ++ ([((-1 : Int), (bt (List.getD d_2 (Int.toNat i_4) ((0 : Int), ((0 : Int), ByteArray.empty))).2.2 k_49))] : List (Int × Int))))], 16⟩ [0 ≤ k_49, k_49 < (((ByteArray.size (List.getD d_2 (Int.toNat i_4) ((0 : Int), ((0 : Int), ByteArray.empty))).2.2) : Nat) : Int), (List.length out_56 + List.length ([((-1 : Int), (bt (List.getD d_2 (Int.toNat i_4) ((0 : Int), ((0 : Int), ByteArray.empty))).2.2 k_49))] : List (Int × Int))) * 16 ≤ 140737488355328] (by kernel_rfl) rfl rfl (ap2 c_61.1 (ap2 c_61.2.1 (ap1 c_61.2.2))) ?_
          refine VL_nil (QB_end ?_)
          refine V_run hN hn 1 16 [1, 3, 4, 5, 6] [0, 10, 15] ⟨[(1, .c (.h 0)), (3, .c (.h 15)), (4, .c (.val (.int .i64 i_4))), (5, .c (.h 10)), (6, .c (.val (.int .i64 (IntKind.wrap .i64 (k_49 + (1 : Int))))))], [(0, .box [.val (.int .i64 d_1), .imm (.slice (.pair (.int .i64) (.pair (.int .i64) .str))) d_2]), (10, .box [.val (.int .i64 (List.getD d_2 (Int.toNat i_4) ((0 : Int), ((0 : Int), ByteArray.empty))).1), .val (.int .i64 (List.getD d_2 (Int.toNat i_4) ((0 : Int), ((0 : Int), ByteArray.empty))).2.1), .val (.string (List.getD d_2 (Int.toNat i_4) ((0 : Int), ((0 : Int), ByteArray.empty))).2.2)]), (15, .row (.pair (.int .i64) (.int .u8)) (out_56 ++ ([((-1 : Int), (bt (List.getD d_2 (Int.toNat i_4) ((0 : Int), ((0 : Int), ByteArray.empty))).2.2 k_49))] : List (Int × Int))))], 16⟩ [] (by kernel_rfl) rfl rfl ap0 ?_
          refine VL_nil ?_
          exact V_roundEnd ((out_56 ++ ([((-1 : Int), (bt (List.getD d_2 (Int.toNat i_4) ((0 : Int), ((0 : Int), ByteArray.empty))).2.2 k_49))] : List (Int × Int))), (IntKind.wrap .i64 (k_49 + (1 : Int)))) H_104 [(0, 0), (10, 10), (13, 15)] hn (by kernel_rfl) (by kernel_rfl) rfl rfl rfl
        · intro b_59; have H_103 := of_f H_101 b_59
          refine VL_exit ?_
          refine QL_exit ?_
          refine QB_here ?_
          have H_105 := Option.some.inj (show some out_56 = some q_96 from H_103); subst H_105
          refine VL_nil ?_
          exact QP_end out_56 rfl [(0, 0), (10, 10), (13, 13)] hn (by kernel_rfl) (by kernel_rfl) rfl rfl rfl
      · intro y_99 hy; subst hy
        skip
        skip
        refine V_run hN hn 2 14 [1, 3, 4, 5, 7] [0, 10, 13] ⟨[(1, .c (.h 0)), (3, .c (.h 13)), (4, .c (.val (.int .i64 i_4))), (5, .c (.h 10)), (7, .c (.val (.int .i64 (List.getD d_2 (Int.toNat i_4) ((0 : Int), ((0 : Int), ByteArray.empty))).1)))], [(0, .box [.val (.int .i64 d_1), .imm (.slice (.pair (.int .i64) (.pair (.int .i64) .str))) d_2]), (10, .box [.val (.int .i64 (List.getD d_2 (Int.toNat i_4) ((0 : Int), ((0 : Int), ByteArray.empty))).1), .val (.int .i64 (List.getD d_2 (Int.toNat i_4) ((0 : Int), ((0 : Int), ByteArray.empty))).2.1), .val (.string (List.getD d_2 (Int.toNat i_4) ((0 : Int), ((0 : Int), ByteArray.empty))).2.2)]), (13, .row (.pair (.int .i64) (.int .u8)) y_99)], 14⟩ [] (by kernel_rfl) rfl rfl ap0 ?_
        refine VL_block ?_
        refine V_to [(1, .c (.h 0)), (3, .c (.h 16)), (4, .c (.val (.int .i64 i_4))), (5, .c (.h 10)), (7, .c (.val (.int .i64 (List.getD d_2 (Int.toNat i_4) ((0 : Int), ((0 : Int), ByteArray.empty))).1)))] [(0, .box [.val (.int .i64 d_1), .imm (.slice (.pair (.int .i64) (.pair (.int .i64) .str))) d_2]), (10, .box [.val (.int .i64 (List.getD d_2 (Int.toNat i_4) ((0 : Int), ((0 : Int), ByteArray.empty))).1), .val (.int .i64 (List.getD d_2 (Int.toNat i_4) ((0 : Int), ((0 : Int), ByteArray.empty))).2.1), .val (.string (List.getD d_2 (Int.toNat i_4) ((0 : Int), ((0 : Int), ByteArray.empty))).2.2)]), (16, .row (.pair (.int .i64) (.int .u8)) y_99)] [(0, 0), (10, 10), (16, 13)] hn (by kernel_rfl) (by kernel_rfl) rfl rfl rfl ?_
        refine VL_loop (X := ((List (Int × Int)) × Int)) (fun x => [(1, .c (.h 0)), (3, .c (.h 16)), (4, .c (.val (.int .i64 i_4))), (5, .c (.h 10)), (7, .c (.val (.int .i64 x.2)))]) (fun x => [(0, .box [.val (.int .i64 d_1), .imm (.slice (.pair (.int .i64) (.pair (.int .i64) .str))) d_2]), (10, .box [.val (.int .i64 (List.getD d_2 (Int.toNat i_4) ((0 : Int), ((0 : Int), ByteArray.empty))).1), .val (.int .i64 (List.getD d_2 (Int.toNat i_4) ((0 : Int), ((0 : Int), ByteArray.empty))).2.1), .val (.string (List.getD d_2 (Int.toNat i_4) ((0 : Int), ((0 : Int), ByteArray.empty))).2.2)]), (16, .row (.pair (.int .i64) (.int .u8)) x.1)]) (fun k x => palinoderef11_Cells.l2 K d_2 i_4 k x.1 x.2 = some q_91) K (y_99, (List.getD d_2 (Int.toNat i_4) ((0 : Int), ((0 : Int), ByteArray.empty))).1) H_98 (fun _ h => no_none h) ?_
        intro k_73 x_73 H_106
        obtain ⟨out_72, k_65⟩ := x_73
        have H_107 : palinoderef11_Cells.l2 K d_2 i_4 (k_73 + 1) out_72 k_65 = some q_91 := H_106
        rw [palinoderef11_Cells.l2] at H_107
        refine V_run hN hn 3 17 [1, 3, 4, 5, 7, 40] [0, 10, 16] ⟨[(1, .c (.h 0)), (3, .c (.h 16)), (4, .c (.val (.int .i64 i_4))), (5, .c (.h 10)), (7, .c (.val (.int .i64 k_65))), (40, .c (.val (.bool (decide (k_65 < (List.getD d_2 (Int.toNat i_4) ((0 : Int), ((0 : Int), ByteArray.empty))).2.1)))))], [(0, .box [.val (.int .i64 d_1), .imm (.slice (.pair (.int .i64) (.pair (.int .i64) .str))) d_2]), (10, .box [.val (.int .i64 (List.getD d_2 (Int.toNat i_4) ((0 : Int), ((0 : Int), ByteArray.empty))).1), .val (.int .i64 (List.getD d_2 (Int.toNat i_4) ((0 : Int), ((0 : Int), ByteArray.empty))).2.1), .val (.string (List.getD d_2 (Int.toNat i_4) ((0 : Int), ((0 : Int), ByteArray.empty))).2.2)]), (16, .row (.pair (.int .i64) (.int .u8)) out_72)], 17⟩ [] (by kernel_rfl) rfl rfl ap0 ?_
        refine VL_cond ((decide (k_65 < (List.getD d_2 (Int.toNat i_4) ((0 : Int), ((0 : Int), ByteArray.empty))).2.1))) (by kernel_rfl) ?_ ?_
        · intro b_75; have H_108 := of_t H_107 b_75
          refine V_run hN hn 2 17 [1, 3, 4, 5, 7, 40] [0, 10, 16] ⟨[(1, .c (.h 0)), (3, .c (.h 16)), (4, .c (.val (.int .i64 i_4))), (5, .c (.h 10)), (7, .c (.val (.int .i64 k_65))), (40, .c (.val (.bool (decide (k_65 < (List.getD d_2 (Int.toNat i_4) ((0 : Int), ((0 : Int), ByteArray.empty))).2.1)))))], [(0, .box [.val (.int .i64 d_1), .imm (.slice (.pair (.int .i64) (.pair (.int .i64) .str))) d_2]), (10, .box [.val (.int .i64 (List.getD d_2 (Int.toNat i_4) ((0 : Int), ((0 : Int), ByteArray.empty))).1), .val (.int .i64 (List.getD d_2 (Int.toNat i_4) ((0 : Int), ((0 : Int), ByteArray.empty))).2.1), .val (.string (List.getD d_2 (Int.toNat i_4) ((0 : Int), ((0 : Int), ByteArray.empty))).2.2)]), (16, .row (.pair (.int .i64) (.int .u8)) out_72)], 17⟩ [] (by kernel_rfl) rfl rfl ap0 ?_
          refine VL_block ?_
          obtain ⟨c_77, H_110⟩ := of_if H_108
          refine V_run hN hn 1 17 [1, 3, 4, 5, 7] [0, 10, 18] ⟨[(1, .c (.h 0)), (3, .c (.h 18)), (4, .c (.val (.int .i64 i_4))), (5, .c (.h 10)), (7, .c (.val (.int .i64 k_65)))], [(0, .box [.val (.int .i64 d_1), .imm (.slice (.pair (.int .i64) (.pair (.int .i64) .str))) d_2]), (10, .box [.val (.int .i64 (List.getD d_2 (Int.toNat i_4) ((0 : Int), ((0 : Int), ByteArray.empty))).1), .val (.int .i64 (List.getD d_2 (Int.toNat i_4) ((0 : Int), ((0 : Int), ByteArray.empty))).2.1), .val (.string (List.getD d_2 (Int.toNat i_4) ((0 : Int), ((0 : Int), ByteArray.empty))).2.2)]), (18, .row (.pair (.int .i64) (.int .u8)) (out_72 ++ ([(k_65, (0 : Int))] : List (Int × Int))))], 19⟩ [(List.length out_72 + List.length ([(k_65, (0 : Int))] : List (Int × Int))) * 16 ≤ 140737488355328] (by kernel_rfl) rfl rfl (ap1 c_77) ?_
          refine VL_nil (QB_end ?_)
          refine V_run hN hn 1 19 [1, 3, 4, 5, 7] [0, 10, 18] ⟨[(1, .c (.h 0)), (3, .c (.h 18)), (4, .c (.val (.int .i64 i_4))), (5, .c (.h 10)), (7, .c (.val (.int .i64 (IntKind.wrap .i64 (k_65 + (1 : Int))))))], [(0, .box [.val (.int .i64 d_1), .imm (.slice (.pair (.int .i64) (.pair (.int .i64) .str))) d_2]), (10, .box [.val (.int .i64 (List.getD d_2 (Int.toNat i_4) ((0 : Int), ((0 : Int), ByteArray.empty))).1), .val (.int .i64 (List.getD d_2 (Int.toNat i_4) ((0 : Int), ((0 : Int), ByteArray.empty))).2.1), .val (.string (List.getD d_2 (Int.toNat i_4) ((0 : Int), ((0 : Int), ByteArray.empty))).2.2)]), (18, .row (.pair (.int .i64) (.int .u8)) (out_72 ++ ([(k_65, (0 : Int))] : List (Int × Int))))], 19⟩ [] (by kernel_rfl) rfl rfl ap0 ?_
          refine VL_nil ?_
          exact V_roundEnd ((out_72 ++ ([(k_65, (0 : Int))] : List (Int × Int))), (IntKind.wrap .i64 (k_65 + (1 : Int)))) H_110 [(0, 0), (10, 10), (16, 18)] hn (by kernel_rfl) (by kernel_rfl) rfl rfl rfl
        · intro b_75; have H_109 := of_f H_107 b_75
          refine VL_exit ?_
          refine QL_exit ?_
          refine QB_here ?_
          refine VL_nil (QB_end ?_)
          have H_111 := Option.some.inj (show some out_72 = some q_91 from H_109); subst H_111
          refine VL_nil ?_
          exact QP_end out_72 rfl [(0, 0), (16, 16)] hn (by kernel_rfl) (by kernel_rfl) rfl rfl rfl
    · intro y_94 hy; subst hy
      skip
      skip
      refine V_run hN hn 1 17 [1, 3, 4] [0, 16] ⟨[(1, .c (.h 0)), (3, .c (.h 16)), (4, .c (.val (.int .i64 (IntKind.wrap .i64 (i_4 + (1 : Int))))))], [(0, .box [.val (.int .i64 d_1), .imm (.slice (.pair (.int .i64) (.pair (.int .i64) .str))) d_2]), (16, .row (.pair (.int .i64) (.int .u8)) y_94)], 17⟩ [] (by kernel_rfl) rfl rfl ap0 ?_
      refine VL_nil ?_
      exact V_roundEnd (y_94, (IntKind.wrap .i64 (i_4 + (1 : Int)))) H_93 [(0, 0), (9, 16)] hn (by kernel_rfl) (by kernel_rfl) rfl rfl rfl
  · intro b_46; have H_90 := of_f H_88 b_46
    refine VL_exit ?_
    refine QL_exit ?_
    refine QB_here ?_
    refine V_run hN hn 2 10 [2] [9] ⟨[(2, .c (.h 9))], [(9, .row (.pair (.int .i64) (.int .u8)) out_43)], 10⟩ [] (by kernel_rfl) rfl rfl ap0 ?_
    have H_112 := Option.some.inj (show some out_43 = some r from H_90); subst H_112
    refine VL_ret ?_
    exact P_to [(2, .c (.h 9))] [(9, .row (.pair (.int .i64) (.int .u8)) out_43)] [(9, 9)] hn (by kernel_rfl) (by kernel_rfl) rfl rfl rfl (QF_retS (by kernel_rfl) (by kernel_rfl) rfl)

theorem palinoderef11_Told_gr_spec (K : Nat) (base_1 : Int) (l_2 : (List (Int × Int))) (r : (Int × (List (Int × (Int × ByteArray))) × Int)) (H : palinoderef11_Told_gr K base_1 l_2 = some r) : Spec Try.prog 14 1 [.c (.val (.int .i64 base_1)), .c (.h 0)] [(0, .row (.pair (.int .i64) (.int .u8)) l_2)] (.tup [(true, [.val (.int .i64 r.1), .h 12]), (false, [.val (.int .i64 r.2.2)])]) [(0, .row (.pair (.int .i64) (.int .u8)) l_2), (12, .row (.pair (.int .i64) (.pair (.int .i64) .str)) r.2.1)] := by
  refine Spec_mk (fn := Try.f14) (c := (Try.f14.body).get!) Try.func14 (by kernel_rfl) rfl ?_
  intro C hN hn
  replace hN : C.N = 123 := hN
  unfold palinoderef11_Told_gr at H
  refine V_run hN hn 7 1 [1, 4, 6, 7] [0, 1, 2] ⟨[(1, .c (.h 0)), (4, .c (.h 1)), (6, .c (.h 2)), (7, .c (.val (.int .i64 (0 : Int))))], [(0, .row (.pair (.int .i64) (.int .u8)) l_2), (1, .box [.val (.int .i64 (0 : Int)), .val (.slice none 0 0)]), (2, .box [.val (.int .i64 base_1), .val (.slice none 0 0)])], 3⟩ [] (by kernel_rfl) rfl rfl ap0 ?_
  obtain ⟨q_133, H_134, H_135⟩ := of_bind H
  refine V_cut (Y := (List (Int × (Int × ByteArray)))) (R := (List (Int × (Int × ByteArray)))) q_133 (fun y => y) (fun y => [(4, .c (.h 1)), (6, .c (.h 2))]) (fun y => [(0, .row (.pair (.int .i64) (.int .u8)) l_2), (1, .box [.val (.int .i64 (0 : Int)), .val (.slice none 0 0)]), (2, .box [.val (.int .i64 base_1), .h 10]), (10, .row (.pair (.int .i64) (.pair (.int .i64) .str)) y)]) ?_ ?_
  · skip
    refine VL_block ?_
    refine V_ghost [.nilCell 2 1 (.pair (.int .i64) (.pair (.int .i64) .str))] 3 hn [1, 4, 6, 7] [0, 1, 2, 3] ⟨[(1, .c (.h 0)), (4, .c (.h 1)), (6, .c (.h 2)), (7, .c (.val (.int .i64 (0 : Int))))], [(0, .row (.pair (.int .i64) (.int .u8)) l_2), (1, .box [.val (.int .i64 (0 : Int)), .val (.slice none 0 0)]), (2, .box [.val (.int .i64 base_1), .h 3]), (3, .row (.pair (.int .i64) (.pair (.int .i64) .str)) ([] : List (Int × (Int × ByteArray))))], 4⟩ (by kernel_rfl) rfl rfl ?_
    refine V_to [(1, .c (.h 0)), (4, .c (.h 1)), (6, .c (.h 2)), (7, .c (.val (.int .i64 (0 : Int))))] [(0, .row (.pair (.int .i64) (.int .u8)) l_2), (1, .box [.val (.int .i64 (0 : Int)), .val (.slice none 0 0)]), (2, .box [.val (.int .i64 base_1), .h 10]), (10, .row (.pair (.int .i64) (.pair (.int .i64) .str)) ([] : List (Int × (Int × ByteArray))))] [(1, 1), (2, 2), (10, 3)] hn (by kernel_rfl) (by kernel_rfl) rfl rfl rfl ?_
    refine VL_loop (X := ((List (Int × (Int × ByteArray))) × Int)) (fun x => [(1, .c (.h 0)), (4, .c (.h 1)), (6, .c (.h 2)), (7, .c (.val (.int .i64 x.2)))]) (fun x => [(0, .row (.pair (.int .i64) (.int .u8)) l_2), (1, .box [.val (.int .i64 (0 : Int)), .val (.slice none 0 0)]), (2, .box [.val (.int .i64 base_1), .h 10]), (10, .row (.pair (.int .i64) (.pair (.int .i64) .str)) x.1)]) (fun k x => palinoderef11_Told_gr.l0 K l_2 k x.1 x.2 = some q_133) K (([] : List (Int × (Int × ByteArray))), (0 : Int)) H_134 (fun _ h => no_none h) ?_
    intro k_52 x_52 H_137
    obtain ⟨x_51, i_4⟩ := x_52
    have H_138 : palinoderef11_Told_gr.l0 K l_2 (k_52 + 1) x_51 i_4 = some q_133 := H_137
    rw [palinoderef11_Told_gr.l0] at H_138
    refine V_run hN hn 3 11 [1, 4, 6, 7, 16] [0, 1, 2, 10] ⟨[(1, .c (.h 0)), (4, .c (.h 1)), (6, .c (.h 2)), (7, .c (.val (.int .i64 i_4))), (16, .c (.val (.bool (decide (i_4 < (((List.length l_2) : Nat) : Int))))))], [(0, .row (.pair (.int .i64) (.int .u8)) l_2), (1, .box [.val (.int .i64 (0 : Int)), .val (.slice none 0 0)]), (2, .box [.val (.int .i64 base_1), .h 10]), (10, .row (.pair (.int .i64) (.pair (.int .i64) .str)) x_51)], 11⟩ [] (by kernel_rfl) rfl rfl ap0 ?_
    refine VL_cond ((decide (i_4 < (((List.length l_2) : Nat) : Int)))) (by kernel_rfl) ?_ ?_
    · intro b_54; have H_139 := of_t H_138 b_54
      refine V_run hN hn 1 11 [1, 4, 6, 7, 16] [0, 1, 2, 10] ⟨[(1, .c (.h 0)), (4, .c (.h 1)), (6, .c (.h 2)), (7, .c (.val (.int .i64 i_4))), (16, .c (.val (.bool (decide (i_4 < (((List.length l_2) : Nat) : Int))))))], [(0, .row (.pair (.int .i64) (.int .u8)) l_2), (1, .box [.val (.int .i64 (0 : Int)), .val (.slice none 0 0)]), (2, .box [.val (.int .i64 base_1), .h 10]), (10, .row (.pair (.int .i64) (.pair (.int .i64) .str)) x_51)], 11⟩ [] (by kernel_rfl) rfl rfl ap0 ?_
      obtain ⟨q_141, H_142, H_143⟩ := of_bind H_139
      refine V_cut (Y := ((List (Int × (Int × ByteArray))) × Int)) (R := ((List (Int × (Int × ByteArray))) × Int)) q_141 (fun y => y) (fun y => [(1, .c (.h 0)), (4, .c (.h 1)), (6, .c (.h 2)), (7, .c (.val (.int .i64 y.2)))]) (fun y => [(0, .row (.pair (.int .i64) (.int .u8)) l_2), (1, .box [.val (.int .i64 (0 : Int)), .val (.slice none 0 0)]), (2, .box [.val (.int .i64 base_1), .h 17]), (17, .row (.pair (.int .i64) (.pair (.int .i64) .str)) y.1)]) ?_ ?_
      · skip
        refine VL_block ?_
        obtain ⟨c_56, H_145⟩ := of_if H_142
        refine V_run hN hn 5 11 [1, 4, 6, 7, 8, 24] [0, 1, 2, 10] ⟨[(1, .c (.h 0)), (4, .c (.h 1)), (6, .c (.h 2)), (7, .c (.val (.int .i64 i_4))), (8, .c (.val (.int .i64 (IntKind.wrap .i64 (i_4 + (1 : Int)))))), (24, .c (.val (.bool (decide ((List.getD l_2 (Int.toNat i_4) ((0 : Int), (0 : Int))).1 < (0 : Int))))))], [(0, .row (.pair (.int .i64) (.int .u8)) l_2), (1, .box [.val (.int .i64 (0 : Int)), .val (.slice none 0 0)]), (2, .box [.val (.int .i64 base_1), .h 10]), (10, .row (.pair (.int .i64) (.pair (.int .i64) .str)) x_51)], 11⟩ [0 ≤ i_4, i_4 < (((List.length l_2) : Nat) : Int)] (by kernel_rfl) rfl rfl (ap2 c_56.1 (ap1 c_56.2)) ?_
        refine VL_cond ((decide ((List.getD l_2 (Int.toNat i_4) ((0 : Int), (0 : Int))).1 < (0 : Int)))) (by kernel_rfl) ?_ ?_
        · intro b_57; have H_146 := of_t H_145 b_57
          refine V_run hN hn 3 11 [1, 4, 6, 8, 9] [0, 1, 2, 10, 11] ⟨[(1, .c (.h 0)), (4, .c (.h 1)), (6, .c (.h 2)), (8, .c (.val (.int .i64 (IntKind.wrap .i64 (i_4 + (1 : Int)))))), (9, .c (.h 11))], [(0, .row (.pair (.int .i64) (.int .u8)) l_2), (1, .box [.val (.int .i64 (0 : Int)), .val (.slice none 0 0)]), (2, .box [.val (.int .i64 base_1), .h 10]), (10, .row (.pair (.int .i64) (.pair (.int .i64) .str)) x_51), (11, .row (.int .u8) ([(List.getD l_2 (Int.toNat i_4) ((0 : Int), (0 : Int))).2] : List Int))], 12⟩ [0 ≤ i_4, i_4 < (((List.length l_2) : Nat) : Int)] (by kernel_rfl) rfl rfl (ap2 c_56.1 (ap1 c_56.2)) ?_
          obtain ⟨q_148, H_149, H_150⟩ := of_bind H_146
          refine V_cut (Y := (Int × (List Int))) (R := (Int × (List Int))) q_148 (fun y => y) (fun y => [(1, .c (.h 0)), (4, .c (.h 1)), (6, .c (.h 2)), (8, .c (.val (.int .i64 y.1))), (9, .c (.h 14))]) (fun y => [(0, .row (.pair (.int .i64) (.int .u8)) l_2), (1, .box [.val (.int .i64 (0 : Int)), .val (.slice none 0 0)]), (2, .box [.val (.int .i64 base_1), .h 10]), (10, .row (.pair (.int .i64) (.pair (.int .i64) .str)) x_51), (14, .row (.int .u8) y.2)]) ?_ ?_
          · skip
            refine VL_block ?_
            refine V_to [(1, .c (.h 0)), (4, .c (.h 1)), (6, .c (.h 2)), (8, .c (.val (.int .i64 (IntKind.wrap .i64 (i_4 + (1 : Int)))))), (9, .c (.h 14))] [(0, .row (.pair (.int .i64) (.int .u8)) l_2), (1, .box [.val (.int .i64 (0 : Int)), .val (.slice none 0 0)]), (2, .box [.val (.int .i64 base_1), .h 10]), (10, .row (.pair (.int .i64) (.pair (.int .i64) .str)) x_51), (14, .row (.int .u8) ([(List.getD l_2 (Int.toNat i_4) ((0 : Int), (0 : Int))).2] : List Int))] [(1, 1), (2, 2), (10, 10), (14, 11)] hn (by kernel_rfl) (by kernel_rfl) rfl rfl rfl ?_
            refine VL_loop (X := (Int × (List Int))) (fun x => [(1, .c (.h 0)), (4, .c (.h 1)), (6, .c (.h 2)), (8, .c (.val (.int .i64 x.1))), (9, .c (.h 14))]) (fun x => [(0, .row (.pair (.int .i64) (.int .u8)) l_2), (1, .box [.val (.int .i64 (0 : Int)), .val (.slice none 0 0)]), (2, .box [.val (.int .i64 base_1), .h 10]), (10, .row (.pair (.int .i64) (.pair (.int .i64) .str)) x_51), (14, .row (.int .u8) x.2)]) (fun k x => palinoderef11_Told_gr.l1 K l_2 k x.1 x.2 = some q_148) K ((IntKind.wrap .i64 (i_4 + (1 : Int))), ([(List.getD l_2 (Int.toNat i_4) ((0 : Int), (0 : Int))).2] : List Int)) H_149 (fun _ h => no_none h) ?_
            intro k_70 x_70 H_152
            obtain ⟨k_59, t_69⟩ := x_70
            have H_153 : palinoderef11_Told_gr.l1 K l_2 (k_70 + 1) k_59 t_69 = some q_148 := H_152
            rw [palinoderef11_Told_gr.l1] at H_153
            refine V_run hN hn 2 15 [1, 4, 6, 8, 9] [0, 1, 2, 10, 14] ⟨[(1, .c (.h 0)), (4, .c (.h 1)), (6, .c (.h 2)), (8, .c (.val (.int .i64 k_59))), (9, .c (.h 14))], [(0, .row (.pair (.int .i64) (.int .u8)) l_2), (1, .box [.val (.int .i64 (0 : Int)), .val (.slice none 0 0)]), (2, .box [.val (.int .i64 base_1), .h 10]), (10, .row (.pair (.int .i64) (.pair (.int .i64) .str)) x_51), (14, .row (.int .u8) t_69)], 15⟩ [] (by kernel_rfl) rfl rfl ap0 ?_
            obtain ⟨q_154, H_155, H_156⟩ := of_bind H_153
            refine V_cut (Y := Bool) (R := Bool) q_154 (fun y => y) (fun y => [(1, .c (.h 0)), (4, .c (.h 1)), (6, .c (.h 2)), (8, .c (.val (.int .i64 k_59))), (9, .c (.h 14)), (42, .c (.val (.bool y)))]) (fun y => [(0, .row (.pair (.int .i64) (.int .u8)) l_2), (1, .box [.val (.int .i64 (0 : Int)), .val (.slice none 0 0)]), (2, .box [.val (.int .i64 base_1), .h 10]), (10, .row (.pair (.int .i64) (.pair (.int .i64) .str)) x_51), (14, .row (.int .u8) t_69)]) ?_ ?_
            · skip
              rcases Bool.eq_false_or_eq_true ((decide (k_59 < (((List.length l_2) : Nat) : Int)))) with b_72 | b_72
              · have H_158 := of_t H_155 b_72
                obtain ⟨c_73, H_160⟩ := of_if H_158
                refine V_reg hN hn [] [(35, true)] calls_nil 15 [1, 4, 6, 8, 9, 42] [0, 1, 2, 10, 14] ⟨[(1, .c (.h 0)), (4, .c (.h 1)), (6, .c (.h 2)), (8, .c (.val (.int .i64 k_59))), (9, .c (.h 14)), (42, .c (.val (.bool (decide ((List.getD l_2 (Int.toNat k_59) ((0 : Int), (0 : Int))).1 < (0 : Int))))))], [(0, .row (.pair (.int .i64) (.int .u8)) l_2), (1, .box [.val (.int .i64 (0 : Int)), .val (.slice none 0 0)]), (2, .box [.val (.int .i64 base_1), .h 10]), (10, .row (.pair (.int .i64) (.pair (.int .i64) .str)) x_51), (14, .row (.int .u8) t_69)], 15⟩ [(decide (k_59 < (((List.length l_2) : Nat) : Int))) = true, 0 ≤ k_59, k_59 < (((List.length l_2) : Nat) : Int)] (by kernel_rfl) rfl rfl (ap2 b_72 (ap2 c_73.1 (ap1 c_73.2))) (by kernel_rfl) (by kernel_rfl) ?_
                have H_161 := Option.some.inj (show some (decide ((List.getD l_2 (Int.toNat k_59) ((0 : Int), (0 : Int))).1 < (0 : Int))) = some q_154 from H_160); subst H_161
                refine VL_nil ?_
                exact QP_end (decide ((List.getD l_2 (Int.toNat k_59) ((0 : Int), (0 : Int))).1 < (0 : Int))) rfl [(1, 1), (2, 2), (10, 10), (14, 14)] hn (by kernel_rfl) (by kernel_rfl) rfl rfl rfl
              · have H_159 := of_f H_155 b_72
                refine V_reg hN hn [] [(35, false)] calls_nil 15 [1, 4, 6, 8, 9, 42] [0, 1, 2, 10, 14] ⟨[(1, .c (.h 0)), (4, .c (.h 1)), (6, .c (.h 2)), (8, .c (.val (.int .i64 k_59))), (9, .c (.h 14)), (42, .c (.val (.bool false)))], [(0, .row (.pair (.int .i64) (.int .u8)) l_2), (1, .box [.val (.int .i64 (0 : Int)), .val (.slice none 0 0)]), (2, .box [.val (.int .i64 base_1), .h 10]), (10, .row (.pair (.int .i64) (.pair (.int .i64) .str)) x_51), (14, .row (.int .u8) t_69)], 15⟩ [(decide (k_59 < (((List.length l_2) : Nat) : Int))) = false] (by kernel_rfl) rfl rfl (ap1 b_72) (by kernel_rfl) (by kernel_rfl) ?_
                have H_162 := Option.some.inj (show some false = some q_154 from H_159); subst H_162
                refine VL_nil ?_
                exact QP_end false rfl [(1, 1), (2, 2), (10, 10), (14, 14)] hn (by kernel_rfl) (by kernel_rfl) rfl rfl rfl
            · intro y_157 hy; subst hy
              skip
              skip
              refine VL_cond (y_157) (by kernel_rfl) ?_ ?_
              · intro b_76; have H_163 := of_t H_156 b_76
                refine V_run hN hn 1 15 [1, 4, 6, 8, 9, 42] [0, 1, 2, 10, 14] ⟨[(1, .c (.h 0)), (4, .c (.h 1)), (6, .c (.h 2)), (8, .c (.val (.int .i64 k_59))), (9, .c (.h 14)), (42, .c (.val (.bool y_157)))], [(0, .row (.pair (.int .i64) (.int .u8)) l_2), (1, .box [.val (.int .i64 (0 : Int)), .val (.slice none 0 0)]), (2, .box [.val (.int .i64 base_1), .h 10]), (10, .row (.pair (.int .i64) (.pair (.int .i64) .str)) x_51), (14, .row (.int .u8) t_69)], 15⟩ [] (by kernel_rfl) rfl rfl ap0 ?_
                refine VL_block ?_
                obtain ⟨c_78, H_165⟩ := of_if H_163
                refine V_run hN hn 3 15 [1, 4, 6, 8, 9] [0, 1, 2, 10, 16] ⟨[(1, .c (.h 0)), (4, .c (.h 1)), (6, .c (.h 2)), (8, .c (.val (.int .i64 (IntKind.wrap .i64 (k_59 + (1 : Int)))))), (9, .c (.h 16))], [(0, .row (.pair (.int .i64) (.int .u8)) l_2), (1, .box [.val (.int .i64 (0 : Int)), .val (.slice none 0 0)]), (2, .box [.val (.int .i64 base_1), .h 10]), (10, .row (.pair (.int .i64) (.pair (.int .i64) .str)) x_51), (16, .row (.int .u8) (t_69 ++ ([(List.getD l_2 (Int.toNat k_59) ((0 : Int), (0 : Int))).2] : List Int)))], 17⟩ [0 ≤ k_59, k_59 < (((List.length l_2) : Nat) : Int), (List.length t_69 + List.length ([(List.getD l_2 (Int.toNat k_59) ((0 : Int), (0 : Int))).2] : List Int)) * 1 ≤ 140737488355328] (by kernel_rfl) rfl rfl (ap2 c_78.1 (ap2 c_78.2.1 (ap1 c_78.2.2))) ?_
                refine VL_nil (QB_end ?_)
                refine VL_nil ?_
                exact V_roundEnd ((IntKind.wrap .i64 (k_59 + (1 : Int))), (t_69 ++ ([(List.getD l_2 (Int.toNat k_59) ((0 : Int), (0 : Int))).2] : List Int))) H_165 [(1, 1), (2, 2), (10, 10), (14, 16)] hn (by kernel_rfl) (by kernel_rfl) rfl rfl rfl
              · intro b_76; have H_164 := of_f H_156 b_76
                refine VL_exit ?_
                refine QL_exit ?_
                refine QB_here ?_
                have H_166 := Option.some.inj (show some (k_59, t_69) = some q_148 from H_164); subst H_166
                refine VL_nil ?_
                exact QP_end (k_59, t_69) rfl [(1, 1), (2, 2), (10, 10), (14, 14)] hn (by kernel_rfl) (by kernel_rfl) rfl rfl rfl
          · intro y_151 hy; subst hy
            obtain ⟨k_79, t_80⟩ := y_151
            obtain ⟨c_81, H_167⟩ := of_if H_150
            refine V_run hN hn 2 15 [1, 4, 6, 7] [0, 1, 2, 16] ⟨[(1, .c (.h 0)), (4, .c (.h 1)), (6, .c (.h 2)), (7, .c (.val (.int .i64 k_79)))], [(0, .row (.pair (.int .i64) (.int .u8)) l_2), (1, .box [.val (.int .i64 (0 : Int)), .val (.slice none 0 0)]), (2, .box [.val (.int .i64 base_1), .h 16]), (16, .row (.pair (.int .i64) (.pair (.int .i64) .str)) (x_51 ++ ([((0 : Int), ((0 : Int), (ofBytes t_80)))] : List (Int × (Int × ByteArray)))))], 17⟩ [(List.length x_51 + List.length ([((0 : Int), ((0 : Int), (ofBytes t_80)))] : List (Int × (Int × ByteArray)))) * 32 ≤ 140737488355328] (by kernel_rfl) rfl rfl (ap1 c_81) ?_
            refine VL_nil (QB_end ?_)
            have H_168 := Option.some.inj (show some ((x_51 ++ ([((0 : Int), ((0 : Int), (ofBytes t_80)))] : List (Int × (Int × ByteArray)))), k_79) = some q_141 from H_167); subst H_168
            refine VL_nil ?_
            exact QP_end ((x_51 ++ ([((0 : Int), ((0 : Int), (ofBytes t_80)))] : List (Int × (Int × ByteArray)))), k_79) rfl [(1, 1), (2, 2), (17, 16)] hn (by kernel_rfl) (by kernel_rfl) rfl rfl rfl
        · intro b_57; have H_147 := of_f H_145 b_57
          refine V_run hN hn 1 11 [1, 4, 6, 7, 8, 24] [0, 1, 2, 10] ⟨[(1, .c (.h 0)), (4, .c (.h 1)), (6, .c (.h 2)), (7, .c (.val (.int .i64 i_4))), (8, .c (.val (.int .i64 (IntKind.wrap .i64 (i_4 + (1 : Int)))))), (24, .c (.val (.bool (decide ((List.getD l_2 (Int.toNat i_4) ((0 : Int), (0 : Int))).1 < (0 : Int))))))], [(0, .row (.pair (.int .i64) (.int .u8)) l_2), (1, .box [.val (.int .i64 (0 : Int)), .val (.slice none 0 0)]), (2, .box [.val (.int .i64 base_1), .h 10]), (10, .row (.pair (.int .i64) (.pair (.int .i64) .str)) x_51)], 11⟩ [] (by kernel_rfl) rfl rfl ap0 ?_
          obtain ⟨q_169, H_170, H_171⟩ := of_bind H_147
          refine V_cut (Y := Int) (R := Int) q_169 (fun y => y) (fun y => [(1, .c (.h 0)), (4, .c (.h 1)), (6, .c (.h 2)), (7, .c (.val (.int .i64 i_4))), (8, .c (.val (.int .i64 y)))]) (fun y => [(0, .row (.pair (.int .i64) (.int .u8)) l_2), (1, .box [.val (.int .i64 (0 : Int)), .val (.slice none 0 0)]), (2, .box [.val (.int .i64 base_1), .h 10]), (10, .row (.pair (.int .i64) (.pair (.int .i64) .str)) x_51)]) ?_ ?_
          · skip
            refine VL_block ?_
            refine V_to [(1, .c (.h 0)), (4, .c (.h 1)), (6, .c (.h 2)), (7, .c (.val (.int .i64 i_4))), (8, .c (.val (.int .i64 (IntKind.wrap .i64 (i_4 + (1 : Int))))))] [(0, .row (.pair (.int .i64) (.int .u8)) l_2), (1, .box [.val (.int .i64 (0 : Int)), .val (.slice none 0 0)]), (2, .box [.val (.int .i64 base_1), .h 10]), (10, .row (.pair (.int .i64) (.pair (.int .i64) .str)) x_51)] [(1, 1), (2, 2), (10, 10)] hn (by kernel_rfl) (by kernel_rfl) rfl rfl rfl ?_
            refine VL_loop (X := Int) (fun x => [(1, .c (.h 0)), (4, .c (.h 1)), (6, .c (.h 2)), (7, .c (.val (.int .i64 i_4))), (8, .c (.val (.int .i64 x)))]) (fun x => [(0, .row (.pair (.int .i64) (.int .u8)) l_2), (1, .box [.val (.int .i64 (0 : Int)), .val (.slice none 0 0)]), (2, .box [.val (.int .i64 base_1), .h 10]), (10, .row (.pair (.int .i64) (.pair (.int .i64) .str)) x_51)]) (fun k x => palinoderef11_Told_gr.l2 K l_2 k x = some q_169) K (IntKind.wrap .i64 (i_4 + (1 : Int))) H_170 (fun _ h => no_none h) ?_
            intro k_84 k_83 H_173
            have H_174 : palinoderef11_Told_gr.l2 K l_2 (k_84 + 1) k_83 = some q_169 := H_173
            rw [palinoderef11_Told_gr.l2] at H_174
            refine V_run hN hn 2 11 [1, 4, 6, 7, 8] [0, 1, 2, 10] ⟨[(1, .c (.h 0)), (4, .c (.h 1)), (6, .c (.h 2)), (7, .c (.val (.int .i64 i_4))), (8, .c (.val (.int .i64 k_83)))], [(0, .row (.pair (.int .i64) (.int .u8)) l_2), (1, .box [.val (.int .i64 (0 : Int)), .val (.slice none 0 0)]), (2, .box [.val (.int .i64 base_1), .h 10]), (10, .row (.pair (.int .i64) (.pair (.int .i64) .str)) x_51)], 11⟩ [] (by kernel_rfl) rfl rfl ap0 ?_
            obtain ⟨q_175, H_176, H_177⟩ := of_bind H_174
            refine V_cut (Y := Bool) (R := Bool) q_175 (fun y => y) (fun y => [(1, .c (.h 0)), (4, .c (.h 1)), (6, .c (.h 2)), (7, .c (.val (.int .i64 i_4))), (8, .c (.val (.int .i64 k_83))), (79, .c (.val (.bool y)))]) (fun y => [(0, .row (.pair (.int .i64) (.int .u8)) l_2), (1, .box [.val (.int .i64 (0 : Int)), .val (.slice none 0 0)]), (2, .box [.val (.int .i64 base_1), .h 10]), (10, .row (.pair (.int .i64) (.pair (.int .i64) .str)) x_51)]) ?_ ?_
            · skip
              rcases Bool.eq_false_or_eq_true ((decide (k_83 < (((List.length l_2) : Nat) : Int)))) with b_86 | b_86
              · have H_179 := of_t H_176 b_86
                obtain ⟨c_87, H_181⟩ := of_if H_179
                refine V_draw hN hn (by kernel_rfl) [] [(65, true)] calls_nil 11 [1, 4, 6, 7, 8, 79] [0, 1, 2, 10] ⟨[(1, .c (.h 0)), (4, .c (.h 1)), (6, .c (.h 2)), (7, .c (.val (.int .i64 i_4))), (8, .c (.val (.int .i64 k_83))), (79, .c (.val (.bool ((List.getD l_2 (Int.toNat k_83) ((0 : Int), (0 : Int))).1 == (IntKind.wrap .i64 ((List.getD l_2 (Int.toNat (IntKind.wrap .i64 (k_83 - (1 : Int)))) ((0 : Int), (0 : Int))).1 + (1 : Int)))))))], [(0, .row (.pair (.int .i64) (.int .u8)) l_2), (1, .box [.val (.int .i64 (0 : Int)), .val (.slice none 0 0)]), (2, .box [.val (.int .i64 base_1), .h 10]), (10, .row (.pair (.int .i64) (.pair (.int .i64) .str)) x_51)], 11⟩ [(decide (k_83 < (((List.length l_2) : Nat) : Int))) = true, 0 ≤ k_83, k_83 < (((List.length l_2) : Nat) : Int), 0 ≤ (IntKind.wrap .i64 (k_83 - (1 : Int))), (IntKind.wrap .i64 (k_83 - (1 : Int))) < (((List.length l_2) : Nat) : Int)] (by kernel_rfl) rfl rfl (ap2 b_86 (ap2 c_87.1 (ap2 c_87.2.1 (ap2 c_87.2.2.1 (ap1 c_87.2.2.2))))) (by kernel_rfl) (by kernel_rfl) ?_
                have H_182 := Option.some.inj (show some ((List.getD l_2 (Int.toNat k_83) ((0 : Int), (0 : Int))).1 == (IntKind.wrap .i64 ((List.getD l_2 (Int.toNat (IntKind.wrap .i64 (k_83 - (1 : Int)))) ((0 : Int), (0 : Int))).1 + (1 : Int)))) = some q_175 from H_181); subst H_182
                refine VL_nil ?_
                exact QP_end ((List.getD l_2 (Int.toNat k_83) ((0 : Int), (0 : Int))).1 == (IntKind.wrap .i64 ((List.getD l_2 (Int.toNat (IntKind.wrap .i64 (k_83 - (1 : Int)))) ((0 : Int), (0 : Int))).1 + (1 : Int)))) rfl [(1, 1), (2, 2), (10, 10)] hn (by kernel_rfl) (by kernel_rfl) rfl rfl rfl
              · have H_180 := of_f H_176 b_86
                refine V_draw hN hn (by kernel_rfl) [] [(65, false)] calls_nil 11 [1, 4, 6, 7, 8, 79] [0, 1, 2, 10] ⟨[(1, .c (.h 0)), (4, .c (.h 1)), (6, .c (.h 2)), (7, .c (.val (.int .i64 i_4))), (8, .c (.val (.int .i64 k_83))), (79, .c (.val (.bool false)))], [(0, .row (.pair (.int .i64) (.int .u8)) l_2), (1, .box [.val (.int .i64 (0 : Int)), .val (.slice none 0 0)]), (2, .box [.val (.int .i64 base_1), .h 10]), (10, .row (.pair (.int .i64) (.pair (.int .i64) .str)) x_51)], 11⟩ [(decide (k_83 < (((List.length l_2) : Nat) : Int))) = false] (by kernel_rfl) rfl rfl (ap1 b_86) (by kernel_rfl) (by kernel_rfl) ?_
                have H_183 := Option.some.inj (show some false = some q_175 from H_180); subst H_183
                refine VL_nil ?_
                exact QP_end false rfl [(1, 1), (2, 2), (10, 10)] hn (by kernel_rfl) (by kernel_rfl) rfl rfl rfl
            · intro y_178 hy; subst hy
              skip
              skip
              refine VL_cond (y_178) (by kernel_rfl) ?_ ?_
              · intro b_90; have H_184 := of_t H_177 b_90
                refine V_run hN hn 1 11 [1, 4, 6, 7, 8, 79] [0, 1, 2, 10] ⟨[(1, .c (.h 0)), (4, .c (.h 1)), (6, .c (.h 2)), (7, .c (.val (.int .i64 i_4))), (8, .c (.val (.int .i64 k_83))), (79, .c (.val (.bool y_178)))], [(0, .row (.pair (.int .i64) (.int .u8)) l_2), (1, .box [.val (.int .i64 (0 : Int)), .val (.slice none 0 0)]), (2, .box [.val (.int .i64 base_1), .h 10]), (10, .row (.pair (.int .i64) (.pair (.int .i64) .str)) x_51)], 11⟩ [] (by kernel_rfl) rfl rfl ap0 ?_
                refine VL_block ?_
                refine V_run hN hn 1 11 [1, 4, 6, 7, 8] [0, 1, 2, 10] ⟨[(1, .c (.h 0)), (4, .c (.h 1)), (6, .c (.h 2)), (7, .c (.val (.int .i64 i_4))), (8, .c (.val (.int .i64 (IntKind.wrap .i64 (k_83 + (1 : Int))))))], [(0, .row (.pair (.int .i64) (.int .u8)) l_2), (1, .box [.val (.int .i64 (0 : Int)), .val (.slice none 0 0)]), (2, .box [.val (.int .i64 base_1), .h 10]), (10, .row (.pair (.int .i64) (.pair (.int .i64) .str)) x_51)], 11⟩ [] (by kernel_rfl) rfl rfl ap0 ?_
                refine VL_nil (QB_end ?_)
                refine VL_nil ?_
                exact V_roundEnd (IntKind.wrap .i64 (k_83 + (1 : Int))) H_184 [(1, 1), (2, 2), (10, 10)] hn (by kernel_rfl) (by kernel_rfl) rfl rfl rfl
              · intro b_90; have H_185 := of_f H_177 b_90
                refine VL_exit ?_
                refine QL_exit ?_
                refine QB_here ?_
                have H_186 := Option.some.inj (show some k_83 = some q_169 from H_185); subst H_186
                refine VL_nil ?_
                exact QP_end k_83 rfl [(1, 1), (2, 2), (10, 10)] hn (by kernel_rfl) (by kernel_rfl) rfl rfl rfl
          · intro y_172 hy; subst hy
            skip
            skip
            obtain ⟨c_94, H_187⟩ := of_if H_171
            refine V_draw hN hn (by kernel_rfl) [] [] calls_nil 11 [1, 4, 6, 8] [0, 1, 2, 12] ⟨[(1, .c (.h 0)), (4, .c (.h 1)), (6, .c (.h 2)), (8, .c (.val (.int .i64 y_172)))], [(0, .row (.pair (.int .i64) (.int .u8)) l_2), (1, .box [.val (.int .i64 (0 : Int)), .val (.slice none 0 0)]), (2, .box [.val (.int .i64 base_1), .h 12]), (12, .row (.pair (.int .i64) (.pair (.int .i64) .str)) (x_51 ++ ([((List.getD l_2 (Int.toNat i_4) ((0 : Int), (0 : Int))).1, ((IntKind.wrap .i64 ((List.getD l_2 (Int.toNat (IntKind.wrap .i64 (y_172 - (1 : Int)))) ((0 : Int), (0 : Int))).1 + (1 : Int))), ByteArray.empty))] : List (Int × (Int × ByteArray)))))], 13⟩ [0 ≤ i_4, i_4 < (((List.length l_2) : Nat) : Int), 0 ≤ (IntKind.wrap .i64 (y_172 - (1 : Int))), (IntKind.wrap .i64 (y_172 - (1 : Int))) < (((List.length l_2) : Nat) : Int), (List.length x_51 + List.length ([((List.getD l_2 (Int.toNat i_4) ((0 : Int), (0 : Int))).1, ((IntKind.wrap .i64 ((List.getD l_2 (Int.toNat (IntKind.wrap .i64 (y_172 - (1 : Int)))) ((0 : Int), (0 : Int))).1 + (1 : Int))), ByteArray.empty))] : List (Int × (Int × ByteArray)))) * 32 ≤ 140737488355328] (by kernel_rfl) rfl rfl (ap2 c_56.1 (ap2 c_56.2 (ap2 c_94.1 (ap2 c_94.2.1 (ap1 c_94.2.2))))) (by kernel_rfl) (by kernel_rfl) ?_
            refine V_run hN hn 1 13 [1, 4, 6, 7] [0, 1, 2, 12] ⟨[(1, .c (.h 0)), (4, .c (.h 1)), (6, .c (.h 2)), (7, .c (.val (.int .i64 y_172)))], [(0, .row (.pair (.int .i64) (.int .u8)) l_2), (1, .box [.val (.int .i64 (0 : Int)), .val (.slice none 0 0)]), (2, .box [.val (.int .i64 base_1), .h 12]), (12, .row (.pair (.int .i64) (.pair (.int .i64) .str)) (x_51 ++ ([((List.getD l_2 (Int.toNat i_4) ((0 : Int), (0 : Int))).1, ((IntKind.wrap .i64 ((List.getD l_2 (Int.toNat (IntKind.wrap .i64 (y_172 - (1 : Int)))) ((0 : Int), (0 : Int))).1 + (1 : Int))), ByteArray.empty))] : List (Int × (Int × ByteArray)))))], 13⟩ [] (by kernel_rfl) rfl rfl ap0 ?_
            refine VL_nil (QB_end ?_)
            have H_188 := Option.some.inj (show some ((x_51 ++ ([((List.getD l_2 (Int.toNat i_4) ((0 : Int), (0 : Int))).1, ((IntKind.wrap .i64 ((List.getD l_2 (Int.toNat (IntKind.wrap .i64 (y_172 - (1 : Int)))) ((0 : Int), (0 : Int))).1 + (1 : Int))), ByteArray.empty))] : List (Int × (Int × ByteArray)))), y_172) = some q_141 from H_187); subst H_188
            refine VL_nil ?_
            exact QP_end ((x_51 ++ ([((List.getD l_2 (Int.toNat i_4) ((0 : Int), (0 : Int))).1, ((IntKind.wrap .i64 ((List.getD l_2 (Int.toNat (IntKind.wrap .i64 (y_172 - (1 : Int)))) ((0 : Int), (0 : Int))).1 + (1 : Int))), ByteArray.empty))] : List (Int × (Int × ByteArray)))), y_172) rfl [(1, 1), (2, 2), (17, 12)] hn (by kernel_rfl) (by kernel_rfl) rfl rfl rfl
      · intro y_144 hy; subst hy
        obtain ⟨x_96, i_97⟩ := y_144
        refine VL_nil ?_
        exact V_roundEnd (x_96, i_97) H_143 [(1, 1), (2, 2), (10, 17)] hn (by kernel_rfl) (by kernel_rfl) rfl rfl rfl
    · intro b_54; have H_140 := of_f H_138 b_54
      refine VL_exit ?_
      refine QL_exit ?_
      refine QB_here ?_
      have H_189 := Option.some.inj (show some x_51 = some q_133 from H_140); subst H_189
      refine VL_nil ?_
      exact QP_end x_51 rfl [(1, 1), (2, 2), (10, 10)] hn (by kernel_rfl) (by kernel_rfl) rfl rfl rfl
  · intro y_136 hy; subst hy
    skip
    skip
    refine V_run hN hn 3 11 [4, 6, 10] [0, 1, 2, 10] ⟨[(4, .c (.h 1)), (6, .c (.h 2)), (10, .c (.val (.int .i64 (0 : Int))))], [(0, .row (.pair (.int .i64) (.int .u8)) l_2), (1, .box [.val (.int .i64 (0 : Int)), .val (.slice none 0 0)]), (2, .box [.val (.int .i64 base_1), .h 10]), (10, .row (.pair (.int .i64) (.pair (.int .i64) .str)) y_136)], 11⟩ [] (by kernel_rfl) rfl rfl ap0 ?_
    obtain ⟨q_190, H_191, H_192⟩ := of_bind H_135
    refine V_cut (Y := Unit) (R := ((Int × (List (Int × (Int × ByteArray))) × Int) ⊕ Unit)) q_190 (fun y => (Sum.inr y)) (fun y => [(4, .c (.h 1)), (6, .c (.h 2))]) (fun y => [(0, .row (.pair (.int .i64) (.int .u8)) l_2), (1, .box [.val (.int .i64 (0 : Int)), .val (.slice none 0 0)]), (2, .box [.val (.int .i64 base_1), .h 10]), (10, .row (.pair (.int .i64) (.pair (.int .i64) .str)) y_136)]) ?_ ?_
    · skip
      refine VL_block ?_
      refine V_to [(4, .c (.h 1)), (6, .c (.h 2)), (10, .c (.val (.int .i64 (0 : Int))))] [(0, .row (.pair (.int .i64) (.int .u8)) l_2), (1, .box [.val (.int .i64 (0 : Int)), .val (.slice none 0 0)]), (2, .box [.val (.int .i64 base_1), .h 10]), (10, .row (.pair (.int .i64) (.pair (.int .i64) .str)) y_136)] [(1, 1), (2, 2), (10, 10)] hn (by kernel_rfl) (by kernel_rfl) rfl rfl rfl ?_
      refine VL_loop (X := Int) (fun x => [(4, .c (.h 1)), (6, .c (.h 2)), (10, .c (.val (.int .i64 x)))]) (fun x => [(0, .row (.pair (.int .i64) (.int .u8)) l_2), (1, .box [.val (.int .i64 (0 : Int)), .val (.slice none 0 0)]), (2, .box [.val (.int .i64 base_1), .h 10]), (10, .row (.pair (.int .i64) (.pair (.int .i64) .str)) y_136)]) (fun k x => palinoderef11_Told_gr.l3 K y_136 k x = some q_190) K (0 : Int) H_191 (fun _ h => no_none h) ?_
      intro k_101 k_100 H_194
      have H_195 : palinoderef11_Told_gr.l3 K y_136 (k_101 + 1) k_100 = some q_190 := H_194
      rw [palinoderef11_Told_gr.l3] at H_195
      refine V_run hN hn 3 11 [4, 6, 10, 105] [0, 1, 2, 10] ⟨[(4, .c (.h 1)), (6, .c (.h 2)), (10, .c (.val (.int .i64 k_100))), (105, .c (.val (.bool (decide (k_100 < (((List.length y_136) : Nat) : Int))))))], [(0, .row (.pair (.int .i64) (.int .u8)) l_2), (1, .box [.val (.int .i64 (0 : Int)), .val (.slice none 0 0)]), (2, .box [.val (.int .i64 base_1), .h 10]), (10, .row (.pair (.int .i64) (.pair (.int .i64) .str)) y_136)], 11⟩ [] (by kernel_rfl) rfl rfl ap0 ?_
      refine VL_cond ((decide (k_100 < (((List.length y_136) : Nat) : Int)))) (by kernel_rfl) ?_ ?_
      · intro b_103; have H_196 := of_t H_195 b_103
        refine V_run hN hn 2 11 [4, 6, 10, 105] [0, 1, 2, 10] ⟨[(4, .c (.h 1)), (6, .c (.h 2)), (10, .c (.val (.int .i64 k_100))), (105, .c (.val (.bool (decide (k_100 < (((List.length y_136) : Nat) : Int))))))], [(0, .row (.pair (.int .i64) (.int .u8)) l_2), (1, .box [.val (.int .i64 (0 : Int)), .val (.slice none 0 0)]), (2, .box [.val (.int .i64 base_1), .h 10]), (10, .row (.pair (.int .i64) (.pair (.int .i64) .str)) y_136)], 11⟩ [] (by kernel_rfl) rfl rfl ap0 ?_
        refine VL_block ?_
        refine V_run hN hn 1 11 [4, 6, 10, 105] [0, 1, 2, 10] ⟨[(4, .c (.h 1)), (6, .c (.h 2)), (10, .c (.val (.int .i64 k_100))), (105, .c (.val (.bool (decide (k_100 < (((List.length y_136) : Nat) : Int))))))], [(0, .row (.pair (.int .i64) (.int .u8)) l_2), (1, .box [.val (.int .i64 (0 : Int)), .val (.slice none 0 0)]), (2, .box [.val (.int .i64 base_1), .h 10]), (10, .row (.pair (.int .i64) (.pair (.int .i64) .str)) y_136)], 11⟩ [] (by kernel_rfl) rfl rfl ap0 ?_
        obtain ⟨r_106, h_107, H_198⟩ := of_bind H_196
        obtain ⟨c_108, H_199⟩ := of_if H_198
        refine V_reg hN hn [(6, ⟨18, 0, [.c (.val (.string (List.getD y_136 (Int.toNat k_100) ((0 : Int), ((0 : Int), ByteArray.empty))).2.2))], [], .c (.val (.bool r_106)), [], [], 11⟩)] [] (calls_cons (palinoderef1_Valid_spec K (List.getD y_136 (Int.toNat k_100) ((0 : Int), ((0 : Int), ByteArray.empty))).2.2 r_106 h_107) (by kernel_rfl) calls_nil) 11 [4, 6, 10, 115] [0, 1, 2, 10] ⟨[(4, .c (.h 1)), (6, .c (.h 2)), (10, .c (.val (.int .i64 k_100))), (115, .c (.val (.bool (!r_106))))], [(0, .row (.pair (.int .i64) (.int .u8)) l_2), (1, .box [.val (.int .i64 (0 : Int)), .val (.slice none 0 0)]), (2, .box [.val (.int .i64 base_1), .h 10]), (10, .row (.pair (.int .i64) (.pair (.int .i64) .str)) y_136)], 11⟩ [0 ≤ k_100, k_100 < (((List.length y_136) : Nat) : Int)] (by kernel_rfl) rfl rfl (ap2 c_108.1 (ap1 c_108.2)) (by kernel_rfl) (by kernel_rfl) ?_
        refine VL_cond ((!r_106)) (by kernel_rfl) ?_ ?_
        · intro b_109; have H_200 := of_t H_199 b_109
          refine V_run hN hn 2 11 [4, 5] [0, 1] ⟨[(4, .c (.h 1)), (5, .c (.val (.int .i64 (12 : Int))))], [(0, .row (.pair (.int .i64) (.int .u8)) l_2), (1, .box [.val (.int .i64 (0 : Int)), .val (.slice none 0 0)])], 11⟩ [] (by kernel_rfl) rfl rfl ap0 ?_
          have H_202 := Option.some.inj (show some (Sum.inl ((0 : Int), ([] : List (Int × (Int × ByteArray))), (12 : Int))) = some q_190 from H_200); subst H_202
          have H_203 := Option.some.inj (show some ((0 : Int), ([] : List (Int × (Int × ByteArray))), (12 : Int)) = some r from H_192); subst H_203
          refine VL_ret ?_
          refine QB_ret ?_
          refine QL_ret ?_
          refine QB_ret ?_
          refine QP_ret ?_
          refine P_ghost [.nilCell 1 1 (.pair (.int .i64) (.pair (.int .i64) .str))] 11 hn [4, 5] [0, 1, 11] ⟨[(4, .c (.h 1)), (5, .c (.val (.int .i64 (12 : Int))))], [(0, .row (.pair (.int .i64) (.int .u8)) l_2), (1, .box [.val (.int .i64 (0 : Int)), .h 11]), (11, .row (.pair (.int .i64) (.pair (.int .i64) .str)) ([] : List (Int × (Int × ByteArray))))], 12⟩ (by kernel_rfl) rfl rfl ?_
          exact P_to [(4, .c (.h 1)), (5, .c (.val (.int .i64 (12 : Int))))] [(0, .row (.pair (.int .i64) (.int .u8)) l_2), (1, .box [.val (.int .i64 (0 : Int)), .h 12]), (12, .row (.pair (.int .i64) (.pair (.int .i64) .str)) ([] : List (Int × (Int × ByteArray))))] [(1, 1), (12, 11)] hn (by kernel_rfl) (by kernel_rfl) rfl rfl rfl (QF_retS (by kernel_rfl) (by kernel_rfl) rfl)
        · intro b_109; have H_201 := of_f H_199 b_109
          refine V_run hN hn 1 11 [4, 6, 10, 115] [0, 1, 2, 10] ⟨[(4, .c (.h 1)), (6, .c (.h 2)), (10, .c (.val (.int .i64 k_100))), (115, .c (.val (.bool (!r_106))))], [(0, .row (.pair (.int .i64) (.int .u8)) l_2), (1, .box [.val (.int .i64 (0 : Int)), .val (.slice none 0 0)]), (2, .box [.val (.int .i64 base_1), .h 10]), (10, .row (.pair (.int .i64) (.pair (.int .i64) .str)) y_136)], 11⟩ [] (by kernel_rfl) rfl rfl ap0 ?_
          refine VL_nil (QB_end ?_)
          refine V_run hN hn 1 11 [4, 6, 10] [0, 1, 2, 10] ⟨[(4, .c (.h 1)), (6, .c (.h 2)), (10, .c (.val (.int .i64 (IntKind.wrap .i64 (k_100 + (1 : Int))))))], [(0, .row (.pair (.int .i64) (.int .u8)) l_2), (1, .box [.val (.int .i64 (0 : Int)), .val (.slice none 0 0)]), (2, .box [.val (.int .i64 base_1), .h 10]), (10, .row (.pair (.int .i64) (.pair (.int .i64) .str)) y_136)], 11⟩ [] (by kernel_rfl) rfl rfl ap0 ?_
          refine VL_nil ?_
          exact V_roundEnd (IntKind.wrap .i64 (k_100 + (1 : Int))) H_201 [(1, 1), (2, 2), (10, 10)] hn (by kernel_rfl) (by kernel_rfl) rfl rfl rfl
      · intro b_103; have H_197 := of_f H_195 b_103
        refine VL_exit ?_
        refine QL_exit ?_
        refine QB_here ?_
        have H_204 := Option.some.inj (show some (Sum.inr ()) = some q_190 from H_197); subst H_204
        refine VL_nil ?_
        exact QP_end () rfl [(1, 1), (2, 2), (10, 10)] hn (by kernel_rfl) (by kernel_rfl) rfl rfl rfl
    · intro y_193 hy; subst hy
      skip
      refine V_run hN hn 3 11 [4, 6, 120] [0, 1, 2, 10] ⟨[(4, .c (.h 1)), (6, .c (.h 2)), (120, .c (.val (.bool (decide ((((List.length y_136) : Nat) : Int) > (60 : Int))))))], [(0, .row (.pair (.int .i64) (.int .u8)) l_2), (1, .box [.val (.int .i64 (0 : Int)), .val (.slice none 0 0)]), (2, .box [.val (.int .i64 base_1), .h 10]), (10, .row (.pair (.int .i64) (.pair (.int .i64) .str)) y_136)], 11⟩ [] (by kernel_rfl) rfl rfl ap0 ?_
      refine VL_cond ((decide ((((List.length y_136) : Nat) : Int) > (60 : Int)))) (by kernel_rfl) ?_ ?_
      · intro b_114; have H_205 := of_t H_192 b_114
        refine V_run hN hn 2 11 [4, 5] [0, 1] ⟨[(4, .c (.h 1)), (5, .c (.val (.int .i64 (70 : Int))))], [(0, .row (.pair (.int .i64) (.int .u8)) l_2), (1, .box [.val (.int .i64 (0 : Int)), .val (.slice none 0 0)])], 11⟩ [] (by kernel_rfl) rfl rfl ap0 ?_
        have H_207 := Option.some.inj (show some ((0 : Int), ([] : List (Int × (Int × ByteArray))), (70 : Int)) = some r from H_205); subst H_207
        refine VL_ret ?_
        refine P_ghost [.nilCell 1 1 (.pair (.int .i64) (.pair (.int .i64) .str))] 11 hn [4, 5] [0, 1, 11] ⟨[(4, .c (.h 1)), (5, .c (.val (.int .i64 (70 : Int))))], [(0, .row (.pair (.int .i64) (.int .u8)) l_2), (1, .box [.val (.int .i64 (0 : Int)), .h 11]), (11, .row (.pair (.int .i64) (.pair (.int .i64) .str)) ([] : List (Int × (Int × ByteArray))))], 12⟩ (by kernel_rfl) rfl rfl ?_
        exact P_to [(4, .c (.h 1)), (5, .c (.val (.int .i64 (70 : Int))))] [(0, .row (.pair (.int .i64) (.int .u8)) l_2), (1, .box [.val (.int .i64 (0 : Int)), .h 12]), (12, .row (.pair (.int .i64) (.pair (.int .i64) .str)) ([] : List (Int × (Int × ByteArray))))] [(1, 1), (12, 11)] hn (by kernel_rfl) (by kernel_rfl) rfl rfl rfl (QF_retS (by kernel_rfl) (by kernel_rfl) rfl)
      · intro b_114; have H_206 := of_f H_192 b_114
        refine V_run hN hn 3 11 [4, 5] [0, 1, 10] ⟨[(4, .c (.h 1)), (5, .c (.val (.int .i64 (0 : Int))))], [(0, .row (.pair (.int .i64) (.int .u8)) l_2), (1, .box [.val (.int .i64 base_1), .h 10]), (10, .row (.pair (.int .i64) (.pair (.int .i64) .str)) y_136)], 11⟩ [] (by kernel_rfl) rfl rfl ap0 ?_
        have H_208 := Option.some.inj (show some (base_1, y_136, (0 : Int)) = some r from H_206); subst H_208
        refine VL_ret ?_
        exact P_to [(4, .c (.h 1)), (5, .c (.val (.int .i64 (0 : Int))))] [(0, .row (.pair (.int .i64) (.int .u8)) l_2), (1, .box [.val (.int .i64 base_1), .h 12]), (12, .row (.pair (.int .i64) (.pair (.int .i64) .str)) y_136)] [(1, 1), (12, 10)] hn (by kernel_rfl) (by kernel_rfl) rfl rfl rfl (QF_retS (by kernel_rfl) (by kernel_rfl) rfl)

theorem palinoderef11_Same_sggsgr_spec (K : Nat) (a_1 : Int) (a_2 : (List (Int × (Int × ByteArray)))) (b_3 : Int) (b_4 : (List (Int × (Int × ByteArray)))) (r : Bool) (H : palinoderef11_Same_sggsgr K a_1 a_2 b_3 b_4 = some r) : Spec Try.prog 16 1 [.agg [.val (.int .i64 a_1), .imm (.slice (.pair (.int .i64) (.pair (.int .i64) .str))) a_2], .agg [.val (.int .i64 b_3), .h 0]] [(0, .row (.pair (.int .i64) (.pair (.int .i64) .str)) b_4)] (.c (.val (.bool r))) [(0, .row (.pair (.int .i64) (.pair (.int .i64) .str)) b_4)] := by
  refine Spec_mk (fn := Try.f16) (c := (Try.f16.body).get!) Try.func16 (by kernel_rfl) rfl ?_
  intro C hN hn
  replace hN : C.N = 38 := hN
  unfold palinoderef11_Same_sggsgr at H
  refine V_run hN hn 4 1 [2, 3] [0, 1, 2] ⟨[(2, .c (.h 1)), (3, .c (.h 2))], [(0, .row (.pair (.int .i64) (.pair (.int .i64) .str)) b_4), (1, .box [.val (.int .i64 a_1), .imm (.slice (.pair (.int .i64) (.pair (.int .i64) .str))) a_2]), (2, .box [.val (.int .i64 b_3), .h 0])], 3⟩ [] (by kernel_rfl) rfl rfl ap0 ?_
  obtain ⟨q_27, H_28, H_29⟩ := of_bind H
  refine V_cut (Y := Bool) (R := Bool) q_27 (fun y => y) (fun y => [(2, .c (.h 1)), (3, .c (.h 2)), (19, .c (.val (.bool y)))]) (fun y => [(0, .row (.pair (.int .i64) (.pair (.int .i64) .str)) b_4), (1, .box [.val (.int .i64 a_1), .imm (.slice (.pair (.int .i64) (.pair (.int .i64) .str))) a_2]), (2, .box [.val (.int .i64 b_3), .h 0])]) ?_ ?_
  · skip
    rcases Bool.eq_false_or_eq_true ((a_1 != b_3)) with b_6 | b_6
    · have H_31 := of_t H_28 b_6
      refine V_reg hN hn [] [(11, true)] calls_nil 3 [2, 3, 19] [0, 1, 2] ⟨[(2, .c (.h 1)), (3, .c (.h 2)), (19, .c (.val (.bool true)))], [(0, .row (.pair (.int .i64) (.pair (.int .i64) .str)) b_4), (1, .box [.val (.int .i64 a_1), .imm (.slice (.pair (.int .i64) (.pair (.int .i64) .str))) a_2]), (2, .box [.val (.int .i64 b_3), .h 0])], 3⟩ [(a_1 != b_3) = true] (by kernel_rfl) rfl rfl (ap1 b_6) (by kernel_rfl) (by kernel_rfl) ?_
      have H_33 := Option.some.inj (show some true = some q_27 from H_31); subst H_33
      refine VL_nil ?_
      exact QP_end true rfl [(1, 1), (2, 2)] hn (by kernel_rfl) (by kernel_rfl) rfl rfl rfl
    · have H_32 := of_f H_28 b_6
      refine V_reg hN hn [] [(11, false)] calls_nil 3 [2, 3, 19] [0, 1, 2] ⟨[(2, .c (.h 1)), (3, .c (.h 2)), (19, .c (.val (.bool ((((List.length a_2) : Nat) : Int) != (((List.length b_4) : Nat) : Int)))))], [(0, .row (.pair (.int .i64) (.pair (.int .i64) .str)) b_4), (1, .box [.val (.int .i64 a_1), .imm (.slice (.pair (.int .i64) (.pair (.int .i64) .str))) a_2]), (2, .box [.val (.int .i64 b_3), .h 0])], 3⟩ [(a_1 != b_3) = false] (by kernel_rfl) rfl rfl (ap1 b_6) (by kernel_rfl) (by kernel_rfl) ?_
      have H_34 := Option.some.inj (show some ((((List.length a_2) : Nat) : Int) != (((List.length b_4) : Nat) : Int)) = some q_27 from H_32); subst H_34
      refine VL_nil ?_
      exact QP_end ((((List.length a_2) : Nat) : Int) != (((List.length b_4) : Nat) : Int)) rfl [(1, 1), (2, 2)] hn (by kernel_rfl) (by kernel_rfl) rfl rfl rfl
  · intro y_30 hy; subst hy
    skip
    skip
    refine VL_cond (y_30) (by kernel_rfl) ?_ ?_
    · intro b_10; have H_35 := of_t H_29 b_10
      refine V_run hN hn 2 3 [4] [0] ⟨[(4, .c (.val (.bool false)))], [(0, .row (.pair (.int .i64) (.pair (.int .i64) .str)) b_4)], 3⟩ [] (by kernel_rfl) rfl rfl ap0 ?_
      have H_37 := Option.some.inj (show some false = some r from H_35); subst H_37
      refine VL_ret ?_
      exact P_to [(4, .c (.val (.bool false)))] [(0, .row (.pair (.int .i64) (.pair (.int .i64) .str)) b_4)] [] hn (by kernel_rfl) (by kernel_rfl) rfl rfl rfl (QF_retS (by kernel_rfl) (by kernel_rfl) rfl)
    · intro b_10; have H_36 := of_f H_29 b_10
      refine V_run hN hn 4 3 [2, 3, 5] [0, 1, 2] ⟨[(2, .c (.h 1)), (3, .c (.h 2)), (5, .c (.val (.int .i64 (0 : Int))))], [(0, .row (.pair (.int .i64) (.pair (.int .i64) .str)) b_4), (1, .box [.val (.int .i64 a_1), .imm (.slice (.pair (.int .i64) (.pair (.int .i64) .str))) a_2]), (2, .box [.val (.int .i64 b_3), .h 0])], 3⟩ [] (by kernel_rfl) rfl rfl ap0 ?_
      refine VL_block ?_
      refine V_to [(2, .c (.h 1)), (3, .c (.h 2)), (5, .c (.val (.int .i64 (0 : Int))))] [(0, .row (.pair (.int .i64) (.pair (.int .i64) .str)) b_4), (1, .box [.val (.int .i64 a_1), .imm (.slice (.pair (.int .i64) (.pair (.int .i64) .str))) a_2]), (2, .box [.val (.int .i64 b_3), .h 0])] [(1, 1), (2, 2)] hn (by kernel_rfl) (by kernel_rfl) rfl rfl rfl ?_
      refine VL_loop (X := Int) (fun x => [(2, .c (.h 1)), (3, .c (.h 2)), (5, .c (.val (.int .i64 x)))]) (fun x => [(0, .row (.pair (.int .i64) (.pair (.int .i64) .str)) b_4), (1, .box [.val (.int .i64 a_1), .imm (.slice (.pair (.int .i64) (.pair (.int .i64) .str))) a_2]), (2, .box [.val (.int .i64 b_3), .h 0])]) (fun k x => palinoderef11_Same_sggsgr.l0 K a_2 b_4 k x = some r) K (0 : Int) H_36 (fun _ h => no_none h) ?_
      intro k_14 i_13 H_38
      have H_39 : palinoderef11_Same_sggsgr.l0 K a_2 b_4 (k_14 + 1) i_13 = some r := H_38
      rw [palinoderef11_Same_sggsgr.l0] at H_39
      refine V_run hN hn 3 3 [2, 3, 5, 24] [0, 1, 2] ⟨[(2, .c (.h 1)), (3, .c (.h 2)), (5, .c (.val (.int .i64 i_13))), (24, .c (.val (.bool (decide (i_13 < (((List.length a_2) : Nat) : Int))))))], [(0, .row (.pair (.int .i64) (.pair (.int .i64) .str)) b_4), (1, .box [.val (.int .i64 a_1), .imm (.slice (.pair (.int .i64) (.pair (.int .i64) .str))) a_2]), (2, .box [.val (.int .i64 b_3), .h 0])], 3⟩ [] (by kernel_rfl) rfl rfl ap0 ?_
      refine VL_cond ((decide (i_13 < (((List.length a_2) : Nat) : Int)))) (by kernel_rfl) ?_ ?_
      · intro b_16; have H_40 := of_t H_39 b_16
        refine V_run hN hn 2 3 [2, 3, 5, 24] [0, 1, 2] ⟨[(2, .c (.h 1)), (3, .c (.h 2)), (5, .c (.val (.int .i64 i_13))), (24, .c (.val (.bool (decide (i_13 < (((List.length a_2) : Nat) : Int))))))], [(0, .row (.pair (.int .i64) (.pair (.int .i64) .str)) b_4), (1, .box [.val (.int .i64 a_1), .imm (.slice (.pair (.int .i64) (.pair (.int .i64) .str))) a_2]), (2, .box [.val (.int .i64 b_3), .h 0])], 3⟩ [] (by kernel_rfl) rfl rfl ap0 ?_
        refine VL_block ?_
        refine V_run hN hn 1 3 [2, 3, 5, 24] [0, 1, 2] ⟨[(2, .c (.h 1)), (3, .c (.h 2)), (5, .c (.val (.int .i64 i_13))), (24, .c (.val (.bool (decide (i_13 < (((List.length a_2) : Nat) : Int))))))], [(0, .row (.pair (.int .i64) (.pair (.int .i64) .str)) b_4), (1, .box [.val (.int .i64 a_1), .imm (.slice (.pair (.int .i64) (.pair (.int .i64) .str))) a_2]), (2, .box [.val (.int .i64 b_3), .h 0])], 3⟩ [] (by kernel_rfl) rfl rfl ap0 ?_
        obtain ⟨c_19, H_42⟩ := of_if H_40
        refine V_draw hN hn (by kernel_rfl) [] [] calls_nil 3 [2, 3, 5, 37] [0, 1, 2] ⟨[(2, .c (.h 1)), (3, .c (.h 2)), (5, .c (.val (.int .i64 i_13))), (37, .c (.val (.bool (!(((List.getD a_2 (Int.toNat i_13) ((0 : Int), ((0 : Int), ByteArray.empty))).1 == (List.getD b_4 (Int.toNat i_13) ((0 : Int), ((0 : Int), ByteArray.empty))).1) && (((List.getD a_2 (Int.toNat i_13) ((0 : Int), ((0 : Int), ByteArray.empty))).2.1 == (List.getD b_4 (Int.toNat i_13) ((0 : Int), ((0 : Int), ByteArray.empty))).2.1) && (ByteArray.toList (List.getD a_2 (Int.toNat i_13) ((0 : Int), ((0 : Int), ByteArray.empty))).2.2 == ByteArray.toList (List.getD b_4 (Int.toNat i_13) ((0 : Int), ((0 : Int), ByteArray.empty))).2.2)))))))], [(0, .row (.pair (.int .i64) (.pair (.int .i64) .str)) b_4), (1, .box [.val (.int .i64 a_1), .imm (.slice (.pair (.int .i64) (.pair (.int .i64) .str))) a_2]), (2, .box [.val (.int .i64 b_3), .h 0])], 3⟩ [0 ≤ i_13, i_13 < (((List.length a_2) : Nat) : Int), 0 ≤ i_13, i_13 < (((List.length b_4) : Nat) : Int)] (by kernel_rfl) rfl rfl (ap2 c_19.1 (ap2 c_19.2.1 (ap2 c_19.1 (ap1 c_19.2.2)))) (by kernel_rfl) (by kernel_rfl) ?_
        refine VL_cond ((!(((List.getD a_2 (Int.toNat i_13) ((0 : Int), ((0 : Int), ByteArray.empty))).1 == (List.getD b_4 (Int.toNat i_13) ((0 : Int), ((0 : Int), ByteArray.empty))).1) && (((List.getD a_2 (Int.toNat i_13) ((0 : Int), ((0 : Int), ByteArray.empty))).2.1 == (List.getD b_4 (Int.toNat i_13) ((0 : Int), ((0 : Int), ByteArray.empty))).2.1) && (ByteArray.toList (List.getD a_2 (Int.toNat i_13) ((0 : Int), ((0 : Int), ByteArray.empty))).2.2 == ByteArray.toList (List.getD b_4 (Int.toNat i_13) ((0 : Int), ((0 : Int), ByteArray.empty))).2.2))))) (by kernel_rfl) ?_ ?_
        · intro b_20; have H_43 := of_t H_42 b_20
          refine V_run hN hn 2 3 [4] [0] ⟨[(4, .c (.val (.bool false)))], [(0, .row (.pair (.int .i64) (.pair (.int .i64) .str)) b_4)], 3⟩ [] (by kernel_rfl) rfl rfl ap0 ?_
          have H_45 := Option.some.inj (show some false = some r from H_43); subst H_45
          refine VL_ret ?_
          refine QB_ret ?_
          refine QL_ret ?_
          refine QB_ret ?_
          exact P_to [(4, .c (.val (.bool false)))] [(0, .row (.pair (.int .i64) (.pair (.int .i64) .str)) b_4)] [] hn (by kernel_rfl) (by kernel_rfl) rfl rfl rfl (QF_retS (by kernel_rfl) (by kernel_rfl) rfl)
        · intro b_20; have H_44 := of_f H_42 b_20
          refine V_run hN hn 1 3 [2, 3, 5, 37] [0, 1, 2] ⟨[(2, .c (.h 1)), (3, .c (.h 2)), (5, .c (.val (.int .i64 i_13))), (37, .c (.val (.bool (!(((List.getD a_2 (Int.toNat i_13) ((0 : Int), ((0 : Int), ByteArray.empty))).1 == (List.getD b_4 (Int.toNat i_13) ((0 : Int), ((0 : Int), ByteArray.empty))).1) && (((List.getD a_2 (Int.toNat i_13) ((0 : Int), ((0 : Int), ByteArray.empty))).2.1 == (List.getD b_4 (Int.toNat i_13) ((0 : Int), ((0 : Int), ByteArray.empty))).2.1) && (ByteArray.toList (List.getD a_2 (Int.toNat i_13) ((0 : Int), ((0 : Int), ByteArray.empty))).2.2 == ByteArray.toList (List.getD b_4 (Int.toNat i_13) ((0 : Int), ((0 : Int), ByteArray.empty))).2.2)))))))], [(0, .row (.pair (.int .i64) (.pair (.int .i64) .str)) b_4), (1, .box [.val (.int .i64 a_1), .imm (.slice (.pair (.int .i64) (.pair (.int .i64) .str))) a_2]), (2, .box [.val (.int .i64 b_3), .h 0])], 3⟩ [] (by kernel_rfl) rfl rfl ap0 ?_
          refine VL_nil (QB_end ?_)
          refine V_run hN hn 1 3 [2, 3, 5] [0, 1, 2] ⟨[(2, .c (.h 1)), (3, .c (.h 2)), (5, .c (.val (.int .i64 (IntKind.wrap .i64 (i_13 + (1 : Int))))))], [(0, .row (.pair (.int .i64) (.pair (.int .i64) .str)) b_4), (1, .box [.val (.int .i64 a_1), .imm (.slice (.pair (.int .i64) (.pair (.int .i64) .str))) a_2]), (2, .box [.val (.int .i64 b_3), .h 0])], 3⟩ [] (by kernel_rfl) rfl rfl ap0 ?_
          refine VL_nil ?_
          exact V_roundEnd (IntKind.wrap .i64 (i_13 + (1 : Int))) H_44 [(1, 1), (2, 2)] hn (by kernel_rfl) (by kernel_rfl) rfl rfl rfl
      · intro b_16; have H_41 := of_f H_39 b_16
        refine VL_exit ?_
        refine QL_exit ?_
        refine QB_here ?_
        refine V_run hN hn 2 3 [4] [0] ⟨[(4, .c (.val (.bool true)))], [(0, .row (.pair (.int .i64) (.pair (.int .i64) .str)) b_4)], 3⟩ [] (by kernel_rfl) rfl rfl ap0 ?_
        have H_46 := Option.some.inj (show some true = some r from H_41); subst H_46
        refine VL_ret ?_
        exact P_to [(4, .c (.val (.bool true)))] [(0, .row (.pair (.int .i64) (.pair (.int .i64) .str)) b_4)] [] hn (by kernel_rfl) (by kernel_rfl) rfl rfl rfl (QF_retS (by kernel_rfl) (by kernel_rfl) rfl)

theorem palinodelaw13_invert_spec (K : Nat) (d_1 : Int) (d_2 : (List (Int × (Int × ByteArray)))) (s_3 : ByteArray) (r : (List (Int × Int))) (H : palinodelaw13_invert K d_1 d_2 s_3 = some r) : Spec Try.prog 19 0 [.agg [.val (.int .i64 d_1), .imm (.slice (.pair (.int .i64) (.pair (.int .i64) .str))) d_2], .c (.val (.string s_3))] [] (.c (.h 12)) [(12, .row (.pair (.int .i64) (.int .u8)) r)] := by
  refine Spec_mk (fn := Try.f19) (c := (Try.f19.body).get!) Try.func19 (by kernel_rfl) rfl ?_
  intro C hN hn
  replace hN : C.N = 60 := hN
  unfold palinodelaw13_invert at H
  refine V_run hN hn 5 0 [1, 2, 5] [0] ⟨[(1, .c (.val (.string s_3))), (2, .c (.h 0)), (5, .c (.val (.slice none 0 0)))], [(0, .box [.val (.int .i64 d_1), .imm (.slice (.pair (.int .i64) (.pair (.int .i64) .str))) d_2])], 1⟩ [] (by kernel_rfl) rfl rfl ap0 ?_
  obtain ⟨r_5, h_6, H_91⟩ := of_bind H
  refine V_reg hN hn [(1, ⟨13, 0, [.agg [.val (.int .i64 d_1), .imm (.slice (.pair (.int .i64) (.pair (.int .i64) .str))) d_2]], [], .c (.h 9), [(9, .row (.pair (.int .i64) (.int .u8)) r_5)], [(9, 1)], 2⟩)] [] (calls_cons (palinoderef11_Cells_spec K d_1 d_2 r_5 h_6) (by kernel_rfl) calls_nil) 1 [1, 5, 6] [1] ⟨[(1, .c (.val (.string s_3))), (5, .c (.val (.slice none 0 0))), (6, .c (.h 1))], [(1, .row (.pair (.int .i64) (.int .u8)) r_5)], 2⟩ [] (by kernel_rfl) rfl rfl ap0 (by kernel_rfl) (by kernel_rfl) ?_
  refine V_run hN hn 5 2 [1, 5, 6, 7, 8] [1] ⟨[(1, .c (.val (.string s_3))), (5, .c (.val (.slice none 0 0))), (6, .c (.h 1)), (7, .c (.val (.int .i64 (0 : Int)))), (8, .c (.val (.int .i64 (0 : Int))))], [(1, .row (.pair (.int .i64) (.int .u8)) r_5)], 2⟩ [] (by kernel_rfl) rfl rfl ap0 ?_
  obtain ⟨q_92, H_93, H_94⟩ := of_bind H_91
  refine V_cut (Y := ((List (Int × Int)) × Int)) (R := ((List (Int × Int)) × Int)) q_92 (fun y => y) (fun y => [(1, .c (.val (.string s_3))), (5, .c (.h 9)), (7, .c (.val (.int .i64 y.2)))]) (fun y => [(9, .row (.pair (.int .i64) (.int .u8)) y.1)]) ?_ ?_
  · skip
    refine VL_block ?_
    refine V_ghost [.nilSlot 5 (.pair (.int .i64) (.int .u8))] 2 hn [1, 5, 6, 7, 8] [1, 2] ⟨[(1, .c (.val (.string s_3))), (5, .c (.h 2)), (6, .c (.h 1)), (7, .c (.val (.int .i64 (0 : Int)))), (8, .c (.val (.int .i64 (0 : Int))))], [(1, .row (.pair (.int .i64) (.int .u8)) r_5), (2, .row (.pair (.int .i64) (.int .u8)) ([] : List (Int × Int)))], 3⟩ (by kernel_rfl) rfl rfl ?_
    refine V_to [(1, .c (.val (.string s_3))), (5, .c (.h 9)), (6, .c (.h 1)), (7, .c (.val (.int .i64 (0 : Int)))), (8, .c (.val (.int .i64 (0 : Int))))] [(1, .row (.pair (.int .i64) (.int .u8)) r_5), (9, .row (.pair (.int .i64) (.int .u8)) ([] : List (Int × Int)))] [(1, 1), (9, 2)] hn (by kernel_rfl) (by kernel_rfl) rfl rfl rfl ?_
    refine VL_loop (X := ((List (Int × Int)) × Int × Int)) (fun x => [(1, .c (.val (.string s_3))), (5, .c (.h 9)), (6, .c (.h 1)), (7, .c (.val (.int .i64 x.2.1))), (8, .c (.val (.int .i64 x.2.2)))]) (fun x => [(1, .row (.pair (.int .i64) (.int .u8)) r_5), (9, .row (.pair (.int .i64) (.int .u8)) x.1)]) (fun k x => palinodelaw13_invert.l0 K r_5 s_3 k x.1 x.2.1 x.2.2 = some q_92) K (([] : List (Int × Int)), (0 : Int), (0 : Int)) H_93 (fun _ h => no_none h) ?_
    intro k_39 x_39 H_96
    obtain ⟨out_38, at_9, i_10⟩ := x_39
    have H_97 : palinodelaw13_invert.l0 K r_5 s_3 (k_39 + 1) out_38 at_9 i_10 = some q_92 := H_96
    rw [palinodelaw13_invert.l0] at H_97
    refine V_run hN hn 3 10 [1, 5, 6, 7, 8, 14] [1, 9] ⟨[(1, .c (.val (.string s_3))), (5, .c (.h 9)), (6, .c (.h 1)), (7, .c (.val (.int .i64 at_9))), (8, .c (.val (.int .i64 i_10))), (14, .c (.val (.bool (decide (i_10 < (((List.length r_5) : Nat) : Int))))))], [(1, .row (.pair (.int .i64) (.int .u8)) r_5), (9, .row (.pair (.int .i64) (.int .u8)) out_38)], 10⟩ [] (by kernel_rfl) rfl rfl ap0 ?_
    refine VL_cond ((decide (i_10 < (((List.length r_5) : Nat) : Int)))) (by kernel_rfl) ?_ ?_
    · intro b_41; have H_98 := of_t H_97 b_41
      refine V_run hN hn 2 10 [1, 5, 6, 7, 8, 14] [1, 9] ⟨[(1, .c (.val (.string s_3))), (5, .c (.h 9)), (6, .c (.h 1)), (7, .c (.val (.int .i64 at_9))), (8, .c (.val (.int .i64 i_10))), (14, .c (.val (.bool (decide (i_10 < (((List.length r_5) : Nat) : Int))))))], [(1, .row (.pair (.int .i64) (.int .u8)) r_5), (9, .row (.pair (.int .i64) (.int .u8)) out_38)], 10⟩ [] (by kernel_rfl) rfl rfl ap0 ?_
      obtain ⟨q_100, H_101, H_102⟩ := of_bind H_98
      refine V_cut (Y := ((List (Int × Int)) × Int)) (R := ((List (Int × Int)) × Int)) q_100 (fun y => y) (fun y => [(1, .c (.val (.string s_3))), (5, .c (.h 15)), (6, .c (.h 1)), (7, .c (.val (.int .i64 y.2))), (8, .c (.val (.int .i64 i_10)))]) (fun y => [(1, .row (.pair (.int .i64) (.int .u8)) r_5), (15, .row (.pair (.int .i64) (.int .u8)) y.1)]) ?_ ?_
      · skip
        refine VL_block ?_
        obtain ⟨c_43, H_104⟩ := of_if H_101
        refine V_run hN hn 3 10 [1, 5, 6, 7, 8, 22] [1, 9] ⟨[(1, .c (.val (.string s_3))), (5, .c (.h 9)), (6, .c (.h 1)), (7, .c (.val (.int .i64 at_9))), (8, .c (.val (.int .i64 i_10))), (22, .c (.val (.bool (decide ((List.getD r_5 (Int.toNat i_10) ((0 : Int), (0 : Int))).1 < (0 : Int))))))], [(1, .row (.pair (.int .i64) (.int .u8)) r_5), (9, .row (.pair (.int .i64) (.int .u8)) out_38)], 10⟩ [0 ≤ i_10, i_10 < (((List.length r_5) : Nat) : Int)] (by kernel_rfl) rfl rfl (ap2 c_43.1 (ap1 c_43.2)) ?_
        refine VL_cond ((decide ((List.getD r_5 (Int.toNat i_10) ((0 : Int), (0 : Int))).1 < (0 : Int)))) (by kernel_rfl) ?_ ?_
        · intro b_44; have H_105 := of_t H_104 b_44
          refine VL_exit ?_
          refine QB_here ?_
          have H_107 := Option.some.inj (show some (out_38, at_9) = some q_100 from H_105); subst H_107
          refine VL_nil ?_
          exact QP_end (out_38, at_9) rfl [(1, 1), (15, 9)] hn (by kernel_rfl) (by kernel_rfl) rfl rfl rfl
        · intro b_44; have H_106 := of_f H_104 b_44
          refine V_run hN hn 2 10 [1, 5, 6, 7, 8, 22] [1, 9] ⟨[(1, .c (.val (.string s_3))), (5, .c (.h 9)), (6, .c (.h 1)), (7, .c (.val (.int .i64 at_9))), (8, .c (.val (.int .i64 i_10))), (22, .c (.val (.bool (decide ((List.getD r_5 (Int.toNat i_10) ((0 : Int), (0 : Int))).1 < (0 : Int))))))], [(1, .row (.pair (.int .i64) (.int .u8)) r_5), (9, .row (.pair (.int .i64) (.int .u8)) out_38)], 10⟩ [] (by kernel_rfl) rfl rfl ap0 ?_
          obtain ⟨q_108, H_109, H_110⟩ := of_bind H_106
          refine V_cut (Y := ((List (Int × Int)) × Int)) (R := ((List (Int × Int)) × Int)) q_108 (fun y => y) (fun y => [(1, .c (.val (.string s_3))), (5, .c (.h 12)), (6, .c (.h 1)), (7, .c (.val (.int .i64 y.2))), (8, .c (.val (.int .i64 i_10)))]) (fun y => [(1, .row (.pair (.int .i64) (.int .u8)) r_5), (12, .row (.pair (.int .i64) (.int .u8)) y.1)]) ?_ ?_
          · skip
            refine VL_block ?_
            refine V_to [(1, .c (.val (.string s_3))), (5, .c (.h 12)), (6, .c (.h 1)), (7, .c (.val (.int .i64 at_9))), (8, .c (.val (.int .i64 i_10)))] [(1, .row (.pair (.int .i64) (.int .u8)) r_5), (12, .row (.pair (.int .i64) (.int .u8)) out_38)] [(1, 1), (12, 9)] hn (by kernel_rfl) (by kernel_rfl) rfl rfl rfl ?_
            refine VL_loop (X := ((List (Int × Int)) × Int)) (fun x => [(1, .c (.val (.string s_3))), (5, .c (.h 12)), (6, .c (.h 1)), (7, .c (.val (.int .i64 x.2))), (8, .c (.val (.int .i64 i_10)))]) (fun x => [(1, .row (.pair (.int .i64) (.int .u8)) r_5), (12, .row (.pair (.int .i64) (.int .u8)) x.1)]) (fun k x => palinodelaw13_invert.l1 K r_5 i_10 s_3 k x.1 x.2 = some q_108) K (out_38, at_9) H_109 (fun _ h => no_none h) ?_
            intro k_54 x_54 H_112
            obtain ⟨out_53, at_46⟩ := x_54
            have H_113 : palinodelaw13_invert.l1 K r_5 i_10 s_3 (k_54 + 1) out_53 at_46 = some q_108 := H_112
            rw [palinodelaw13_invert.l1] at H_113
            refine V_run hN hn 3 13 [1, 5, 6, 7, 8, 29] [1, 12] ⟨[(1, .c (.val (.string s_3))), (5, .c (.h 12)), (6, .c (.h 1)), (7, .c (.val (.int .i64 at_46))), (8, .c (.val (.int .i64 i_10))), (29, .c (.val (.bool (decide (at_46 < (List.getD r_5 (Int.toNat i_10) ((0 : Int), (0 : Int))).1)))))], [(1, .row (.pair (.int .i64) (.int .u8)) r_5), (12, .row (.pair (.int .i64) (.int .u8)) out_53)], 13⟩ [0 ≤ i_10, i_10 < (((List.length r_5) : Nat) : Int)] (by kernel_rfl) rfl rfl (ap2 c_43.1 (ap1 c_43.2)) ?_
            refine VL_cond ((decide (at_46 < (List.getD r_5 (Int.toNat i_10) ((0 : Int), (0 : Int))).1))) (by kernel_rfl) ?_ ?_
            · intro b_56; have H_114 := of_t H_113 b_56
              refine V_run hN hn 2 13 [1, 5, 6, 7, 8, 29] [1, 12] ⟨[(1, .c (.val (.string s_3))), (5, .c (.h 12)), (6, .c (.h 1)), (7, .c (.val (.int .i64 at_46))), (8, .c (.val (.int .i64 i_10))), (29, .c (.val (.bool (decide (at_46 < (List.getD r_5 (Int.toNat i_10) ((0 : Int), (0 : Int))).1)))))], [(1, .row (.pair (.int .i64) (.int .u8)) r_5), (12, .row (.pair (.int .i64) (.int .u8)) out_53)], 13⟩ [] (by kernel_rfl) rfl rfl ap0 ?_
              refine VL_block ?_
              obtain ⟨c_58, H_116⟩ := of_if H_114
              refine V_run hN hn 1 13 [1, 5, 6, 7, 8] [1, 14] ⟨[(1, .c (.val (.string s_3))), (5, .c (.h 14)), (6, .c (.h 1)), (7, .c (.val (.int .i64 at_46))), (8, .c (.val (.int .i64 i_10)))], [(1, .row (.pair (.int .i64) (.int .u8)) r_5), (14, .row (.pair (.int .i64) (.int .u8)) (out_53 ++ ([((-1 : Int), (bt s_3 at_46))] : List (Int × Int))))], 15⟩ [0 ≤ at_46, at_46 < (((ByteArray.size s_3) : Nat) : Int), (List.length out_53 + List.length ([((-1 : Int), (bt s_3 at_46))] : List (Int × Int))) * 16 ≤ 140737488355328] (by kernel_rfl) rfl rfl (ap2 c_58.1 (ap2 c_58.2.1 (ap1 c_58.2.2))) ?_
              refine VL_nil (QB_end ?_)
              refine V_run hN hn 1 15 [1, 5, 6, 7, 8] [1, 14] ⟨[(1, .c (.val (.string s_3))), (5, .c (.h 14)), (6, .c (.h 1)), (7, .c (.val (.int .i64 (IntKind.wrap .i64 (at_46 + (1 : Int)))))), (8, .c (.val (.int .i64 i_10)))], [(1, .row (.pair (.int .i64) (.int .u8)) r_5), (14, .row (.pair (.int .i64) (.int .u8)) (out_53 ++ ([((-1 : Int), (bt s_3 at_46))] : List (Int × Int))))], 15⟩ [] (by kernel_rfl) rfl rfl ap0 ?_
              refine VL_nil ?_
              exact V_roundEnd ((out_53 ++ ([((-1 : Int), (bt s_3 at_46))] : List (Int × Int))), (IntKind.wrap .i64 (at_46 + (1 : Int)))) H_116 [(1, 1), (12, 14)] hn (by kernel_rfl) (by kernel_rfl) rfl rfl rfl
            · intro b_56; have H_115 := of_f H_113 b_56
              refine VL_exit ?_
              refine QL_exit ?_
              refine QB_here ?_
              have H_117 := Option.some.inj (show some (out_53, at_46) = some q_108 from H_115); subst H_117
              refine VL_nil ?_
              exact QP_end (out_53, at_46) rfl [(1, 1), (12, 12)] hn (by kernel_rfl) (by kernel_rfl) rfl rfl rfl
          · intro y_111 hy; subst hy
            obtain ⟨out_60, at_61⟩ := y_111
            obtain ⟨c_62, H_118⟩ := of_if H_110
            refine V_run hN hn 3 13 [1, 5, 6, 7, 8] [1, 14] ⟨[(1, .c (.val (.string s_3))), (5, .c (.h 14)), (6, .c (.h 1)), (7, .c (.val (.int .i64 (IntKind.wrap .i64 (at_61 + (1 : Int)))))), (8, .c (.val (.int .i64 i_10)))], [(1, .row (.pair (.int .i64) (.int .u8)) r_5), (14, .row (.pair (.int .i64) (.int .u8)) (out_60 ++ ([(i_10, (0 : Int))] : List (Int × Int))))], 15⟩ [(List.length out_60 + List.length ([(i_10, (0 : Int))] : List (Int × Int))) * 16 ≤ 140737488355328] (by kernel_rfl) rfl rfl (ap1 c_62) ?_
            refine VL_nil (QB_end ?_)
            have H_119 := Option.some.inj (show some ((out_60 ++ ([(i_10, (0 : Int))] : List (Int × Int))), (IntKind.wrap .i64 (at_61 + (1 : Int)))) = some q_100 from H_118); subst H_119
            refine VL_nil ?_
            exact QP_end ((out_60 ++ ([(i_10, (0 : Int))] : List (Int × Int))), (IntKind.wrap .i64 (at_61 + (1 : Int)))) rfl [(1, 1), (15, 14)] hn (by kernel_rfl) (by kernel_rfl) rfl rfl rfl
      · intro y_103 hy; subst hy
        obtain ⟨out_63, at_64⟩ := y_103
        refine V_run hN hn 1 16 [1, 5, 6, 7, 8] [1, 15] ⟨[(1, .c (.val (.string s_3))), (5, .c (.h 15)), (6, .c (.h 1)), (7, .c (.val (.int .i64 at_64))), (8, .c (.val (.int .i64 (IntKind.wrap .i64 (i_10 + (1 : Int))))))], [(1, .row (.pair (.int .i64) (.int .u8)) r_5), (15, .row (.pair (.int .i64) (.int .u8)) out_63)], 16⟩ [] (by kernel_rfl) rfl rfl ap0 ?_
        refine VL_nil ?_
        exact V_roundEnd (out_63, at_64, (IntKind.wrap .i64 (i_10 + (1 : Int)))) H_102 [(1, 1), (9, 15)] hn (by kernel_rfl) (by kernel_rfl) rfl rfl rfl
    · intro b_41; have H_99 := of_f H_97 b_41
      refine VL_exit ?_
      refine QL_exit ?_
      refine QB_here ?_
      have H_120 := Option.some.inj (show some (out_38, at_9) = some q_92 from H_99); subst H_120
      refine VL_nil ?_
      exact QP_end (out_38, at_9) rfl [(9, 9)] hn (by kernel_rfl) (by kernel_rfl) rfl rfl rfl
  · intro y_95 hy; subst hy
    obtain ⟨out_66, at_67⟩ := y_95
    refine V_run hN hn 1 10 [1, 5, 7] [9] ⟨[(1, .c (.val (.string s_3))), (5, .c (.h 9)), (7, .c (.val (.int .i64 at_67)))], [(9, .row (.pair (.int .i64) (.int .u8)) out_66)], 10⟩ [] (by kernel_rfl) rfl rfl ap0 ?_
    refine VL_block ?_
    refine V_to [(1, .c (.val (.string s_3))), (5, .c (.h 12)), (7, .c (.val (.int .i64 at_67)))] [(12, .row (.pair (.int .i64) (.int .u8)) out_66)] [(12, 9)] hn (by kernel_rfl) (by kernel_rfl) rfl rfl rfl ?_
    refine VL_loop (X := ((List (Int × Int)) × Int)) (fun x => [(1, .c (.val (.string s_3))), (5, .c (.h 12)), (7, .c (.val (.int .i64 x.2)))]) (fun x => [(12, .row (.pair (.int .i64) (.int .u8)) x.1)]) (fun k x => palinodelaw13_invert.l2 K s_3 k x.1 x.2 = some r) K (out_66, at_67) H_94 (fun _ h => no_none h) ?_
    intro k_78 x_78 H_121
    obtain ⟨out_77, at_69⟩ := x_78
    have H_122 : palinodelaw13_invert.l2 K s_3 (k_78 + 1) out_77 at_69 = some r := H_121
    rw [palinodelaw13_invert.l2] at H_122
    refine V_run hN hn 3 13 [1, 5, 7, 49] [12] ⟨[(1, .c (.val (.string s_3))), (5, .c (.h 12)), (7, .c (.val (.int .i64 at_69))), (49, .c (.val (.bool (decide (at_69 < (((ByteArray.size s_3) : Nat) : Int))))))], [(12, .row (.pair (.int .i64) (.int .u8)) out_77)], 13⟩ [] (by kernel_rfl) rfl rfl ap0 ?_
    refine VL_cond ((decide (at_69 < (((ByteArray.size s_3) : Nat) : Int)))) (by kernel_rfl) ?_ ?_
    · intro b_80; have H_123 := of_t H_122 b_80
      refine V_run hN hn 2 13 [1, 5, 7, 49] [12] ⟨[(1, .c (.val (.string s_3))), (5, .c (.h 12)), (7, .c (.val (.int .i64 at_69))), (49, .c (.val (.bool (decide (at_69 < (((ByteArray.size s_3) : Nat) : Int))))))], [(12, .row (.pair (.int .i64) (.int .u8)) out_77)], 13⟩ [] (by kernel_rfl) rfl rfl ap0 ?_
      refine VL_block ?_
      obtain ⟨c_82, H_125⟩ := of_if H_123
      refine V_run hN hn 1 13 [1, 5, 7] [14] ⟨[(1, .c (.val (.string s_3))), (5, .c (.h 14)), (7, .c (.val (.int .i64 at_69)))], [(14, .row (.pair (.int .i64) (.int .u8)) (out_77 ++ ([((-1 : Int), (bt s_3 at_69))] : List (Int × Int))))], 15⟩ [0 ≤ at_69, at_69 < (((ByteArray.size s_3) : Nat) : Int), (List.length out_77 + List.length ([((-1 : Int), (bt s_3 at_69))] : List (Int × Int))) * 16 ≤ 140737488355328] (by kernel_rfl) rfl rfl (ap2 c_82.1 (ap2 c_82.2.1 (ap1 c_82.2.2))) ?_
      refine VL_nil (QB_end ?_)
      refine V_run hN hn 1 15 [1, 5, 7] [14] ⟨[(1, .c (.val (.string s_3))), (5, .c (.h 14)), (7, .c (.val (.int .i64 (IntKind.wrap .i64 (at_69 + (1 : Int))))))], [(14, .row (.pair (.int .i64) (.int .u8)) (out_77 ++ ([((-1 : Int), (bt s_3 at_69))] : List (Int × Int))))], 15⟩ [] (by kernel_rfl) rfl rfl ap0 ?_
      refine VL_nil ?_
      exact V_roundEnd ((out_77 ++ ([((-1 : Int), (bt s_3 at_69))] : List (Int × Int))), (IntKind.wrap .i64 (at_69 + (1 : Int)))) H_125 [(12, 14)] hn (by kernel_rfl) (by kernel_rfl) rfl rfl rfl
    · intro b_80; have H_124 := of_f H_122 b_80
      refine VL_exit ?_
      refine QL_exit ?_
      refine QB_here ?_
      refine V_run hN hn 2 13 [4] [12] ⟨[(4, .c (.h 12))], [(12, .row (.pair (.int .i64) (.int .u8)) out_77)], 13⟩ [] (by kernel_rfl) rfl rfl ap0 ?_
      have H_126 := Option.some.inj (show some out_77 = some r from H_124); subst H_126
      refine VL_ret ?_
      exact P_to [(4, .c (.h 12))] [(12, .row (.pair (.int .i64) (.int .u8)) out_77)] [(12, 12)] hn (by kernel_rfl) (by kernel_rfl) rfl rfl rfl (QF_retS (by kernel_rfl) (by kernel_rfl) rfl)

theorem palinodelaw13_ComposeInverts_spec (K : Nat) (d_1 : Int) (d_2 : (List (Int × (Int × ByteArray)))) (s_3 : ByteArray) (r : Bool) (H : palinodelaw13_ComposeInverts K d_1 d_2 s_3 = some r) : Spec Try.prog 4 0 [.agg [.val (.int .i64 d_1), .imm (.slice (.pair (.int .i64) (.pair (.int .i64) .str))) d_2], .c (.val (.string s_3))] [] (.c (.val (.bool r))) [] := by
  refine Spec_mk (fn := Try.f4) (c := (Try.f4.body).get!) Try.func4 (by kernel_rfl) rfl ?_
  intro C hN hn
  replace hN : C.N = 88 := hN
  unfold palinodelaw13_ComposeInverts at H
  refine V_run hN hn 4 0 [1, 2] [0] ⟨[(1, .c (.val (.string s_3))), (2, .c (.h 0))], [(0, .box [.val (.int .i64 d_1), .imm (.slice (.pair (.int .i64) (.pair (.int .i64) .str))) d_2])], 1⟩ [] (by kernel_rfl) rfl rfl ap0 ?_
  obtain ⟨r_5, h_6, H_72⟩ := of_bind H
  refine V_reg hN hn [(0, ⟨9, 0, [], [], .c (.val (.bool r_5)), [], [], 1⟩)] [] (calls_cons (palinodelaw13_known_spec K  r_5 h_6) (by kernel_rfl) calls_nil) 1 [1, 2, 10] [0] ⟨[(1, .c (.val (.string s_3))), (2, .c (.h 0)), (10, .c (.val (.bool (!r_5))))], [(0, .box [.val (.int .i64 d_1), .imm (.slice (.pair (.int .i64) (.pair (.int .i64) .str))) d_2])], 1⟩ [] (by kernel_rfl) rfl rfl ap0 (by kernel_rfl) (by kernel_rfl) ?_
  refine VL_cond ((!r_5)) (by kernel_rfl) ?_ ?_
  · intro b_8; have H_73 := of_t H_72 b_8
    refine V_run hN hn 2 1 [4] [] ⟨[(4, .c (.val (.bool false)))], [], 1⟩ [] (by kernel_rfl) rfl rfl ap0 ?_
    have H_75 := Option.some.inj (show some false = some r from H_73); subst H_75
    refine VL_ret ?_
    exact P_to [(4, .c (.val (.bool false)))] [] [] hn (by kernel_rfl) (by kernel_rfl) rfl rfl rfl (QF_retS (by kernel_rfl) (by kernel_rfl) rfl)
  · intro b_8; have H_74 := of_f H_72 b_8
    refine V_run hN hn 3 1 [1, 2, 10] [0] ⟨[(1, .c (.val (.string s_3))), (2, .c (.h 0)), (10, .c (.val (.bool (!r_5))))], [(0, .box [.val (.int .i64 d_1), .imm (.slice (.pair (.int .i64) (.pair (.int .i64) .str))) d_2])], 1⟩ [] (by kernel_rfl) rfl rfl ap0 ?_
    obtain ⟨q_76, H_77, H_78⟩ := of_bind H_74
    refine V_cut (Y := Bool) (R := Bool) q_76 (fun y => y) (fun y => [(1, .c (.val (.string s_3))), (2, .c (.h 0)), (18, .c (.val (.bool y)))]) (fun y => [(0, .box [.val (.int .i64 d_1), .imm (.slice (.pair (.int .i64) (.pair (.int .i64) .str))) d_2])]) ?_ ?_
    · skip
      obtain ⟨r_11, h_12, H_80⟩ := of_bind H_77
      rcases Bool.eq_false_or_eq_true ((!r_11)) with b_13 | b_13
      · have H_81 := of_t H_80 b_13
        refine V_reg hN hn [(1, ⟨10, 0, [.agg [.val (.int .i64 d_1), .imm (.slice (.pair (.int .i64) (.pair (.int .i64) .str))) d_2]], [], .c (.val (.bool r_11)), [], [], 1⟩)] [(14, true)] (calls_cons (palinodelaw13_few_spec K d_1 d_2 r_11 h_12) (by kernel_rfl) calls_nil) 1 [1, 2, 18] [0] ⟨[(1, .c (.val (.string s_3))), (2, .c (.h 0)), (18, .c (.val (.bool true)))], [(0, .box [.val (.int .i64 d_1), .imm (.slice (.pair (.int .i64) (.pair (.int .i64) .str))) d_2])], 1⟩ [(!r_11) = true] (by kernel_rfl) rfl rfl (ap1 b_13) (by kernel_rfl) (by kernel_rfl) ?_
        have H_83 := Option.some.inj (show some true = some q_76 from H_81); subst H_83
        refine VL_nil ?_
        exact QP_end true rfl [(0, 0)] hn (by kernel_rfl) (by kernel_rfl) rfl rfl rfl
      · have H_82 := of_f H_80 b_13
        refine V_reg hN hn [(1, ⟨10, 0, [.agg [.val (.int .i64 d_1), .imm (.slice (.pair (.int .i64) (.pair (.int .i64) .str))) d_2]], [], .c (.val (.bool r_11)), [], [], 1⟩)] [(14, false)] (calls_cons (palinodelaw13_few_spec K d_1 d_2 r_11 h_12) (by kernel_rfl) calls_nil) 1 [1, 2, 18] [0] ⟨[(1, .c (.val (.string s_3))), (2, .c (.h 0)), (18, .c (.val (.bool (decide ((((ByteArray.size s_3) : Nat) : Int) > (400 : Int))))))], [(0, .box [.val (.int .i64 d_1), .imm (.slice (.pair (.int .i64) (.pair (.int .i64) .str))) d_2])], 1⟩ [(!r_11) = false] (by kernel_rfl) rfl rfl (ap1 b_13) (by kernel_rfl) (by kernel_rfl) ?_
        have H_84 := Option.some.inj (show some (decide ((((ByteArray.size s_3) : Nat) : Int) > (400 : Int))) = some q_76 from H_82); subst H_84
        refine VL_nil ?_
        exact QP_end (decide ((((ByteArray.size s_3) : Nat) : Int) > (400 : Int))) rfl [(0, 0)] hn (by kernel_rfl) (by kernel_rfl) rfl rfl rfl
    · intro y_79 hy; subst hy
      skip
      skip
      refine VL_cond (y_79) (by kernel_rfl) ?_ ?_
      · intro b_17; have H_85 := of_t H_78 b_17
        refine V_run hN hn 2 1 [4] [] ⟨[(4, .c (.val (.bool true)))], [], 1⟩ [] (by kernel_rfl) rfl rfl ap0 ?_
        have H_87 := Option.some.inj (show some true = some r from H_85); subst H_87
        refine VL_ret ?_
        exact P_to [(4, .c (.val (.bool true)))] [] [] hn (by kernel_rfl) (by kernel_rfl) rfl rfl rfl (QF_retS (by kernel_rfl) (by kernel_rfl) rfl)
      · intro b_17; have H_86 := of_f H_78 b_17
        refine V_run hN hn 2 1 [1, 2, 18] [0] ⟨[(1, .c (.val (.string s_3))), (2, .c (.h 0)), (18, .c (.val (.bool y_79)))], [(0, .box [.val (.int .i64 d_1), .imm (.slice (.pair (.int .i64) (.pair (.int .i64) .str))) d_2])], 1⟩ [] (by kernel_rfl) rfl rfl ap0 ?_
        obtain ⟨r_20, h_21, H_88⟩ := of_bind H_86
        refine V_reg hN hn [(2, ⟨17, 0, [.agg [.val (.int .i64 d_1), .imm (.slice (.pair (.int .i64) (.pair (.int .i64) .str))) d_2], .c (.val (.string s_3))], [], .tup [(true, [.val (.int .i64 r_20.1), .imm (.slice (.pair (.int .i64) (.pair (.int .i64) .str))) r_20.2.1]), (false, [.val (.int .i64 r_20.2.2)])], [], [], 1⟩)] [] (calls_cons (compose_Invert_spec K d_1 d_2 s_3 r_20 h_21) (by kernel_rfl) calls_nil) 1 [1, 2, 5, 6] [0, 1] ⟨[(1, .c (.val (.string s_3))), (2, .c (.h 0)), (5, .c (.h 1)), (6, .c (.val (.int .i64 r_20.2.2)))], [(0, .box [.val (.int .i64 d_1), .imm (.slice (.pair (.int .i64) (.pair (.int .i64) .str))) d_2]), (1, .box [.val (.int .i64 r_20.1), .imm (.slice (.pair (.int .i64) (.pair (.int .i64) .str))) r_20.2.1])], 2⟩ [] (by kernel_rfl) rfl rfl ap0 (by kernel_rfl) (by kernel_rfl) ?_
        refine V_run hN hn 1 2 [1, 2, 5, 6] [0, 1] ⟨[(1, .c (.val (.string s_3))), (2, .c (.h 0)), (5, .c (.h 1)), (6, .c (.val (.int .i64 r_20.2.2)))], [(0, .box [.val (.int .i64 d_1), .imm (.slice (.pair (.int .i64) (.pair (.int .i64) .str))) d_2]), (1, .box [.val (.int .i64 r_20.1), .imm (.slice (.pair (.int .i64) (.pair (.int .i64) .str))) r_20.2.1])], 2⟩ [] (by kernel_rfl) rfl rfl ap0 ?_
        refine VL_block ?_
        refine V_run hN hn 1 2 [1, 2, 5, 6] [0, 1] ⟨[(1, .c (.val (.string s_3))), (2, .c (.h 0)), (5, .c (.h 1)), (6, .c (.val (.int .i64 r_20.2.2)))], [(0, .box [.val (.int .i64 d_1), .imm (.slice (.pair (.int .i64) (.pair (.int .i64) .str))) d_2]), (1, .box [.val (.int .i64 r_20.1), .imm (.slice (.pair (.int .i64) (.pair (.int .i64) .str))) r_20.2.1])], 2⟩ [] (by kernel_rfl) rfl rfl ap0 ?_
        obtain ⟨q_89, H_90, H_91⟩ := of_bind H_88
        refine V_cut (Y := Bool) (R := Bool) q_89 (fun y => y) (fun y => [(1, .c (.val (.string s_3))), (2, .c (.h 0)), (5, .c (.h 1)), (6, .c (.val (.int .i64 r_20.2.2))), (25, .c (.val (.bool y)))]) (fun y => [(0, .box [.val (.int .i64 d_1), .imm (.slice (.pair (.int .i64) (.pair (.int .i64) .str))) d_2]), (1, .box [.val (.int .i64 r_20.1), .imm (.slice (.pair (.int .i64) (.pair (.int .i64) .str))) r_20.2.1])]) ?_ ?_
        · skip
          obtain ⟨r_25, h_26, H_93⟩ := of_bind H_90
          rcases Bool.eq_false_or_eq_true ((!r_25)) with b_27 | b_27
          · have H_94 := of_t H_93 b_27
            refine V_reg hN hn [(1, ⟨12, 0, [.agg [.val (.int .i64 d_1), .imm (.slice (.pair (.int .i64) (.pair (.int .i64) .str))) d_2]], [], .c (.val (.bool r_25)), [], [], 2⟩)] [(29, true)] (calls_cons (palinoderef11_Is_spec K d_1 d_2 r_25 h_26) (by kernel_rfl) calls_nil) 2 [1, 2, 5, 6, 25] [0, 1] ⟨[(1, .c (.val (.string s_3))), (2, .c (.h 0)), (5, .c (.h 1)), (6, .c (.val (.int .i64 r_20.2.2))), (25, .c (.val (.bool true)))], [(0, .box [.val (.int .i64 d_1), .imm (.slice (.pair (.int .i64) (.pair (.int .i64) .str))) d_2]), (1, .box [.val (.int .i64 r_20.1), .imm (.slice (.pair (.int .i64) (.pair (.int .i64) .str))) r_20.2.1])], 2⟩ [(!r_25) = true] (by kernel_rfl) rfl rfl (ap1 b_27) (by kernel_rfl) (by kernel_rfl) ?_
            have H_96 := Option.some.inj (show some true = some q_89 from H_94); subst H_96
            refine VL_nil ?_
            exact QP_end true rfl [(0, 0), (1, 1)] hn (by kernel_rfl) (by kernel_rfl) rfl rfl rfl
          · have H_95 := of_f H_93 b_27
            obtain ⟨r_29, h_30, H_97⟩ := of_bind H_95
            refine V_reg hN hn [(1, ⟨12, 0, [.agg [.val (.int .i64 d_1), .imm (.slice (.pair (.int .i64) (.pair (.int .i64) .str))) d_2]], [], .c (.val (.bool r_25)), [], [], 2⟩), (5, ⟨18, 0, [.c (.val (.string s_3))], [], .c (.val (.bool r_29)), [], [], 2⟩)] [(29, false)] (calls_cons (palinoderef11_Is_spec K d_1 d_2 r_25 h_26) (by kernel_rfl) (calls_cons (palinoderef1_Valid_spec K s_3 r_29 h_30) (by kernel_rfl) calls_nil)) 2 [1, 2, 5, 6, 25] [0, 1] ⟨[(1, .c (.val (.string s_3))), (2, .c (.h 0)), (5, .c (.h 1)), (6, .c (.val (.int .i64 r_20.2.2))), (25, .c (.val (.bool (!r_29))))], [(0, .box [.val (.int .i64 d_1), .imm (.slice (.pair (.int .i64) (.pair (.int .i64) .str))) d_2]), (1, .box [.val (.int .i64 r_20.1), .imm (.slice (.pair (.int .i64) (.pair (.int .i64) .str))) r_20.2.1])], 2⟩ [(!r_25) = false] (by kernel_rfl) rfl rfl (ap1 b_27) (by kernel_rfl) (by kernel_rfl) ?_
            have H_98 := Option.some.inj (show some (!r_29) = some q_89 from H_97); subst H_98
            refine VL_nil ?_
            exact QP_end (!r_29) rfl [(0, 0), (1, 1)] hn (by kernel_rfl) (by kernel_rfl) rfl rfl rfl
        · intro y_92 hy; subst hy
          skip
          skip
          refine VL_cond (y_92) (by kernel_rfl) ?_ ?_
          · intro b_33; have H_99 := of_t H_91 b_33
            refine V_run hN hn 1 2 [1, 2, 5, 6, 25] [0, 1] ⟨[(1, .c (.val (.string s_3))), (2, .c (.h 0)), (5, .c (.h 1)), (6, .c (.val (.int .i64 r_20.2.2))), (25, .c (.val (.bool y_92)))], [(0, .box [.val (.int .i64 d_1), .imm (.slice (.pair (.int .i64) (.pair (.int .i64) .str))) d_2]), (1, .box [.val (.int .i64 r_20.1), .imm (.slice (.pair (.int .i64) (.pair (.int .i64) .str))) r_20.2.1])], 2⟩ [] (by kernel_rfl) rfl rfl ap0 ?_
            rcases Bool.eq_false_or_eq_true ((r_20.2.2 == (12 : Int))) with b_35 | b_35
            · have H_101 := of_t H_99 b_35
              refine V_reg hN hn [] [(36, true)] calls_nil 2 [4] [] ⟨[(4, .c (.val (.bool ((((List.length r_20.2.1) : Nat) : Int) == (0 : Int)))))], [], 2⟩ [(r_20.2.2 == (12 : Int)) = true] (by kernel_rfl) rfl rfl (ap1 b_35) (by kernel_rfl) (by kernel_rfl) ?_
              have H_103 := Option.some.inj (show some ((((List.length r_20.2.1) : Nat) : Int) == (0 : Int)) = some r from H_101); subst H_103
              refine VL_ret ?_
              refine QB_ret ?_
              exact P_to [(4, .c (.val (.bool ((((List.length r_20.2.1) : Nat) : Int) == (0 : Int)))))] [] [] hn (by kernel_rfl) (by kernel_rfl) rfl rfl rfl (QF_retS (by kernel_rfl) (by kernel_rfl) rfl)
            · have H_102 := of_f H_99 b_35
              refine V_reg hN hn [] [(36, false)] calls_nil 2 [4] [] ⟨[(4, .c (.val (.bool false)))], [], 2⟩ [(r_20.2.2 == (12 : Int)) = false] (by kernel_rfl) rfl rfl (ap1 b_35) (by kernel_rfl) (by kernel_rfl) ?_
              have H_104 := Option.some.inj (show some false = some r from H_102); subst H_104
              refine VL_ret ?_
              refine QB_ret ?_
              exact P_to [(4, .c (.val (.bool false)))] [] [] hn (by kernel_rfl) (by kernel_rfl) rfl rfl rfl (QF_retS (by kernel_rfl) (by kernel_rfl) rfl)
          · intro b_33; have H_100 := of_f H_91 b_33
            refine V_run hN hn 2 2 [1, 2, 5, 6, 42] [0, 1] ⟨[(1, .c (.val (.string s_3))), (2, .c (.h 0)), (5, .c (.h 1)), (6, .c (.val (.int .i64 r_20.2.2))), (42, .c (.val (.bool ((((ByteArray.size s_3) : Nat) : Int) != d_1))))], [(0, .box [.val (.int .i64 d_1), .imm (.slice (.pair (.int .i64) (.pair (.int .i64) .str))) d_2]), (1, .box [.val (.int .i64 r_20.1), .imm (.slice (.pair (.int .i64) (.pair (.int .i64) .str))) r_20.2.1])], 2⟩ [] (by kernel_rfl) rfl rfl ap0 ?_
            refine VL_cond (((((ByteArray.size s_3) : Nat) : Int) != d_1)) (by kernel_rfl) ?_ ?_
            · intro b_39; have H_105 := of_t H_100 b_39
              refine V_run hN hn 1 2 [1, 2, 5, 6, 42] [0, 1] ⟨[(1, .c (.val (.string s_3))), (2, .c (.h 0)), (5, .c (.h 1)), (6, .c (.val (.int .i64 r_20.2.2))), (42, .c (.val (.bool ((((ByteArray.size s_3) : Nat) : Int) != d_1))))], [(0, .box [.val (.int .i64 d_1), .imm (.slice (.pair (.int .i64) (.pair (.int .i64) .str))) d_2]), (1, .box [.val (.int .i64 r_20.1), .imm (.slice (.pair (.int .i64) (.pair (.int .i64) .str))) r_20.2.1])], 2⟩ [] (by kernel_rfl) rfl rfl ap0 ?_
              rcases Bool.eq_false_or_eq_true ((r_20.2.2 == (80 : Int))) with b_41 | b_41
              · have H_107 := of_t H_105 b_41
                refine V_reg hN hn [] [(50, true)] calls_nil 2 [4] [] ⟨[(4, .c (.val (.bool ((((List.length r_20.2.1) : Nat) : Int) == (0 : Int)))))], [], 2⟩ [(r_20.2.2 == (80 : Int)) = true] (by kernel_rfl) rfl rfl (ap1 b_41) (by kernel_rfl) (by kernel_rfl) ?_
                have H_109 := Option.some.inj (show some ((((List.length r_20.2.1) : Nat) : Int) == (0 : Int)) = some r from H_107); subst H_109
                refine VL_ret ?_
                refine QB_ret ?_
                exact P_to [(4, .c (.val (.bool ((((List.length r_20.2.1) : Nat) : Int) == (0 : Int)))))] [] [] hn (by kernel_rfl) (by kernel_rfl) rfl rfl rfl (QF_retS (by kernel_rfl) (by kernel_rfl) rfl)
              · have H_108 := of_f H_105 b_41
                refine V_reg hN hn [] [(50, false)] calls_nil 2 [4] [] ⟨[(4, .c (.val (.bool false)))], [], 2⟩ [(r_20.2.2 == (80 : Int)) = false] (by kernel_rfl) rfl rfl (ap1 b_41) (by kernel_rfl) (by kernel_rfl) ?_
                have H_110 := Option.some.inj (show some false = some r from H_108); subst H_110
                refine VL_ret ?_
                refine QB_ret ?_
                exact P_to [(4, .c (.val (.bool false)))] [] [] hn (by kernel_rfl) (by kernel_rfl) rfl rfl rfl (QF_retS (by kernel_rfl) (by kernel_rfl) rfl)
            · intro b_39; have H_106 := of_f H_100 b_39
              refine V_run hN hn 1 2 [1, 2, 5, 6, 42] [0, 1] ⟨[(1, .c (.val (.string s_3))), (2, .c (.h 0)), (5, .c (.h 1)), (6, .c (.val (.int .i64 r_20.2.2))), (42, .c (.val (.bool ((((ByteArray.size s_3) : Nat) : Int) != d_1))))], [(0, .box [.val (.int .i64 d_1), .imm (.slice (.pair (.int .i64) (.pair (.int .i64) .str))) d_2]), (1, .box [.val (.int .i64 r_20.1), .imm (.slice (.pair (.int .i64) (.pair (.int .i64) .str))) r_20.2.1])], 2⟩ [] (by kernel_rfl) rfl rfl ap0 ?_
              refine VL_nil (QB_end ?_)
              refine V_run hN hn 1 2 [1, 2, 5, 6, 42] [0, 1] ⟨[(1, .c (.val (.string s_3))), (2, .c (.h 0)), (5, .c (.h 1)), (6, .c (.val (.int .i64 r_20.2.2))), (42, .c (.val (.bool ((((ByteArray.size s_3) : Nat) : Int) != d_1))))], [(0, .box [.val (.int .i64 d_1), .imm (.slice (.pair (.int .i64) (.pair (.int .i64) .str))) d_2]), (1, .box [.val (.int .i64 r_20.1), .imm (.slice (.pair (.int .i64) (.pair (.int .i64) .str))) r_20.2.1])], 2⟩ [] (by kernel_rfl) rfl rfl ap0 ?_
              obtain ⟨r_46, h_47, H_111⟩ := of_bind H_106
              obtain ⟨r_48, h_49, H_112⟩ := of_bind H_111
              obtain ⟨r_50, h_51, H_113⟩ := of_bind H_112
              refine V_draw hN hn (by kernel_rfl) [(1, ⟨13, 0, [.agg [.val (.int .i64 d_1), .imm (.slice (.pair (.int .i64) (.pair (.int .i64) .str))) d_2]], [], .c (.h 9), [(9, .row (.pair (.int .i64) (.int .u8)) r_46)], [(9, 2)], 3⟩), (5, ⟨19, 0, [.agg [.val (.int .i64 d_1), .imm (.slice (.pair (.int .i64) (.pair (.int .i64) .str))) d_2], .c (.val (.string s_3))], [], .c (.h 12), [(12, .row (.pair (.int .i64) (.int .u8)) r_48)], [(12, 3)], 4⟩), (6, ⟨14, 1, [.c (.val (.int .i64 (((List.length r_46) : Nat) : Int))), .c (.h 0)], [(0, .row (.pair (.int .i64) (.int .u8)) r_48)], .tup [(true, [.val (.int .i64 r_50.1), .h 12]), (false, [.val (.int .i64 r_50.2.2)])], [(0, .row (.pair (.int .i64) (.int .u8)) r_48), (12, .row (.pair (.int .i64) (.pair (.int .i64) .str)) r_50.2.1)], [(0, 3), (12, 4)], 5⟩)] [] (calls_cons (palinoderef11_Cells_spec K d_1 d_2 r_46 h_47) (by kernel_rfl) (calls_cons (palinodelaw13_invert_spec K d_1 d_2 s_3 r_48 h_49) (by kernel_rfl) (calls_cons (palinoderef11_Told_gr_spec K (((List.length r_46) : Nat) : Int) r_48 r_50 h_51) (by kernel_rfl) calls_nil))) 2 [5, 6, 7, 8] [1, 4, 5] ⟨[(5, .c (.h 1)), (6, .c (.val (.int .i64 r_20.2.2))), (7, .c (.h 5)), (8, .c (.val (.int .i64 r_50.2.2)))], [(1, .box [.val (.int .i64 r_20.1), .imm (.slice (.pair (.int .i64) (.pair (.int .i64) .str))) r_20.2.1]), (4, .row (.pair (.int .i64) (.pair (.int .i64) .str)) r_50.2.1), (5, .box [.val (.int .i64 r_50.1), .h 4])], 6⟩ [] (by kernel_rfl) rfl rfl ap0 (by kernel_rfl) (by kernel_rfl) ?_
              refine V_run hN hn 1 6 [5, 6, 7, 8] [1, 4, 5] ⟨[(5, .c (.h 1)), (6, .c (.val (.int .i64 r_20.2.2))), (7, .c (.h 5)), (8, .c (.val (.int .i64 r_50.2.2)))], [(1, .box [.val (.int .i64 r_20.1), .imm (.slice (.pair (.int .i64) (.pair (.int .i64) .str))) r_20.2.1]), (4, .row (.pair (.int .i64) (.pair (.int .i64) .str)) r_50.2.1), (5, .box [.val (.int .i64 r_50.1), .h 4])], 6⟩ [] (by kernel_rfl) rfl rfl ap0 ?_
              rcases Bool.eq_false_or_eq_true ((r_20.2.2 == r_50.2.2)) with b_54 | b_54
              · have H_114 := of_t H_113 b_54
                rcases Bool.eq_false_or_eq_true ((r_20.2.2 != (0 : Int))) with b_55 | b_55
                · have H_116 := of_t H_114 b_55
                  rcases Bool.eq_false_or_eq_true (((((List.length r_20.2.1) : Nat) : Int) == (0 : Int))) with b_56 | b_56
                  · have H_118 := of_t H_116 b_56
                    refine V_reg hN hn [] [(69, true), (72, true), (78, true)] calls_nil 6 [4] [] ⟨[(4, .c (.val (.bool true)))], [], 6⟩ [(r_20.2.2 == r_50.2.2) = true, (r_20.2.2 != (0 : Int)) = true, ((((List.length r_20.2.1) : Nat) : Int) == (0 : Int)) = true] (by kernel_rfl) rfl rfl (ap2 b_54 (ap2 b_55 (ap1 b_56))) (by kernel_rfl) (by kernel_rfl) ?_
                    have H_120 := Option.some.inj (show some true = some r from H_118); subst H_120
                    refine VL_ret ?_
                    exact P_to [(4, .c (.val (.bool true)))] [] [] hn (by kernel_rfl) (by kernel_rfl) rfl rfl rfl (QF_retS (by kernel_rfl) (by kernel_rfl) rfl)
                  · have H_119 := of_f H_116 b_56
                    rcases Bool.eq_false_or_eq_true ((r_20.2.2 == (0 : Int))) with b_58 | b_58
                    · have H_121 := of_t H_119 b_58
                      obtain ⟨r_59, h_60, H_123⟩ := of_bind H_121
                      refine V_reg hN hn [(18, ⟨16, 1, [.agg [.val (.int .i64 r_20.1), .imm (.slice (.pair (.int .i64) (.pair (.int .i64) .str))) r_20.2.1], .agg [.val (.int .i64 r_50.1), .h 0]], [(0, .row (.pair (.int .i64) (.pair (.int .i64) .str)) r_50.2.1)], .c (.val (.bool r_59)), [(0, .row (.pair (.int .i64) (.pair (.int .i64) .str)) r_50.2.1)], [(0, 4)], 6⟩)] [(69, true), (72, true), (78, false), (81, true)] (calls_cons (palinoderef11_Same_sggsgr_spec K r_20.1 r_20.2.1 r_50.1 r_50.2.1 r_59 h_60) (by kernel_rfl) calls_nil) 6 [4] [] ⟨[(4, .c (.val (.bool r_59)))], [], 6⟩ [(r_20.2.2 == r_50.2.2) = true, (r_20.2.2 != (0 : Int)) = true, ((((List.length r_20.2.1) : Nat) : Int) == (0 : Int)) = false, (r_20.2.2 == (0 : Int)) = true] (by kernel_rfl) rfl rfl (ap2 b_54 (ap2 b_55 (ap2 b_56 (ap1 b_58)))) (by kernel_rfl) (by kernel_rfl) ?_
                      have H_124 := Option.some.inj (show some r_59 = some r from H_123); subst H_124
                      refine VL_ret ?_
                      exact P_to [(4, .c (.val (.bool r_59)))] [] [] hn (by kernel_rfl) (by kernel_rfl) rfl rfl rfl (QF_retS (by kernel_rfl) (by kernel_rfl) rfl)
                    · have H_122 := of_f H_119 b_58
                      refine V_reg hN hn [] [(69, true), (72, true), (78, false), (81, false)] calls_nil 6 [4] [] ⟨[(4, .c (.val (.bool false)))], [], 6⟩ [(r_20.2.2 == r_50.2.2) = true, (r_20.2.2 != (0 : Int)) = true, ((((List.length r_20.2.1) : Nat) : Int) == (0 : Int)) = false, (r_20.2.2 == (0 : Int)) = false] (by kernel_rfl) rfl rfl (ap2 b_54 (ap2 b_55 (ap2 b_56 (ap1 b_58)))) (by kernel_rfl) (by kernel_rfl) ?_
                      have H_125 := Option.some.inj (show some false = some r from H_122); subst H_125
                      refine VL_ret ?_
                      exact P_to [(4, .c (.val (.bool false)))] [] [] hn (by kernel_rfl) (by kernel_rfl) rfl rfl rfl (QF_retS (by kernel_rfl) (by kernel_rfl) rfl)
                · have H_117 := of_f H_114 b_55
                  rcases Bool.eq_false_or_eq_true ((r_20.2.2 == (0 : Int))) with b_63 | b_63
                  · have H_126 := of_t H_117 b_63
                    obtain ⟨r_64, h_65, H_128⟩ := of_bind H_126
                    refine V_reg hN hn [(18, ⟨16, 1, [.agg [.val (.int .i64 r_20.1), .imm (.slice (.pair (.int .i64) (.pair (.int .i64) .str))) r_20.2.1], .agg [.val (.int .i64 r_50.1), .h 0]], [(0, .row (.pair (.int .i64) (.pair (.int .i64) .str)) r_50.2.1)], .c (.val (.bool r_64)), [(0, .row (.pair (.int .i64) (.pair (.int .i64) .str)) r_50.2.1)], [(0, 4)], 6⟩)] [(69, true), (72, false), (81, true)] (calls_cons (palinoderef11_Same_sggsgr_spec K r_20.1 r_20.2.1 r_50.1 r_50.2.1 r_64 h_65) (by kernel_rfl) calls_nil) 6 [4] [] ⟨[(4, .c (.val (.bool r_64)))], [], 6⟩ [(r_20.2.2 == r_50.2.2) = true, (r_20.2.2 != (0 : Int)) = false, (r_20.2.2 == (0 : Int)) = true] (by kernel_rfl) rfl rfl (ap2 b_54 (ap2 b_55 (ap1 b_63))) (by kernel_rfl) (by kernel_rfl) ?_
                    have H_129 := Option.some.inj (show some r_64 = some r from H_128); subst H_129
                    refine VL_ret ?_
                    exact P_to [(4, .c (.val (.bool r_64)))] [] [] hn (by kernel_rfl) (by kernel_rfl) rfl rfl rfl (QF_retS (by kernel_rfl) (by kernel_rfl) rfl)
                  · have H_127 := of_f H_117 b_63
                    refine V_reg hN hn [] [(69, true), (72, false), (81, false)] calls_nil 6 [4] [] ⟨[(4, .c (.val (.bool false)))], [], 6⟩ [(r_20.2.2 == r_50.2.2) = true, (r_20.2.2 != (0 : Int)) = false, (r_20.2.2 == (0 : Int)) = false] (by kernel_rfl) rfl rfl (ap2 b_54 (ap2 b_55 (ap1 b_63))) (by kernel_rfl) (by kernel_rfl) ?_
                    have H_130 := Option.some.inj (show some false = some r from H_127); subst H_130
                    refine VL_ret ?_
                    exact P_to [(4, .c (.val (.bool false)))] [] [] hn (by kernel_rfl) (by kernel_rfl) rfl rfl rfl (QF_retS (by kernel_rfl) (by kernel_rfl) rfl)
              · have H_115 := of_f H_113 b_54
                refine V_reg hN hn [] [(69, false)] calls_nil 6 [4] [] ⟨[(4, .c (.val (.bool false)))], [], 6⟩ [(r_20.2.2 == r_50.2.2) = false] (by kernel_rfl) rfl rfl (ap1 b_54) (by kernel_rfl) (by kernel_rfl) ?_
                have H_131 := Option.some.inj (show some false = some r from H_115); subst H_131
                refine VL_ret ?_
                exact P_to [(4, .c (.val (.bool false)))] [] [] hn (by kernel_rfl) (by kernel_rfl) rfl rfl rfl (QF_retS (by kernel_rfl) (by kernel_rfl) rfl)

end Go.Pal
