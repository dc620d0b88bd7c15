/- The Go functions that OffsetTells reaches compute what the plain functions say: part 1, printed by a program of this workplace. -/
import Derived.Test.YtpmdngnmchkpgaaChecked
import Derived.Test.YtpmdngnmchkpgaaWalkOffsetTells0
namespace Go.Pal
open Go Go.Proofs
set_option maxRecDepth 100000
set_option linter.unusedVariables false

theorem offset_Move_sgngg_spec (K : Nat) (d_1 : Int) (at_2 : Int) (after_3 : Bool) (r : Int) (H : offset_Move_sgngg K d_1 at_2 after_3 = some r) : Spec Try.prog 12 0 [.agg [.val (.int .i64 d_1), .val (.slice none 0 0)], .c (.val (.int .i64 at_2)), .c (.val (.bool after_3))] [] (.c (.val (.int .i64 r))) [] := by
  refine Spec_mk (fn := Try.f12) (c := (Try.f12.body).get!) Try.func12 (by kernel_rfl) rfl ?_
  intro C hN hn
  replace hN : C.N = 61 := hN
  unfold offset_Move_sgngg at H
  refine V_run hN hn 2 0 [1, 2, 3] [0] ⟨[(1, .c (.val (.int .i64 at_2))), (2, .c (.val (.bool after_3))), (3, .c (.h 0))], [(0, .box [.val (.int .i64 d_1), .val (.slice none 0 0)])], 1⟩ [] (by kernel_rfl) rfl rfl ap0 ?_
  refine VL_scope ?_
  refine V_run hN hn 2 1 [1, 2, 3] [0] ⟨[(1, .c (.val (.int .i64 at_2))), (2, .c (.val (.bool after_3))), (3, .c (.h 0))], [(0, .box [.val (.int .i64 d_1), .val (.slice none 0 0)])], 1⟩ [] (by kernel_rfl) rfl rfl ap0 ?_
  obtain ⟨r_6, h_7, H_42⟩ := of_bind H
  refine V_reg hN hn [(1, ⟨24, 0, [.agg [.val (.int .i64 d_1), .val (.slice none 0 0)]], [], .c (.val (.bool r_6)), [], [], 1⟩)] [] (calls_cons (delta_Is_sgn_spec K d_1 r_6 h_7) (by kernel_rfl) calls_nil) 1 [1, 2, 3, 13] [0] ⟨[(1, .c (.val (.int .i64 at_2))), (2, .c (.val (.bool after_3))), (3, .c (.h 0)), (13, .c (.val (.bool (!r_6))))], [(0, .box [.val (.int .i64 d_1), .val (.slice none 0 0)])], 1⟩ [] (by kernel_rfl) rfl rfl ap0 (by kernel_rfl) (by kernel_rfl) ?_
  refine VL_cond ((!r_6)) (by kernel_rfl) ?_ ?_
  · intro b_9; have H_43 := of_t H_42 b_9
    refine V_run hN hn 2 1 [6] [] ⟨[(6, .c (.val (.int .i64 (0 : Int))))], [], 1⟩ [] (by kernel_rfl) rfl rfl ap0 ?_
    have H_45 := Option.some.inj (show some (0 : Int) = some r from H_43); subst H_45
    refine VL_ret ?_
    refine QG_ret ?_
    exact P_to [(6, .c (.val (.int .i64 (0 : Int))))] [] [] hn (by kernel_rfl) (by kernel_rfl) rfl rfl rfl (QF_retS (by kernel_rfl) (by kernel_rfl) rfl)
  · intro b_9; have H_44 := of_f H_42 b_9
    refine V_run hN hn 6 1 [1, 2, 3, 7, 8] [0] ⟨[(1, .c (.val (.int .i64 (mn2 (mx2 at_2 (0 : Int)) d_1)))), (2, .c (.val (.bool after_3))), (3, .c (.h 0)), (7, .c (.val (.int .i64 (0 : Int)))), (8, .c (.val (.int .i64 (0 : Int))))], [(0, .box [.val (.int .i64 d_1), .val (.slice none 0 0)])], 1⟩ [] (by kernel_rfl) rfl rfl ap0 ?_
    refine VL_label ?_
    refine V_run hN hn 3 1 [1, 2, 7, 8, 20, 21, 22] [] ⟨[(1, .c (.val (.int .i64 (mn2 (mx2 at_2 (0 : Int)) d_1)))), (2, .c (.val (.bool after_3))), (7, .c (.val (.int .i64 (0 : Int)))), (8, .c (.val (.int .i64 (0 : Int)))), (20, .c (.val (.slice none 0 0))), (21, .c (.val (.int .i64 (0 : Int)))), (22, .c (.val (.int .i64 (0 : Int))))], [], 1⟩ [] (by kernel_rfl) rfl rfl ap0 ?_
    obtain ⟨q_46, H_47, H_48⟩ := of_bind H_44
    refine V_cut (Y := (Int × Int)) (R := (Int × Int)) q_46 (fun y => y) (fun y => [(2, .c (.val (.bool after_3))), (7, .c (.val (.int .i64 y.1))), (8, .c (.val (.int .i64 y.2)))]) (fun y => []) ?_ ?_
    · skip
      refine VL_block ?_
      refine V_to [(1, .c (.val (.int .i64 (mn2 (mx2 at_2 (0 : Int)) d_1)))), (2, .c (.val (.bool after_3))), (7, .c (.val (.int .i64 (0 : Int)))), (8, .c (.val (.int .i64 (0 : Int)))), (20, .c (.val (.slice none 0 0))), (21, .c (.val (.int .i64 (0 : Int)))), (22, .c (.val (.int .i64 (0 : Int))))] [] [] hn (by kernel_rfl) (by kernel_rfl) rfl rfl rfl ?_
      refine VL_loop (X := (Int × Int × Int)) (fun x => [(1, .c (.val (.int .i64 (mn2 (mx2 at_2 (0 : Int)) d_1)))), (2, .c (.val (.bool after_3))), (7, .c (.val (.int .i64 x.1))), (8, .c (.val (.int .i64 x.2.1))), (20, .c (.val (.slice none 0 0))), (21, .c (.val (.int .i64 (0 : Int)))), (22, .c (.val (.int .i64 x.2.2)))]) (fun x => []) (fun k x => offset_Move_sgngg.l0 K at_2 d_1 k x.1 x.2.1 x.2.2 = some q_46) K ((0 : Int), (0 : Int), (0 : Int)) H_47 (fun _ h => no_none h) ?_
      intro k_16 x_16 H_50
      obtain ⟨n_13, waits_14, t_15⟩ := x_16
      have H_51 : offset_Move_sgngg.l0 K at_2 d_1 (k_16 + 1) n_13 waits_14 t_15 = some q_46 := H_50
      rw [offset_Move_sgngg.l0] at H_51
      refine V_run hN hn 3 1 [1, 2, 7, 8, 20, 21, 22, 23] [] ⟨[(1, .c (.val (.int .i64 (mn2 (mx2 at_2 (0 : Int)) d_1)))), (2, .c (.val (.bool after_3))), (7, .c (.val (.int .i64 n_13))), (8, .c (.val (.int .i64 waits_14))), (20, .c (.val (.slice none 0 0))), (21, .c (.val (.int .i64 (0 : Int)))), (22, .c (.val (.int .i64 t_15))), (23, .c (.val (.bool (decide (t_15 < (0 : Int))))))], [], 1⟩ [] (by kernel_rfl) rfl rfl ap0 ?_
      refine VL_cond ((decide (t_15 < (0 : Int)))) (by kernel_rfl) ?_ ?_
      · intro b_18; have H_52 := of_t H_51 b_18
        refine V_run hN hn 2 1 [1, 2, 7, 8, 20, 21, 22, 23] [] ⟨[(1, .c (.val (.int .i64 (mn2 (mx2 at_2 (0 : Int)) d_1)))), (2, .c (.val (.bool after_3))), (7, .c (.val (.int .i64 n_13))), (8, .c (.val (.int .i64 waits_14))), (20, .c (.val (.slice none 0 0))), (21, .c (.val (.int .i64 (0 : Int)))), (22, .c (.val (.int .i64 t_15))), (23, .c (.val (.bool (decide (t_15 < (0 : Int))))))], [], 1⟩ [] (by kernel_rfl) rfl rfl ap0 ?_
        refine VL_block ?_
        obtain ⟨c_20, H_54⟩ := of_if H_52
        refine V_run hN hn 2 1 [1, 2, 7, 8, 10, 20, 21, 22] [1] ⟨[(1, .c (.val (.int .i64 (mn2 (mx2 at_2 (0 : Int)) d_1)))), (2, .c (.val (.bool after_3))), (7, .c (.val (.int .i64 n_13))), (8, .c (.val (.int .i64 waits_14))), (10, .c (.h 1)), (20, .c (.val (.slice none 0 0))), (21, .c (.val (.int .i64 (0 : Int)))), (22, .c (.val (.int .i64 t_15)))], [(1, .box [.val (.int .i64 (List.getD ([] : List (Int × (Int × ByteArray))) (Int.toNat t_15) ((0 : Int), ((0 : Int), ByteArray.empty))).1), .val (.int .i64 (List.getD ([] : List (Int × (Int × ByteArray))) (Int.toNat t_15) ((0 : Int), ((0 : Int), ByteArray.empty))).2.1), .val (.string (List.getD ([] : List (Int × (Int × ByteArray))) (Int.toNat t_15) ((0 : Int), ((0 : Int), ByteArray.empty))).2.2)])], 2⟩ [0 ≤ t_15, t_15 < (((List.length ([] : List (Int × (Int × ByteArray)))) : Nat) : Int)] (by kernel_rfl) rfl rfl (ap2 c_20.1 (ap1 c_20.2)) ?_
        refine VL_block ?_
        refine V_run hN hn 1 2 [1, 2, 7, 8, 10, 20, 21, 22] [1] ⟨[(1, .c (.val (.int .i64 (mn2 (mx2 at_2 (0 : Int)) d_1)))), (2, .c (.val (.bool after_3))), (7, .c (.val (.int .i64 n_13))), (8, .c (.val (.int .i64 waits_14))), (10, .c (.h 1)), (20, .c (.val (.slice none 0 0))), (21, .c (.val (.int .i64 (0 : Int)))), (22, .c (.val (.int .i64 t_15)))], [(1, .box [.val (.int .i64 (List.getD ([] : List (Int × (Int × ByteArray))) (Int.toNat t_15) ((0 : Int), ((0 : Int), ByteArray.empty))).1), .val (.int .i64 (List.getD ([] : List (Int × (Int × ByteArray))) (Int.toNat t_15) ((0 : Int), ((0 : Int), ByteArray.empty))).2.1), .val (.string (List.getD ([] : List (Int × (Int × ByteArray))) (Int.toNat t_15) ((0 : Int), ((0 : Int), ByteArray.empty))).2.2)])], 2⟩ [] (by kernel_rfl) rfl rfl ap0 ?_
        obtain ⟨r_22, h_23, H_55⟩ := of_bind H_54
        refine V_reg hN hn [(1, ⟨25, 0, [.agg [.val (.int .i64 (List.getD ([] : List (Int × (Int × ByteArray))) (Int.toNat t_15) ((0 : Int), ((0 : Int), ByteArray.empty))).1), .val (.int .i64 (List.getD ([] : List (Int × (Int × ByteArray))) (Int.toNat t_15) ((0 : Int), ((0 : Int), ByteArray.empty))).2.1), .val (.string (List.getD ([] : List (Int × (Int × ByteArray))) (Int.toNat t_15) ((0 : Int), ((0 : Int), ByteArray.empty))).2.2)]], [], .c (.val (.bool r_22)), [], [], 2⟩)] [] (calls_cons (delta_IsCopy_spec K (List.getD ([] : List (Int × (Int × ByteArray))) (Int.toNat t_15) ((0 : Int), ((0 : Int), ByteArray.empty))).1 (List.getD ([] : List (Int × (Int × ByteArray))) (Int.toNat t_15) ((0 : Int), ((0 : Int), ByteArray.empty))).2.1 (List.getD ([] : List (Int × (Int × ByteArray))) (Int.toNat t_15) ((0 : Int), ((0 : Int), ByteArray.empty))).2.2 r_22 h_23) (by kernel_rfl) calls_nil) 2 [1, 2, 7, 8, 10, 20, 21, 22, 41] [1] ⟨[(1, .c (.val (.int .i64 (mn2 (mx2 at_2 (0 : Int)) d_1)))), (2, .c (.val (.bool after_3))), (7, .c (.val (.int .i64 n_13))), (8, .c (.val (.int .i64 waits_14))), (10, .c (.h 1)), (20, .c (.val (.slice none 0 0))), (21, .c (.val (.int .i64 (0 : Int)))), (22, .c (.val (.int .i64 t_15))), (41, .c (.val (.bool (!r_22))))], [(1, .box [.val (.int .i64 (List.getD ([] : List (Int × (Int × ByteArray))) (Int.toNat t_15) ((0 : Int), ((0 : Int), ByteArray.empty))).1), .val (.int .i64 (List.getD ([] : List (Int × (Int × ByteArray))) (Int.toNat t_15) ((0 : Int), ((0 : Int), ByteArray.empty))).2.1), .val (.string (List.getD ([] : List (Int × (Int × ByteArray))) (Int.toNat t_15) ((0 : Int), ((0 : Int), ByteArray.empty))).2.2)])], 2⟩ [] (by kernel_rfl) rfl rfl ap0 (by kernel_rfl) (by kernel_rfl) ?_
        refine VL_cond ((!r_22)) (by kernel_rfl) ?_ ?_
        · intro b_25; have H_56 := of_t H_55 b_25
          refine V_run hN hn 1 2 [1, 2, 7, 8, 20, 21, 22] [] ⟨[(1, .c (.val (.int .i64 (mn2 (mx2 at_2 (0 : Int)) d_1)))), (2, .c (.val (.bool after_3))), (7, .c (.val (.int .i64 n_13))), (8, .c (.val (.int .i64 (IntKind.wrap .i64 (waits_14 + (((ByteArray.size (List.getD ([] : List (Int × (Int × ByteArray))) (Int.toNat t_15) ((0 : Int), ((0 : Int), ByteArray.empty))).2.2) : Nat) : Int)))))), (20, .c (.val (.slice none 0 0))), (21, .c (.val (.int .i64 (0 : Int)))), (22, .c (.val (.int .i64 t_15)))], [], 2⟩ [] (by kernel_rfl) rfl rfl ap0 ?_
          refine VL_nil (QB_end ?_)
          refine VL_nil (QB_end ?_)
          refine V_run hN hn 1 2 [1, 2, 7, 8, 20, 21, 22] [] ⟨[(1, .c (.val (.int .i64 (mn2 (mx2 at_2 (0 : Int)) d_1)))), (2, .c (.val (.bool after_3))), (7, .c (.val (.int .i64 n_13))), (8, .c (.val (.int .i64 (IntKind.wrap .i64 (waits_14 + (((ByteArray.size (List.getD ([] : List (Int × (Int × ByteArray))) (Int.toNat t_15) ((0 : Int), ((0 : Int), ByteArray.empty))).2.2) : Nat) : Int)))))), (20, .c (.val (.slice none 0 0))), (21, .c (.val (.int .i64 (0 : Int)))), (22, .c (.val (.int .i64 (IntKind.wrap .i64 (t_15 + (1 : Int))))))], [], 2⟩ [] (by kernel_rfl) rfl rfl ap0 ?_
          refine VL_nil ?_
          exact V_roundEnd (n_13, (IntKind.wrap .i64 (waits_14 + (((ByteArray.size (List.getD ([] : List (Int × (Int × ByteArray))) (Int.toNat t_15) ((0 : Int), ((0 : Int), ByteArray.empty))).2.2) : Nat) : Int))), (IntKind.wrap .i64 (t_15 + (1 : Int)))) H_56 [] hn (by kernel_rfl) (by kernel_rfl) rfl rfl rfl
        · intro b_25; have H_57 := of_f H_55 b_25
          refine V_run hN hn 2 2 [1, 2, 7, 8, 10, 20, 21, 22, 50] [1] ⟨[(1, .c (.val (.int .i64 (mn2 (mx2 at_2 (0 : Int)) d_1)))), (2, .c (.val (.bool after_3))), (7, .c (.val (.int .i64 n_13))), (8, .c (.val (.int .i64 waits_14))), (10, .c (.h 1)), (20, .c (.val (.slice none 0 0))), (21, .c (.val (.int .i64 (0 : Int)))), (22, .c (.val (.int .i64 t_15))), (50, .c (.val (.bool (decide ((List.getD ([] : List (Int × (Int × ByteArray))) (Int.toNat t_15) ((0 : Int), ((0 : Int), ByteArray.empty))).1 ≥ (mn2 (mx2 at_2 (0 : Int)) d_1))))))], [(1, .box [.val (.int .i64 (List.getD ([] : List (Int × (Int × ByteArray))) (Int.toNat t_15) ((0 : Int), ((0 : Int), ByteArray.empty))).1), .val (.int .i64 (List.getD ([] : List (Int × (Int × ByteArray))) (Int.toNat t_15) ((0 : Int), ((0 : Int), ByteArray.empty))).2.1), .val (.string (List.getD ([] : List (Int × (Int × ByteArray))) (Int.toNat t_15) ((0 : Int), ((0 : Int), ByteArray.empty))).2.2)])], 2⟩ [] (by kernel_rfl) rfl rfl ap0 ?_
          refine VL_cond ((decide ((List.getD ([] : List (Int × (Int × ByteArray))) (Int.toNat t_15) ((0 : Int), ((0 : Int), ByteArray.empty))).1 ≥ (mn2 (mx2 at_2 (0 : Int)) d_1)))) (by kernel_rfl) ?_ ?_
          · intro b_29; have H_58 := of_t H_57 b_29
            refine VL_exit ?_
            refine QB_out (by decide) ?_
            refine QB_out (by decide) ?_
            refine QL_exit ?_
            refine QB_here ?_
            have H_60 := Option.some.inj (show some (n_13, waits_14) = some q_46 from H_58); subst H_60
            refine VL_nil ?_
            exact QP_end (n_13, waits_14) rfl [] hn (by kernel_rfl) (by kernel_rfl) rfl rfl rfl
          · intro b_29; have H_59 := of_f H_57 b_29
            refine V_run hN hn 6 2 [1, 2, 7, 8, 20, 21, 22, 40] [] ⟨[(1, .c (.val (.int .i64 (mn2 (mx2 at_2 (0 : Int)) d_1)))), (2, .c (.val (.bool after_3))), (7, .c (.val (.int .i64 (IntKind.wrap .i64 (n_13 + (IntKind.wrap .i64 ((IntKind.wrap .i64 (waits_14 + (mn2 (List.getD ([] : List (Int × (Int × ByteArray))) (Int.toNat t_15) ((0 : Int), ((0 : Int), ByteArray.empty))).2.1 (mn2 (mx2 at_2 (0 : Int)) d_1)))) - (List.getD ([] : List (Int × (Int × ByteArray))) (Int.toNat t_15) ((0 : Int), ((0 : Int), ByteArray.empty))).1))))))), (8, .c (.val (.int .i64 (0 : Int)))), (20, .c (.val (.slice none 0 0))), (21, .c (.val (.int .i64 (0 : Int)))), (22, .c (.val (.int .i64 t_15))), (40, .c (.val (.bool (decide ((List.getD ([] : List (Int × (Int × ByteArray))) (Int.toNat t_15) ((0 : Int), ((0 : Int), ByteArray.empty))).2.1 > (mn2 (mx2 at_2 (0 : Int)) d_1))))))], [], 2⟩ [] (by kernel_rfl) rfl rfl ap0 ?_
            refine VL_cond ((decide ((List.getD ([] : List (Int × (Int × ByteArray))) (Int.toNat t_15) ((0 : Int), ((0 : Int), ByteArray.empty))).2.1 > (mn2 (mx2 at_2 (0 : Int)) d_1)))) (by kernel_rfl) ?_ ?_
            · intro b_31; have H_61 := of_t H_59 b_31
              refine VL_exit ?_
              refine QB_out (by decide) ?_
              refine QB_out (by decide) ?_
              refine QL_exit ?_
              refine QB_here ?_
              have H_63 := Option.some.inj (show some ((IntKind.wrap .i64 (n_13 + (IntKind.wrap .i64 ((IntKind.wrap .i64 (waits_14 + (mn2 (List.getD ([] : List (Int × (Int × ByteArray))) (Int.toNat t_15) ((0 : Int), ((0 : Int), ByteArray.empty))).2.1 (mn2 (mx2 at_2 (0 : Int)) d_1)))) - (List.getD ([] : List (Int × (Int × ByteArray))) (Int.toNat t_15) ((0 : Int), ((0 : Int), ByteArray.empty))).1)))), (0 : Int)) = some q_46 from H_61); subst H_63
              refine VL_nil ?_
              exact QP_end ((IntKind.wrap .i64 (n_13 + (IntKind.wrap .i64 ((IntKind.wrap .i64 (waits_14 + (mn2 (List.getD ([] : List (Int × (Int × ByteArray))) (Int.toNat t_15) ((0 : Int), ((0 : Int), ByteArray.empty))).2.1 (mn2 (mx2 at_2 (0 : Int)) d_1)))) - (List.getD ([] : List (Int × (Int × ByteArray))) (Int.toNat t_15) ((0 : Int), ((0 : Int), ByteArray.empty))).1)))), (0 : Int)) rfl [] hn (by kernel_rfl) (by kernel_rfl) rfl rfl rfl
            · intro b_31; have H_62 := of_f H_59 b_31
              refine V_run hN hn 1 2 [1, 2, 7, 8, 20, 21, 22, 40] [] ⟨[(1, .c (.val (.int .i64 (mn2 (mx2 at_2 (0 : Int)) d_1)))), (2, .c (.val (.bool after_3))), (7, .c (.val (.int .i64 (IntKind.wrap .i64 (n_13 + (IntKind.wrap .i64 ((IntKind.wrap .i64 (waits_14 + (mn2 (List.getD ([] : List (Int × (Int × ByteArray))) (Int.toNat t_15) ((0 : Int), ((0 : Int), ByteArray.empty))).2.1 (mn2 (mx2 at_2 (0 : Int)) d_1)))) - (List.getD ([] : List (Int × (Int × ByteArray))) (Int.toNat t_15) ((0 : Int), ((0 : Int), ByteArray.empty))).1))))))), (8, .c (.val (.int .i64 (0 : Int)))), (20, .c (.val (.slice none 0 0))), (21, .c (.val (.int .i64 (0 : Int)))), (22, .c (.val (.int .i64 t_15))), (40, .c (.val (.bool (decide ((List.getD ([] : List (Int × (Int × ByteArray))) (Int.toNat t_15) ((0 : Int), ((0 : Int), ByteArray.empty))).2.1 > (mn2 (mx2 at_2 (0 : Int)) d_1))))))], [], 2⟩ [] (by kernel_rfl) rfl rfl ap0 ?_
              refine VL_nil (QB_end ?_)
              refine VL_nil (QB_end ?_)
              refine V_run hN hn 1 2 [1, 2, 7, 8, 20, 21, 22] [] ⟨[(1, .c (.val (.int .i64 (mn2 (mx2 at_2 (0 : Int)) d_1)))), (2, .c (.val (.bool after_3))), (7, .c (.val (.int .i64 (IntKind.wrap .i64 (n_13 + (IntKind.wrap .i64 ((IntKind.wrap .i64 (waits_14 + (mn2 (List.getD ([] : List (Int × (Int × ByteArray))) (Int.toNat t_15) ((0 : Int), ((0 : Int), ByteArray.empty))).2.1 (mn2 (mx2 at_2 (0 : Int)) d_1)))) - (List.getD ([] : List (Int × (Int × ByteArray))) (Int.toNat t_15) ((0 : Int), ((0 : Int), ByteArray.empty))).1))))))), (8, .c (.val (.int .i64 (0 : Int)))), (20, .c (.val (.slice none 0 0))), (21, .c (.val (.int .i64 (0 : Int)))), (22, .c (.val (.int .i64 (IntKind.wrap .i64 (t_15 + (1 : Int))))))], [], 2⟩ [] (by kernel_rfl) rfl rfl ap0 ?_
              refine VL_nil ?_
              exact V_roundEnd ((IntKind.wrap .i64 (n_13 + (IntKind.wrap .i64 ((IntKind.wrap .i64 (waits_14 + (mn2 (List.getD ([] : List (Int × (Int × ByteArray))) (Int.toNat t_15) ((0 : Int), ((0 : Int), ByteArray.empty))).2.1 (mn2 (mx2 at_2 (0 : Int)) d_1)))) - (List.getD ([] : List (Int × (Int × ByteArray))) (Int.toNat t_15) ((0 : Int), ((0 : Int), ByteArray.empty))).1)))), (0 : Int), (IntKind.wrap .i64 (t_15 + (1 : Int)))) H_62 [] hn (by kernel_rfl) (by kernel_rfl) rfl rfl rfl
      · intro b_18; have H_53 := of_f H_51 b_18
        refine VL_exit ?_
        refine QL_exit ?_
        refine QB_here ?_
        have H_64 := Option.some.inj (show some (n_13, waits_14) = some q_46 from H_53); subst H_64
        refine VL_nil ?_
        exact QP_end (n_13, waits_14) rfl [] hn (by kernel_rfl) (by kernel_rfl) rfl rfl rfl
    · intro y_49 hy; subst hy
      obtain ⟨n_34, waits_35⟩ := y_49
      refine V_run hN hn 3 2 [7, 8, 56] [] ⟨[(7, .c (.val (.int .i64 n_34))), (8, .c (.val (.int .i64 waits_35))), (56, .c (.val (.bool after_3)))], [], 2⟩ [] (by kernel_rfl) rfl rfl ap0 ?_
      refine VL_cond (after_3) (by kernel_rfl) ?_ ?_
      · intro b_37; have H_65 := of_t H_48 b_37
        refine V_run hN hn 3 2 [6] [] ⟨[(6, .c (.val (.int .i64 (IntKind.wrap .i64 (n_34 + waits_35)))))], [], 2⟩ [] (by kernel_rfl) rfl rfl ap0 ?_
        have H_67 := Option.some.inj (show some (IntKind.wrap .i64 (n_34 + waits_35)) = some r from H_65); subst H_67
        refine VL_ret ?_
        refine QG_ret ?_
        exact P_to [(6, .c (.val (.int .i64 (IntKind.wrap .i64 (n_34 + waits_35)))))] [] [] hn (by kernel_rfl) (by kernel_rfl) rfl rfl rfl (QF_retS (by kernel_rfl) (by kernel_rfl) rfl)
      · intro b_37; have H_66 := of_f H_48 b_37
        refine V_run hN hn 3 2 [6] [] ⟨[(6, .c (.val (.int .i64 n_34)))], [], 2⟩ [] (by kernel_rfl) rfl rfl ap0 ?_
        have H_68 := Option.some.inj (show some n_34 = some r from H_66); subst H_68
        refine VL_ret ?_
        refine QG_ret ?_
        exact P_to [(6, .c (.val (.int .i64 n_34)))] [] [] hn (by kernel_rfl) (by kernel_rfl) rfl rfl rfl (QF_retS (by kernel_rfl) (by kernel_rfl) rfl)

theorem palinodelaw14_known_spec (K : Nat) (r : Bool) (H : palinodelaw14_known K  = some r) : Spec Try.prog 8 0 [] [] (.c (.val (.bool r))) [] := by
  refine Spec_mk (fn := Try.f8) (c := (Try.f8.body).get!) Try.func8 (by kernel_rfl) rfl ?_
  intro C hN hn
  replace hN : C.N = 62 := hN
  unfold palinodelaw14_known at H
  refine V_run hN hn 3 0 [] [] ⟨[], [], 0⟩ [] (by kernel_rfl) rfl rfl ap0 ?_
  obtain ⟨r_2, h_3, H_48⟩ := of_bind H
  refine V_reg hN hn [(2, ⟨19, 1, [.c (.val (.int .i64 (4 : Int))), .c (.h 0)], [(0, .row (.pair (.int .i64) (.pair (.int .i64) .str)) ([((2 : Int), ((2 : Int), (ByteArray.mk #[120])))] : List (Int × (Int × ByteArray))))], .tup [(true, [.val (.int .i64 r_2.1), .imm (.slice (.pair (.int .i64) (.pair (.int .i64) .str))) r_2.2.1]), (false, [.val (.int .i64 r_2.2.2)])], [(0, .row (.pair (.int .i64) (.pair (.int .i64) .str)) ([((2 : Int), ((2 : Int), (ByteArray.mk #[120])))] : List (Int × (Int × ByteArray))))], [(0, 0)], 1⟩)] [] (calls_cons (delta_Build_gr_spec K (4 : Int) ([((2 : Int), ((2 : Int), (ByteArray.mk #[120])))] : List (Int × (Int × ByteArray))) r_2 h_3) (by kernel_rfl) calls_nil) 0 [1, 2] [1] ⟨[(1, .c (.h 1)), (2, .c (.val (.int .i64 r_2.2.2)))], [(1, .box [.val (.int .i64 r_2.1), .imm (.slice (.pair (.int .i64) (.pair (.int .i64) .str))) r_2.2.1])], 2⟩ [] (by kernel_rfl) rfl rfl ap0 (by kernel_rfl) (by kernel_rfl) ?_
  refine V_run hN hn 1 2 [1, 2] [1] ⟨[(1, .c (.h 1)), (2, .c (.val (.int .i64 r_2.2.2)))], [(1, .box [.val (.int .i64 r_2.1), .imm (.slice (.pair (.int .i64) (.pair (.int .i64) .str))) r_2.2.1])], 2⟩ [] (by kernel_rfl) rfl rfl ap0 ?_
  rcases Bool.eq_false_or_eq_true ((r_2.2.2 == (0 : Int))) with b_6 | b_6
  · have H_49 := of_t H_48 b_6
    obtain ⟨r_7, h_8, H_51⟩ := of_bind H_49
    rcases Bool.eq_false_or_eq_true ((r_7 == (2 : Int))) with b_9 | b_9
    · have H_52 := of_t H_51 b_9
      obtain ⟨r_10, h_11, H_54⟩ := of_bind H_52
      rcases Bool.eq_false_or_eq_true ((r_10 == (3 : Int))) with b_12 | b_12
      · have H_55 := of_t H_54 b_12
        obtain ⟨r_13, h_14, H_57⟩ := of_bind H_55
        rcases Bool.eq_false_or_eq_true ((r_13 == (4 : Int))) with b_15 | b_15
        · have H_58 := of_t H_57 b_15
          obtain ⟨r_16, h_17, H_60⟩ := of_bind H_58
          rcases Bool.eq_false_or_eq_true ((r_16 == (2 : Int))) with b_18 | b_18
          · have H_61 := of_t H_60 b_18
            obtain ⟨r_19, h_20, H_63⟩ := of_bind H_61
            rcases Bool.eq_false_or_eq_true ((r_19 == (2 : Int))) with b_21 | b_21
            · have H_64 := of_t H_63 b_21
              obtain ⟨r_22, h_23, H_66⟩ := of_bind H_64
              rcases Bool.eq_false_or_eq_true ((r_22 == (4 : Int))) with b_24 | b_24
              · have H_67 := of_t H_66 b_24
                obtain ⟨r_25, h_26, H_69⟩ := of_bind H_67
                rcases Bool.eq_false_or_eq_true (r_25) with b_27 | b_27
                · have H_70 := of_t H_69 b_27
                  obtain ⟨r_28, h_29, H_72⟩ := of_bind H_70
                  rcases Bool.eq_false_or_eq_true ((!r_28)) with b_30 | b_30
                  · have H_73 := of_t H_72 b_30
                    obtain ⟨r_31, h_32, H_75⟩ := of_bind H_73
                    rcases Bool.eq_false_or_eq_true (((r_31.1 == (3 : Int)) && (r_31.2 == (5 : Int)))) with b_33 | b_33
                    · have H_76 := of_t H_75 b_33
                      obtain ⟨r_34, h_35, H_78⟩ := of_bind H_76
                      refine V_reg hN hn [(4, ⟨12, 0, [.agg [.val (.int .i64 r_2.1), .imm (.slice (.pair (.int .i64) (.pair (.int .i64) .str))) r_2.2.1], .c (.val (.int .i64 (2 : Int))), .c (.val (.bool false))], [], .c (.val (.int .i64 r_7)), [], [], 2⟩), (9, ⟨12, 0, [.agg [.val (.int .i64 r_2.1), .imm (.slice (.pair (.int .i64) (.pair (.int .i64) .str))) r_2.2.1], .c (.val (.int .i64 (2 : Int))), .c (.val (.bool true))], [], .c (.val (.int .i64 r_10)), [], [], 2⟩), (14, ⟨12, 0, [.agg [.val (.int .i64 r_2.1), .imm (.slice (.pair (.int .i64) (.pair (.int .i64) .str))) r_2.2.1], .c (.val (.int .i64 (3 : Int))), .c (.val (.bool false))], [], .c (.val (.int .i64 r_13)), [], [], 2⟩), (19, ⟨14, 0, [.agg [.val (.int .i64 r_2.1), .imm (.slice (.pair (.int .i64) (.pair (.int .i64) .str))) r_2.2.1], .c (.val (.int .i64 (2 : Int)))], [], .c (.val (.int .i64 r_16)), [], [], 2⟩), (24, ⟨14, 0, [.agg [.val (.int .i64 r_2.1), .imm (.slice (.pair (.int .i64) (.pair (.int .i64) .str))) r_2.2.1], .c (.val (.int .i64 (3 : Int)))], [], .c (.val (.int .i64 r_19)), [], [], 2⟩), (29, ⟨14, 0, [.agg [.val (.int .i64 r_2.1), .imm (.slice (.pair (.int .i64) (.pair (.int .i64) .str))) r_2.2.1], .c (.val (.int .i64 (5 : Int)))], [], .c (.val (.int .i64 r_22)), [], [], 2⟩), (34, ⟨16, 0, [.agg [.val (.int .i64 r_2.1), .imm (.slice (.pair (.int .i64) (.pair (.int .i64) .str))) r_2.2.1], .c (.val (.int .i64 (1 : Int)))], [], .c (.val (.bool r_25)), [], [], 2⟩), (38, ⟨16, 0, [.agg [.val (.int .i64 r_2.1), .imm (.slice (.pair (.int .i64) (.pair (.int .i64) .str))) r_2.2.1], .c (.val (.int .i64 (4 : Int)))], [], .c (.val (.bool r_28)), [], [], 2⟩), (44, ⟨17, 0, [.agg [.val (.int .i64 r_2.1), .imm (.slice (.pair (.int .i64) (.pair (.int .i64) .str))) r_2.2.1], .agg [.val (.int .i64 (2 : Int)), .val (.int .i64 (4 : Int))]], [], .agg [.val (.int .i64 r_31.1), .val (.int .i64 r_31.2)], [], [], 2⟩), (50, ⟨12, 0, [.agg [.val (.int .i64 (-1 : Int)), .val (.slice none 0 0)], .c (.val (.int .i64 (0 : Int))), .c (.val (.bool true))], [], .c (.val (.int .i64 r_34)), [], [], 2⟩)] [(11, true), (16, true), (21, true), (26, true), (31, true), (36, true), (41, true), (45, true), (50, true), (57, true)] (calls_cons (offset_Move_spec K r_2.1 r_2.2.1 (2 : Int) false r_7 h_8) (by kernel_rfl) (calls_cons (offset_Move_spec K r_2.1 r_2.2.1 (2 : Int) true r_10 h_11) (by kernel_rfl) (calls_cons (offset_Move_spec K r_2.1 r_2.2.1 (3 : Int) false r_13 h_14) (by kernel_rfl) (calls_cons (offset_Back_spec K r_2.1 r_2.2.1 (2 : Int) r_16 h_17) (by kernel_rfl) (calls_cons (offset_Back_spec K r_2.1 r_2.2.1 (3 : Int) r_19 h_20) (by kernel_rfl) (calls_cons (offset_Back_spec K r_2.1 r_2.2.1 (5 : Int) r_22 h_23) (by kernel_rfl) (calls_cons (offset_Stays_spec K r_2.1 r_2.2.1 (1 : Int) r_25 h_26) (by kernel_rfl) (calls_cons (offset_Stays_spec K r_2.1 r_2.2.1 (4 : Int) r_28 h_29) (by kernel_rfl) (calls_cons (offset_Interval_spec K r_2.1 r_2.2.1 (2 : Int) (4 : Int) r_31 h_32) (by kernel_rfl) (calls_cons (offset_Move_sgngg_spec K (-1 : Int) (0 : Int) true r_34 h_35) (by kernel_rfl) calls_nil)))))))))) 2 [0] [] ⟨[(0, .c (.val (.bool (r_34 == (0 : Int)))))], [], 2⟩ [(r_2.2.2 == (0 : Int)) = true, (r_7 == (2 : Int)) = true, (r_10 == (3 : Int)) = true, (r_13 == (4 : Int)) = true, (r_16 == (2 : Int)) = true, (r_19 == (2 : Int)) = true, (r_22 == (4 : Int)) = true, r_25 = true, (!r_28) = true, ((r_31.1 == (3 : Int)) && (r_31.2 == (5 : Int))) = true] (by kernel_rfl) rfl rfl (ap2 b_6 (ap2 b_9 (ap2 b_12 (ap2 b_15 (ap2 b_18 (ap2 b_21 (ap2 b_24 (ap2 b_27 (ap2 b_30 (ap1 b_33)))))))))) (by kernel_rfl) (by kernel_rfl) ?_
                      have H_79 := Option.some.inj (show some (r_34 == (0 : Int)) = some r from H_78); subst H_79
                      refine VL_ret ?_
                      exact P_to [(0, .c (.val (.bool (r_34 == (0 : Int)))))] [] [] hn (by kernel_rfl) (by kernel_rfl) rfl rfl rfl (QF_retS (by kernel_rfl) (by kernel_rfl) rfl)
                    · have H_77 := of_f H_75 b_33
                      refine V_reg hN hn [(4, ⟨12, 0, [.agg [.val (.int .i64 r_2.1), .imm (.slice (.pair (.int .i64) (.pair (.int .i64) .str))) r_2.2.1], .c (.val (.int .i64 (2 : Int))), .c (.val (.bool false))], [], .c (.val (.int .i64 r_7)), [], [], 2⟩), (9, ⟨12, 0, [.agg [.val (.int .i64 r_2.1), .imm (.slice (.pair (.int .i64) (.pair (.int .i64) .str))) r_2.2.1], .c (.val (.int .i64 (2 : Int))), .c (.val (.bool true))], [], .c (.val (.int .i64 r_10)), [], [], 2⟩), (14, ⟨12, 0, [.agg [.val (.int .i64 r_2.1), .imm (.slice (.pair (.int .i64) (.pair (.int .i64) .str))) r_2.2.1], .c (.val (.int .i64 (3 : Int))), .c (.val (.bool false))], [], .c (.val (.int .i64 r_13)), [], [], 2⟩), (19, ⟨14, 0, [.agg [.val (.int .i64 r_2.1), .imm (.slice (.pair (.int .i64) (.pair (.int .i64) .str))) r_2.2.1], .c (.val (.int .i64 (2 : Int)))], [], .c (.val (.int .i64 r_16)), [], [], 2⟩), (24, ⟨14, 0, [.agg [.val (.int .i64 r_2.1), .imm (.slice (.pair (.int .i64) (.pair (.int .i64) .str))) r_2.2.1], .c (.val (.int .i64 (3 : Int)))], [], .c (.val (.int .i64 r_19)), [], [], 2⟩), (29, ⟨14, 0, [.agg [.val (.int .i64 r_2.1), .imm (.slice (.pair (.int .i64) (.pair (.int .i64) .str))) r_2.2.1], .c (.val (.int .i64 (5 : Int)))], [], .c (.val (.int .i64 r_22)), [], [], 2⟩), (34, ⟨16, 0, [.agg [.val (.int .i64 r_2.1), .imm (.slice (.pair (.int .i64) (.pair (.int .i64) .str))) r_2.2.1], .c (.val (.int .i64 (1 : Int)))], [], .c (.val (.bool r_25)), [], [], 2⟩), (38, ⟨16, 0, [.agg [.val (.int .i64 r_2.1), .imm (.slice (.pair (.int .i64) (.pair (.int .i64) .str))) r_2.2.1], .c (.val (.int .i64 (4 : Int)))], [], .c (.val (.bool r_28)), [], [], 2⟩), (44, ⟨17, 0, [.agg [.val (.int .i64 r_2.1), .imm (.slice (.pair (.int .i64) (.pair (.int .i64) .str))) r_2.2.1], .agg [.val (.int .i64 (2 : Int)), .val (.int .i64 (4 : Int))]], [], .agg [.val (.int .i64 r_31.1), .val (.int .i64 r_31.2)], [], [], 2⟩)] [(11, true), (16, true), (21, true), (26, true), (31, true), (36, true), (41, true), (45, true), (50, true), (57, false)] (calls_cons (offset_Move_spec K r_2.1 r_2.2.1 (2 : Int) false r_7 h_8) (by kernel_rfl) (calls_cons (offset_Move_spec K r_2.1 r_2.2.1 (2 : Int) true r_10 h_11) (by kernel_rfl) (calls_cons (offset_Move_spec K r_2.1 r_2.2.1 (3 : Int) false r_13 h_14) (by kernel_rfl) (calls_cons (offset_Back_spec K r_2.1 r_2.2.1 (2 : Int) r_16 h_17) (by kernel_rfl) (calls_cons (offset_Back_spec K r_2.1 r_2.2.1 (3 : Int) r_19 h_20) (by kernel_rfl) (calls_cons (offset_Back_spec K r_2.1 r_2.2.1 (5 : Int) r_22 h_23) (by kernel_rfl) (calls_cons (offset_Stays_spec K r_2.1 r_2.2.1 (1 : Int) r_25 h_26) (by kernel_rfl) (calls_cons (offset_Stays_spec K r_2.1 r_2.2.1 (4 : Int) r_28 h_29) (by kernel_rfl) (calls_cons (offset_Interval_spec K r_2.1 r_2.2.1 (2 : Int) (4 : Int) r_31 h_32) (by kernel_rfl) calls_nil))))))))) 2 [0] [] ⟨[(0, .c (.val (.bool false)))], [], 2⟩ [(r_2.2.2 == (0 : Int)) = true, (r_7 == (2 : Int)) = true, (r_10 == (3 : Int)) = true, (r_13 == (4 : Int)) = true, (r_16 == (2 : Int)) = true, (r_19 == (2 : Int)) = true, (r_22 == (4 : Int)) = true, r_25 = true, (!r_28) = true, ((r_31.1 == (3 : Int)) && (r_31.2 == (5 : Int))) = false] (by kernel_rfl) rfl rfl (ap2 b_6 (ap2 b_9 (ap2 b_12 (ap2 b_15 (ap2 b_18 (ap2 b_21 (ap2 b_24 (ap2 b_27 (ap2 b_30 (ap1 b_33)))))))))) (by kernel_rfl) (by kernel_rfl) ?_
                      have H_80 := Option.some.inj (show some false = some r from H_77); subst H_80
                      refine VL_ret ?_
                      exact P_to [(0, .c (.val (.bool false)))] [] [] hn (by kernel_rfl) (by kernel_rfl) rfl rfl rfl (QF_retS (by kernel_rfl) (by kernel_rfl) rfl)
                  · have H_74 := of_f H_72 b_30
                    refine V_reg hN hn [(4, ⟨12, 0, [.agg [.val (.int .i64 r_2.1), .imm (.slice (.pair (.int .i64) (.pair (.int .i64) .str))) r_2.2.1], .c (.val (.int .i64 (2 : Int))), .c (.val (.bool false))], [], .c (.val (.int .i64 r_7)), [], [], 2⟩), (9, ⟨12, 0, [.agg [.val (.int .i64 r_2.1), .imm (.slice (.pair (.int .i64) (.pair (.int .i64) .str))) r_2.2.1], .c (.val (.int .i64 (2 : Int))), .c (.val (.bool true))], [], .c (.val (.int .i64 r_10)), [], [], 2⟩), (14, ⟨12, 0, [.agg [.val (.int .i64 r_2.1), .imm (.slice (.pair (.int .i64) (.pair (.int .i64) .str))) r_2.2.1], .c (.val (.int .i64 (3 : Int))), .c (.val (.bool false))], [], .c (.val (.int .i64 r_13)), [], [], 2⟩), (19, ⟨14, 0, [.agg [.val (.int .i64 r_2.1), .imm (.slice (.pair (.int .i64) (.pair (.int .i64) .str))) r_2.2.1], .c (.val (.int .i64 (2 : Int)))], [], .c (.val (.int .i64 r_16)), [], [], 2⟩), (24, ⟨14, 0, [.agg [.val (.int .i64 r_2.1), .imm (.slice (.pair (.int .i64) (.pair (.int .i64) .str))) r_2.2.1], .c (.val (.int .i64 (3 : Int)))], [], .c (.val (.int .i64 r_19)), [], [], 2⟩), (29, ⟨14, 0, [.agg [.val (.int .i64 r_2.1), .imm (.slice (.pair (.int .i64) (.pair (.int .i64) .str))) r_2.2.1], .c (.val (.int .i64 (5 : Int)))], [], .c (.val (.int .i64 r_22)), [], [], 2⟩), (34, ⟨16, 0, [.agg [.val (.int .i64 r_2.1), .imm (.slice (.pair (.int .i64) (.pair (.int .i64) .str))) r_2.2.1], .c (.val (.int .i64 (1 : Int)))], [], .c (.val (.bool r_25)), [], [], 2⟩), (38, ⟨16, 0, [.agg [.val (.int .i64 r_2.1), .imm (.slice (.pair (.int .i64) (.pair (.int .i64) .str))) r_2.2.1], .c (.val (.int .i64 (4 : Int)))], [], .c (.val (.bool r_28)), [], [], 2⟩)] [(11, true), (16, true), (21, true), (26, true), (31, true), (36, true), (41, true), (45, true), (50, false)] (calls_cons (offset_Move_spec K r_2.1 r_2.2.1 (2 : Int) false r_7 h_8) (by kernel_rfl) (calls_cons (offset_Move_spec K r_2.1 r_2.2.1 (2 : Int) true r_10 h_11) (by kernel_rfl) (calls_cons (offset_Move_spec K r_2.1 r_2.2.1 (3 : Int) false r_13 h_14) (by kernel_rfl) (calls_cons (offset_Back_spec K r_2.1 r_2.2.1 (2 : Int) r_16 h_17) (by kernel_rfl) (calls_cons (offset_Back_spec K r_2.1 r_2.2.1 (3 : Int) r_19 h_20) (by kernel_rfl) (calls_cons (offset_Back_spec K r_2.1 r_2.2.1 (5 : Int) r_22 h_23) (by kernel_rfl) (calls_cons (offset_Stays_spec K r_2.1 r_2.2.1 (1 : Int) r_25 h_26) (by kernel_rfl) (calls_cons (offset_Stays_spec K r_2.1 r_2.2.1 (4 : Int) r_28 h_29) (by kernel_rfl) calls_nil)))))))) 2 [0] [] ⟨[(0, .c (.val (.bool false)))], [], 2⟩ [(r_2.2.2 == (0 : Int)) = true, (r_7 == (2 : Int)) = true, (r_10 == (3 : Int)) = true, (r_13 == (4 : Int)) = true, (r_16 == (2 : Int)) = true, (r_19 == (2 : Int)) = true, (r_22 == (4 : Int)) = true, r_25 = true, (!r_28) = false] (by kernel_rfl) rfl rfl (ap2 b_6 (ap2 b_9 (ap2 b_12 (ap2 b_15 (ap2 b_18 (ap2 b_21 (ap2 b_24 (ap2 b_27 (ap1 b_30))))))))) (by kernel_rfl) (by kernel_rfl) ?_
                    have H_81 := Option.some.inj (show some false = some r from H_74); subst H_81
                    refine VL_ret ?_
                    exact P_to [(0, .c (.val (.bool false)))] [] [] hn (by kernel_rfl) (by kernel_rfl) rfl rfl rfl (QF_retS (by kernel_rfl) (by kernel_rfl) rfl)
                · have H_71 := of_f H_69 b_27
                  refine V_reg hN hn [(4, ⟨12, 0, [.agg [.val (.int .i64 r_2.1), .imm (.slice (.pair (.int .i64) (.pair (.int .i64) .str))) r_2.2.1], .c (.val (.int .i64 (2 : Int))), .c (.val (.bool false))], [], .c (.val (.int .i64 r_7)), [], [], 2⟩), (9, ⟨12, 0, [.agg [.val (.int .i64 r_2.1), .imm (.slice (.pair (.int .i64) (.pair (.int .i64) .str))) r_2.2.1], .c (.val (.int .i64 (2 : Int))), .c (.val (.bool true))], [], .c (.val (.int .i64 r_10)), [], [], 2⟩), (14, ⟨12, 0, [.agg [.val (.int .i64 r_2.1), .imm (.slice (.pair (.int .i64) (.pair (.int .i64) .str))) r_2.2.1], .c (.val (.int .i64 (3 : Int))), .c (.val (.bool false))], [], .c (.val (.int .i64 r_13)), [], [], 2⟩), (19, ⟨14, 0, [.agg [.val (.int .i64 r_2.1), .imm (.slice (.pair (.int .i64) (.pair (.int .i64) .str))) r_2.2.1], .c (.val (.int .i64 (2 : Int)))], [], .c (.val (.int .i64 r_16)), [], [], 2⟩), (24, ⟨14, 0, [.agg [.val (.int .i64 r_2.1), .imm (.slice (.pair (.int .i64) (.pair (.int .i64) .str))) r_2.2.1], .c (.val (.int .i64 (3 : Int)))], [], .c (.val (.int .i64 r_19)), [], [], 2⟩), (29, ⟨14, 0, [.agg [.val (.int .i64 r_2.1), .imm (.slice (.pair (.int .i64) (.pair (.int .i64) .str))) r_2.2.1], .c (.val (.int .i64 (5 : Int)))], [], .c (.val (.int .i64 r_22)), [], [], 2⟩), (34, ⟨16, 0, [.agg [.val (.int .i64 r_2.1), .imm (.slice (.pair (.int .i64) (.pair (.int .i64) .str))) r_2.2.1], .c (.val (.int .i64 (1 : Int)))], [], .c (.val (.bool r_25)), [], [], 2⟩)] [(11, true), (16, true), (21, true), (26, true), (31, true), (36, true), (41, true), (45, false)] (calls_cons (offset_Move_spec K r_2.1 r_2.2.1 (2 : Int) false r_7 h_8) (by kernel_rfl) (calls_cons (offset_Move_spec K r_2.1 r_2.2.1 (2 : Int) true r_10 h_11) (by kernel_rfl) (calls_cons (offset_Move_spec K r_2.1 r_2.2.1 (3 : Int) false r_13 h_14) (by kernel_rfl) (calls_cons (offset_Back_spec K r_2.1 r_2.2.1 (2 : Int) r_16 h_17) (by kernel_rfl) (calls_cons (offset_Back_spec K r_2.1 r_2.2.1 (3 : Int) r_19 h_20) (by kernel_rfl) (calls_cons (offset_Back_spec K r_2.1 r_2.2.1 (5 : Int) r_22 h_23) (by kernel_rfl) (calls_cons (offset_Stays_spec K r_2.1 r_2.2.1 (1 : Int) r_25 h_26) (by kernel_rfl) calls_nil))))))) 2 [0] [] ⟨[(0, .c (.val (.bool false)))], [], 2⟩ [(r_2.2.2 == (0 : Int)) = true, (r_7 == (2 : Int)) = true, (r_10 == (3 : Int)) = true, (r_13 == (4 : Int)) = true, (r_16 == (2 : Int)) = true, (r_19 == (2 : Int)) = true, (r_22 == (4 : Int)) = true, r_25 = false] (by kernel_rfl) rfl rfl (ap2 b_6 (ap2 b_9 (ap2 b_12 (ap2 b_15 (ap2 b_18 (ap2 b_21 (ap2 b_24 (ap1 b_27)))))))) (by kernel_rfl) (by kernel_rfl) ?_
                  have H_82 := Option.some.inj (show some false = some r from H_71); subst H_82
                  refine VL_ret ?_
                  exact P_to [(0, .c (.val (.bool false)))] [] [] hn (by kernel_rfl) (by kernel_rfl) rfl rfl rfl (QF_retS (by kernel_rfl) (by kernel_rfl) rfl)
              · have H_68 := of_f H_66 b_24
                refine V_reg hN hn [(4, ⟨12, 0, [.agg [.val (.int .i64 r_2.1), .imm (.slice (.pair (.int .i64) (.pair (.int .i64) .str))) r_2.2.1], .c (.val (.int .i64 (2 : Int))), .c (.val (.bool false))], [], .c (.val (.int .i64 r_7)), [], [], 2⟩), (9, ⟨12, 0, [.agg [.val (.int .i64 r_2.1), .imm (.slice (.pair (.int .i64) (.pair (.int .i64) .str))) r_2.2.1], .c (.val (.int .i64 (2 : Int))), .c (.val (.bool true))], [], .c (.val (.int .i64 r_10)), [], [], 2⟩), (14, ⟨12, 0, [.agg [.val (.int .i64 r_2.1), .imm (.slice (.pair (.int .i64) (.pair (.int .i64) .str))) r_2.2.1], .c (.val (.int .i64 (3 : Int))), .c (.val (.bool false))], [], .c (.val (.int .i64 r_13)), [], [], 2⟩), (19, ⟨14, 0, [.agg [.val (.int .i64 r_2.1), .imm (.slice (.pair (.int .i64) (.pair (.int .i64) .str))) r_2.2.1], .c (.val (.int .i64 (2 : Int)))], [], .c (.val (.int .i64 r_16)), [], [], 2⟩), (24, ⟨14, 0, [.agg [.val (.int .i64 r_2.1), .imm (.slice (.pair (.int .i64) (.pair (.int .i64) .str))) r_2.2.1], .c (.val (.int .i64 (3 : Int)))], [], .c (.val (.int .i64 r_19)), [], [], 2⟩), (29, ⟨14, 0, [.agg [.val (.int .i64 r_2.1), .imm (.slice (.pair (.int .i64) (.pair (.int .i64) .str))) r_2.2.1], .c (.val (.int .i64 (5 : Int)))], [], .c (.val (.int .i64 r_22)), [], [], 2⟩)] [(11, true), (16, true), (21, true), (26, true), (31, true), (36, true), (41, false)] (calls_cons (offset_Move_spec K r_2.1 r_2.2.1 (2 : Int) false r_7 h_8) (by kernel_rfl) (calls_cons (offset_Move_spec K r_2.1 r_2.2.1 (2 : Int) true r_10 h_11) (by kernel_rfl) (calls_cons (offset_Move_spec K r_2.1 r_2.2.1 (3 : Int) false r_13 h_14) (by kernel_rfl) (calls_cons (offset_Back_spec K r_2.1 r_2.2.1 (2 : Int) r_16 h_17) (by kernel_rfl) (calls_cons (offset_Back_spec K r_2.1 r_2.2.1 (3 : Int) r_19 h_20) (by kernel_rfl) (calls_cons (offset_Back_spec K r_2.1 r_2.2.1 (5 : Int) r_22 h_23) (by kernel_rfl) calls_nil)))))) 2 [0] [] ⟨[(0, .c (.val (.bool false)))], [], 2⟩ [(r_2.2.2 == (0 : Int)) = true, (r_7 == (2 : Int)) = true, (r_10 == (3 : Int)) = true, (r_13 == (4 : Int)) = true, (r_16 == (2 : Int)) = true, (r_19 == (2 : Int)) = true, (r_22 == (4 : Int)) = false] (by kernel_rfl) rfl rfl (ap2 b_6 (ap2 b_9 (ap2 b_12 (ap2 b_15 (ap2 b_18 (ap2 b_21 (ap1 b_24))))))) (by kernel_rfl) (by kernel_rfl) ?_
                have H_83 := Option.some.inj (show some false = some r from H_68); subst H_83
                refine VL_ret ?_
                exact P_to [(0, .c (.val (.bool false)))] [] [] hn (by kernel_rfl) (by kernel_rfl) rfl rfl rfl (QF_retS (by kernel_rfl) (by kernel_rfl) rfl)
            · have H_65 := of_f H_63 b_21
              refine V_reg hN hn [(4, ⟨12, 0, [.agg [.val (.int .i64 r_2.1), .imm (.slice (.pair (.int .i64) (.pair (.int .i64) .str))) r_2.2.1], .c (.val (.int .i64 (2 : Int))), .c (.val (.bool false))], [], .c (.val (.int .i64 r_7)), [], [], 2⟩), (9, ⟨12, 0, [.agg [.val (.int .i64 r_2.1), .imm (.slice (.pair (.int .i64) (.pair (.int .i64) .str))) r_2.2.1], .c (.val (.int .i64 (2 : Int))), .c (.val (.bool true))], [], .c (.val (.int .i64 r_10)), [], [], 2⟩), (14, ⟨12, 0, [.agg [.val (.int .i64 r_2.1), .imm (.slice (.pair (.int .i64) (.pair (.int .i64) .str))) r_2.2.1], .c (.val (.int .i64 (3 : Int))), .c (.val (.bool false))], [], .c (.val (.int .i64 r_13)), [], [], 2⟩), (19, ⟨14, 0, [.agg [.val (.int .i64 r_2.1), .imm (.slice (.pair (.int .i64) (.pair (.int .i64) .str))) r_2.2.1], .c (.val (.int .i64 (2 : Int)))], [], .c (.val (.int .i64 r_16)), [], [], 2⟩), (24, ⟨14, 0, [.agg [.val (.int .i64 r_2.1), .imm (.slice (.pair (.int .i64) (.pair (.int .i64) .str))) r_2.2.1], .c (.val (.int .i64 (3 : Int)))], [], .c (.val (.int .i64 r_19)), [], [], 2⟩)] [(11, true), (16, true), (21, true), (26, true), (31, true), (36, false)] (calls_cons (offset_Move_spec K r_2.1 r_2.2.1 (2 : Int) false r_7 h_8) (by kernel_rfl) (calls_cons (offset_Move_spec K r_2.1 r_2.2.1 (2 : Int) true r_10 h_11) (by kernel_rfl) (calls_cons (offset_Move_spec K r_2.1 r_2.2.1 (3 : Int) false r_13 h_14) (by kernel_rfl) (calls_cons (offset_Back_spec K r_2.1 r_2.2.1 (2 : Int) r_16 h_17) (by kernel_rfl) (calls_cons (offset_Back_spec K r_2.1 r_2.2.1 (3 : Int) r_19 h_20) (by kernel_rfl) calls_nil))))) 2 [0] [] ⟨[(0, .c (.val (.bool false)))], [], 2⟩ [(r_2.2.2 == (0 : Int)) = true, (r_7 == (2 : Int)) = true, (r_10 == (3 : Int)) = true, (r_13 == (4 : Int)) = true, (r_16 == (2 : Int)) = true, (r_19 == (2 : Int)) = false] (by kernel_rfl) rfl rfl (ap2 b_6 (ap2 b_9 (ap2 b_12 (ap2 b_15 (ap2 b_18 (ap1 b_21)))))) (by kernel_rfl) (by kernel_rfl) ?_
              have H_84 := Option.some.inj (show some false = some r from H_65); subst H_84
              refine VL_ret ?_
              exact P_to [(0, .c (.val (.bool false)))] [] [] hn (by kernel_rfl) (by kernel_rfl) rfl rfl rfl (QF_retS (by kernel_rfl) (by kernel_rfl) rfl)
          · have H_62 := of_f H_60 b_18
            refine V_reg hN hn [(4, ⟨12, 0, [.agg [.val (.int .i64 r_2.1), .imm (.slice (.pair (.int .i64) (.pair (.int .i64) .str))) r_2.2.1], .c (.val (.int .i64 (2 : Int))), .c (.val (.bool false))], [], .c (.val (.int .i64 r_7)), [], [], 2⟩), (9, ⟨12, 0, [.agg [.val (.int .i64 r_2.1), .imm (.slice (.pair (.int .i64) (.pair (.int .i64) .str))) r_2.2.1], .c (.val (.int .i64 (2 : Int))), .c (.val (.bool true))], [], .c (.val (.int .i64 r_10)), [], [], 2⟩), (14, ⟨12, 0, [.agg [.val (.int .i64 r_2.1), .imm (.slice (.pair (.int .i64) (.pair (.int .i64) .str))) r_2.2.1], .c (.val (.int .i64 (3 : Int))), .c (.val (.bool false))], [], .c (.val (.int .i64 r_13)), [], [], 2⟩), (19, ⟨14, 0, [.agg [.val (.int .i64 r_2.1), .imm (.slice (.pair (.int .i64) (.pair (.int .i64) .str))) r_2.2.1], .c (.val (.int .i64 (2 : Int)))], [], .c (.val (.int .i64 r_16)), [], [], 2⟩)] [(11, true), (16, true), (21, true), (26, true), (31, false)] (calls_cons (offset_Move_spec K r_2.1 r_2.2.1 (2 : Int) false r_7 h_8) (by kernel_rfl) (calls_cons (offset_Move_spec K r_2.1 r_2.2.1 (2 : Int) true r_10 h_11) (by kernel_rfl) (calls_cons (offset_Move_spec K r_2.1 r_2.2.1 (3 : Int) false r_13 h_14) (by kernel_rfl) (calls_cons (offset_Back_spec K r_2.1 r_2.2.1 (2 : Int) r_16 h_17) (by kernel_rfl) calls_nil)))) 2 [0] [] ⟨[(0, .c (.val (.bool false)))], [], 2⟩ [(r_2.2.2 == (0 : Int)) = true, (r_7 == (2 : Int)) = true, (r_10 == (3 : Int)) = true, (r_13 == (4 : Int)) = true, (r_16 == (2 : Int)) = false] (by kernel_rfl) rfl rfl (ap2 b_6 (ap2 b_9 (ap2 b_12 (ap2 b_15 (ap1 b_18))))) (by kernel_rfl) (by kernel_rfl) ?_
            have H_85 := Option.some.inj (show some false = some r from H_62); subst H_85
            refine VL_ret ?_
            exact P_to [(0, .c (.val (.bool false)))] [] [] hn (by kernel_rfl) (by kernel_rfl) rfl rfl rfl (QF_retS (by kernel_rfl) (by kernel_rfl) rfl)
        · have H_59 := of_f H_57 b_15
          refine V_reg hN hn [(4, ⟨12, 0, [.agg [.val (.int .i64 r_2.1), .imm (.slice (.pair (.int .i64) (.pair (.int .i64) .str))) r_2.2.1], .c (.val (.int .i64 (2 : Int))), .c (.val (.bool false))], [], .c (.val (.int .i64 r_7)), [], [], 2⟩), (9, ⟨12, 0, [.agg [.val (.int .i64 r_2.1), .imm (.slice (.pair (.int .i64) (.pair (.int .i64) .str))) r_2.2.1], .c (.val (.int .i64 (2 : Int))), .c (.val (.bool true))], [], .c (.val (.int .i64 r_10)), [], [], 2⟩), (14, ⟨12, 0, [.agg [.val (.int .i64 r_2.1), .imm (.slice (.pair (.int .i64) (.pair (.int .i64) .str))) r_2.2.1], .c (.val (.int .i64 (3 : Int))), .c (.val (.bool false))], [], .c (.val (.int .i64 r_13)), [], [], 2⟩)] [(11, true), (16, true), (21, true), (26, false)] (calls_cons (offset_Move_spec K r_2.1 r_2.2.1 (2 : Int) false r_7 h_8) (by kernel_rfl) (calls_cons (offset_Move_spec K r_2.1 r_2.2.1 (2 : Int) true r_10 h_11) (by kernel_rfl) (calls_cons (offset_Move_spec K r_2.1 r_2.2.1 (3 : Int) false r_13 h_14) (by kernel_rfl) calls_nil))) 2 [0] [] ⟨[(0, .c (.val (.bool false)))], [], 2⟩ [(r_2.2.2 == (0 : Int)) = true, (r_7 == (2 : Int)) = true, (r_10 == (3 : Int)) = true, (r_13 == (4 : Int)) = false] (by kernel_rfl) rfl rfl (ap2 b_6 (ap2 b_9 (ap2 b_12 (ap1 b_15)))) (by kernel_rfl) (by kernel_rfl) ?_
          have H_86 := Option.some.inj (show some false = some r from H_59); subst H_86
          refine VL_ret ?_
          exact P_to [(0, .c (.val (.bool false)))] [] [] hn (by kernel_rfl) (by kernel_rfl) rfl rfl rfl (QF_retS (by kernel_rfl) (by kernel_rfl) rfl)
      · have H_56 := of_f H_54 b_12
        refine V_reg hN hn [(4, ⟨12, 0, [.agg [.val (.int .i64 r_2.1), .imm (.slice (.pair (.int .i64) (.pair (.int .i64) .str))) r_2.2.1], .c (.val (.int .i64 (2 : Int))), .c (.val (.bool false))], [], .c (.val (.int .i64 r_7)), [], [], 2⟩), (9, ⟨12, 0, [.agg [.val (.int .i64 r_2.1), .imm (.slice (.pair (.int .i64) (.pair (.int .i64) .str))) r_2.2.1], .c (.val (.int .i64 (2 : Int))), .c (.val (.bool true))], [], .c (.val (.int .i64 r_10)), [], [], 2⟩)] [(11, true), (16, true), (21, false)] (calls_cons (offset_Move_spec K r_2.1 r_2.2.1 (2 : Int) false r_7 h_8) (by kernel_rfl) (calls_cons (offset_Move_spec K r_2.1 r_2.2.1 (2 : Int) true r_10 h_11) (by kernel_rfl) calls_nil)) 2 [0] [] ⟨[(0, .c (.val (.bool false)))], [], 2⟩ [(r_2.2.2 == (0 : Int)) = true, (r_7 == (2 : Int)) = true, (r_10 == (3 : Int)) = false] (by kernel_rfl) rfl rfl (ap2 b_6 (ap2 b_9 (ap1 b_12))) (by kernel_rfl) (by kernel_rfl) ?_
        have H_87 := Option.some.inj (show some false = some r from H_56); subst H_87
        refine VL_ret ?_
        exact P_to [(0, .c (.val (.bool false)))] [] [] hn (by kernel_rfl) (by kernel_rfl) rfl rfl rfl (QF_retS (by kernel_rfl) (by kernel_rfl) rfl)
    · have H_53 := of_f H_51 b_9
      refine V_reg hN hn [(4, ⟨12, 0, [.agg [.val (.int .i64 r_2.1), .imm (.slice (.pair (.int .i64) (.pair (.int .i64) .str))) r_2.2.1], .c (.val (.int .i64 (2 : Int))), .c (.val (.bool false))], [], .c (.val (.int .i64 r_7)), [], [], 2⟩)] [(11, true), (16, false)] (calls_cons (offset_Move_spec K r_2.1 r_2.2.1 (2 : Int) false r_7 h_8) (by kernel_rfl) calls_nil) 2 [0] [] ⟨[(0, .c (.val (.bool false)))], [], 2⟩ [(r_2.2.2 == (0 : Int)) = true, (r_7 == (2 : Int)) = false] (by kernel_rfl) rfl rfl (ap2 b_6 (ap1 b_9)) (by kernel_rfl) (by kernel_rfl) ?_
      have H_88 := Option.some.inj (show some false = some r from H_53); subst H_88
      refine VL_ret ?_
      exact P_to [(0, .c (.val (.bool false)))] [] [] hn (by kernel_rfl) (by kernel_rfl) rfl rfl rfl (QF_retS (by kernel_rfl) (by kernel_rfl) rfl)
  · have H_50 := of_f H_48 b_6
    refine V_reg hN hn [] [(11, false)] calls_nil 2 [0] [] ⟨[(0, .c (.val (.bool false)))], [], 2⟩ [(r_2.2.2 == (0 : Int)) = false] (by kernel_rfl) rfl rfl (ap1 b_6) (by kernel_rfl) (by kernel_rfl) ?_
    have H_89 := Option.some.inj (show some false = some r from H_50); subst H_89
    refine VL_ret ?_
    exact P_to [(0, .c (.val (.bool false)))] [] [] hn (by kernel_rfl) (by kernel_rfl) rfl rfl rfl (QF_retS (by kernel_rfl) (by kernel_rfl) rfl)

theorem palinodelaw14_few_spec (K : Nat) (d_1 : Int) (d_2 : (List (Int × (Int × ByteArray)))) (r : Bool) (H : palinodelaw14_few K d_1 d_2 = some r) : Spec Try.prog 9 0 [.agg [.val (.int .i64 d_1), .imm (.slice (.pair (.int .i64) (.pair (.int .i64) .str))) d_2]] [] (.c (.val (.bool r))) [] := by
  refine Spec_mk (fn := Try.f9) (c := (Try.f9.body).get!) Try.func9 (by kernel_rfl) rfl ?_
  intro C hN hn
  replace hN : C.N = 28 := hN
  unfold palinodelaw14_few at H
  refine V_run hN hn 5 0 [1, 3] [0] ⟨[(1, .c (.h 0)), (3, .c (.val (.int .i64 (0 : Int))))], [(0, .box [.val (.int .i64 d_1), .imm (.slice (.pair (.int .i64) (.pair (.int .i64) .str))) d_2])], 1⟩ [] (by kernel_rfl) rfl rfl ap0 ?_
  obtain ⟨q_21, H_22, H_23⟩ := of_bind H
  refine V_cut (Y := Unit) (R := (Bool ⊕ Unit)) q_21 (fun y => (Sum.inr y)) (fun y => [(1, .c (.h 0))]) (fun y => [(0, .box [.val (.int .i64 d_1), .imm (.slice (.pair (.int .i64) (.pair (.int .i64) .str))) d_2])]) ?_ ?_
  · skip
    refine VL_block ?_
    refine V_to [(1, .c (.h 0)), (3, .c (.val (.int .i64 (0 : Int))))] [(0, .box [.val (.int .i64 d_1), .imm (.slice (.pair (.int .i64) (.pair (.int .i64) .str))) d_2])] [(0, 0)] hn (by kernel_rfl) (by kernel_rfl) rfl rfl rfl ?_
    refine VL_loop (X := Int) (fun x => [(1, .c (.h 0)), (3, .c (.val (.int .i64 x)))]) (fun x => [(0, .box [.val (.int .i64 d_1), .imm (.slice (.pair (.int .i64) (.pair (.int .i64) .str))) d_2])]) (fun k x => palinodelaw14_few.l0 K d_2 k x = some q_21) K (0 : Int) H_22 (fun _ h => no_none h) ?_
    intro k_5 i_4 H_25
    have H_26 : palinodelaw14_few.l0 K d_2 (k_5 + 1) i_4 = some q_21 := H_25
    rw [palinodelaw14_few.l0] at H_26
    refine V_run hN hn 3 1 [1, 3, 8] [0] ⟨[(1, .c (.h 0)), (3, .c (.val (.int .i64 i_4))), (8, .c (.val (.bool (decide (i_4 < (((List.length d_2) : Nat) : Int))))))], [(0, .box [.val (.int .i64 d_1), .imm (.slice (.pair (.int .i64) (.pair (.int .i64) .str))) d_2])], 1⟩ [] (by kernel_rfl) rfl rfl ap0 ?_
    refine VL_cond ((decide (i_4 < (((List.length d_2) : Nat) : Int)))) (by kernel_rfl) ?_ ?_
    · intro b_7; have H_27 := of_t H_26 b_7
      refine V_run hN hn 2 1 [1, 3, 8] [0] ⟨[(1, .c (.h 0)), (3, .c (.val (.int .i64 i_4))), (8, .c (.val (.bool (decide (i_4 < (((List.length d_2) : Nat) : Int))))))], [(0, .box [.val (.int .i64 d_1), .imm (.slice (.pair (.int .i64) (.pair (.int .i64) .str))) d_2])], 1⟩ [] (by kernel_rfl) rfl rfl ap0 ?_
      refine VL_block ?_
      obtain ⟨c_9, H_29⟩ := of_if H_27
      refine V_run hN hn 2 1 [1, 3, 18] [0] ⟨[(1, .c (.h 0)), (3, .c (.val (.int .i64 i_4))), (18, .c (.val (.bool (decide ((((ByteArray.size (List.getD d_2 (Int.toNat i_4) ((0 : Int), ((0 : Int), ByteArray.empty))).2.2) : Nat) : Int) > (200 : Int))))))], [(0, .box [.val (.int .i64 d_1), .imm (.slice (.pair (.int .i64) (.pair (.int .i64) .str))) d_2])], 1⟩ [0 ≤ i_4, i_4 < (((List.length d_2) : Nat) : Int)] (by kernel_rfl) rfl rfl (ap2 c_9.1 (ap1 c_9.2)) ?_
      refine VL_cond ((decide ((((ByteArray.size (List.getD d_2 (Int.toNat i_4) ((0 : Int), ((0 : Int), ByteArray.empty))).2.2) : Nat) : Int) > (200 : Int)))) (by kernel_rfl) ?_ ?_
      · intro b_10; have H_30 := of_t H_29 b_10
        refine V_run hN hn 2 1 [2] [] ⟨[(2, .c (.val (.bool false)))], [], 1⟩ [] (by kernel_rfl) rfl rfl ap0 ?_
        have H_32 := Option.some.inj (show some (Sum.inl false) = some q_21 from H_30); subst H_32
        have H_33 := Option.some.inj (show some false = some r from H_23); subst H_33
        refine VL_ret ?_
        refine QB_ret ?_
        refine QL_ret ?_
        refine QB_ret ?_
        refine QP_ret ?_
        exact P_to [(2, .c (.val (.bool false)))] [] [] hn (by kernel_rfl) (by kernel_rfl) rfl rfl rfl (QF_retS (by kernel_rfl) (by kernel_rfl) rfl)
      · intro b_10; have H_31 := of_f H_29 b_10
        refine V_run hN hn 1 1 [1, 3, 18] [0] ⟨[(1, .c (.h 0)), (3, .c (.val (.int .i64 i_4))), (18, .c (.val (.bool (decide ((((ByteArray.size (List.getD d_2 (Int.toNat i_4) ((0 : Int), ((0 : Int), ByteArray.empty))).2.2) : Nat) : Int) > (200 : Int))))))], [(0, .box [.val (.int .i64 d_1), .imm (.slice (.pair (.int .i64) (.pair (.int .i64) .str))) d_2])], 1⟩ [] (by kernel_rfl) rfl rfl ap0 ?_
        refine VL_nil (QB_end ?_)
        refine V_run hN hn 1 1 [1, 3] [0] ⟨[(1, .c (.h 0)), (3, .c (.val (.int .i64 (IntKind.wrap .i64 (i_4 + (1 : Int))))))], [(0, .box [.val (.int .i64 d_1), .imm (.slice (.pair (.int .i64) (.pair (.int .i64) .str))) d_2])], 1⟩ [] (by kernel_rfl) rfl rfl ap0 ?_
        refine VL_nil ?_
        exact V_roundEnd (IntKind.wrap .i64 (i_4 + (1 : Int))) H_31 [(0, 0)] hn (by kernel_rfl) (by kernel_rfl) rfl rfl rfl
    · intro b_7; have H_28 := of_f H_26 b_7
      refine VL_exit ?_
      refine QL_exit ?_
      refine QB_here ?_
      have H_34 := Option.some.inj (show some (Sum.inr ()) = some q_21 from H_28); subst H_34
      refine VL_nil ?_
      exact QP_end () rfl [(0, 0)] hn (by kernel_rfl) (by kernel_rfl) rfl rfl rfl
  · intro y_24 hy; subst hy
    skip
    refine V_run hN hn 1 1 [1] [0] ⟨[(1, .c (.h 0))], [(0, .box [.val (.int .i64 d_1), .imm (.slice (.pair (.int .i64) (.pair (.int .i64) .str))) d_2])], 1⟩ [] (by kernel_rfl) rfl rfl ap0 ?_
    rcases Bool.eq_false_or_eq_true ((decide (d_1 ≤ (400 : Int)))) with b_15 | b_15
    · have H_35 := of_t H_23 b_15
      refine V_reg hN hn [] [(22, true)] calls_nil 1 [2] [] ⟨[(2, .c (.val (.bool (decide ((((List.length d_2) : Nat) : Int) ≤ (70 : Int))))))], [], 1⟩ [(decide (d_1 ≤ (400 : Int))) = true] (by kernel_rfl) rfl rfl (ap1 b_15) (by kernel_rfl) (by kernel_rfl) ?_
      have H_37 := Option.some.inj (show some (decide ((((List.length d_2) : Nat) : Int) ≤ (70 : Int))) = some r from H_35); subst H_37
      refine VL_ret ?_
      exact P_to [(2, .c (.val (.bool (decide ((((List.length d_2) : Nat) : Int) ≤ (70 : Int))))))] [] [] hn (by kernel_rfl) (by kernel_rfl) rfl rfl rfl (QF_retS (by kernel_rfl) (by kernel_rfl) rfl)
    · have H_36 := of_f H_23 b_15
      refine V_reg hN hn [] [(22, false)] calls_nil 1 [2] [] ⟨[(2, .c (.val (.bool false)))], [], 1⟩ [(decide (d_1 ≤ (400 : Int))) = false] (by kernel_rfl) rfl rfl (ap1 b_15) (by kernel_rfl) (by kernel_rfl) ?_
      have H_38 := Option.some.inj (show some false = some r from H_36); subst H_38
      refine VL_ret ?_
      exact P_to [(2, .c (.val (.bool false)))] [] [] hn (by kernel_rfl) (by kernel_rfl) rfl rfl rfl (QF_retS (by kernel_rfl) (by kernel_rfl) rfl)

theorem palinoderef1_Size_spec (K : Nat) (s_1 : ByteArray) (at_2 : Int) (r : Int) (H : palinoderef1_Size K s_1 at_2 = some r) : Spec Try.prog 35 0 [.c (.val (.string s_1)), .c (.val (.int .i64 at_2))] [] (.c (.val (.int .i64 r))) [] := by
  refine Spec_mk (fn := Try.f35) (c := (Try.f35.body).get!) Try.func35 (by kernel_rfl) rfl ?_
  intro C hN hn
  replace hN : C.N = 94 := hN
  unfold palinoderef1_Size at H
  refine V_run hN hn 4 0 [0, 1] [] ⟨[(0, .c (.val (.string s_1))), (1, .c (.val (.int .i64 at_2)))], [], 0⟩ [] (by kernel_rfl) rfl rfl ap0 ?_
  obtain ⟨q_77, H_78, H_79⟩ := of_bind H
  refine V_cut (Y := Bool) (R := Bool) q_77 (fun y => y) (fun y => [(0, .c (.val (.string s_1))), (1, .c (.val (.int .i64 at_2))), (18, .c (.val (.bool y)))]) (fun y => []) ?_ ?_
  · skip
    rcases Bool.eq_false_or_eq_true ((decide (at_2 < (0 : Int)))) with b_4 | b_4
    · have H_81 := of_t H_78 b_4
      refine V_reg hN hn [] [(13, true)] calls_nil 0 [0, 1, 18] [] ⟨[(0, .c (.val (.string s_1))), (1, .c (.val (.int .i64 at_2))), (18, .c (.val (.bool true)))], [], 0⟩ [(decide (at_2 < (0 : Int))) = true] (by kernel_rfl) rfl rfl (ap1 b_4) (by kernel_rfl) (by kernel_rfl) ?_
      have H_83 := Option.some.inj (show some true = some q_77 from H_81); subst H_83
      refine VL_nil ?_
      exact QP_end true rfl [] hn (by kernel_rfl) (by kernel_rfl) rfl rfl rfl
    · have H_82 := of_f H_78 b_4
      refine V_reg hN hn [] [(13, false)] calls_nil 0 [0, 1, 18] [] ⟨[(0, .c (.val (.string s_1))), (1, .c (.val (.int .i64 at_2))), (18, .c (.val (.bool (decide (at_2 ≥ (((ByteArray.size s_1) : Nat) : Int))))))], [], 0⟩ [(decide (at_2 < (0 : Int))) = false] (by kernel_rfl) rfl rfl (ap1 b_4) (by kernel_rfl) (by kernel_rfl) ?_
      have H_84 := Option.some.inj (show some (decide (at_2 ≥ (((ByteArray.size s_1) : Nat) : Int))) = some q_77 from H_82); subst H_84
      refine VL_nil ?_
      exact QP_end (decide (at_2 ≥ (((ByteArray.size s_1) : Nat) : Int))) rfl [] hn (by kernel_rfl) (by kernel_rfl) rfl rfl rfl
  · intro y_80 hy; subst hy
    skip
    skip
    refine VL_cond (y_80) (by kernel_rfl) ?_ ?_
    · intro b_8; have H_85 := of_t H_79 b_8
      refine V_run hN hn 2 0 [4] [] ⟨[(4, .c (.val (.int .i64 (0 : Int))))], [], 0⟩ [] (by kernel_rfl) rfl rfl ap0 ?_
      have H_87 := Option.some.inj (show some (0 : Int) = some r from H_85); subst H_87
      refine VL_ret ?_
      exact P_to [(4, .c (.val (.int .i64 (0 : Int))))] [] [] hn (by kernel_rfl) (by kernel_rfl) rfl rfl rfl (QF_retS (by kernel_rfl) (by kernel_rfl) rfl)
    · intro b_8; have H_86 := of_f H_79 b_8
      obtain ⟨c_10, H_88⟩ := of_if H_86
      refine V_run hN hn 6 0 [0, 1, 5] [] ⟨[(0, .c (.val (.string s_1))), (1, .c (.val (.int .i64 at_2))), (5, .c (.val (.int .i64 (IntKind.wrap .i64 (bt s_1 at_2)))))], [], 0⟩ [0 ≤ at_2, at_2 < (((ByteArray.size s_1) : Nat) : Int)] (by kernel_rfl) rfl rfl (ap2 c_10.1 (ap1 c_10.2)) ?_
      refine VL_block ?_
      refine V_run hN hn 2 0 [0, 1, 5, 23] [] ⟨[(0, .c (.val (.string s_1))), (1, .c (.val (.int .i64 at_2))), (5, .c (.val (.int .i64 (IntKind.wrap .i64 (bt s_1 at_2))))), (23, .c (.val (.bool (decide ((IntKind.wrap .i64 (bt s_1 at_2)) < (128 : Int))))))], [], 0⟩ [] (by kernel_rfl) rfl rfl ap0 ?_
      refine VL_cond ((decide ((IntKind.wrap .i64 (bt s_1 at_2)) < (128 : Int)))) (by kernel_rfl) ?_ ?_
      · intro b_12; have H_89 := of_t H_88 b_12
        refine V_run hN hn 2 0 [4] [] ⟨[(4, .c (.val (.int .i64 (1 : Int))))], [], 0⟩ [] (by kernel_rfl) rfl rfl ap0 ?_
        have H_91 := Option.some.inj (show some (1 : Int) = some r from H_89); subst H_91
        refine VL_ret ?_
        refine QB_ret ?_
        exact P_to [(4, .c (.val (.int .i64 (1 : Int))))] [] [] hn (by kernel_rfl) (by kernel_rfl) rfl rfl rfl (QF_retS (by kernel_rfl) (by kernel_rfl) rfl)
      · intro b_12; have H_90 := of_f H_88 b_12
        refine V_run hN hn 1 0 [0, 1, 5, 23] [] ⟨[(0, .c (.val (.string s_1))), (1, .c (.val (.int .i64 at_2))), (5, .c (.val (.int .i64 (IntKind.wrap .i64 (bt s_1 at_2))))), (23, .c (.val (.bool (decide ((IntKind.wrap .i64 (bt s_1 at_2)) < (128 : Int))))))], [], 0⟩ [] (by kernel_rfl) rfl rfl ap0 ?_
        obtain ⟨q_92, H_93, H_94⟩ := of_bind H_90
        refine V_cut (Y := Bool) (R := Bool) q_92 (fun y => y) (fun y => [(0, .c (.val (.string s_1))), (1, .c (.val (.int .i64 at_2))), (5, .c (.val (.int .i64 (IntKind.wrap .i64 (bt s_1 at_2))))), (26, .c (.val (.bool y)))]) (fun y => []) ?_ ?_
        · skip
          rcases Bool.eq_false_or_eq_true ((decide ((IntKind.wrap .i64 (bt s_1 at_2)) ≥ (192 : Int)))) with b_15 | b_15
          · have H_96 := of_t H_93 b_15
            refine V_reg hN hn [] [(29, true)] calls_nil 0 [0, 1, 5, 26] [] ⟨[(0, .c (.val (.string s_1))), (1, .c (.val (.int .i64 at_2))), (5, .c (.val (.int .i64 (IntKind.wrap .i64 (bt s_1 at_2))))), (26, .c (.val (.bool (decide ((IntKind.wrap .i64 (bt s_1 at_2)) < (224 : Int))))))], [], 0⟩ [(decide ((IntKind.wrap .i64 (bt s_1 at_2)) ≥ (192 : Int))) = true] (by kernel_rfl) rfl rfl (ap1 b_15) (by kernel_rfl) (by kernel_rfl) ?_
            have H_98 := Option.some.inj (show some (decide ((IntKind.wrap .i64 (bt s_1 at_2)) < (224 : Int))) = some q_92 from H_96); subst H_98
            refine VL_nil ?_
            exact QP_end (decide ((IntKind.wrap .i64 (bt s_1 at_2)) < (224 : Int))) rfl [] hn (by kernel_rfl) (by kernel_rfl) rfl rfl rfl
          · have H_97 := of_f H_93 b_15
            refine V_reg hN hn [] [(29, false)] calls_nil 0 [0, 1, 5, 26] [] ⟨[(0, .c (.val (.string s_1))), (1, .c (.val (.int .i64 at_2))), (5, .c (.val (.int .i64 (IntKind.wrap .i64 (bt s_1 at_2))))), (26, .c (.val (.bool false)))], [], 0⟩ [(decide ((IntKind.wrap .i64 (bt s_1 at_2)) ≥ (192 : Int))) = false] (by kernel_rfl) rfl rfl (ap1 b_15) (by kernel_rfl) (by kernel_rfl) ?_
            have H_99 := Option.some.inj (show some false = some q_92 from H_97); subst H_99
            refine VL_nil ?_
            exact QP_end false rfl [] hn (by kernel_rfl) (by kernel_rfl) rfl rfl rfl
        · intro y_95 hy; subst hy
          skip
          skip
          obtain ⟨q_100, H_101, H_102⟩ := of_bind H_94
          refine V_cut (Y := (Int × Int × Int)) (R := (Int ⊕ (Int × Int × Int))) q_100 (fun y => (Sum.inr y)) (fun y => [(0, .c (.val (.string s_1))), (1, .c (.val (.int .i64 at_2))), (6, .c (.val (.int .i64 y.1))), (7, .c (.val (.int .i64 y.2.1))), (8, .c (.val (.int .i64 y.2.2)))]) (fun y => []) ?_ ?_
          · skip
            refine VL_cond (y_95) (by kernel_rfl) ?_ ?_
            · intro b_19; have H_104 := of_t H_101 b_19
              refine V_run hN hn 1 0 [0, 1, 6, 7, 8] [] ⟨[(0, .c (.val (.string s_1))), (1, .c (.val (.int .i64 at_2))), (6, .c (.val (.int .i64 (2 : Int)))), (7, .c (.val (.int .i64 (IntKind.wrap .i64 (BitVec.toNat (BitVec.ofInt (IntKind.bits .i64) (IntKind.wrap .i64 (bt s_1 at_2)) &&& BitVec.ofInt (IntKind.bits .i64) (31 : Int))))))), (8, .c (.val (.int .i64 (128 : Int))))], [], 0⟩ [] (by kernel_rfl) rfl rfl ap0 ?_
              have H_106 := Option.some.inj (show some (Sum.inr ((2 : Int), (IntKind.wrap .i64 (BitVec.toNat (BitVec.ofInt (IntKind.bits .i64) (IntKind.wrap .i64 (bt s_1 at_2)) &&& BitVec.ofInt (IntKind.bits .i64) (31 : Int)))), (128 : Int))) = some q_100 from H_104); subst H_106
              refine VL_nil ?_
              exact QP_end ((2 : Int), (IntKind.wrap .i64 (BitVec.toNat (BitVec.ofInt (IntKind.bits .i64) (IntKind.wrap .i64 (bt s_1 at_2)) &&& BitVec.ofInt (IntKind.bits .i64) (31 : Int)))), (128 : Int)) rfl [] hn (by kernel_rfl) (by kernel_rfl) rfl rfl rfl
            · intro b_19; have H_105 := of_f H_101 b_19
              refine V_run hN hn 1 0 [0, 1, 5, 26] [] ⟨[(0, .c (.val (.string s_1))), (1, .c (.val (.int .i64 at_2))), (5, .c (.val (.int .i64 (IntKind.wrap .i64 (bt s_1 at_2))))), (26, .c (.val (.bool y_95)))], [], 0⟩ [] (by kernel_rfl) rfl rfl ap0 ?_
              obtain ⟨q_107, H_108, H_109⟩ := of_bind H_105
              refine V_cut (Y := Bool) (R := Bool) q_107 (fun y => y) (fun y => [(0, .c (.val (.string s_1))), (1, .c (.val (.int .i64 at_2))), (5, .c (.val (.int .i64 (IntKind.wrap .i64 (bt s_1 at_2))))), (35, .c (.val (.bool y)))]) (fun y => []) ?_ ?_
              · skip
                rcases Bool.eq_false_or_eq_true ((decide ((IntKind.wrap .i64 (bt s_1 at_2)) ≥ (224 : Int)))) with b_22 | b_22
                · have H_111 := of_t H_108 b_22
                  refine V_reg hN hn [] [(38, true)] calls_nil 0 [0, 1, 5, 35] [] ⟨[(0, .c (.val (.string s_1))), (1, .c (.val (.int .i64 at_2))), (5, .c (.val (.int .i64 (IntKind.wrap .i64 (bt s_1 at_2))))), (35, .c (.val (.bool (decide ((IntKind.wrap .i64 (bt s_1 at_2)) < (240 : Int))))))], [], 0⟩ [(decide ((IntKind.wrap .i64 (bt s_1 at_2)) ≥ (224 : Int))) = true] (by kernel_rfl) rfl rfl (ap1 b_22) (by kernel_rfl) (by kernel_rfl) ?_
                  have H_113 := Option.some.inj (show some (decide ((IntKind.wrap .i64 (bt s_1 at_2)) < (240 : Int))) = some q_107 from H_111); subst H_113
                  refine VL_nil ?_
                  exact QP_end (decide ((IntKind.wrap .i64 (bt s_1 at_2)) < (240 : Int))) rfl [] hn (by kernel_rfl) (by kernel_rfl) rfl rfl rfl
                · have H_112 := of_f H_108 b_22
                  refine V_reg hN hn [] [(38, false)] calls_nil 0 [0, 1, 5, 35] [] ⟨[(0, .c (.val (.string s_1))), (1, .c (.val (.int .i64 at_2))), (5, .c (.val (.int .i64 (IntKind.wrap .i64 (bt s_1 at_2))))), (35, .c (.val (.bool false)))], [], 0⟩ [(decide ((IntKind.wrap .i64 (bt s_1 at_2)) ≥ (224 : Int))) = false] (by kernel_rfl) rfl rfl (ap1 b_22) (by kernel_rfl) (by kernel_rfl) ?_
                  have H_114 := Option.some.inj (show some false = some q_107 from H_112); subst H_114
                  refine VL_nil ?_
                  exact QP_end false rfl [] hn (by kernel_rfl) (by kernel_rfl) rfl rfl rfl
              · intro y_110 hy; subst hy
                skip
                skip
                refine VL_cond (y_110) (by kernel_rfl) ?_ ?_
                · intro b_26; have H_115 := of_t H_109 b_26
                  refine V_run hN hn 1 0 [0, 1, 6, 7, 8] [] ⟨[(0, .c (.val (.string s_1))), (1, .c (.val (.int .i64 at_2))), (6, .c (.val (.int .i64 (3 : Int)))), (7, .c (.val (.int .i64 (IntKind.wrap .i64 (BitVec.toNat (BitVec.ofInt (IntKind.bits .i64) (IntKind.wrap .i64 (bt s_1 at_2)) &&& BitVec.ofInt (IntKind.bits .i64) (15 : Int))))))), (8, .c (.val (.int .i64 (2048 : Int))))], [], 0⟩ [] (by kernel_rfl) rfl rfl ap0 ?_
                  have H_117 := Option.some.inj (show some (Sum.inr ((3 : Int), (IntKind.wrap .i64 (BitVec.toNat (BitVec.ofInt (IntKind.bits .i64) (IntKind.wrap .i64 (bt s_1 at_2)) &&& BitVec.ofInt (IntKind.bits .i64) (15 : Int)))), (2048 : Int))) = some q_100 from H_115); subst H_117
                  refine VL_nil ?_
                  exact QP_end ((3 : Int), (IntKind.wrap .i64 (BitVec.toNat (BitVec.ofInt (IntKind.bits .i64) (IntKind.wrap .i64 (bt s_1 at_2)) &&& BitVec.ofInt (IntKind.bits .i64) (15 : Int)))), (2048 : Int)) rfl [] hn (by kernel_rfl) (by kernel_rfl) rfl rfl rfl
                · intro b_26; have H_116 := of_f H_109 b_26
                  refine V_run hN hn 1 0 [0, 1, 5, 35] [] ⟨[(0, .c (.val (.string s_1))), (1, .c (.val (.int .i64 at_2))), (5, .c (.val (.int .i64 (IntKind.wrap .i64 (bt s_1 at_2))))), (35, .c (.val (.bool y_110)))], [], 0⟩ [] (by kernel_rfl) rfl rfl ap0 ?_
                  obtain ⟨q_118, H_119, H_120⟩ := of_bind H_116
                  refine V_cut (Y := Bool) (R := Bool) q_118 (fun y => y) (fun y => [(0, .c (.val (.string s_1))), (1, .c (.val (.int .i64 at_2))), (5, .c (.val (.int .i64 (IntKind.wrap .i64 (bt s_1 at_2))))), (44, .c (.val (.bool y)))]) (fun y => []) ?_ ?_
                  · skip
                    rcases Bool.eq_false_or_eq_true ((decide ((IntKind.wrap .i64 (bt s_1 at_2)) ≥ (240 : Int)))) with b_29 | b_29
                    · have H_122 := of_t H_119 b_29
                      refine V_reg hN hn [] [(47, true)] calls_nil 0 [0, 1, 5, 44] [] ⟨[(0, .c (.val (.string s_1))), (1, .c (.val (.int .i64 at_2))), (5, .c (.val (.int .i64 (IntKind.wrap .i64 (bt s_1 at_2))))), (44, .c (.val (.bool (decide ((IntKind.wrap .i64 (bt s_1 at_2)) < (248 : Int))))))], [], 0⟩ [(decide ((IntKind.wrap .i64 (bt s_1 at_2)) ≥ (240 : Int))) = true] (by kernel_rfl) rfl rfl (ap1 b_29) (by kernel_rfl) (by kernel_rfl) ?_
                      have H_124 := Option.some.inj (show some (decide ((IntKind.wrap .i64 (bt s_1 at_2)) < (248 : Int))) = some q_118 from H_122); subst H_124
                      refine VL_nil ?_
                      exact QP_end (decide ((IntKind.wrap .i64 (bt s_1 at_2)) < (248 : Int))) rfl [] hn (by kernel_rfl) (by kernel_rfl) rfl rfl rfl
                    · have H_123 := of_f H_119 b_29
                      refine V_reg hN hn [] [(47, false)] calls_nil 0 [0, 1, 5, 44] [] ⟨[(0, .c (.val (.string s_1))), (1, .c (.val (.int .i64 at_2))), (5, .c (.val (.int .i64 (IntKind.wrap .i64 (bt s_1 at_2))))), (44, .c (.val (.bool false)))], [], 0⟩ [(decide ((IntKind.wrap .i64 (bt s_1 at_2)) ≥ (240 : Int))) = false] (by kernel_rfl) rfl rfl (ap1 b_29) (by kernel_rfl) (by kernel_rfl) ?_
                      have H_125 := Option.some.inj (show some false = some q_118 from H_123); subst H_125
                      refine VL_nil ?_
                      exact QP_end false rfl [] hn (by kernel_rfl) (by kernel_rfl) rfl rfl rfl
                  · intro y_121 hy; subst hy
                    skip
                    skip
                    refine VL_cond (y_121) (by kernel_rfl) ?_ ?_
                    · intro b_33; have H_126 := of_t H_120 b_33
                      refine V_run hN hn 1 0 [0, 1, 6, 7, 8] [] ⟨[(0, .c (.val (.string s_1))), (1, .c (.val (.int .i64 at_2))), (6, .c (.val (.int .i64 (4 : Int)))), (7, .c (.val (.int .i64 (IntKind.wrap .i64 (BitVec.toNat (BitVec.ofInt (IntKind.bits .i64) (IntKind.wrap .i64 (bt s_1 at_2)) &&& BitVec.ofInt (IntKind.bits .i64) (7 : Int))))))), (8, .c (.val (.int .i64 (65536 : Int))))], [], 0⟩ [] (by kernel_rfl) rfl rfl ap0 ?_
                      have H_128 := Option.some.inj (show some (Sum.inr ((4 : Int), (IntKind.wrap .i64 (BitVec.toNat (BitVec.ofInt (IntKind.bits .i64) (IntKind.wrap .i64 (bt s_1 at_2)) &&& BitVec.ofInt (IntKind.bits .i64) (7 : Int)))), (65536 : Int))) = some q_100 from H_126); subst H_128
                      refine VL_nil ?_
                      exact QP_end ((4 : Int), (IntKind.wrap .i64 (BitVec.toNat (BitVec.ofInt (IntKind.bits .i64) (IntKind.wrap .i64 (bt s_1 at_2)) &&& BitVec.ofInt (IntKind.bits .i64) (7 : Int)))), (65536 : Int)) rfl [] hn (by kernel_rfl) (by kernel_rfl) rfl rfl rfl
                    · intro b_33; have H_127 := of_f H_120 b_33
                      refine V_run hN hn 2 0 [4] [] ⟨[(4, .c (.val (.int .i64 (0 : Int))))], [], 0⟩ [] (by kernel_rfl) rfl rfl ap0 ?_
                      have H_129 := Option.some.inj (show some (Sum.inl (0 : Int)) = some q_100 from H_127); subst H_129
                      have H_130 := Option.some.inj (show some (0 : Int) = some r from H_102); subst H_130
                      refine VL_ret ?_
                      refine QP_ret ?_
                      refine QB_ret ?_
                      exact P_to [(4, .c (.val (.int .i64 (0 : Int))))] [] [] hn (by kernel_rfl) (by kernel_rfl) rfl rfl rfl (QF_retS (by kernel_rfl) (by kernel_rfl) rfl)
          · intro y_103 hy; subst hy
            obtain ⟨n_36, v_37, least_38⟩ := y_103
            refine VL_nil (QB_end ?_)
            refine V_run hN hn 3 0 [0, 1, 6, 7, 8, 58] [] ⟨[(0, .c (.val (.string s_1))), (1, .c (.val (.int .i64 at_2))), (6, .c (.val (.int .i64 n_36))), (7, .c (.val (.int .i64 v_37))), (8, .c (.val (.int .i64 least_38))), (58, .c (.val (.bool (decide ((IntKind.wrap .i64 ((((ByteArray.size s_1) : Nat) : Int) - at_2)) < n_36)))))], [], 0⟩ [] (by kernel_rfl) rfl rfl ap0 ?_
            refine VL_cond ((decide ((IntKind.wrap .i64 ((((ByteArray.size s_1) : Nat) : Int) - at_2)) < n_36))) (by kernel_rfl) ?_ ?_
            · intro b_40; have H_131 := of_t H_102 b_40
              refine V_run hN hn 2 0 [4] [] ⟨[(4, .c (.val (.int .i64 (0 : Int))))], [], 0⟩ [] (by kernel_rfl) rfl rfl ap0 ?_
              have H_133 := Option.some.inj (show some (0 : Int) = some r from H_131); subst H_133
              refine VL_ret ?_
              exact P_to [(4, .c (.val (.int .i64 (0 : Int))))] [] [] hn (by kernel_rfl) (by kernel_rfl) rfl rfl rfl (QF_retS (by kernel_rfl) (by kernel_rfl) rfl)
            · intro b_40; have H_132 := of_f H_102 b_40
              refine V_run hN hn 4 0 [0, 1, 6, 7, 8, 9] [] ⟨[(0, .c (.val (.string s_1))), (1, .c (.val (.int .i64 at_2))), (6, .c (.val (.int .i64 n_36))), (7, .c (.val (.int .i64 v_37))), (8, .c (.val (.int .i64 least_38))), (9, .c (.val (.int .i64 (1 : Int))))], [], 0⟩ [] (by kernel_rfl) rfl rfl ap0 ?_
              obtain ⟨q_134, H_135, H_136⟩ := of_bind H_132
              refine V_cut (Y := Int) (R := (Int ⊕ Int)) q_134 (fun y => (Sum.inr y)) (fun y => [(6, .c (.val (.int .i64 n_36))), (7, .c (.val (.int .i64 y))), (8, .c (.val (.int .i64 least_38)))]) (fun y => []) ?_ ?_
              · skip
                refine VL_block ?_
                refine V_to [(0, .c (.val (.string s_1))), (1, .c (.val (.int .i64 at_2))), (6, .c (.val (.int .i64 n_36))), (7, .c (.val (.int .i64 v_37))), (8, .c (.val (.int .i64 least_38))), (9, .c (.val (.int .i64 (1 : Int))))] [] [] hn (by kernel_rfl) (by kernel_rfl) rfl rfl rfl ?_
                refine VL_loop (X := (Int × Int)) (fun x => [(0, .c (.val (.string s_1))), (1, .c (.val (.int .i64 at_2))), (6, .c (.val (.int .i64 n_36))), (7, .c (.val (.int .i64 x.1))), (8, .c (.val (.int .i64 least_38))), (9, .c (.val (.int .i64 x.2)))]) (fun x => []) (fun k x => palinoderef1_Size.l0 K n_36 at_2 s_1 k x.1 x.2 = some q_134) K (v_37, (1 : Int)) H_135 (fun _ h => no_none h) ?_
                intro k_45 x_45 H_138
                obtain ⟨v_43, i_44⟩ := x_45
                have H_139 : palinoderef1_Size.l0 K n_36 at_2 s_1 (k_45 + 1) v_43 i_44 = some q_134 := H_138
                rw [palinoderef1_Size.l0] at H_139
                refine V_run hN hn 3 0 [0, 1, 6, 7, 8, 9, 61] [] ⟨[(0, .c (.val (.string s_1))), (1, .c (.val (.int .i64 at_2))), (6, .c (.val (.int .i64 n_36))), (7, .c (.val (.int .i64 v_43))), (8, .c (.val (.int .i64 least_38))), (9, .c (.val (.int .i64 i_44))), (61, .c (.val (.bool (decide (i_44 < n_36)))))], [], 0⟩ [] (by kernel_rfl) rfl rfl ap0 ?_
                refine VL_cond ((decide (i_44 < n_36))) (by kernel_rfl) ?_ ?_
                · intro b_47; have H_140 := of_t H_139 b_47
                  refine V_run hN hn 2 0 [0, 1, 6, 7, 8, 9, 61] [] ⟨[(0, .c (.val (.string s_1))), (1, .c (.val (.int .i64 at_2))), (6, .c (.val (.int .i64 n_36))), (7, .c (.val (.int .i64 v_43))), (8, .c (.val (.int .i64 least_38))), (9, .c (.val (.int .i64 i_44))), (61, .c (.val (.bool (decide (i_44 < n_36)))))], [], 0⟩ [] (by kernel_rfl) rfl rfl ap0 ?_
                  refine VL_block ?_
                  obtain ⟨c_49, H_142⟩ := of_if H_140
                  refine V_run hN hn 5 0 [0, 1, 6, 7, 8, 9, 10, 72] [] ⟨[(0, .c (.val (.string s_1))), (1, .c (.val (.int .i64 at_2))), (6, .c (.val (.int .i64 n_36))), (7, .c (.val (.int .i64 v_43))), (8, .c (.val (.int .i64 least_38))), (9, .c (.val (.int .i64 i_44))), (10, .c (.val (.int .i64 (IntKind.wrap .i64 (bt s_1 (IntKind.wrap .i64 (at_2 + i_44))))))), (72, .c (.val (.bool ((Int.fdiv (IntKind.wrap .i64 (bt s_1 (IntKind.wrap .i64 (at_2 + i_44)))) (64 : Int)) != (2 : Int)))))], [], 0⟩ [0 ≤ (IntKind.wrap .i64 (at_2 + i_44)), (IntKind.wrap .i64 (at_2 + i_44)) < (((ByteArray.size s_1) : Nat) : Int), (0 : Int) ≤ (6 : Int)] (by kernel_rfl) rfl rfl (ap2 c_49.1 (ap2 c_49.2 (ap1 (by decide)))) ?_
                  refine VL_cond (((Int.fdiv (IntKind.wrap .i64 (bt s_1 (IntKind.wrap .i64 (at_2 + i_44)))) (64 : Int)) != (2 : Int))) (by kernel_rfl) ?_ ?_
                  · intro b_50; have H_143 := of_t H_142 b_50
                    refine V_run hN hn 2 0 [4] [] ⟨[(4, .c (.val (.int .i64 (0 : Int))))], [], 0⟩ [] (by kernel_rfl) rfl rfl ap0 ?_
                    have H_145 := Option.some.inj (show some (Sum.inl (0 : Int)) = some q_134 from H_143); subst H_145
                    have H_146 := Option.some.inj (show some (0 : Int) = some r from H_136); subst H_146
                    refine VL_ret ?_
                    refine QB_ret ?_
                    refine QL_ret ?_
                    refine QB_ret ?_
                    refine QP_ret ?_
                    exact P_to [(4, .c (.val (.int .i64 (0 : Int))))] [] [] hn (by kernel_rfl) (by kernel_rfl) rfl rfl rfl (QF_retS (by kernel_rfl) (by kernel_rfl) rfl)
                  · intro b_50; have H_144 := of_f H_142 b_50
                    refine V_run hN hn 2 0 [0, 1, 6, 7, 8, 9] [] ⟨[(0, .c (.val (.string s_1))), (1, .c (.val (.int .i64 at_2))), (6, .c (.val (.int .i64 n_36))), (7, .c (.val (.int .i64 (IntKind.wrap .i64 (BitVec.toNat (BitVec.ofInt (IntKind.bits .i64) (IntKind.wrap .i64 (v_43 * (64 : Int))) ||| BitVec.ofInt (IntKind.bits .i64) (IntKind.wrap .i64 (BitVec.toNat (BitVec.ofInt (IntKind.bits .i64) (IntKind.wrap .i64 (bt s_1 (IntKind.wrap .i64 (at_2 + i_44)))) &&& BitVec.ofInt (IntKind.bits .i64) (63 : Int)))))))))), (8, .c (.val (.int .i64 least_38))), (9, .c (.val (.int .i64 i_44)))], [], 0⟩ [(0 : Int) ≤ (6 : Int)] (by kernel_rfl) rfl rfl (ap1 (by decide)) ?_
                    refine VL_nil (QB_end ?_)
                    refine V_run hN hn 1 0 [0, 1, 6, 7, 8, 9] [] ⟨[(0, .c (.val (.string s_1))), (1, .c (.val (.int .i64 at_2))), (6, .c (.val (.int .i64 n_36))), (7, .c (.val (.int .i64 (IntKind.wrap .i64 (BitVec.toNat (BitVec.ofInt (IntKind.bits .i64) (IntKind.wrap .i64 (v_43 * (64 : Int))) ||| BitVec.ofInt (IntKind.bits .i64) (IntKind.wrap .i64 (BitVec.toNat (BitVec.ofInt (IntKind.bits .i64) (IntKind.wrap .i64 (bt s_1 (IntKind.wrap .i64 (at_2 + i_44)))) &&& BitVec.ofInt (IntKind.bits .i64) (63 : Int)))))))))), (8, .c (.val (.int .i64 least_38))), (9, .c (.val (.int .i64 (IntKind.wrap .i64 (i_44 + (1 : Int))))))], [], 0⟩ [] (by kernel_rfl) rfl rfl ap0 ?_
                    refine VL_nil ?_
                    exact V_roundEnd ((IntKind.wrap .i64 (BitVec.toNat (BitVec.ofInt (IntKind.bits .i64) (IntKind.wrap .i64 (v_43 * (64 : Int))) ||| BitVec.ofInt (IntKind.bits .i64) (IntKind.wrap .i64 (BitVec.toNat (BitVec.ofInt (IntKind.bits .i64) (IntKind.wrap .i64 (bt s_1 (IntKind.wrap .i64 (at_2 + i_44)))) &&& BitVec.ofInt (IntKind.bits .i64) (63 : Int))))))), (IntKind.wrap .i64 (i_44 + (1 : Int)))) H_144 [] hn (by kernel_rfl) (by kernel_rfl) rfl rfl rfl
                · intro b_47; have H_141 := of_f H_139 b_47
                  refine VL_exit ?_
                  refine QL_exit ?_
                  refine QB_here ?_
                  have H_147 := Option.some.inj (show some (Sum.inr v_43) = some q_134 from H_141); subst H_147
                  refine VL_nil ?_
                  exact QP_end v_43 rfl [] hn (by kernel_rfl) (by kernel_rfl) rfl rfl rfl
              · intro y_137 hy; subst hy
                skip
                skip
                refine V_run hN hn 2 0 [6, 7, 8] [] ⟨[(6, .c (.val (.int .i64 n_36))), (7, .c (.val (.int .i64 y_137))), (8, .c (.val (.int .i64 least_38)))], [], 0⟩ [] (by kernel_rfl) rfl rfl ap0 ?_
                obtain ⟨q_148, H_149, H_150⟩ := of_bind H_136
                refine V_cut (Y := Bool) (R := Bool) q_148 (fun y => y) (fun y => [(6, .c (.val (.int .i64 n_36))), (92, .c (.val (.bool y)))]) (fun y => []) ?_ ?_
                · skip
                  rcases Bool.eq_false_or_eq_true ((decide (y_137 < least_38))) with b_56 | b_56
                  · have H_152 := of_t H_149 b_56
                    refine V_reg hN hn [] [(81, true)] calls_nil 0 [6, 92] [] ⟨[(6, .c (.val (.int .i64 n_36))), (92, .c (.val (.bool true)))], [], 0⟩ [(decide (y_137 < least_38)) = true] (by kernel_rfl) rfl rfl (ap1 b_56) (by kernel_rfl) (by kernel_rfl) ?_
                    have H_154 := Option.some.inj (show some true = some q_148 from H_152); subst H_154
                    refine VL_nil ?_
                    exact QP_end true rfl [] hn (by kernel_rfl) (by kernel_rfl) rfl rfl rfl
                  · have H_153 := of_f H_149 b_56
                    rcases Bool.eq_false_or_eq_true ((decide (y_137 > (1114111 : Int)))) with b_58 | b_58
                    · have H_155 := of_t H_153 b_58
                      refine V_reg hN hn [] [(81, false), (85, true)] calls_nil 0 [6, 92] [] ⟨[(6, .c (.val (.int .i64 n_36))), (92, .c (.val (.bool true)))], [], 0⟩ [(decide (y_137 < least_38)) = false, (decide (y_137 > (1114111 : Int))) = true] (by kernel_rfl) rfl rfl (ap2 b_56 (ap1 b_58)) (by kernel_rfl) (by kernel_rfl) ?_
                      have H_157 := Option.some.inj (show some true = some q_148 from H_155); subst H_157
                      refine VL_nil ?_
                      exact QP_end true rfl [] hn (by kernel_rfl) (by kernel_rfl) rfl rfl rfl
                    · have H_156 := of_f H_153 b_58
                      rcases Bool.eq_false_or_eq_true ((decide (y_137 ≥ (55296 : Int)))) with b_60 | b_60
                      · have H_158 := of_t H_156 b_60
                        refine V_reg hN hn [] [(81, false), (85, false), (88, true)] calls_nil 0 [6, 92] [] ⟨[(6, .c (.val (.int .i64 n_36))), (92, .c (.val (.bool (decide (y_137 < (57344 : Int))))))], [], 0⟩ [(decide (y_137 < least_38)) = false, (decide (y_137 > (1114111 : Int))) = false, (decide (y_137 ≥ (55296 : Int))) = true] (by kernel_rfl) rfl rfl (ap2 b_56 (ap2 b_58 (ap1 b_60))) (by kernel_rfl) (by kernel_rfl) ?_
                        have H_160 := Option.some.inj (show some (decide (y_137 < (57344 : Int))) = some q_148 from H_158); subst H_160
                        refine VL_nil ?_
                        exact QP_end (decide (y_137 < (57344 : Int))) rfl [] hn (by kernel_rfl) (by kernel_rfl) rfl rfl rfl
                      · have H_159 := of_f H_156 b_60
                        refine V_reg hN hn [] [(81, false), (85, false), (88, false)] calls_nil 0 [6, 92] [] ⟨[(6, .c (.val (.int .i64 n_36))), (92, .c (.val (.bool false)))], [], 0⟩ [(decide (y_137 < least_38)) = false, (decide (y_137 > (1114111 : Int))) = false, (decide (y_137 ≥ (55296 : Int))) = false] (by kernel_rfl) rfl rfl (ap2 b_56 (ap2 b_58 (ap1 b_60))) (by kernel_rfl) (by kernel_rfl) ?_
                        have H_161 := Option.some.inj (show some false = some q_148 from H_159); subst H_161
                        refine VL_nil ?_
                        exact QP_end false rfl [] hn (by kernel_rfl) (by kernel_rfl) rfl rfl rfl
                · intro y_151 hy; subst hy
                  skip
                  skip
                  refine VL_cond (y_151) (by kernel_rfl) ?_ ?_
                  · intro b_64; have H_162 := of_t H_150 b_64
                    refine V_run hN hn 2 0 [4] [] ⟨[(4, .c (.val (.int .i64 (0 : Int))))], [], 0⟩ [] (by kernel_rfl) rfl rfl ap0 ?_
                    have H_164 := Option.some.inj (show some (0 : Int) = some r from H_162); subst H_164
                    refine VL_ret ?_
                    exact P_to [(4, .c (.val (.int .i64 (0 : Int))))] [] [] hn (by kernel_rfl) (by kernel_rfl) rfl rfl rfl (QF_retS (by kernel_rfl) (by kernel_rfl) rfl)
                  · intro b_64; have H_163 := of_f H_150 b_64
                    refine V_run hN hn 3 0 [4] [] ⟨[(4, .c (.val (.int .i64 n_36)))], [], 0⟩ [] (by kernel_rfl) rfl rfl ap0 ?_
                    have H_165 := Option.some.inj (show some n_36 = some r from H_163); subst H_165
                    refine VL_ret ?_
                    exact P_to [(4, .c (.val (.int .i64 n_36)))] [] [] hn (by kernel_rfl) (by kernel_rfl) rfl rfl rfl (QF_retS (by kernel_rfl) (by kernel_rfl) rfl)

theorem palinoderef1_Valid_spec (K : Nat) (s_1 : ByteArray) (r : Bool) (H : palinoderef1_Valid K s_1 = some r) : Spec Try.prog 23 0 [.c (.val (.string s_1))] [] (.c (.val (.bool r))) [] := by
  refine Spec_mk (fn := Try.f23) (c := (Try.f23.body).get!) Try.func23 (by kernel_rfl) rfl ?_
  intro C hN hn
  replace hN : C.N = 17 := hN
  unfold palinoderef1_Valid at H
  refine V_run hN hn 5 0 [0, 3] [] ⟨[(0, .c (.val (.string s_1))), (3, .c (.val (.int .i64 (0 : Int))))], [], 0⟩ [] (by kernel_rfl) rfl rfl ap0 ?_
  refine VL_block ?_
  refine V_to [(0, .c (.val (.string s_1))), (3, .c (.val (.int .i64 (0 : Int))))] [] [] hn (by kernel_rfl) (by kernel_rfl) rfl rfl rfl ?_
  refine VL_loop (X := Int) (fun x => [(0, .c (.val (.string s_1))), (3, .c (.val (.int .i64 x)))]) (fun x => []) (fun k x => palinoderef1_Valid.l0 K s_1 k x = some r) K (0 : Int) H (fun _ h => no_none h) ?_
  intro k_4 at_3 H_18
  have H_19 : palinoderef1_Valid.l0 K s_1 (k_4 + 1) at_3 = some r := H_18
  rw [palinoderef1_Valid.l0] at H_19
  refine V_run hN hn 3 0 [0, 3, 8] [] ⟨[(0, .c (.val (.string s_1))), (3, .c (.val (.int .i64 at_3))), (8, .c (.val (.bool (decide (at_3 < (((ByteArray.size s_1) : Nat) : Int))))))], [], 0⟩ [] (by kernel_rfl) rfl rfl ap0 ?_
  refine VL_cond ((decide (at_3 < (((ByteArray.size s_1) : Nat) : Int)))) (by kernel_rfl) ?_ ?_
  · intro b_6; have H_20 := of_t H_19 b_6
    refine V_run hN hn 1 0 [0, 3, 8] [] ⟨[(0, .c (.val (.string s_1))), (3, .c (.val (.int .i64 at_3))), (8, .c (.val (.bool (decide (at_3 < (((ByteArray.size s_1) : Nat) : Int))))))], [], 0⟩ [] (by kernel_rfl) rfl rfl ap0 ?_
    refine VL_block ?_
    refine V_run hN hn 1 0 [0, 3, 8] [] ⟨[(0, .c (.val (.string s_1))), (3, .c (.val (.int .i64 at_3))), (8, .c (.val (.bool (decide (at_3 < (((ByteArray.size s_1) : Nat) : Int))))))], [], 0⟩ [] (by kernel_rfl) rfl rfl ap0 ?_
    obtain ⟨r_9, h_10, H_22⟩ := of_bind H_20
    refine V_reg hN hn [(2, ⟨35, 0, [.c (.val (.string s_1)), .c (.val (.int .i64 at_3))], [], .c (.val (.int .i64 r_9)), [], [], 0⟩)] [] (calls_cons (palinoderef1_Size_spec K s_1 at_3 r_9 h_10) (by kernel_rfl) calls_nil) 0 [0, 3, 4] [] ⟨[(0, .c (.val (.string s_1))), (3, .c (.val (.int .i64 at_3))), (4, .c (.val (.int .i64 r_9)))], [], 0⟩ [] (by kernel_rfl) rfl rfl ap0 (by kernel_rfl) (by kernel_rfl) ?_
    refine V_run hN hn 3 0 [0, 3, 4, 13] [] ⟨[(0, .c (.val (.string s_1))), (3, .c (.val (.int .i64 at_3))), (4, .c (.val (.int .i64 r_9))), (13, .c (.val (.bool (r_9 == (0 : Int)))))], [], 0⟩ [] (by kernel_rfl) rfl rfl ap0 ?_
    refine VL_cond ((r_9 == (0 : Int))) (by kernel_rfl) ?_ ?_
    · intro b_13; have H_23 := of_t H_22 b_13
      refine V_run hN hn 2 0 [2] [] ⟨[(2, .c (.val (.bool false)))], [], 0⟩ [] (by kernel_rfl) rfl rfl ap0 ?_
      have H_25 := Option.some.inj (show some false = some r from H_23); subst H_25
      refine VL_ret ?_
      refine QB_ret ?_
      refine QL_ret ?_
      refine QB_ret ?_
      exact P_to [(2, .c (.val (.bool false)))] [] [] hn (by kernel_rfl) (by kernel_rfl) rfl rfl rfl (QF_retS (by kernel_rfl) (by kernel_rfl) rfl)
    · intro b_13; have H_24 := of_f H_22 b_13
      refine V_run hN hn 2 0 [0, 3] [] ⟨[(0, .c (.val (.string s_1))), (3, .c (.val (.int .i64 (IntKind.wrap .i64 (at_3 + r_9)))))], [], 0⟩ [] (by kernel_rfl) rfl rfl ap0 ?_
      refine VL_nil (QB_end ?_)
      refine VL_nil ?_
      exact V_roundEnd (IntKind.wrap .i64 (at_3 + r_9)) H_24 [] hn (by kernel_rfl) (by kernel_rfl) rfl rfl rfl
  · intro b_6; have H_21 := of_f H_19 b_6
    refine VL_exit ?_
    refine QL_exit ?_
    refine QB_here ?_
    refine V_run hN hn 2 0 [2] [] ⟨[(2, .c (.val (.bool true)))], [], 0⟩ [] (by kernel_rfl) rfl rfl ap0 ?_
    have H_26 := Option.some.inj (show some true = some r from H_21); subst H_26
    refine VL_ret ?_
    exact P_to [(2, .c (.val (.bool true)))] [] [] hn (by kernel_rfl) (by kernel_rfl) rfl rfl rfl (QF_retS (by kernel_rfl) (by kernel_rfl) rfl)

theorem palinoderef11_Is_spec (K : Nat) (d_1 : Int) (d_2 : (List (Int × (Int × ByteArray)))) (r : Bool) (H : palinoderef11_Is K d_1 d_2 = some r) : Spec Try.prog 10 0 [.agg [.val (.int .i64 d_1), .imm (.slice (.pair (.int .i64) (.pair (.int .i64) .str))) d_2]] [] (.c (.val (.bool r))) [] := by
  refine Spec_mk (fn := Try.f10) (c := (Try.f10.body).get!) Try.func10 (by kernel_rfl) rfl ?_
  intro C hN hn
  replace hN : C.N = 122 := hN
  unfold palinoderef11_Is at H
  refine V_run hN hn 4 0 [1] [0] ⟨[(1, .c (.h 0))], [(0, .box [.val (.int .i64 d_1), .imm (.slice (.pair (.int .i64) (.pair (.int .i64) .str))) d_2])], 1⟩ [] (by kernel_rfl) rfl rfl ap0 ?_
  obtain ⟨q_80, H_81, H_82⟩ := of_bind H
  refine V_cut (Y := Bool) (R := Bool) q_80 (fun y => y) (fun y => [(1, .c (.h 0)), (21, .c (.val (.bool y)))]) (fun y => [(0, .box [.val (.int .i64 d_1), .imm (.slice (.pair (.int .i64) (.pair (.int .i64) .str))) d_2])]) ?_ ?_
  · skip
    rcases Bool.eq_false_or_eq_true ((decide (d_1 < (0 : Int)))) with b_4 | b_4
    · have H_84 := of_t H_81 b_4
      refine V_reg hN hn [] [(11, true)] calls_nil 1 [1, 21] [0] ⟨[(1, .c (.h 0)), (21, .c (.val (.bool true)))], [(0, .box [.val (.int .i64 d_1), .imm (.slice (.pair (.int .i64) (.pair (.int .i64) .str))) d_2])], 1⟩ [(decide (d_1 < (0 : Int))) = true] (by kernel_rfl) rfl rfl (ap1 b_4) (by kernel_rfl) (by kernel_rfl) ?_
      have H_86 := Option.some.inj (show some true = some q_80 from H_84); subst H_86
      refine VL_nil ?_
      exact QP_end true rfl [(0, 0)] hn (by kernel_rfl) (by kernel_rfl) rfl rfl rfl
    · have H_85 := of_f H_81 b_4
      rcases Bool.eq_false_or_eq_true ((decide (d_1 > (20000 : Int)))) with b_6 | b_6
      · have H_87 := of_t H_85 b_6
        refine V_reg hN hn [] [(11, false), (16, true)] calls_nil 1 [1, 21] [0] ⟨[(1, .c (.h 0)), (21, .c (.val (.bool true)))], [(0, .box [.val (.int .i64 d_1), .imm (.slice (.pair (.int .i64) (.pair (.int .i64) .str))) d_2])], 1⟩ [(decide (d_1 < (0 : Int))) = false, (decide (d_1 > (20000 : Int))) = true] (by kernel_rfl) rfl rfl (ap2 b_4 (ap1 b_6)) (by kernel_rfl) (by kernel_rfl) ?_
        have H_89 := Option.some.inj (show some true = some q_80 from H_87); subst H_89
        refine VL_nil ?_
        exact QP_end true rfl [(0, 0)] hn (by kernel_rfl) (by kernel_rfl) rfl rfl rfl
      · have H_88 := of_f H_85 b_6
        refine V_reg hN hn [] [(11, false), (16, false)] calls_nil 1 [1, 21] [0] ⟨[(1, .c (.h 0)), (21, .c (.val (.bool (decide ((((List.length d_2) : Nat) : Int) > (60 : Int))))))], [(0, .box [.val (.int .i64 d_1), .imm (.slice (.pair (.int .i64) (.pair (.int .i64) .str))) d_2])], 1⟩ [(decide (d_1 < (0 : Int))) = false, (decide (d_1 > (20000 : Int))) = false] (by kernel_rfl) rfl rfl (ap2 b_4 (ap1 b_6)) (by kernel_rfl) (by kernel_rfl) ?_
        have H_90 := Option.some.inj (show some (decide ((((List.length d_2) : Nat) : Int) > (60 : Int))) = some q_80 from H_88); subst H_90
        refine VL_nil ?_
        exact QP_end (decide ((((List.length d_2) : Nat) : Int) > (60 : Int))) rfl [(0, 0)] hn (by kernel_rfl) (by kernel_rfl) rfl rfl rfl
  · intro y_83 hy; subst hy
    skip
    skip
    refine VL_cond (y_83) (by kernel_rfl) ?_ ?_
    · intro b_10; have H_91 := of_t H_82 b_10
      refine V_run hN hn 2 1 [2] [] ⟨[(2, .c (.val (.bool false)))], [], 1⟩ [] (by kernel_rfl) rfl rfl ap0 ?_
      have H_93 := Option.some.inj (show some false = some r from H_91); subst H_93
      refine VL_ret ?_
      exact P_to [(2, .c (.val (.bool false)))] [] [] hn (by kernel_rfl) (by kernel_rfl) rfl rfl rfl (QF_retS (by kernel_rfl) (by kernel_rfl) rfl)
    · intro b_10; have H_92 := of_f H_82 b_10
      refine V_run hN hn 6 1 [1, 3, 4, 5, 6] [0] ⟨[(1, .c (.h 0)), (3, .c (.val (.int .i64 (0 : Int)))), (4, .c (.val (.bool true))), (5, .c (.val (.int .i64 (0 : Int)))), (6, .c (.val (.int .i64 (0 : Int))))], [(0, .box [.val (.int .i64 d_1), .imm (.slice (.pair (.int .i64) (.pair (.int .i64) .str))) d_2])], 1⟩ [] (by kernel_rfl) rfl rfl ap0 ?_
      refine VL_block ?_
      refine V_to [(1, .c (.h 0)), (3, .c (.val (.int .i64 (0 : Int)))), (4, .c (.val (.bool true))), (5, .c (.val (.int .i64 (0 : Int)))), (6, .c (.val (.int .i64 (0 : Int))))] [(0, .box [.val (.int .i64 d_1), .imm (.slice (.pair (.int .i64) (.pair (.int .i64) .str))) d_2])] [(0, 0)] hn (by kernel_rfl) (by kernel_rfl) rfl rfl rfl ?_
      refine VL_loop (X := (Int × Bool × Int × Int)) (fun x => [(1, .c (.h 0)), (3, .c (.val (.int .i64 x.1))), (4, .c (.val (.bool x.2.1))), (5, .c (.val (.int .i64 x.2.2.1))), (6, .c (.val (.int .i64 x.2.2.2)))]) (fun x => [(0, .box [.val (.int .i64 d_1), .imm (.slice (.pair (.int .i64) (.pair (.int .i64) .str))) d_2])]) (fun k x => palinoderef11_Is.l0 K d_2 d_1 k x.1 x.2.1 x.2.2.1 x.2.2.2 = some r) K ((0 : Int), true, (0 : Int), (0 : Int)) H_92 (fun _ h => no_none h) ?_
      intro k_17 x_17 H_94
      obtain ⟨last_13, text_14, size_15, i_16⟩ := x_17
      have H_95 : palinoderef11_Is.l0 K d_2 d_1 (k_17 + 1) last_13 text_14 size_15 i_16 = some r := H_94
      rw [palinoderef11_Is.l0] at H_95
      refine V_run hN hn 3 1 [1, 3, 4, 5, 6, 26] [0] ⟨[(1, .c (.h 0)), (3, .c (.val (.int .i64 last_13))), (4, .c (.val (.bool text_14))), (5, .c (.val (.int .i64 size_15))), (6, .c (.val (.int .i64 i_16))), (26, .c (.val (.bool (decide (i_16 < (((List.length d_2) : Nat) : Int))))))], [(0, .box [.val (.int .i64 d_1), .imm (.slice (.pair (.int .i64) (.pair (.int .i64) .str))) d_2])], 1⟩ [] (by kernel_rfl) rfl rfl ap0 ?_
      refine VL_cond ((decide (i_16 < (((List.length d_2) : Nat) : Int)))) (by kernel_rfl) ?_ ?_
      · intro b_19; have H_96 := of_t H_95 b_19
        refine V_run hN hn 2 1 [1, 3, 4, 5, 6, 26] [0] ⟨[(1, .c (.h 0)), (3, .c (.val (.int .i64 last_13))), (4, .c (.val (.bool text_14))), (5, .c (.val (.int .i64 size_15))), (6, .c (.val (.int .i64 i_16))), (26, .c (.val (.bool (decide (i_16 < (((List.length d_2) : Nat) : Int))))))], [(0, .box [.val (.int .i64 d_1), .imm (.slice (.pair (.int .i64) (.pair (.int .i64) .str))) d_2])], 1⟩ [] (by kernel_rfl) rfl rfl ap0 ?_
        refine VL_block ?_
        obtain ⟨c_21, H_98⟩ := of_if H_96
        refine V_run hN hn 5 1 [1, 3, 4, 5, 6, 7, 36] [0, 1] ⟨[(1, .c (.h 0)), (3, .c (.val (.int .i64 last_13))), (4, .c (.val (.bool text_14))), (5, .c (.val (.int .i64 size_15))), (6, .c (.val (.int .i64 i_16))), (7, .c (.h 1)), (36, .c (.val (.bool (!(ByteArray.toList (List.getD d_2 (Int.toNat i_16) ((0 : Int), ((0 : Int), ByteArray.empty))).2.2 == ByteArray.toList (ByteArray.mk #[]))))))], [(0, .box [.val (.int .i64 d_1), .imm (.slice (.pair (.int .i64) (.pair (.int .i64) .str))) d_2]), (1, .box [.val (.int .i64 (List.getD d_2 (Int.toNat i_16) ((0 : Int), ((0 : Int), ByteArray.empty))).1), .val (.int .i64 (List.getD d_2 (Int.toNat i_16) ((0 : Int), ((0 : Int), ByteArray.empty))).2.1), .val (.string (List.getD d_2 (Int.toNat i_16) ((0 : Int), ((0 : Int), ByteArray.empty))).2.2)])], 2⟩ [0 ≤ i_16, i_16 < (((List.length d_2) : Nat) : Int)] (by kernel_rfl) rfl rfl (ap2 c_21.1 (ap1 c_21.2)) ?_
        refine VL_cond ((!(ByteArray.toList (List.getD d_2 (Int.toNat i_16) ((0 : Int), ((0 : Int), ByteArray.empty))).2.2 == ByteArray.toList (ByteArray.mk #[])))) (by kernel_rfl) ?_ ?_
        · intro b_22; have H_99 := of_t H_98 b_22
          refine V_run hN hn 2 2 [1, 3, 4, 5, 6, 7, 36] [0, 1] ⟨[(1, .c (.h 0)), (3, .c (.val (.int .i64 last_13))), (4, .c (.val (.bool text_14))), (5, .c (.val (.int .i64 size_15))), (6, .c (.val (.int .i64 i_16))), (7, .c (.h 1)), (36, .c (.val (.bool (!(ByteArray.toList (List.getD d_2 (Int.toNat i_16) ((0 : Int), ((0 : Int), ByteArray.empty))).2.2 == ByteArray.toList (ByteArray.mk #[]))))))], [(0, .box [.val (.int .i64 d_1), .imm (.slice (.pair (.int .i64) (.pair (.int .i64) .str))) d_2]), (1, .box [.val (.int .i64 (List.getD d_2 (Int.toNat i_16) ((0 : Int), ((0 : Int), ByteArray.empty))).1), .val (.int .i64 (List.getD d_2 (Int.toNat i_16) ((0 : Int), ((0 : Int), ByteArray.empty))).2.1), .val (.string (List.getD d_2 (Int.toNat i_16) ((0 : Int), ((0 : Int), ByteArray.empty))).2.2)])], 2⟩ [] (by kernel_rfl) rfl rfl ap0 ?_
          obtain ⟨q_101, H_102, H_103⟩ := of_bind H_99
          refine V_cut (Y := Bool) (R := Bool) q_101 (fun y => y) (fun y => [(1, .c (.h 0)), (3, .c (.val (.int .i64 last_13))), (5, .c (.val (.int .i64 size_15))), (6, .c (.val (.int .i64 i_16))), (7, .c (.h 1)), (65, .c (.val (.bool y)))]) (fun y => [(0, .box [.val (.int .i64 d_1), .imm (.slice (.pair (.int .i64) (.pair (.int .i64) .str))) d_2]), (1, .box [.val (.int .i64 (List.getD d_2 (Int.toNat i_16) ((0 : Int), ((0 : Int), ByteArray.empty))).1), .val (.int .i64 (List.getD d_2 (Int.toNat i_16) ((0 : Int), ((0 : Int), ByteArray.empty))).2.1), .val (.string (List.getD d_2 (Int.toNat i_16) ((0 : Int), ((0 : Int), ByteArray.empty))).2.2)])]) ?_ ?_
          · skip
            rcases Bool.eq_false_or_eq_true (((List.getD d_2 (Int.toNat i_16) ((0 : Int), ((0 : Int), ByteArray.empty))).1 != (0 : Int))) with b_24 | b_24
            · have H_105 := of_t H_102 b_24
              refine V_reg hN hn [] [(40, true)] calls_nil 2 [1, 3, 5, 6, 7, 65] [0, 1] ⟨[(1, .c (.h 0)), (3, .c (.val (.int .i64 last_13))), (5, .c (.val (.int .i64 size_15))), (6, .c (.val (.int .i64 i_16))), (7, .c (.h 1)), (65, .c (.val (.bool true)))], [(0, .box [.val (.int .i64 d_1), .imm (.slice (.pair (.int .i64) (.pair (.int .i64) .str))) d_2]), (1, .box [.val (.int .i64 (List.getD d_2 (Int.toNat i_16) ((0 : Int), ((0 : Int), ByteArray.empty))).1), .val (.int .i64 (List.getD d_2 (Int.toNat i_16) ((0 : Int), ((0 : Int), ByteArray.empty))).2.1), .val (.string (List.getD d_2 (Int.toNat i_16) ((0 : Int), ((0 : Int), ByteArray.empty))).2.2)])], 2⟩ [((List.getD d_2 (Int.toNat i_16) ((0 : Int), ((0 : Int), ByteArray.empty))).1 != (0 : Int)) = true] (by kernel_rfl) rfl rfl (ap1 b_24) (by kernel_rfl) (by kernel_rfl) ?_
              have H_107 := Option.some.inj (show some true = some q_101 from H_105); subst H_107
              refine VL_nil ?_
              exact QP_end true rfl [(0, 0), (1, 1)] hn (by kernel_rfl) (by kernel_rfl) rfl rfl rfl
            · have H_106 := of_f H_102 b_24
              rcases Bool.eq_false_or_eq_true (((List.getD d_2 (Int.toNat i_16) ((0 : Int), ((0 : Int), ByteArray.empty))).2.1 != (0 : Int))) with b_26 | b_26
              · have H_108 := of_t H_106 b_26
                refine V_reg hN hn [] [(40, false), (45, true)] calls_nil 2 [1, 3, 5, 6, 7, 65] [0, 1] ⟨[(1, .c (.h 0)), (3, .c (.val (.int .i64 last_13))), (5, .c (.val (.int .i64 size_15))), (6, .c (.val (.int .i64 i_16))), (7, .c (.h 1)), (65, .c (.val (.bool true)))], [(0, .box [.val (.int .i64 d_1), .imm (.slice (.pair (.int .i64) (.pair (.int .i64) .str))) d_2]), (1, .box [.val (.int .i64 (List.getD d_2 (Int.toNat i_16) ((0 : Int), ((0 : Int), ByteArray.empty))).1), .val (.int .i64 (List.getD d_2 (Int.toNat i_16) ((0 : Int), ((0 : Int), ByteArray.empty))).2.1), .val (.string (List.getD d_2 (Int.toNat i_16) ((0 : Int), ((0 : Int), ByteArray.empty))).2.2)])], 2⟩ [((List.getD d_2 (Int.toNat i_16) ((0 : Int), ((0 : Int), ByteArray.empty))).1 != (0 : Int)) = false, ((List.getD d_2 (Int.toNat i_16) ((0 : Int), ((0 : Int), ByteArray.empty))).2.1 != (0 : Int)) = true] (by kernel_rfl) rfl rfl (ap2 b_24 (ap1 b_26)) (by kernel_rfl) (by kernel_rfl) ?_
                have H_110 := Option.some.inj (show some true = some q_101 from H_108); subst H_110
                refine VL_nil ?_
                exact QP_end true rfl [(0, 0), (1, 1)] hn (by kernel_rfl) (by kernel_rfl) rfl rfl rfl
              · have H_109 := of_f H_106 b_26
                rcases Bool.eq_false_or_eq_true ((decide (i_16 > (0 : Int)))) with b_28 | b_28
                · have H_111 := of_t H_109 b_28
                  rcases Bool.eq_false_or_eq_true (text_14) with b_29 | b_29
                  · have H_113 := of_t H_111 b_29
                    refine V_reg hN hn [] [(40, false), (45, false), (48, true), (52, true)] calls_nil 2 [1, 3, 5, 6, 7, 65] [0, 1] ⟨[(1, .c (.h 0)), (3, .c (.val (.int .i64 last_13))), (5, .c (.val (.int .i64 size_15))), (6, .c (.val (.int .i64 i_16))), (7, .c (.h 1)), (65, .c (.val (.bool true)))], [(0, .box [.val (.int .i64 d_1), .imm (.slice (.pair (.int .i64) (.pair (.int .i64) .str))) d_2]), (1, .box [.val (.int .i64 (List.getD d_2 (Int.toNat i_16) ((0 : Int), ((0 : Int), ByteArray.empty))).1), .val (.int .i64 (List.getD d_2 (Int.toNat i_16) ((0 : Int), ((0 : Int), ByteArray.empty))).2.1), .val (.string (List.getD d_2 (Int.toNat i_16) ((0 : Int), ((0 : Int), ByteArray.empty))).2.2)])], 2⟩ [((List.getD d_2 (Int.toNat i_16) ((0 : Int), ((0 : Int), ByteArray.empty))).1 != (0 : Int)) = false, ((List.getD d_2 (Int.toNat i_16) ((0 : Int), ((0 : Int), ByteArray.empty))).2.1 != (0 : Int)) = false, (decide (i_16 > (0 : Int))) = true, text_14 = true] (by kernel_rfl) rfl rfl (ap2 b_24 (ap2 b_26 (ap2 b_28 (ap1 b_29)))) (by kernel_rfl) (by kernel_rfl) ?_
                    have H_115 := Option.some.inj (show some true = some q_101 from H_113); subst H_115
                    refine VL_nil ?_
                    exact QP_end true rfl [(0, 0), (1, 1)] hn (by kernel_rfl) (by kernel_rfl) rfl rfl rfl
                  · have H_114 := of_f H_111 b_29
                    rcases Bool.eq_false_or_eq_true ((decide ((((ByteArray.size (List.getD d_2 (Int.toNat i_16) ((0 : Int), ((0 : Int), ByteArray.empty))).2.2) : Nat) : Int) > (IntKind.wrap .i64 ((20000 : Int) - size_15))))) with b_31 | b_31
                    · have H_116 := of_t H_114 b_31
                      refine V_reg hN hn [] [(40, false), (45, false), (48, true), (52, false), (60, true)] calls_nil 2 [1, 3, 5, 6, 7, 65] [0, 1] ⟨[(1, .c (.h 0)), (3, .c (.val (.int .i64 last_13))), (5, .c (.val (.int .i64 size_15))), (6, .c (.val (.int .i64 i_16))), (7, .c (.h 1)), (65, .c (.val (.bool true)))], [(0, .box [.val (.int .i64 d_1), .imm (.slice (.pair (.int .i64) (.pair (.int .i64) .str))) d_2]), (1, .box [.val (.int .i64 (List.getD d_2 (Int.toNat i_16) ((0 : Int), ((0 : Int), ByteArray.empty))).1), .val (.int .i64 (List.getD d_2 (Int.toNat i_16) ((0 : Int), ((0 : Int), ByteArray.empty))).2.1), .val (.string (List.getD d_2 (Int.toNat i_16) ((0 : Int), ((0 : Int), ByteArray.empty))).2.2)])], 2⟩ [((List.getD d_2 (Int.toNat i_16) ((0 : Int), ((0 : Int), ByteArray.empty))).1 != (0 : Int)) = false, ((List.getD d_2 (Int.toNat i_16) ((0 : Int), ((0 : Int), ByteArray.empty))).2.1 != (0 : Int)) = false, (decide (i_16 > (0 : Int))) = true, text_14 = false, (decide ((((ByteArray.size (List.getD d_2 (Int.toNat i_16) ((0 : Int), ((0 : Int), ByteArray.empty))).2.2) : Nat) : Int) > (IntKind.wrap .i64 ((20000 : Int) - size_15)))) = true] (by kernel_rfl) rfl rfl (ap2 b_24 (ap2 b_26 (ap2 b_28 (ap2 b_29 (ap1 b_31))))) (by kernel_rfl) (by kernel_rfl) ?_
                      have H_118 := Option.some.inj (show some true = some q_101 from H_116); subst H_118
                      refine VL_nil ?_
                      exact QP_end true rfl [(0, 0), (1, 1)] hn (by kernel_rfl) (by kernel_rfl) rfl rfl rfl
                    · have H_117 := of_f H_114 b_31
                      obtain ⟨r_33, h_34, H_119⟩ := of_bind H_117
                      refine V_reg hN hn [(26, ⟨23, 0, [.c (.val (.string (List.getD d_2 (Int.toNat i_16) ((0 : Int), ((0 : Int), ByteArray.empty))).2.2))], [], .c (.val (.bool r_33)), [], [], 2⟩)] [(40, false), (45, false), (48, true), (52, false), (60, false)] (calls_cons (palinoderef1_Valid_spec K (List.getD d_2 (Int.toNat i_16) ((0 : Int), ((0 : Int), ByteArray.empty))).2.2 r_33 h_34) (by kernel_rfl) calls_nil) 2 [1, 3, 5, 6, 7, 65] [0, 1] ⟨[(1, .c (.h 0)), (3, .c (.val (.int .i64 last_13))), (5, .c (.val (.int .i64 size_15))), (6, .c (.val (.int .i64 i_16))), (7, .c (.h 1)), (65, .c (.val (.bool (!r_33))))], [(0, .box [.val (.int .i64 d_1), .imm (.slice (.pair (.int .i64) (.pair (.int .i64) .str))) d_2]), (1, .box [.val (.int .i64 (List.getD d_2 (Int.toNat i_16) ((0 : Int), ((0 : Int), ByteArray.empty))).1), .val (.int .i64 (List.getD d_2 (Int.toNat i_16) ((0 : Int), ((0 : Int), ByteArray.empty))).2.1), .val (.string (List.getD d_2 (Int.toNat i_16) ((0 : Int), ((0 : Int), ByteArray.empty))).2.2)])], 2⟩ [((List.getD d_2 (Int.toNat i_16) ((0 : Int), ((0 : Int), ByteArray.empty))).1 != (0 : Int)) = false, ((List.getD d_2 (Int.toNat i_16) ((0 : Int), ((0 : Int), ByteArray.empty))).2.1 != (0 : Int)) = false, (decide (i_16 > (0 : Int))) = true, text_14 = false, (decide ((((ByteArray.size (List.getD d_2 (Int.toNat i_16) ((0 : Int), ((0 : Int), ByteArray.empty))).2.2) : Nat) : Int) > (IntKind.wrap .i64 ((20000 : Int) - size_15)))) = false] (by kernel_rfl) rfl rfl (ap2 b_24 (ap2 b_26 (ap2 b_28 (ap2 b_29 (ap1 b_31))))) (by kernel_rfl) (by kernel_rfl) ?_
                      have H_120 := Option.some.inj (show some (!r_33) = some q_101 from H_119); subst H_120
                      refine VL_nil ?_
                      exact QP_end (!r_33) rfl [(0, 0), (1, 1)] hn (by kernel_rfl) (by kernel_rfl) rfl rfl rfl
                · have H_112 := of_f H_109 b_28
                  rcases Bool.eq_false_or_eq_true ((decide ((((ByteArray.size (List.getD d_2 (Int.toNat i_16) ((0 : Int), ((0 : Int), ByteArray.empty))).2.2) : Nat) : Int) > (IntKind.wrap .i64 ((20000 : Int) - size_15))))) with b_36 | b_36
                  · have H_121 := of_t H_112 b_36
                    refine V_reg hN hn [] [(40, false), (45, false), (48, false), (60, true)] calls_nil 2 [1, 3, 5, 6, 7, 65] [0, 1] ⟨[(1, .c (.h 0)), (3, .c (.val (.int .i64 last_13))), (5, .c (.val (.int .i64 size_15))), (6, .c (.val (.int .i64 i_16))), (7, .c (.h 1)), (65, .c (.val (.bool true)))], [(0, .box [.val (.int .i64 d_1), .imm (.slice (.pair (.int .i64) (.pair (.int .i64) .str))) d_2]), (1, .box [.val (.int .i64 (List.getD d_2 (Int.toNat i_16) ((0 : Int), ((0 : Int), ByteArray.empty))).1), .val (.int .i64 (List.getD d_2 (Int.toNat i_16) ((0 : Int), ((0 : Int), ByteArray.empty))).2.1), .val (.string (List.getD d_2 (Int.toNat i_16) ((0 : Int), ((0 : Int), ByteArray.empty))).2.2)])], 2⟩ [((List.getD d_2 (Int.toNat i_16) ((0 : Int), ((0 : Int), ByteArray.empty))).1 != (0 : Int)) = false, ((List.getD d_2 (Int.toNat i_16) ((0 : Int), ((0 : Int), ByteArray.empty))).2.1 != (0 : Int)) = false, (decide (i_16 > (0 : Int))) = false, (decide ((((ByteArray.size (List.getD d_2 (Int.toNat i_16) ((0 : Int), ((0 : Int), ByteArray.empty))).2.2) : Nat) : Int) > (IntKind.wrap .i64 ((20000 : Int) - size_15)))) = true] (by kernel_rfl) rfl rfl (ap2 b_24 (ap2 b_26 (ap2 b_28 (ap1 b_36)))) (by kernel_rfl) (by kernel_rfl) ?_
                    have H_123 := Option.some.inj (show some true = some q_101 from H_121); subst H_123
                    refine VL_nil ?_
                    exact QP_end true rfl [(0, 0), (1, 1)] hn (by kernel_rfl) (by kernel_rfl) rfl rfl rfl
                  · have H_122 := of_f H_112 b_36
                    obtain ⟨r_38, h_39, H_124⟩ := of_bind H_122
                    refine V_reg hN hn [(26, ⟨23, 0, [.c (.val (.string (List.getD d_2 (Int.toNat i_16) ((0 : Int), ((0 : Int), ByteArray.empty))).2.2))], [], .c (.val (.bool r_38)), [], [], 2⟩)] [(40, false), (45, false), (48, false), (60, false)] (calls_cons (palinoderef1_Valid_spec K (List.getD d_2 (Int.toNat i_16) ((0 : Int), ((0 : Int), ByteArray.empty))).2.2 r_38 h_39) (by kernel_rfl) calls_nil) 2 [1, 3, 5, 6, 7, 65] [0, 1] ⟨[(1, .c (.h 0)), (3, .c (.val (.int .i64 last_13))), (5, .c (.val (.int .i64 size_15))), (6, .c (.val (.int .i64 i_16))), (7, .c (.h 1)), (65, .c (.val (.bool (!r_38))))], [(0, .box [.val (.int .i64 d_1), .imm (.slice (.pair (.int .i64) (.pair (.int .i64) .str))) d_2]), (1, .box [.val (.int .i64 (List.getD d_2 (Int.toNat i_16) ((0 : Int), ((0 : Int), ByteArray.empty))).1), .val (.int .i64 (List.getD d_2 (Int.toNat i_16) ((0 : Int), ((0 : Int), ByteArray.empty))).2.1), .val (.string (List.getD d_2 (Int.toNat i_16) ((0 : Int), ((0 : Int), ByteArray.empty))).2.2)])], 2⟩ [((List.getD d_2 (Int.toNat i_16) ((0 : Int), ((0 : Int), ByteArray.empty))).1 != (0 : Int)) = false, ((List.getD d_2 (Int.toNat i_16) ((0 : Int), ((0 : Int), ByteArray.empty))).2.1 != (0 : Int)) = false, (decide (i_16 > (0 : Int))) = false, (decide ((((ByteArray.size (List.getD d_2 (Int.toNat i_16) ((0 : Int), ((0 : Int), ByteArray.empty))).2.2) : Nat) : Int) > (IntKind.wrap .i64 ((20000 : Int) - size_15)))) = false] (by kernel_rfl) rfl rfl (ap2 b_24 (ap2 b_26 (ap2 b_28 (ap1 b_36)))) (by kernel_rfl) (by kernel_rfl) ?_
                    have H_125 := Option.some.inj (show some (!r_38) = some q_101 from H_124); subst H_125
                    refine VL_nil ?_
                    exact QP_end (!r_38) rfl [(0, 0), (1, 1)] hn (by kernel_rfl) (by kernel_rfl) rfl rfl rfl
          · intro y_104 hy; subst hy
            skip
            skip
            refine VL_cond (y_104) (by kernel_rfl) ?_ ?_
            · intro b_42; have H_126 := of_t H_103 b_42
              refine V_run hN hn 2 2 [2] [] ⟨[(2, .c (.val (.bool false)))], [], 2⟩ [] (by kernel_rfl) rfl rfl ap0 ?_
              have H_128 := Option.some.inj (show some false = some r from H_126); subst H_128
              refine VL_ret ?_
              refine QB_ret ?_
              refine QL_ret ?_
              refine QB_ret ?_
              exact P_to [(2, .c (.val (.bool false)))] [] [] hn (by kernel_rfl) (by kernel_rfl) rfl rfl rfl (QF_retS (by kernel_rfl) (by kernel_rfl) rfl)
            · intro b_42; have H_127 := of_f H_103 b_42
              refine V_run hN hn 5 2 [1, 3, 4, 5, 6] [0] ⟨[(1, .c (.h 0)), (3, .c (.val (.int .i64 last_13))), (4, .c (.val (.bool true))), (5, .c (.val (.int .i64 (IntKind.wrap .i64 (size_15 + (((ByteArray.size (List.getD d_2 (Int.toNat i_16) ((0 : Int), ((0 : Int), ByteArray.empty))).2.2) : Nat) : Int)))))), (6, .c (.val (.int .i64 i_16)))], [(0, .box [.val (.int .i64 d_1), .imm (.slice (.pair (.int .i64) (.pair (.int .i64) .str))) d_2])], 2⟩ [] (by kernel_rfl) rfl rfl ap0 ?_
              refine VL_exit ?_
              refine QB_here ?_
              refine V_run hN hn 1 2 [1, 3, 4, 5, 6] [0] ⟨[(1, .c (.h 0)), (3, .c (.val (.int .i64 last_13))), (4, .c (.val (.bool true))), (5, .c (.val (.int .i64 (IntKind.wrap .i64 (size_15 + (((ByteArray.size (List.getD d_2 (Int.toNat i_16) ((0 : Int), ((0 : Int), ByteArray.empty))).2.2) : Nat) : Int)))))), (6, .c (.val (.int .i64 (IntKind.wrap .i64 (i_16 + (1 : Int))))))], [(0, .box [.val (.int .i64 d_1), .imm (.slice (.pair (.int .i64) (.pair (.int .i64) .str))) d_2])], 2⟩ [] (by kernel_rfl) rfl rfl ap0 ?_
              refine VL_nil ?_
              exact V_roundEnd (last_13, true, (IntKind.wrap .i64 (size_15 + (((ByteArray.size (List.getD d_2 (Int.toNat i_16) ((0 : Int), ((0 : Int), ByteArray.empty))).2.2) : Nat) : Int))), (IntKind.wrap .i64 (i_16 + (1 : Int)))) H_127 [(0, 0)] hn (by kernel_rfl) (by kernel_rfl) rfl rfl rfl
        · intro b_22; have H_100 := of_f H_98 b_22
          refine V_run hN hn 3 2 [1, 3, 4, 5, 6, 7, 36] [0, 1] ⟨[(1, .c (.h 0)), (3, .c (.val (.int .i64 last_13))), (4, .c (.val (.bool text_14))), (5, .c (.val (.int .i64 size_15))), (6, .c (.val (.int .i64 i_16))), (7, .c (.h 1)), (36, .c (.val (.bool (!(ByteArray.toList (List.getD d_2 (Int.toNat i_16) ((0 : Int), ((0 : Int), ByteArray.empty))).2.2 == ByteArray.toList (ByteArray.mk #[]))))))], [(0, .box [.val (.int .i64 d_1), .imm (.slice (.pair (.int .i64) (.pair (.int .i64) .str))) d_2]), (1, .box [.val (.int .i64 (List.getD d_2 (Int.toNat i_16) ((0 : Int), ((0 : Int), ByteArray.empty))).1), .val (.int .i64 (List.getD d_2 (Int.toNat i_16) ((0 : Int), ((0 : Int), ByteArray.empty))).2.1), .val (.string (List.getD d_2 (Int.toNat i_16) ((0 : Int), ((0 : Int), ByteArray.empty))).2.2)])], 2⟩ [] (by kernel_rfl) rfl rfl ap0 ?_
          obtain ⟨q_129, H_130, H_131⟩ := of_bind H_100
          refine V_cut (Y := Bool) (R := Bool) q_129 (fun y => y) (fun y => [(1, .c (.h 0)), (5, .c (.val (.int .i64 size_15))), (6, .c (.val (.int .i64 i_16))), (7, .c (.h 1)), (112, .c (.val (.bool y)))]) (fun y => [(0, .box [.val (.int .i64 d_1), .imm (.slice (.pair (.int .i64) (.pair (.int .i64) .str))) d_2]), (1, .box [.val (.int .i64 (List.getD d_2 (Int.toNat i_16) ((0 : Int), ((0 : Int), ByteArray.empty))).1), .val (.int .i64 (List.getD d_2 (Int.toNat i_16) ((0 : Int), ((0 : Int), ByteArray.empty))).2.1), .val (.string (List.getD d_2 (Int.toNat i_16) ((0 : Int), ((0 : Int), ByteArray.empty))).2.2)])]) ?_ ?_
          · skip
            rcases Bool.eq_false_or_eq_true ((decide ((List.getD d_2 (Int.toNat i_16) ((0 : Int), ((0 : Int), ByteArray.empty))).1 < last_13))) with b_47 | b_47
            · have H_133 := of_t H_130 b_47
              refine V_reg hN hn [] [(75, true)] calls_nil 2 [1, 5, 6, 7, 112] [0, 1] ⟨[(1, .c (.h 0)), (5, .c (.val (.int .i64 size_15))), (6, .c (.val (.int .i64 i_16))), (7, .c (.h 1)), (112, .c (.val (.bool true)))], [(0, .box [.val (.int .i64 d_1), .imm (.slice (.pair (.int .i64) (.pair (.int .i64) .str))) d_2]), (1, .box [.val (.int .i64 (List.getD d_2 (Int.toNat i_16) ((0 : Int), ((0 : Int), ByteArray.empty))).1), .val (.int .i64 (List.getD d_2 (Int.toNat i_16) ((0 : Int), ((0 : Int), ByteArray.empty))).2.1), .val (.string (List.getD d_2 (Int.toNat i_16) ((0 : Int), ((0 : Int), ByteArray.empty))).2.2)])], 2⟩ [(decide ((List.getD d_2 (Int.toNat i_16) ((0 : Int), ((0 : Int), ByteArray.empty))).1 < last_13)) = true] (by kernel_rfl) rfl rfl (ap1 b_47) (by kernel_rfl) (by kernel_rfl) ?_
              have H_135 := Option.some.inj (show some true = some q_129 from H_133); subst H_135
              refine VL_nil ?_
              exact QP_end true rfl [(0, 0), (1, 1)] hn (by kernel_rfl) (by kernel_rfl) rfl rfl rfl
            · have H_134 := of_f H_130 b_47
              rcases Bool.eq_false_or_eq_true ((decide (i_16 > (0 : Int)))) with b_49 | b_49
              · have H_136 := of_t H_134 b_49
                rcases Bool.eq_false_or_eq_true ((!text_14)) with b_50 | b_50
                · have H_138 := of_t H_136 b_50
                  rcases Bool.eq_false_or_eq_true (((List.getD d_2 (Int.toNat i_16) ((0 : Int), ((0 : Int), ByteArray.empty))).1 == last_13)) with b_51 | b_51
                  · have H_140 := of_t H_138 b_51
                    refine V_reg hN hn [] [(75, false), (78, true), (82, true), (89, true)] calls_nil 2 [1, 5, 6, 7, 112] [0, 1] ⟨[(1, .c (.h 0)), (5, .c (.val (.int .i64 size_15))), (6, .c (.val (.int .i64 i_16))), (7, .c (.h 1)), (112, .c (.val (.bool true)))], [(0, .box [.val (.int .i64 d_1), .imm (.slice (.pair (.int .i64) (.pair (.int .i64) .str))) d_2]), (1, .box [.val (.int .i64 (List.getD d_2 (Int.toNat i_16) ((0 : Int), ((0 : Int), ByteArray.empty))).1), .val (.int .i64 (List.getD d_2 (Int.toNat i_16) ((0 : Int), ((0 : Int), ByteArray.empty))).2.1), .val (.string (List.getD d_2 (Int.toNat i_16) ((0 : Int), ((0 : Int), ByteArray.empty))).2.2)])], 2⟩ [(decide ((List.getD d_2 (Int.toNat i_16) ((0 : Int), ((0 : Int), ByteArray.empty))).1 < last_13)) = false, (decide (i_16 > (0 : Int))) = true, (!text_14) = true, ((List.getD d_2 (Int.toNat i_16) ((0 : Int), ((0 : Int), ByteArray.empty))).1 == last_13) = true] (by kernel_rfl) rfl rfl (ap2 b_47 (ap2 b_49 (ap2 b_50 (ap1 b_51)))) (by kernel_rfl) (by kernel_rfl) ?_
                    have H_142 := Option.some.inj (show some true = some q_129 from H_140); subst H_142
                    refine VL_nil ?_
                    exact QP_end true rfl [(0, 0), (1, 1)] hn (by kernel_rfl) (by kernel_rfl) rfl rfl rfl
                  · have H_141 := of_f H_138 b_51
                    rcases Bool.eq_false_or_eq_true ((decide ((List.getD d_2 (Int.toNat i_16) ((0 : Int), ((0 : Int), ByteArray.empty))).2.1 ≤ (List.getD d_2 (Int.toNat i_16) ((0 : Int), ((0 : Int), ByteArray.empty))).1))) with b_53 | b_53
                    · have H_143 := of_t H_141 b_53
                      refine V_reg hN hn [] [(75, false), (78, true), (82, true), (89, false), (96, true)] calls_nil 2 [1, 5, 6, 7, 112] [0, 1] ⟨[(1, .c (.h 0)), (5, .c (.val (.int .i64 size_15))), (6, .c (.val (.int .i64 i_16))), (7, .c (.h 1)), (112, .c (.val (.bool true)))], [(0, .box [.val (.int .i64 d_1), .imm (.slice (.pair (.int .i64) (.pair (.int .i64) .str))) d_2]), (1, .box [.val (.int .i64 (List.getD d_2 (Int.toNat i_16) ((0 : Int), ((0 : Int), ByteArray.empty))).1), .val (.int .i64 (List.getD d_2 (Int.toNat i_16) ((0 : Int), ((0 : Int), ByteArray.empty))).2.1), .val (.string (List.getD d_2 (Int.toNat i_16) ((0 : Int), ((0 : Int), ByteArray.empty))).2.2)])], 2⟩ [(decide ((List.getD d_2 (Int.toNat i_16) ((0 : Int), ((0 : Int), ByteArray.empty))).1 < last_13)) = false, (decide (i_16 > (0 : Int))) = true, (!text_14) = true, ((List.getD d_2 (Int.toNat i_16) ((0 : Int), ((0 : Int), ByteArray.empty))).1 == last_13) = false, (decide ((List.getD d_2 (Int.toNat i_16) ((0 : Int), ((0 : Int), ByteArray.empty))).2.1 ≤ (List.getD d_2 (Int.toNat i_16) ((0 : Int), ((0 : Int), ByteArray.empty))).1)) = true] (by kernel_rfl) rfl rfl (ap2 b_47 (ap2 b_49 (ap2 b_50 (ap2 b_51 (ap1 b_53))))) (by kernel_rfl) (by kernel_rfl) ?_
                      have H_145 := Option.some.inj (show some true = some q_129 from H_143); subst H_145
                      refine VL_nil ?_
                      exact QP_end true rfl [(0, 0), (1, 1)] hn (by kernel_rfl) (by kernel_rfl) rfl rfl rfl
                    · have H_144 := of_f H_141 b_53
                      rcases Bool.eq_false_or_eq_true ((decide ((List.getD d_2 (Int.toNat i_16) ((0 : Int), ((0 : Int), ByteArray.empty))).2.1 > d_1))) with b_55 | b_55
                      · have H_146 := of_t H_144 b_55
                        refine V_reg hN hn [] [(75, false), (78, true), (82, true), (89, false), (96, false), (103, true)] calls_nil 2 [1, 5, 6, 7, 112] [0, 1] ⟨[(1, .c (.h 0)), (5, .c (.val (.int .i64 size_15))), (6, .c (.val (.int .i64 i_16))), (7, .c (.h 1)), (112, .c (.val (.bool true)))], [(0, .box [.val (.int .i64 d_1), .imm (.slice (.pair (.int .i64) (.pair (.int .i64) .str))) d_2]), (1, .box [.val (.int .i64 (List.getD d_2 (Int.toNat i_16) ((0 : Int), ((0 : Int), ByteArray.empty))).1), .val (.int .i64 (List.getD d_2 (Int.toNat i_16) ((0 : Int), ((0 : Int), ByteArray.empty))).2.1), .val (.string (List.getD d_2 (Int.toNat i_16) ((0 : Int), ((0 : Int), ByteArray.empty))).2.2)])], 2⟩ [(decide ((List.getD d_2 (Int.toNat i_16) ((0 : Int), ((0 : Int), ByteArray.empty))).1 < last_13)) = false, (decide (i_16 > (0 : Int))) = true, (!text_14) = true, ((List.getD d_2 (Int.toNat i_16) ((0 : Int), ((0 : Int), ByteArray.empty))).1 == last_13) = false, (decide ((List.getD d_2 (Int.toNat i_16) ((0 : Int), ((0 : Int), ByteArray.empty))).2.1 ≤ (List.getD d_2 (Int.toNat i_16) ((0 : Int), ((0 : Int), ByteArray.empty))).1)) = false, (decide ((List.getD d_2 (Int.toNat i_16) ((0 : Int), ((0 : Int), ByteArray.empty))).2.1 > d_1)) = true] (by kernel_rfl) rfl rfl (ap2 b_47 (ap2 b_49 (ap2 b_50 (ap2 b_51 (ap2 b_53 (ap1 b_55)))))) (by kernel_rfl) (by kernel_rfl) ?_
                        have H_148 := Option.some.inj (show some true = some q_129 from H_146); subst H_148
                        refine VL_nil ?_
                        exact QP_end true rfl [(0, 0), (1, 1)] hn (by kernel_rfl) (by kernel_rfl) rfl rfl rfl
                      · have H_147 := of_f H_144 b_55
                        refine V_reg hN hn [] [(75, false), (78, true), (82, true), (89, false), (96, false), (103, false)] calls_nil 2 [1, 5, 6, 7, 112] [0, 1] ⟨[(1, .c (.h 0)), (5, .c (.val (.int .i64 size_15))), (6, .c (.val (.int .i64 i_16))), (7, .c (.h 1)), (112, .c (.val (.bool (decide ((IntKind.wrap .i64 ((List.getD d_2 (Int.toNat i_16) ((0 : Int), ((0 : Int), ByteArray.empty))).2.1 - (List.getD d_2 (Int.toNat i_16) ((0 : Int), ((0 : Int), ByteArray.empty))).1)) > (IntKind.wrap .i64 ((20000 : Int) - size_15)))))))], [(0, .box [.val (.int .i64 d_1), .imm (.slice (.pair (.int .i64) (.pair (.int .i64) .str))) d_2]), (1, .box [.val (.int .i64 (List.getD d_2 (Int.toNat i_16) ((0 : Int), ((0 : Int), ByteArray.empty))).1), .val (.int .i64 (List.getD d_2 (Int.toNat i_16) ((0 : Int), ((0 : Int), ByteArray.empty))).2.1), .val (.string (List.getD d_2 (Int.toNat i_16) ((0 : Int), ((0 : Int), ByteArray.empty))).2.2)])], 2⟩ [(decide ((List.getD d_2 (Int.toNat i_16) ((0 : Int), ((0 : Int), ByteArray.empty))).1 < last_13)) = false, (decide (i_16 > (0 : Int))) = true, (!text_14) = true, ((List.getD d_2 (Int.toNat i_16) ((0 : Int), ((0 : Int), ByteArray.empty))).1 == last_13) = false, (decide ((List.getD d_2 (Int.toNat i_16) ((0 : Int), ((0 : Int), ByteArray.empty))).2.1 ≤ (List.getD d_2 (Int.toNat i_16) ((0 : Int), ((0 : Int), ByteArray.empty))).1)) = false, (decide ((List.getD d_2 (Int.toNat i_16) ((0 : Int), ((0 : Int), ByteArray.empty))).2.1 > d_1)) = false] (by kernel_rfl) rfl rfl (ap2 b_47 (ap2 b_49 (ap2 b_50 (ap2 b_51 (ap2 b_53 (ap1 b_55)))))) (by kernel_rfl) (by kernel_rfl) ?_
                        have H_149 := Option.some.inj (show some (decide ((IntKind.wrap .i64 ((List.getD d_2 (Int.toNat i_16) ((0 : Int), ((0 : Int), ByteArray.empty))).2.1 - (List.getD d_2 (Int.toNat i_16) ((0 : Int), ((0 : Int), ByteArray.empty))).1)) > (IntKind.wrap .i64 ((20000 : Int) - size_15)))) = some q_129 from H_147); subst H_149
                        refine VL_nil ?_
                        exact QP_end (decide ((IntKind.wrap .i64 ((List.getD d_2 (Int.toNat i_16) ((0 : Int), ((0 : Int), ByteArray.empty))).2.1 - (List.getD d_2 (Int.toNat i_16) ((0 : Int), ((0 : Int), ByteArray.empty))).1)) > (IntKind.wrap .i64 ((20000 : Int) - size_15)))) rfl [(0, 0), (1, 1)] hn (by kernel_rfl) (by kernel_rfl) rfl rfl rfl
                · have H_139 := of_f H_136 b_50
                  rcases Bool.eq_false_or_eq_true ((decide ((List.getD d_2 (Int.toNat i_16) ((0 : Int), ((0 : Int), ByteArray.empty))).2.1 ≤ (List.getD d_2 (Int.toNat i_16) ((0 : Int), ((0 : Int), ByteArray.empty))).1))) with b_58 | b_58
                  · have H_150 := of_t H_139 b_58
                    refine V_reg hN hn [] [(75, false), (78, true), (82, false), (96, true)] calls_nil 2 [1, 5, 6, 7, 112] [0, 1] ⟨[(1, .c (.h 0)), (5, .c (.val (.int .i64 size_15))), (6, .c (.val (.int .i64 i_16))), (7, .c (.h 1)), (112, .c (.val (.bool true)))], [(0, .box [.val (.int .i64 d_1), .imm (.slice (.pair (.int .i64) (.pair (.int .i64) .str))) d_2]), (1, .box [.val (.int .i64 (List.getD d_2 (Int.toNat i_16) ((0 : Int), ((0 : Int), ByteArray.empty))).1), .val (.int .i64 (List.getD d_2 (Int.toNat i_16) ((0 : Int), ((0 : Int), ByteArray.empty))).2.1), .val (.string (List.getD d_2 (Int.toNat i_16) ((0 : Int), ((0 : Int), ByteArray.empty))).2.2)])], 2⟩ [(decide ((List.getD d_2 (Int.toNat i_16) ((0 : Int), ((0 : Int), ByteArray.empty))).1 < last_13)) = false, (decide (i_16 > (0 : Int))) = true, (!text_14) = false, (decide ((List.getD d_2 (Int.toNat i_16) ((0 : Int), ((0 : Int), ByteArray.empty))).2.1 ≤ (List.getD d_2 (Int.toNat i_16) ((0 : Int), ((0 : Int), ByteArray.empty))).1)) = true] (by kernel_rfl) rfl rfl (ap2 b_47 (ap2 b_49 (ap2 b_50 (ap1 b_58)))) (by kernel_rfl) (by kernel_rfl) ?_
                    have H_152 := Option.some.inj (show some true = some q_129 from H_150); subst H_152
                    refine VL_nil ?_
                    exact QP_end true rfl [(0, 0), (1, 1)] hn (by kernel_rfl) (by kernel_rfl) rfl rfl rfl
                  · have H_151 := of_f H_139 b_58
                    rcases Bool.eq_false_or_eq_true ((decide ((List.getD d_2 (Int.toNat i_16) ((0 : Int), ((0 : Int), ByteArray.empty))).2.1 > d_1))) with b_60 | b_60
                    · have H_153 := of_t H_151 b_60
                      refine V_reg hN hn [] [(75, false), (78, true), (82, false), (96, false), (103, true)] calls_nil 2 [1, 5, 6, 7, 112] [0, 1] ⟨[(1, .c (.h 0)), (5, .c (.val (.int .i64 size_15))), (6, .c (.val (.int .i64 i_16))), (7, .c (.h 1)), (112, .c (.val (.bool true)))], [(0, .box [.val (.int .i64 d_1), .imm (.slice (.pair (.int .i64) (.pair (.int .i64) .str))) d_2]), (1, .box [.val (.int .i64 (List.getD d_2 (Int.toNat i_16) ((0 : Int), ((0 : Int), ByteArray.empty))).1), .val (.int .i64 (List.getD d_2 (Int.toNat i_16) ((0 : Int), ((0 : Int), ByteArray.empty))).2.1), .val (.string (List.getD d_2 (Int.toNat i_16) ((0 : Int), ((0 : Int), ByteArray.empty))).2.2)])], 2⟩ [(decide ((List.getD d_2 (Int.toNat i_16) ((0 : Int), ((0 : Int), ByteArray.empty))).1 < last_13)) = false, (decide (i_16 > (0 : Int))) = true, (!text_14) = false, (decide ((List.getD d_2 (Int.toNat i_16) ((0 : Int), ((0 : Int), ByteArray.empty))).2.1 ≤ (List.getD d_2 (Int.toNat i_16) ((0 : Int), ((0 : Int), ByteArray.empty))).1)) = false, (decide ((List.getD d_2 (Int.toNat i_16) ((0 : Int), ((0 : Int), ByteArray.empty))).2.1 > d_1)) = true] (by kernel_rfl) rfl rfl (ap2 b_47 (ap2 b_49 (ap2 b_50 (ap2 b_58 (ap1 b_60))))) (by kernel_rfl) (by kernel_rfl) ?_
                      have H_155 := Option.some.inj (show some true = some q_129 from H_153); subst H_155
                      refine VL_nil ?_
                      exact QP_end true rfl [(0, 0), (1, 1)] hn (by kernel_rfl) (by kernel_rfl) rfl rfl rfl
                    · have H_154 := of_f H_151 b_60
                      refine V_reg hN hn [] [(75, false), (78, true), (82, false), (96, false), (103, false)] calls_nil 2 [1, 5, 6, 7, 112] [0, 1] ⟨[(1, .c (.h 0)), (5, .c (.val (.int .i64 size_15))), (6, .c (.val (.int .i64 i_16))), (7, .c (.h 1)), (112, .c (.val (.bool (decide ((IntKind.wrap .i64 ((List.getD d_2 (Int.toNat i_16) ((0 : Int), ((0 : Int), ByteArray.empty))).2.1 - (List.getD d_2 (Int.toNat i_16) ((0 : Int), ((0 : Int), ByteArray.empty))).1)) > (IntKind.wrap .i64 ((20000 : Int) - size_15)))))))], [(0, .box [.val (.int .i64 d_1), .imm (.slice (.pair (.int .i64) (.pair (.int .i64) .str))) d_2]), (1, .box [.val (.int .i64 (List.getD d_2 (Int.toNat i_16) ((0 : Int), ((0 : Int), ByteArray.empty))).1), .val (.int .i64 (List.getD d_2 (Int.toNat i_16) ((0 : Int), ((0 : Int), ByteArray.empty))).2.1), .val (.string (List.getD d_2 (Int.toNat i_16) ((0 : Int), ((0 : Int), ByteArray.empty))).2.2)])], 2⟩ [(decide ((List.getD d_2 (Int.toNat i_16) ((0 : Int), ((0 : Int), ByteArray.empty))).1 < last_13)) = false, (decide (i_16 > (0 : Int))) = true, (!text_14) = false, (decide ((List.getD d_2 (Int.toNat i_16) ((0 : Int), ((0 : Int), ByteArray.empty))).2.1 ≤ (List.getD d_2 (Int.toNat i_16) ((0 : Int), ((0 : Int), ByteArray.empty))).1)) = false, (decide ((List.getD d_2 (Int.toNat i_16) ((0 : Int), ((0 : Int), ByteArray.empty))).2.1 > d_1)) = false] (by kernel_rfl) rfl rfl (ap2 b_47 (ap2 b_49 (ap2 b_50 (ap2 b_58 (ap1 b_60))))) (by kernel_rfl) (by kernel_rfl) ?_
                      have H_156 := Option.some.inj (show some (decide ((IntKind.wrap .i64 ((List.getD d_2 (Int.toNat i_16) ((0 : Int), ((0 : Int), ByteArray.empty))).2.1 - (List.getD d_2 (Int.toNat i_16) ((0 : Int), ((0 : Int), ByteArray.empty))).1)) > (IntKind.wrap .i64 ((20000 : Int) - size_15)))) = some q_129 from H_154); subst H_156
                      refine VL_nil ?_
                      exact QP_end (decide ((IntKind.wrap .i64 ((List.getD d_2 (Int.toNat i_16) ((0 : Int), ((0 : Int), ByteArray.empty))).2.1 - (List.getD d_2 (Int.toNat i_16) ((0 : Int), ((0 : Int), ByteArray.empty))).1)) > (IntKind.wrap .i64 ((20000 : Int) - size_15)))) rfl [(0, 0), (1, 1)] hn (by kernel_rfl) (by kernel_rfl) rfl rfl rfl
              · have H_137 := of_f H_134 b_49
                rcases Bool.eq_false_or_eq_true ((decide ((List.getD d_2 (Int.toNat i_16) ((0 : Int), ((0 : Int), ByteArray.empty))).2.1 ≤ (List.getD d_2 (Int.toNat i_16) ((0 : Int), ((0 : Int), ByteArray.empty))).1))) with b_63 | b_63
                · have H_157 := of_t H_137 b_63
                  refine V_reg hN hn [] [(75, false), (78, false), (96, true)] calls_nil 2 [1, 5, 6, 7, 112] [0, 1] ⟨[(1, .c (.h 0)), (5, .c (.val (.int .i64 size_15))), (6, .c (.val (.int .i64 i_16))), (7, .c (.h 1)), (112, .c (.val (.bool true)))], [(0, .box [.val (.int .i64 d_1), .imm (.slice (.pair (.int .i64) (.pair (.int .i64) .str))) d_2]), (1, .box [.val (.int .i64 (List.getD d_2 (Int.toNat i_16) ((0 : Int), ((0 : Int), ByteArray.empty))).1), .val (.int .i64 (List.getD d_2 (Int.toNat i_16) ((0 : Int), ((0 : Int), ByteArray.empty))).2.1), .val (.string (List.getD d_2 (Int.toNat i_16) ((0 : Int), ((0 : Int), ByteArray.empty))).2.2)])], 2⟩ [(decide ((List.getD d_2 (Int.toNat i_16) ((0 : Int), ((0 : Int), ByteArray.empty))).1 < last_13)) = false, (decide (i_16 > (0 : Int))) = false, (decide ((List.getD d_2 (Int.toNat i_16) ((0 : Int), ((0 : Int), ByteArray.empty))).2.1 ≤ (List.getD d_2 (Int.toNat i_16) ((0 : Int), ((0 : Int), ByteArray.empty))).1)) = true] (by kernel_rfl) rfl rfl (ap2 b_47 (ap2 b_49 (ap1 b_63))) (by kernel_rfl) (by kernel_rfl) ?_
                  have H_159 := Option.some.inj (show some true = some q_129 from H_157); subst H_159
                  refine VL_nil ?_
                  exact QP_end true rfl [(0, 0), (1, 1)] hn (by kernel_rfl) (by kernel_rfl) rfl rfl rfl
                · have H_158 := of_f H_137 b_63
                  rcases Bool.eq_false_or_eq_true ((decide ((List.getD d_2 (Int.toNat i_16) ((0 : Int), ((0 : Int), ByteArray.empty))).2.1 > d_1))) with b_65 | b_65
                  · have H_160 := of_t H_158 b_65
                    refine V_reg hN hn [] [(75, false), (78, false), (96, false), (103, true)] calls_nil 2 [1, 5, 6, 7, 112] [0, 1] ⟨[(1, .c (.h 0)), (5, .c (.val (.int .i64 size_15))), (6, .c (.val (.int .i64 i_16))), (7, .c (.h 1)), (112, .c (.val (.bool true)))], [(0, .box [.val (.int .i64 d_1), .imm (.slice (.pair (.int .i64) (.pair (.int .i64) .str))) d_2]), (1, .box [.val (.int .i64 (List.getD d_2 (Int.toNat i_16) ((0 : Int), ((0 : Int), ByteArray.empty))).1), .val (.int .i64 (List.getD d_2 (Int.toNat i_16) ((0 : Int), ((0 : Int), ByteArray.empty))).2.1), .val (.string (List.getD d_2 (Int.toNat i_16) ((0 : Int), ((0 : Int), ByteArray.empty))).2.2)])], 2⟩ [(decide ((List.getD d_2 (Int.toNat i_16) ((0 : Int), ((0 : Int), ByteArray.empty))).1 < last_13)) = false, (decide (i_16 > (0 : Int))) = false, (decide ((List.getD d_2 (Int.toNat i_16) ((0 : Int), ((0 : Int), ByteArray.empty))).2.1 ≤ (List.getD d_2 (Int.toNat i_16) ((0 : Int), ((0 : Int), ByteArray.empty))).1)) = false, (decide ((List.getD d_2 (Int.toNat i_16) ((0 : Int), ((0 : Int), ByteArray.empty))).2.1 > d_1)) = true] (by kernel_rfl) rfl rfl (ap2 b_47 (ap2 b_49 (ap2 b_63 (ap1 b_65)))) (by kernel_rfl) (by kernel_rfl) ?_
                    have H_162 := Option.some.inj (show some true = some q_129 from H_160); subst H_162
                    refine VL_nil ?_
                    exact QP_end true rfl [(0, 0), (1, 1)] hn (by kernel_rfl) (by kernel_rfl) rfl rfl rfl
                  · have H_161 := of_f H_158 b_65
                    refine V_reg hN hn [] [(75, false), (78, false), (96, false), (103, false)] calls_nil 2 [1, 5, 6, 7, 112] [0, 1] ⟨[(1, .c (.h 0)), (5, .c (.val (.int .i64 size_15))), (6, .c (.val (.int .i64 i_16))), (7, .c (.h 1)), (112, .c (.val (.bool (decide ((IntKind.wrap .i64 ((List.getD d_2 (Int.toNat i_16) ((0 : Int), ((0 : Int), ByteArray.empty))).2.1 - (List.getD d_2 (Int.toNat i_16) ((0 : Int), ((0 : Int), ByteArray.empty))).1)) > (IntKind.wrap .i64 ((20000 : Int) - size_15)))))))], [(0, .box [.val (.int .i64 d_1), .imm (.slice (.pair (.int .i64) (.pair (.int .i64) .str))) d_2]), (1, .box [.val (.int .i64 (List.getD d_2 (Int.toNat i_16) ((0 : Int), ((0 : Int), ByteArray.empty))).1), .val (.int .i64 (List.getD d_2 (Int.toNat i_16) ((0 : Int), ((0 : Int), ByteArray.empty))).2.1), .val (.string (List.getD d_2 (Int.toNat i_16) ((0 : Int), ((0 : Int), ByteArray.empty))).2.2)])], 2⟩ [(decide ((List.getD d_2 (Int.toNat i_16) ((0 : Int), ((0 : Int), ByteArray.empty))).1 < last_13)) = false, (decide (i_16 > (0 : Int))) = false, (decide ((List.getD d_2 (Int.toNat i_16) ((0 : Int), ((0 : Int), ByteArray.empty))).2.1 ≤ (List.getD d_2 (Int.toNat i_16) ((0 : Int), ((0 : Int), ByteArray.empty))).1)) = false, (decide ((List.getD d_2 (Int.toNat i_16) ((0 : Int), ((0 : Int), ByteArray.empty))).2.1 > d_1)) = false] (by kernel_rfl) rfl rfl (ap2 b_47 (ap2 b_49 (ap2 b_63 (ap1 b_65)))) (by kernel_rfl) (by kernel_rfl) ?_
                    have H_163 := Option.some.inj (show some (decide ((IntKind.wrap .i64 ((List.getD d_2 (Int.toNat i_16) ((0 : Int), ((0 : Int), ByteArray.empty))).2.1 - (List.getD d_2 (Int.toNat i_16) ((0 : Int), ((0 : Int), ByteArray.empty))).1)) > (IntKind.wrap .i64 ((20000 : Int) - size_15)))) = some q_129 from H_161); subst H_163
                    refine VL_nil ?_
                    exact QP_end (decide ((IntKind.wrap .i64 ((List.getD d_2 (Int.toNat i_16) ((0 : Int), ((0 : Int), ByteArray.empty))).2.1 - (List.getD d_2 (Int.toNat i_16) ((0 : Int), ((0 : Int), ByteArray.empty))).1)) > (IntKind.wrap .i64 ((20000 : Int) - size_15)))) rfl [(0, 0), (1, 1)] hn (by kernel_rfl) (by kernel_rfl) rfl rfl rfl
          · intro y_132 hy; subst hy
            skip
            skip
            refine VL_cond (y_132) (by kernel_rfl) ?_ ?_
            · intro b_69; have H_164 := of_t H_131 b_69
              refine V_run hN hn 2 2 [2] [] ⟨[(2, .c (.val (.bool false)))], [], 2⟩ [] (by kernel_rfl) rfl rfl ap0 ?_
              have H_166 := Option.some.inj (show some false = some r from H_164); subst H_166
              refine VL_ret ?_
              refine QB_ret ?_
              refine QL_ret ?_
              refine QB_ret ?_
              exact P_to [(2, .c (.val (.bool false)))] [] [] hn (by kernel_rfl) (by kernel_rfl) rfl rfl rfl (QF_retS (by kernel_rfl) (by kernel_rfl) rfl)
            · intro b_69; have H_165 := of_f H_131 b_69
              refine V_run hN hn 4 2 [1, 3, 4, 5, 6] [0] ⟨[(1, .c (.h 0)), (3, .c (.val (.int .i64 (List.getD d_2 (Int.toNat i_16) ((0 : Int), ((0 : Int), ByteArray.empty))).2.1))), (4, .c (.val (.bool false))), (5, .c (.val (.int .i64 (IntKind.wrap .i64 ((IntKind.wrap .i64 (size_15 + (List.getD d_2 (Int.toNat i_16) ((0 : Int), ((0 : Int), ByteArray.empty))).2.1)) - (List.getD d_2 (Int.toNat i_16) ((0 : Int), ((0 : Int), ByteArray.empty))).1))))), (6, .c (.val (.int .i64 i_16)))], [(0, .box [.val (.int .i64 d_1), .imm (.slice (.pair (.int .i64) (.pair (.int .i64) .str))) d_2])], 2⟩ [] (by kernel_rfl) rfl rfl ap0 ?_
              refine VL_nil (QB_end ?_)
              refine V_run hN hn 1 2 [1, 3, 4, 5, 6] [0] ⟨[(1, .c (.h 0)), (3, .c (.val (.int .i64 (List.getD d_2 (Int.toNat i_16) ((0 : Int), ((0 : Int), ByteArray.empty))).2.1))), (4, .c (.val (.bool false))), (5, .c (.val (.int .i64 (IntKind.wrap .i64 ((IntKind.wrap .i64 (size_15 + (List.getD d_2 (Int.toNat i_16) ((0 : Int), ((0 : Int), ByteArray.empty))).2.1)) - (List.getD d_2 (Int.toNat i_16) ((0 : Int), ((0 : Int), ByteArray.empty))).1))))), (6, .c (.val (.int .i64 (IntKind.wrap .i64 (i_16 + (1 : Int))))))], [(0, .box [.val (.int .i64 d_1), .imm (.slice (.pair (.int .i64) (.pair (.int .i64) .str))) d_2])], 2⟩ [] (by kernel_rfl) rfl rfl ap0 ?_
              refine VL_nil ?_
              exact V_roundEnd ((List.getD d_2 (Int.toNat i_16) ((0 : Int), ((0 : Int), ByteArray.empty))).2.1, false, (IntKind.wrap .i64 ((IntKind.wrap .i64 (size_15 + (List.getD d_2 (Int.toNat i_16) ((0 : Int), ((0 : Int), ByteArray.empty))).2.1)) - (List.getD d_2 (Int.toNat i_16) ((0 : Int), ((0 : Int), ByteArray.empty))).1)), (IntKind.wrap .i64 (i_16 + (1 : Int)))) H_165 [(0, 0)] hn (by kernel_rfl) (by kernel_rfl) rfl rfl rfl
      · intro b_19; have H_97 := of_f H_95 b_19
        refine VL_exit ?_
        refine QL_exit ?_
        refine QB_here ?_
        refine V_run hN hn 2 1 [2] [] ⟨[(2, .c (.val (.bool true)))], [], 1⟩ [] (by kernel_rfl) rfl rfl ap0 ?_
        have H_167 := Option.some.inj (show some true = some r from H_97); subst H_167
        refine VL_ret ?_
        exact P_to [(2, .c (.val (.bool true)))] [] [] hn (by kernel_rfl) (by kernel_rfl) rfl rfl rfl (QF_retS (by kernel_rfl) (by kernel_rfl) rfl)

theorem palinoderef11_Kept_spec (K : Nat) (d_1 : Int) (d_2 : (List (Int × (Int × ByteArray)))) (r : (List Bool)) (H : palinoderef11_Kept K d_1 d_2 = some r) : Spec Try.prog 11 0 [.agg [.val (.int .i64 d_1), .imm (.slice (.pair (.int .i64) (.pair (.int .i64) .str))) d_2]] [] (.c (.h 1)) [(1, .row .bool r)] := by
  refine Spec_mk (fn := Try.f11) (c := (Try.f11.body).get!) Try.func11 (by kernel_rfl) rfl ?_
  intro C hN hn
  replace hN : C.N = 36 := hN
  unfold palinoderef11_Kept at H
  obtain ⟨c_3, H_53⟩ := of_if H
  refine V_run hN hn 7 0 [1, 3, 4] [0, 1] ⟨[(1, .c (.h 0)), (3, .c (.h 1)), (4, .c (.val (.int .i64 (0 : Int))))], [(0, .box [.val (.int .i64 d_1), .imm (.slice (.pair (.int .i64) (.pair (.int .i64) .str))) d_2]), (1, .row .bool (List.replicate (Int.toNat d_1) false))], 2⟩ [(0 : Int) ≤ d_1, d_1 ≤ d_1, d_1 * 1 ≤ (140737488355328 : Int), d_1 ≤ (9223372036854775807 : Int)] (by kernel_rfl) rfl rfl (ap2 c_3.1 (ap2 c_3.2.1 (ap2 c_3.2.2.1 (ap1 c_3.2.2.2)))) ?_
  refine VL_block ?_
  refine V_to [(1, .c (.h 0)), (3, .c (.h 1)), (4, .c (.val (.int .i64 (0 : Int))))] [(0, .box [.val (.int .i64 d_1), .imm (.slice (.pair (.int .i64) (.pair (.int .i64) .str))) d_2]), (1, .row .bool (List.replicate (Int.toNat d_1) false))] [(0, 0), (1, 1)] hn (by kernel_rfl) (by kernel_rfl) rfl rfl rfl ?_
  refine VL_loop (X := ((List Bool) × Int)) (fun x => [(1, .c (.h 0)), (3, .c (.h 1)), (4, .c (.val (.int .i64 x.2)))]) (fun x => [(0, .box [.val (.int .i64 d_1), .imm (.slice (.pair (.int .i64) (.pair (.int .i64) .str))) d_2]), (1, .row .bool x.1)]) (fun k x => palinoderef11_Kept.l0 K d_2 k x.1 x.2 = some r) K ((List.replicate (Int.toNat d_1) false), (0 : Int)) H_53 (fun _ h => no_none h) ?_
  intro k_28 x_28 H_54
  obtain ⟨out_27, i_4⟩ := x_28
  have H_55 : palinoderef11_Kept.l0 K d_2 (k_28 + 1) out_27 i_4 = some r := H_54
  rw [palinoderef11_Kept.l0] at H_55
  refine V_run hN hn 3 2 [1, 3, 4, 13] [0, 1] ⟨[(1, .c (.h 0)), (3, .c (.h 1)), (4, .c (.val (.int .i64 i_4))), (13, .c (.val (.bool (decide (i_4 < (((List.length d_2) : Nat) : Int))))))], [(0, .box [.val (.int .i64 d_1), .imm (.slice (.pair (.int .i64) (.pair (.int .i64) .str))) d_2]), (1, .row .bool out_27)], 2⟩ [] (by kernel_rfl) rfl rfl ap0 ?_
  refine VL_cond ((decide (i_4 < (((List.length d_2) : Nat) : Int)))) (by kernel_rfl) ?_ ?_
  · intro b_30; have H_56 := of_t H_55 b_30
    refine V_run hN hn 2 2 [1, 3, 4, 13] [0, 1] ⟨[(1, .c (.h 0)), (3, .c (.h 1)), (4, .c (.val (.int .i64 i_4))), (13, .c (.val (.bool (decide (i_4 < (((List.length d_2) : Nat) : Int))))))], [(0, .box [.val (.int .i64 d_1), .imm (.slice (.pair (.int .i64) (.pair (.int .i64) .str))) d_2]), (1, .row .bool out_27)], 2⟩ [] (by kernel_rfl) rfl rfl ap0 ?_
    obtain ⟨q_58, H_59, H_60⟩ := of_bind H_56
    refine V_cut (Y := (List Bool)) (R := (List Bool)) q_58 (fun y => y) (fun y => [(1, .c (.h 0)), (3, .c (.h 1)), (4, .c (.val (.int .i64 i_4)))]) (fun y => [(0, .box [.val (.int .i64 d_1), .imm (.slice (.pair (.int .i64) (.pair (.int .i64) .str))) d_2]), (1, .row .bool y)]) ?_ ?_
    · skip
      refine VL_block ?_
      obtain ⟨c_32, H_62⟩ := of_if H_59
      refine V_run hN hn 2 2 [1, 3, 4, 5] [0, 1] ⟨[(1, .c (.h 0)), (3, .c (.h 1)), (4, .c (.val (.int .i64 i_4))), (5, .c (.val (.int .i64 (List.getD d_2 (Int.toNat i_4) ((0 : Int), ((0 : Int), ByteArray.empty))).1)))], [(0, .box [.val (.int .i64 d_1), .imm (.slice (.pair (.int .i64) (.pair (.int .i64) .str))) d_2]), (1, .row .bool out_27)], 2⟩ [0 ≤ i_4, i_4 < (((List.length d_2) : Nat) : Int)] (by kernel_rfl) rfl rfl (ap2 c_32.1 (ap1 c_32.2)) ?_
      refine VL_block ?_
      refine V_to [(1, .c (.h 0)), (3, .c (.h 1)), (4, .c (.val (.int .i64 i_4))), (5, .c (.val (.int .i64 (List.getD d_2 (Int.toNat i_4) ((0 : Int), ((0 : Int), ByteArray.empty))).1)))] [(0, .box [.val (.int .i64 d_1), .imm (.slice (.pair (.int .i64) (.pair (.int .i64) .str))) d_2]), (1, .row .bool out_27)] [(0, 0), (1, 1)] hn (by kernel_rfl) (by kernel_rfl) rfl rfl rfl ?_
      refine VL_loop (X := ((List Bool) × Int)) (fun x => [(1, .c (.h 0)), (3, .c (.h 1)), (4, .c (.val (.int .i64 i_4))), (5, .c (.val (.int .i64 x.2)))]) (fun x => [(0, .box [.val (.int .i64 d_1), .imm (.slice (.pair (.int .i64) (.pair (.int .i64) .str))) d_2]), (1, .row .bool x.1)]) (fun k x => palinoderef11_Kept.l1 K d_2 i_4 k x.1 x.2 = some q_58) K (out_27, (List.getD d_2 (Int.toNat i_4) ((0 : Int), ((0 : Int), ByteArray.empty))).1) H_62 (fun _ h => no_none h) ?_
      intro k_41 x_41 H_63
      obtain ⟨out_40, k_33⟩ := x_41
      have H_64 : palinoderef11_Kept.l1 K d_2 i_4 (k_41 + 1) out_40 k_33 = some q_58 := H_63
      rw [palinoderef11_Kept.l1] at H_64
      refine V_run hN hn 3 2 [1, 3, 4, 5, 29] [0, 1] ⟨[(1, .c (.h 0)), (3, .c (.h 1)), (4, .c (.val (.int .i64 i_4))), (5, .c (.val (.int .i64 k_33))), (29, .c (.val (.bool (decide (k_33 < (List.getD d_2 (Int.toNat i_4) ((0 : Int), ((0 : Int), ByteArray.empty))).2.1)))))], [(0, .box [.val (.int .i64 d_1), .imm (.slice (.pair (.int .i64) (.pair (.int .i64) .str))) d_2]), (1, .row .bool out_40)], 2⟩ [0 ≤ i_4, i_4 < (((List.length d_2) : Nat) : Int)] (by kernel_rfl) rfl rfl (ap2 c_32.1 (ap1 c_32.2)) ?_
      refine VL_cond ((decide (k_33 < (List.getD d_2 (Int.toNat i_4) ((0 : Int), ((0 : Int), ByteArray.empty))).2.1))) (by kernel_rfl) ?_ ?_
      · intro b_43; have H_65 := of_t H_64 b_43
        refine V_run hN hn 2 2 [1, 3, 4, 5, 29] [0, 1] ⟨[(1, .c (.h 0)), (3, .c (.h 1)), (4, .c (.val (.int .i64 i_4))), (5, .c (.val (.int .i64 k_33))), (29, .c (.val (.bool (decide (k_33 < (List.getD d_2 (Int.toNat i_4) ((0 : Int), ((0 : Int), ByteArray.empty))).2.1)))))], [(0, .box [.val (.int .i64 d_1), .imm (.slice (.pair (.int .i64) (.pair (.int .i64) .str))) d_2]), (1, .row .bool out_40)], 2⟩ [] (by kernel_rfl) rfl rfl ap0 ?_
        refine VL_block ?_
        obtain ⟨c_45, H_67⟩ := of_if H_65
        refine V_run hN hn 1 2 [1, 3, 4, 5] [0, 1] ⟨[(1, .c (.h 0)), (3, .c (.h 1)), (4, .c (.val (.int .i64 i_4))), (5, .c (.val (.int .i64 k_33)))], [(0, .box [.val (.int .i64 d_1), .imm (.slice (.pair (.int .i64) (.pair (.int .i64) .str))) d_2]), (1, .row .bool (List.set out_40 (Int.toNat k_33) true))], 2⟩ [0 ≤ k_33, k_33 < (((List.length out_40) : Nat) : Int)] (by kernel_rfl) rfl rfl (ap2 c_45.1 (ap1 c_45.2)) ?_
        refine VL_nil (QB_end ?_)
        refine V_run hN hn 1 2 [1, 3, 4, 5] [0, 1] ⟨[(1, .c (.h 0)), (3, .c (.h 1)), (4, .c (.val (.int .i64 i_4))), (5, .c (.val (.int .i64 (IntKind.wrap .i64 (k_33 + (1 : Int))))))], [(0, .box [.val (.int .i64 d_1), .imm (.slice (.pair (.int .i64) (.pair (.int .i64) .str))) d_2]), (1, .row .bool (List.set out_40 (Int.toNat k_33) true))], 2⟩ [] (by kernel_rfl) rfl rfl ap0 ?_
        refine VL_nil ?_
        exact V_roundEnd ((List.set out_40 (Int.toNat k_33) true), (IntKind.wrap .i64 (k_33 + (1 : Int)))) H_67 [(0, 0), (1, 1)] hn (by kernel_rfl) (by kernel_rfl) rfl rfl rfl
      · intro b_43; have H_66 := of_f H_64 b_43
        refine VL_exit ?_
        refine QL_exit ?_
        refine QB_here ?_
        refine VL_nil (QB_end ?_)
        have H_68 := Option.some.inj (show some out_40 = some q_58 from H_66); subst H_68
        refine VL_nil ?_
        exact QP_end out_40 rfl [(0, 0), (1, 1)] hn (by kernel_rfl) (by kernel_rfl) rfl rfl rfl
    · intro y_61 hy; subst hy
      skip
      skip
      refine V_run hN hn 1 2 [1, 3, 4] [0, 1] ⟨[(1, .c (.h 0)), (3, .c (.h 1)), (4, .c (.val (.int .i64 (IntKind.wrap .i64 (i_4 + (1 : Int))))))], [(0, .box [.val (.int .i64 d_1), .imm (.slice (.pair (.int .i64) (.pair (.int .i64) .str))) d_2]), (1, .row .bool y_61)], 2⟩ [] (by kernel_rfl) rfl rfl ap0 ?_
      refine VL_nil ?_
      exact V_roundEnd (y_61, (IntKind.wrap .i64 (i_4 + (1 : Int)))) H_60 [(0, 0), (1, 1)] hn (by kernel_rfl) (by kernel_rfl) rfl rfl rfl
  · intro b_30; have H_57 := of_f H_55 b_30
    refine VL_exit ?_
    refine QL_exit ?_
    refine QB_here ?_
    refine V_run hN hn 2 2 [2] [1] ⟨[(2, .c (.h 1))], [(1, .row .bool out_27)], 2⟩ [] (by kernel_rfl) rfl rfl ap0 ?_
    have H_69 := Option.some.inj (show some out_27 = some r from H_57); subst H_69
    refine VL_ret ?_
    exact P_to [(2, .c (.h 1))] [(1, .row .bool out_27)] [(1, 1)] hn (by kernel_rfl) (by kernel_rfl) rfl rfl rfl (QF_retS (by kernel_rfl) (by kernel_rfl) rfl)

theorem palinoderef11_Cells_spec (K : Nat) (d_1 : Int) (d_2 : (List (Int × (Int × ByteArray)))) (r : (List (Int × Int))) (H : palinoderef11_Cells K d_1 d_2 = some r) : Spec Try.prog 26 0 [.agg [.val (.int .i64 d_1), .imm (.slice (.pair (.int .i64) (.pair (.int .i64) .str))) d_2]] [] (.c (.h 9)) [(9, .row (.pair (.int .i64) (.int .u8)) r)] := by
  refine Spec_mk (fn := Try.f26) (c := (Try.f26.body).get!) Try.func26 (by kernel_rfl) rfl ?_
  intro C hN hn
  replace hN : C.N = 49 := hN
  unfold palinoderef11_Cells at H
  refine V_run hN hn 7 0 [1, 3, 4] [0] ⟨[(1, .c (.h 0)), (3, .c (.val (.slice none 0 0))), (4, .c (.val (.int .i64 (0 : Int))))], [(0, .box [.val (.int .i64 d_1), .imm (.slice (.pair (.int .i64) (.pair (.int .i64) .str))) d_2])], 1⟩ [] (by kernel_rfl) rfl rfl ap0 ?_
  refine VL_block ?_
  refine V_ghost [.nilSlot 3 (.pair (.int .i64) (.int .u8))] 1 hn [1, 3, 4] [0, 1] ⟨[(1, .c (.h 0)), (3, .c (.h 1)), (4, .c (.val (.int .i64 (0 : Int))))], [(0, .box [.val (.int .i64 d_1), .imm (.slice (.pair (.int .i64) (.pair (.int .i64) .str))) d_2]), (1, .row (.pair (.int .i64) (.int .u8)) ([] : List (Int × Int)))], 2⟩ (by kernel_rfl) rfl rfl ?_
  refine V_to [(1, .c (.h 0)), (3, .c (.h 9)), (4, .c (.val (.int .i64 (0 : Int))))] [(0, .box [.val (.int .i64 d_1), .imm (.slice (.pair (.int .i64) (.pair (.int .i64) .str))) d_2]), (9, .row (.pair (.int .i64) (.int .u8)) ([] : List (Int × Int)))] [(0, 0), (9, 1)] hn (by kernel_rfl) (by kernel_rfl) rfl rfl rfl ?_
  refine VL_loop (X := ((List (Int × Int)) × Int)) (fun x => [(1, .c (.h 0)), (3, .c (.h 9)), (4, .c (.val (.int .i64 x.2)))]) (fun x => [(0, .box [.val (.int .i64 d_1), .imm (.slice (.pair (.int .i64) (.pair (.int .i64) .str))) d_2]), (9, .row (.pair (.int .i64) (.int .u8)) x.1)]) (fun k x => palinoderef11_Cells.l0 K d_2 k x.1 x.2 = some r) K (([] : List (Int × Int)), (0 : Int)) H (fun _ h => no_none h) ?_
  intro k_44 x_44 H_87
  obtain ⟨out_43, i_4⟩ := x_44
  have H_88 : palinoderef11_Cells.l0 K d_2 (k_44 + 1) out_43 i_4 = some r := H_87
  rw [palinoderef11_Cells.l0] at H_88
  refine V_run hN hn 3 10 [1, 3, 4, 12] [0, 9] ⟨[(1, .c (.h 0)), (3, .c (.h 9)), (4, .c (.val (.int .i64 i_4))), (12, .c (.val (.bool (decide (i_4 < (((List.length d_2) : Nat) : Int))))))], [(0, .box [.val (.int .i64 d_1), .imm (.slice (.pair (.int .i64) (.pair (.int .i64) .str))) d_2]), (9, .row (.pair (.int .i64) (.int .u8)) out_43)], 10⟩ [] (by kernel_rfl) rfl rfl ap0 ?_
  refine VL_cond ((decide (i_4 < (((List.length d_2) : Nat) : Int)))) (by kernel_rfl) ?_ ?_
  · intro b_46; have H_89 := of_t H_88 b_46
    refine V_run hN hn 2 10 [1, 3, 4, 12] [0, 9] ⟨[(1, .c (.h 0)), (3, .c (.h 9)), (4, .c (.val (.int .i64 i_4))), (12, .c (.val (.bool (decide (i_4 < (((List.length d_2) : Nat) : Int))))))], [(0, .box [.val (.int .i64 d_1), .imm (.slice (.pair (.int .i64) (.pair (.int .i64) .str))) d_2]), (9, .row (.pair (.int .i64) (.int .u8)) out_43)], 10⟩ [] (by kernel_rfl) rfl rfl ap0 ?_
    obtain ⟨q_91, H_92, H_93⟩ := of_bind H_89
    refine V_cut (Y := (List (Int × Int))) (R := (List (Int × Int))) q_91 (fun y => y) (fun y => [(1, .c (.h 0)), (3, .c (.h 16)), (4, .c (.val (.int .i64 i_4)))]) (fun y => [(0, .box [.val (.int .i64 d_1), .imm (.slice (.pair (.int .i64) (.pair (.int .i64) .str))) d_2]), (16, .row (.pair (.int .i64) (.int .u8)) y)]) ?_ ?_
    · skip
      refine VL_block ?_
      obtain ⟨c_48, H_95⟩ := of_if H_92
      refine V_run hN hn 5 10 [1, 3, 4, 5, 6] [0, 9, 10] ⟨[(1, .c (.h 0)), (3, .c (.h 9)), (4, .c (.val (.int .i64 i_4))), (5, .c (.h 10)), (6, .c (.val (.int .i64 (0 : Int))))], [(0, .box [.val (.int .i64 d_1), .imm (.slice (.pair (.int .i64) (.pair (.int .i64) .str))) d_2]), (9, .row (.pair (.int .i64) (.int .u8)) out_43), (10, .box [.val (.int .i64 (List.getD d_2 (Int.toNat i_4) ((0 : Int), ((0 : Int), ByteArray.empty))).1), .val (.int .i64 (List.getD d_2 (Int.toNat i_4) ((0 : Int), ((0 : Int), ByteArray.empty))).2.1), .val (.string (List.getD d_2 (Int.toNat i_4) ((0 : Int), ((0 : Int), ByteArray.empty))).2.2)])], 11⟩ [0 ≤ i_4, i_4 < (((List.length d_2) : Nat) : Int)] (by kernel_rfl) rfl rfl (ap2 c_48.1 (ap1 c_48.2)) ?_
      obtain ⟨q_96, H_97, H_98⟩ := of_bind H_95
      refine V_cut (Y := (List (Int × Int))) (R := (List (Int × Int))) q_96 (fun y => y) (fun y => [(1, .c (.h 0)), (3, .c (.h 13)), (4, .c (.val (.int .i64 i_4))), (5, .c (.h 10))]) (fun y => [(0, .box [.val (.int .i64 d_1), .imm (.slice (.pair (.int .i64) (.pair (.int .i64) .str))) d_2]), (10, .box [.val (.int .i64 (List.getD d_2 (Int.toNat i_4) ((0 : Int), ((0 : Int), ByteArray.empty))).1), .val (.int .i64 (List.getD d_2 (Int.toNat i_4) ((0 : Int), ((0 : Int), ByteArray.empty))).2.1), .val (.string (List.getD d_2 (Int.toNat i_4) ((0 : Int), ((0 : Int), ByteArray.empty))).2.2)]), (13, .row (.pair (.int .i64) (.int .u8)) y)]) ?_ ?_
      · skip
        refine VL_block ?_
        refine V_to [(1, .c (.h 0)), (3, .c (.h 13)), (4, .c (.val (.int .i64 i_4))), (5, .c (.h 10)), (6, .c (.val (.int .i64 (0 : Int))))] [(0, .box [.val (.int .i64 d_1), .imm (.slice (.pair (.int .i64) (.pair (.int .i64) .str))) d_2]), (10, .box [.val (.int .i64 (List.getD d_2 (Int.toNat i_4) ((0 : Int), ((0 : Int), ByteArray.empty))).1), .val (.int .i64 (List.getD d_2 (Int.toNat i_4) ((0 : Int), ((0 : Int), ByteArray.empty))).2.1), .val (.string (List.getD d_2 (Int.toNat i_4) ((0 : Int), ((0 : Int), ByteArray.empty))).2.2)]), (13, .row (.pair (.int .i64) (.int .u8)) out_43)] [(0, 0), (10, 10), (13, 9)] hn (by kernel_rfl) (by kernel_rfl) rfl rfl rfl ?_
        refine VL_loop (X := ((List (Int × Int)) × Int)) (fun x => [(1, .c (.h 0)), (3, .c (.h 13)), (4, .c (.val (.int .i64 i_4))), (5, .c (.h 10)), (6, .c (.val (.int .i64 x.2)))]) (fun x => [(0, .box [.val (.int .i64 d_1), .imm (.slice (.pair (.int .i64) (.pair (.int .i64) .str))) d_2]), (10, .box [.val (.int .i64 (List.getD d_2 (Int.toNat i_4) ((0 : Int), ((0 : Int), ByteArray.empty))).1), .val (.int .i64 (List.getD d_2 (Int.toNat i_4) ((0 : Int), ((0 : Int), ByteArray.empty))).2.1), .val (.string (List.getD d_2 (Int.toNat i_4) ((0 : Int), ((0 : Int), ByteArray.empty))).2.2)]), (13, .row (.pair (.int .i64) (.int .u8)) x.1)]) (fun k x => palinoderef11_Cells.l1 K d_2 i_4 k x.1 x.2 = some q_96) K (out_43, (0 : Int)) H_97 (fun _ h => no_none h) ?_
        intro k_57 x_57 H_100
        obtain ⟨out_56, k_49⟩ := x_57
        have H_101 : palinoderef11_Cells.l1 K d_2 i_4 (k_57 + 1) out_56 k_49 = some q_96 := H_100
        rw [palinoderef11_Cells.l1] at H_101
        refine V_run hN hn 3 14 [1, 3, 4, 5, 6, 24] [0, 10, 13] ⟨[(1, .c (.h 0)), (3, .c (.h 13)), (4, .c (.val (.int .i64 i_4))), (5, .c (.h 10)), (6, .c (.val (.int .i64 k_49))), (24, .c (.val (.bool (decide (k_49 < (((ByteArray.size (List.getD d_2 (Int.toNat i_4) ((0 : Int), ((0 : Int), ByteArray.empty))).2.2) : Nat) : Int))))))], [(0, .box [.val (.int .i64 d_1), .imm (.slice (.pair (.int .i64) (.pair (.int .i64) .str))) d_2]), (10, .box [.val (.int .i64 (List.getD d_2 (Int.toNat i_4) ((0 : Int), ((0 : Int), ByteArray.empty))).1), .val (.int .i64 (List.getD d_2 (Int.toNat i_4) ((0 : Int), ((0 : Int), ByteArray.empty))).2.1), .val (.string (List.getD d_2 (Int.toNat i_4) ((0 : Int), ((0 : Int), ByteArray.empty))).2.2)]), (13, .row (.pair (.int .i64) (.int .u8)) out_56)], 14⟩ [] (by kernel_rfl) rfl rfl ap0 ?_
        refine VL_cond ((decide (k_49 < (((ByteArray.size (List.getD d_2 (Int.toNat i_4) ((0 : Int), ((0 : Int), ByteArray.empty))).2.2) : Nat) : Int)))) (by kernel_rfl) ?_ ?_
        · intro b_59; have H_102 := of_t H_101 b_59
          refine V_run hN hn 2 14 [1, 3, 4, 5, 6, 24] [0, 10, 13] ⟨[(1, .c (.h 0)), (3, .c (.h 13)), (4, .c (.val (.int .i64 i_4))), (5, .c (.h 10)), (6, .c (.val (.int .i64 k_49))), (24, .c (.val (.bool (decide (k_49 < (((ByteArray.size (List.getD d_2 (Int.toNat i_4) ((0 : Int), ((0 : Int), ByteArray.empty))).2.2) : Nat) : Int))))))], [(0, .box [.val (.int .i64 d_1), .imm (.slice (.pair (.int .i64) (.pair (.int .i64) .str))) d_2]), (10, .box [.val (.int .i64 (List.getD d_2 (Int.toNat i_4) ((0 : Int), ((0 : Int), ByteArray.empty))).1), .val (.int .i64 (List.getD d_2 (Int.toNat i_4) ((0 : Int), ((0 : Int), ByteArray.empty))).2.1), .val (.string (List.getD d_2 (Int.toNat i_4) ((0 : Int), ((0 : Int), ByteArray.empty))).2.2)]), (13, .row (.pair (.int .i64) (.int .u8)) out_56)], 14⟩ [] (by kernel_rfl) rfl rfl ap0 ?_
          refine VL_block ?_
          obtain ⟨c_61, H_104⟩ := of_if H_102
          refine V_run hN hn 1 14 [1, 3, 4, 5, 6] [0, 10, 15] ⟨[(1, .c (.h 0)), (3, .c (.h 15)), (4, .c (.val (.int .i64 i_4))), (5, .c (.h 10)), (6, .c (.val (.int .i64 k_49)))], [(0, .box [.val (.int .i64 d_1), .imm (.slice (.pair (.int .i64) (.pair (.int .i64) .str))) d_2]), (10, .box [.val (.int .i64 (List.getD d_2 (Int.toNat i_4) ((0 : Int), ((0 : Int), ByteArray.empty))).1), .val (.int .i64 (List.getD d_2 (Int.toNat i_4) ((0 : Int), ((0 : Int), ByteArray.empty))).2.1), .val (.string (List.getD d_2 (Int.toNat i_4) ((0 : Int), ((0 : Int), ByteArray.empty))).2.2)]), (15, .row (.pair (.int .i64) (.int .u8)) (out_56 ++ ([((-1 : Int), (bt (List.getD d_2 (Int.toNat i_4) ((0 : Int), ((0 : Int), ByteArray.empty))).2.2 k_49))] : List (Int × Int))))], 16⟩ [0 ≤ k_49, k_49 < (((ByteArray.size (List.getD d_2 (Int.toNat i_4) ((0 : Int), ((0 : Int), ByteArray.empty))).2.2) : Nat) : Int), (List.length out_56 + List.length ([((-1 : Int), (bt (List.getD d_2 (Int.toNat i_4) ((0 : Int), ((0 : Int), ByteArray.empty))).2.2 k_49))] : List (Int × Int))) * 16 ≤ 140737488355328] (by kernel_rfl) rfl rfl (ap2 c_61.1 (ap2 c_61.2.1 (ap1 c_61.2.2))) ?_
          refine VL_nil (QB_end ?_)
          refine V_run hN hn 1 16 [1, 3, 4, 5, 6] [0, 10, 15] ⟨[(1, .c (.h 0)), (3, .c (.h 15)), (4, .c (.val (.int .i64 i_4))), (5, .c (.h 10)), (6, .c (.val (.int .i64 (IntKind.wrap .i64 (k_49 + (1 : Int))))))], [(0, .box [.val (.int .i64 d_1), .imm (.slice (.pair (.int .i64) (.pair (.int .i64) .str))) d_2]), (10, .box [.val (.int .i64 (List.getD d_2 (Int.toNat i_4) ((0 : Int), ((0 : Int), ByteArray.empty))).1), .val (.int .i64 (List.getD d_2 (Int.toNat i_4) ((0 : Int), ((0 : Int), ByteArray.empty))).2.1), .val (.string (List.getD d_2 (Int.toNat i_4) ((0 : Int), ((0 : Int), ByteArray.empty))).2.2)]), (15, .row (.pair (.int .i64) (.int .u8)) (out_56 ++ ([((-1 : Int), (bt (List.getD d_2 (Int.toNat i_4) ((0 : Int), ((0 : Int), ByteArray.empty))).2.2 k_49))] : List (Int × Int))))], 16⟩ [] (by kernel_rfl) rfl rfl ap0 ?_
          refine VL_nil ?_
          exact V_roundEnd ((out_56 ++ ([((-1 : Int), (bt (List.getD d_2 (Int.toNat i_4) ((0 : Int), ((0 : Int), ByteArray.empty))).2.2 k_49))] : List (Int × Int))), (IntKind.wrap .i64 (k_49 + (1 : Int)))) H_104 [(0, 0), (10, 10), (13, 15)] hn (by kernel_rfl) (by kernel_rfl) rfl rfl rfl
        · intro b_59; have H_103 := of_f H_101 b_59
          refine VL_exit ?_
          refine QL_exit ?_
          refine QB_here ?_
          have H_105 := Option.some.inj (show some out_56 = some q_96 from H_103); subst H_105
          refine VL_nil ?_
          exact QP_end out_56 rfl [(0, 0), (10, 10), (13, 13)] hn (by kernel_rfl) (by kernel_rfl) rfl rfl rfl
      · intro y_99 hy; subst hy
        skip
        skip
        refine V_run hN hn 2 14 [1, 3, 4, 5, 7] [0, 10, 13] ⟨[(1, .c (.h 0)), (3, .c (.h 13)), (4, .c (.val (.int .i64 i_4))), (5, .c (.h 10)), (7, .c (.val (.int .i64 (List.getD d_2 (Int.toNat i_4) ((0 : Int), ((0 : Int), ByteArray.empty))).1)))], [(0, .box [.val (.int .i64 d_1), .imm (.slice (.pair (.int .i64) (.pair (.int .i64) .str))) d_2]), (10, .box [.val (.int .i64 (List.getD d_2 (Int.toNat i_4) ((0 : Int), ((0 : Int), ByteArray.empty))).1), .val (.int .i64 (List.getD d_2 (Int.toNat i_4) ((0 : Int), ((0 : Int), ByteArray.empty))).2.1), .val (.string (List.getD d_2 (Int.toNat i_4) ((0 : Int), ((0 : Int), ByteArray.empty))).2.2)]), (13, .row (.pair (.int .i64) (.int .u8)) y_99)], 14⟩ [] (by kernel_rfl) rfl rfl ap0 ?_
        refine VL_block ?_
        refine V_to [(1, .c (.h 0)), (3, .c (.h 16)), (4, .c (.val (.int .i64 i_4))), (5, .c (.h 10)), (7, .c (.val (.int .i64 (List.getD d_2 (Int.toNat i_4) ((0 : Int), ((0 : Int), ByteArray.empty))).1)))] [(0, .box [.val (.int .i64 d_1), .imm (.slice (.pair (.int .i64) (.pair (.int .i64) .str))) d_2]), (10, .box [.val (.int .i64 (List.getD d_2 (Int.toNat i_4) ((0 : Int), ((0 : Int), ByteArray.empty))).1), .val (.int .i64 (List.getD d_2 (Int.toNat i_4) ((0 : Int), ((0 : Int), ByteArray.empty))).2.1), .val (.string (List.getD d_2 (Int.toNat i_4) ((0 : Int), ((0 : Int), ByteArray.empty))).2.2)]), (16, .row (.pair (.int .i64) (.int .u8)) y_99)] [(0, 0), (10, 10), (16, 13)] hn (by kernel_rfl) (by kernel_rfl) rfl rfl rfl ?_
        refine VL_loop (X := ((List (Int × Int)) × Int)) (fun x => [(1, .c (.h 0)), (3, .c (.h 16)), (4, .c (.val (.int .i64 i_4))), (5, .c (.h 10)), (7, .c (.val (.int .i64 x.2)))]) (fun x => [(0, .box [.val (.int .i64 d_1), .imm (.slice (.pair (.int .i64) (.pair (.int .i64) .str))) d_2]), (10, .box [.val (.int .i64 (List.getD d_2 (Int.toNat i_4) ((0 : Int), ((0 : Int), ByteArray.empty))).1), .val (.int .i64 (List.getD d_2 (Int.toNat i_4) ((0 : Int), ((0 : Int), ByteArray.empty))).2.1), .val (.string (List.getD d_2 (Int.toNat i_4) ((0 : Int), ((0 : Int), ByteArray.empty))).2.2)]), (16, .row (.pair (.int .i64) (.int .u8)) x.1)]) (fun k x => palinoderef11_Cells.l2 K d_2 i_4 k x.1 x.2 = some q_91) K (y_99, (List.getD d_2 (Int.toNat i_4) ((0 : Int), ((0 : Int), ByteArray.empty))).1) H_98 (fun _ h => no_none h) ?_
        intro k_73 x_73 H_106
        obtain ⟨out_72, k_65⟩ := x_73
        have H_107 : palinoderef11_Cells.l2 K d_2 i_4 (k_73 + 1) out_72 k_65 = some q_91 := H_106
        rw [palinoderef11_Cells.l2] at H_107
        refine V_run hN hn 3 17 [1, 3, 4, 5, 7, 40] [0, 10, 16] ⟨[(1, .c (.h 0)), (3, .c (.h 16)), (4, .c (.val (.int .i64 i_4))), (5, .c (.h 10)), (7, .c (.val (.int .i64 k_65))), (40, .c (.val (.bool (decide (k_65 < (List.getD d_2 (Int.toNat i_4) ((0 : Int), ((0 : Int), ByteArray.empty))).2.1)))))], [(0, .box [.val (.int .i64 d_1), .imm (.slice (.pair (.int .i64) (.pair (.int .i64) .str))) d_2]), (10, .box [.val (.int .i64 (List.getD d_2 (Int.toNat i_4) ((0 : Int), ((0 : Int), ByteArray.empty))).1), .val (.int .i64 (List.getD d_2 (Int.toNat i_4) ((0 : Int), ((0 : Int), ByteArray.empty))).2.1), .val (.string (List.getD d_2 (Int.toNat i_4) ((0 : Int), ((0 : Int), ByteArray.empty))).2.2)]), (16, .row (.pair (.int .i64) (.int .u8)) out_72)], 17⟩ [] (by kernel_rfl) rfl rfl ap0 ?_
        refine VL_cond ((decide (k_65 < (List.getD d_2 (Int.toNat i_4) ((0 : Int), ((0 : Int), ByteArray.empty))).2.1))) (by kernel_rfl) ?_ ?_
        · intro b_75; have H_108 := of_t H_107 b_75
          refine V_run hN hn 2 17 [1, 3, 4, 5, 7, 40] [0, 10, 16] ⟨[(1, .c (.h 0)), (3, .c (.h 16)), (4, .c (.val (.int .i64 i_4))), (5, .c (.h 10)), (7, .c (.val (.int .i64 k_65))), (40, .c (.val (.bool (decide (k_65 < (List.getD d_2 (Int.toNat i_4) ((0 : Int), ((0 : Int), ByteArray.empty))).2.1)))))], [(0, .box [.val (.int .i64 d_1), .imm (.slice (.pair (.int .i64) (.pair (.int .i64) .str))) d_2]), (10, .box [.val (.int .i64 (List.getD d_2 (Int.toNat i_4) ((0 : Int), ((0 : Int), ByteArray.empty))).1), .val (.int .i64 (List.getD d_2 (Int.toNat i_4) ((0 : Int), ((0 : Int), ByteArray.empty))).2.1), .val (.string (List.getD d_2 (Int.toNat i_4) ((0 : Int), ((0 : Int), ByteArray.empty))).2.2)]), (16, .row (.pair (.int .i64) (.int .u8)) out_72)], 17⟩ [] (by kernel_rfl) rfl rfl ap0 ?_
          refine VL_block ?_
          obtain ⟨c_77, H_110⟩ := of_if H_108
          refine V_run hN hn 1 17 [1, 3, 4, 5, 7] [0, 10, 18] ⟨[(1, .c (.h 0)), (3, .c (.h 18)), (4, .c (.val (.int .i64 i_4))), (5, .c (.h 10)), (7, .c (.val (.int .i64 k_65)))], [(0, .box [.val (.int .i64 d_1), .imm (.slice (.pair (.int .i64) (.pair (.int .i64) .str))) d_2]), (10, .box [.val (.int .i64 (List.getD d_2 (Int.toNat i_4) ((0 : Int), ((0 : Int), ByteArray.empty))).1), .val (.int .i64 (List.getD d_2 (Int.toNat i_4) ((0 : Int), ((0 : Int), ByteArray.empty))).2.1), .val (.string (List.getD d_2 (Int.toNat i_4) ((0 : Int), ((0 : Int), ByteArray.empty))).2.2)]), (18, .row (.pair (.int .i64) (.int .u8)) (out_72 ++ ([(k_65, (0 : Int))] : List (Int × Int))))], 19⟩ [(List.length out_72 + List.length ([(k_65, (0 : Int))] : List (Int × Int))) * 16 ≤ 140737488355328] (by kernel_rfl) rfl rfl (ap1 c_77) ?_
          refine VL_nil (QB_end ?_)
          refine V_run hN hn 1 19 [1, 3, 4, 5, 7] [0, 10, 18] ⟨[(1, .c (.h 0)), (3, .c (.h 18)), (4, .c (.val (.int .i64 i_4))), (5, .c (.h 10)), (7, .c (.val (.int .i64 (IntKind.wrap .i64 (k_65 + (1 : Int))))))], [(0, .box [.val (.int .i64 d_1), .imm (.slice (.pair (.int .i64) (.pair (.int .i64) .str))) d_2]), (10, .box [.val (.int .i64 (List.getD d_2 (Int.toNat i_4) ((0 : Int), ((0 : Int), ByteArray.empty))).1), .val (.int .i64 (List.getD d_2 (Int.toNat i_4) ((0 : Int), ((0 : Int), ByteArray.empty))).2.1), .val (.string (List.getD d_2 (Int.toNat i_4) ((0 : Int), ((0 : Int), ByteArray.empty))).2.2)]), (18, .row (.pair (.int .i64) (.int .u8)) (out_72 ++ ([(k_65, (0 : Int))] : List (Int × Int))))], 19⟩ [] (by kernel_rfl) rfl rfl ap0 ?_
          refine VL_nil ?_
          exact V_roundEnd ((out_72 ++ ([(k_65, (0 : Int))] : List (Int × Int))), (IntKind.wrap .i64 (k_65 + (1 : Int)))) H_110 [(0, 0), (10, 10), (16, 18)] hn (by kernel_rfl) (by kernel_rfl) rfl rfl rfl
        · intro b_75; have H_109 := of_f H_107 b_75
          refine VL_exit ?_
          refine QL_exit ?_
          refine QB_here ?_
          refine VL_nil (QB_end ?_)
          have H_111 := Option.some.inj (show some out_72 = some q_91 from H_109); subst H_111
          refine VL_nil ?_
          exact QP_end out_72 rfl [(0, 0), (16, 16)] hn (by kernel_rfl) (by kernel_rfl) rfl rfl rfl
    · intro y_94 hy; subst hy
      skip
      skip
      refine V_run hN hn 1 17 [1, 3, 4] [0, 16] ⟨[(1, .c (.h 0)), (3, .c (.h 16)), (4, .c (.val (.int .i64 (IntKind.wrap .i64 (i_4 + (1 : Int))))))], [(0, .box [.val (.int .i64 d_1), .imm (.slice (.pair (.int .i64) (.pair (.int .i64) .str))) d_2]), (16, .row (.pair (.int .i64) (.int .u8)) y_94)], 17⟩ [] (by kernel_rfl) rfl rfl ap0 ?_
      refine VL_nil ?_
      exact V_roundEnd (y_94, (IntKind.wrap .i64 (i_4 + (1 : Int)))) H_93 [(0, 0), (9, 16)] hn (by kernel_rfl) (by kernel_rfl) rfl rfl rfl
  · intro b_46; have H_90 := of_f H_88 b_46
    refine VL_exit ?_
    refine QL_exit ?_
    refine QB_here ?_
    refine V_run hN hn 2 10 [2] [9] ⟨[(2, .c (.h 9))], [(9, .row (.pair (.int .i64) (.int .u8)) out_43)], 10⟩ [] (by kernel_rfl) rfl rfl ap0 ?_
    have H_112 := Option.some.inj (show some out_43 = some r from H_90); subst H_112
    refine VL_ret ?_
    exact P_to [(2, .c (.h 9))] [(9, .row (.pair (.int .i64) (.int .u8)) out_43)] [(9, 9)] hn (by kernel_rfl) (by kernel_rfl) rfl rfl rfl (QF_retS (by kernel_rfl) (by kernel_rfl) rfl)

theorem palinoderef11_Move_spec (K : Nat) (d_1 : Int) (d_2 : (List (Int × (Int × ByteArray)))) (at_3 : Int) (after_4 : Bool) (r : Int) (H : palinoderef11_Move K d_1 d_2 at_3 after_4 = some r) : Spec Try.prog 13 0 [.agg [.val (.int .i64 d_1), .imm (.slice (.pair (.int .i64) (.pair (.int .i64) .str))) d_2], .c (.val (.int .i64 at_3)), .c (.val (.bool after_4))] [] (.c (.val (.int .i64 r))) [] := by
  refine Spec_mk (fn := Try.f13) (c := (Try.f13.body).get!) Try.func13 (by kernel_rfl) rfl ?_
  intro C hN hn
  replace hN : C.N = 62 := hN
  unfold palinoderef11_Move at H
  refine V_run hN hn 4 0 [1, 2, 3] [0] ⟨[(1, .c (.val (.int .i64 at_3))), (2, .c (.val (.bool after_4))), (3, .c (.h 0))], [(0, .box [.val (.int .i64 d_1), .imm (.slice (.pair (.int .i64) (.pair (.int .i64) .str))) d_2])], 1⟩ [] (by kernel_rfl) rfl rfl ap0 ?_
  obtain ⟨r_6, h_7, H_54⟩ := of_bind H
  refine V_reg hN hn [(1, ⟨10, 0, [.agg [.val (.int .i64 d_1), .imm (.slice (.pair (.int .i64) (.pair (.int .i64) .str))) d_2]], [], .c (.val (.bool r_6)), [], [], 1⟩)] [] (calls_cons (palinoderef11_Is_spec K d_1 d_2 r_6 h_7) (by kernel_rfl) calls_nil) 1 [1, 2, 3, 13] [0] ⟨[(1, .c (.val (.int .i64 at_3))), (2, .c (.val (.bool after_4))), (3, .c (.h 0)), (13, .c (.val (.bool (!r_6))))], [(0, .box [.val (.int .i64 d_1), .imm (.slice (.pair (.int .i64) (.pair (.int .i64) .str))) d_2])], 1⟩ [] (by kernel_rfl) rfl rfl ap0 (by kernel_rfl) (by kernel_rfl) ?_
  refine VL_cond ((!r_6)) (by kernel_rfl) ?_ ?_
  · intro b_9; have H_55 := of_t H_54 b_9
    refine V_run hN hn 2 1 [6] [] ⟨[(6, .c (.val (.int .i64 (0 : Int))))], [], 1⟩ [] (by kernel_rfl) rfl rfl ap0 ?_
    have H_57 := Option.some.inj (show some (0 : Int) = some r from H_55); subst H_57
    refine VL_ret ?_
    exact P_to [(6, .c (.val (.int .i64 (0 : Int))))] [] [] hn (by kernel_rfl) (by kernel_rfl) rfl rfl rfl (QF_retS (by kernel_rfl) (by kernel_rfl) rfl)
  · intro b_9; have H_56 := of_f H_54 b_9
    refine V_run hN hn 4 1 [2, 3, 7] [0] ⟨[(2, .c (.val (.bool after_4))), (3, .c (.h 0)), (7, .c (.val (.int .i64 (mx2 (0 : Int) (mn2 at_3 d_1)))))], [(0, .box [.val (.int .i64 d_1), .imm (.slice (.pair (.int .i64) (.pair (.int .i64) .str))) d_2])], 1⟩ [] (by kernel_rfl) rfl rfl ap0 ?_
    obtain ⟨r_12, h_13, H_58⟩ := of_bind H_56
    refine V_reg hN hn [(1, ⟨26, 0, [.agg [.val (.int .i64 d_1), .imm (.slice (.pair (.int .i64) (.pair (.int .i64) .str))) d_2]], [], .c (.h 9), [(9, .row (.pair (.int .i64) (.int .u8)) r_12)], [(9, 1)], 2⟩)] [] (calls_cons (palinoderef11_Cells_spec K d_1 d_2 r_12 h_13) (by kernel_rfl) calls_nil) 1 [2, 7, 8] [1] ⟨[(2, .c (.val (.bool after_4))), (7, .c (.val (.int .i64 (mx2 (0 : Int) (mn2 at_3 d_1))))), (8, .c (.h 1))], [(1, .row (.pair (.int .i64) (.int .u8)) r_12)], 2⟩ [] (by kernel_rfl) rfl rfl ap0 (by kernel_rfl) (by kernel_rfl) ?_
    refine V_run hN hn 5 2 [2, 7, 8, 9, 10] [1] ⟨[(2, .c (.val (.bool after_4))), (7, .c (.val (.int .i64 (mx2 (0 : Int) (mn2 at_3 d_1))))), (8, .c (.h 1)), (9, .c (.val (.int .i64 (0 : Int)))), (10, .c (.val (.int .i64 (0 : Int))))], [(1, .row (.pair (.int .i64) (.int .u8)) r_12)], 2⟩ [] (by kernel_rfl) rfl rfl ap0 ?_
    obtain ⟨q_59, H_60, H_61⟩ := of_bind H_58
    refine V_cut (Y := Int) (R := Int) q_59 (fun y => y) (fun y => [(2, .c (.val (.bool after_4))), (8, .c (.h 1)), (9, .c (.val (.int .i64 y)))]) (fun y => [(1, .row (.pair (.int .i64) (.int .u8)) r_12)]) ?_ ?_
    · skip
      refine VL_block ?_
      refine V_to [(2, .c (.val (.bool after_4))), (7, .c (.val (.int .i64 (mx2 (0 : Int) (mn2 at_3 d_1))))), (8, .c (.h 1)), (9, .c (.val (.int .i64 (0 : Int)))), (10, .c (.val (.int .i64 (0 : Int))))] [(1, .row (.pair (.int .i64) (.int .u8)) r_12)] [(1, 1)] hn (by kernel_rfl) (by kernel_rfl) rfl rfl rfl ?_
      refine VL_loop (X := (Int × Int)) (fun x => [(2, .c (.val (.bool after_4))), (7, .c (.val (.int .i64 (mx2 (0 : Int) (mn2 at_3 d_1))))), (8, .c (.h 1)), (9, .c (.val (.int .i64 x.1))), (10, .c (.val (.int .i64 x.2)))]) (fun x => [(1, .row (.pair (.int .i64) (.int .u8)) r_12)]) (fun k x => palinoderef11_Move.l0 K r_12 at_3 d_1 k x.1 x.2 = some q_59) K ((0 : Int), (0 : Int)) H_60 (fun _ h => no_none h) ?_
      intro k_18 x_18 H_63
      obtain ⟨n_16, i_17⟩ := x_18
      have H_64 : palinoderef11_Move.l0 K r_12 at_3 d_1 (k_18 + 1) n_16 i_17 = some q_59 := H_63
      rw [palinoderef11_Move.l0] at H_64
      refine V_run hN hn 3 2 [2, 7, 8, 9, 10, 24] [1] ⟨[(2, .c (.val (.bool after_4))), (7, .c (.val (.int .i64 (mx2 (0 : Int) (mn2 at_3 d_1))))), (8, .c (.h 1)), (9, .c (.val (.int .i64 n_16))), (10, .c (.val (.int .i64 i_17))), (24, .c (.val (.bool (decide (i_17 < (((List.length r_12) : Nat) : Int))))))], [(1, .row (.pair (.int .i64) (.int .u8)) r_12)], 2⟩ [] (by kernel_rfl) rfl rfl ap0 ?_
      refine VL_cond ((decide (i_17 < (((List.length r_12) : Nat) : Int)))) (by kernel_rfl) ?_ ?_
      · intro b_20; have H_65 := of_t H_64 b_20
        refine V_run hN hn 2 2 [2, 7, 8, 9, 10, 24] [1] ⟨[(2, .c (.val (.bool after_4))), (7, .c (.val (.int .i64 (mx2 (0 : Int) (mn2 at_3 d_1))))), (8, .c (.h 1)), (9, .c (.val (.int .i64 n_16))), (10, .c (.val (.int .i64 i_17))), (24, .c (.val (.bool (decide (i_17 < (((List.length r_12) : Nat) : Int))))))], [(1, .row (.pair (.int .i64) (.int .u8)) r_12)], 2⟩ [] (by kernel_rfl) rfl rfl ap0 ?_
        refine VL_block ?_
        refine V_run hN hn 1 2 [2, 7, 8, 9, 10, 24] [1] ⟨[(2, .c (.val (.bool after_4))), (7, .c (.val (.int .i64 (mx2 (0 : Int) (mn2 at_3 d_1))))), (8, .c (.h 1)), (9, .c (.val (.int .i64 n_16))), (10, .c (.val (.int .i64 i_17))), (24, .c (.val (.bool (decide (i_17 < (((List.length r_12) : Nat) : Int))))))], [(1, .row (.pair (.int .i64) (.int .u8)) r_12)], 2⟩ [] (by kernel_rfl) rfl rfl ap0 ?_
        obtain ⟨q_67, H_68, H_69⟩ := of_bind H_65
        refine V_cut (Y := Bool) (R := Bool) q_67 (fun y => y) (fun y => [(2, .c (.val (.bool after_4))), (7, .c (.val (.int .i64 (mx2 (0 : Int) (mn2 at_3 d_1))))), (8, .c (.h 1)), (9, .c (.val (.int .i64 n_16))), (10, .c (.val (.int .i64 i_17))), (41, .c (.val (.bool y)))]) (fun y => [(1, .row (.pair (.int .i64) (.int .u8)) r_12)]) ?_ ?_
        · skip
          rcases Bool.eq_false_or_eq_true ((decide ((List.getD r_12 (Int.toNat i_17) ((0 : Int), (0 : Int))).1 ≥ (0 : Int)))) with b_23 | b_23
          · have H_71 := of_t H_68 b_23
            obtain ⟨c_24, H_73⟩ := of_if H_71
            refine V_reg hN hn [] [(33, true)] calls_nil 2 [2, 7, 8, 9, 10, 41] [1] ⟨[(2, .c (.val (.bool after_4))), (7, .c (.val (.int .i64 (mx2 (0 : Int) (mn2 at_3 d_1))))), (8, .c (.h 1)), (9, .c (.val (.int .i64 n_16))), (10, .c (.val (.int .i64 i_17))), (41, .c (.val (.bool (decide ((List.getD r_12 (Int.toNat i_17) ((0 : Int), (0 : Int))).1 < (mx2 (0 : Int) (mn2 at_3 d_1)))))))], [(1, .row (.pair (.int .i64) (.int .u8)) r_12)], 2⟩ [0 ≤ i_17, i_17 < (((List.length r_12) : Nat) : Int), (decide ((List.getD r_12 (Int.toNat i_17) ((0 : Int), (0 : Int))).1 ≥ (0 : Int))) = true, 0 ≤ i_17, i_17 < (((List.length r_12) : Nat) : Int)] (by kernel_rfl) rfl rfl (ap2 c_24.1 (ap2 c_24.2 (ap2 b_23 (ap2 c_24.1 (ap1 c_24.2))))) (by kernel_rfl) (by kernel_rfl) ?_
            have H_74 := Option.some.inj (show some (decide ((List.getD r_12 (Int.toNat i_17) ((0 : Int), (0 : Int))).1 < (mx2 (0 : Int) (mn2 at_3 d_1)))) = some q_67 from H_73); subst H_74
            refine VL_nil ?_
            exact QP_end (decide ((List.getD r_12 (Int.toNat i_17) ((0 : Int), (0 : Int))).1 < (mx2 (0 : Int) (mn2 at_3 d_1)))) rfl [(1, 1)] hn (by kernel_rfl) (by kernel_rfl) rfl rfl rfl
          · have H_72 := of_f H_68 b_23
            obtain ⟨c_25, H_75⟩ := of_if H_72
            refine V_reg hN hn [] [(33, false)] calls_nil 2 [2, 7, 8, 9, 10, 41] [1] ⟨[(2, .c (.val (.bool after_4))), (7, .c (.val (.int .i64 (mx2 (0 : Int) (mn2 at_3 d_1))))), (8, .c (.h 1)), (9, .c (.val (.int .i64 n_16))), (10, .c (.val (.int .i64 i_17))), (41, .c (.val (.bool false)))], [(1, .row (.pair (.int .i64) (.int .u8)) r_12)], 2⟩ [0 ≤ i_17, i_17 < (((List.length r_12) : Nat) : Int), (decide ((List.getD r_12 (Int.toNat i_17) ((0 : Int), (0 : Int))).1 ≥ (0 : Int))) = false] (by kernel_rfl) rfl rfl (ap2 c_25.1 (ap2 c_25.2 (ap1 b_23))) (by kernel_rfl) (by kernel_rfl) ?_
            have H_76 := Option.some.inj (show some false = some q_67 from H_75); subst H_76
            refine VL_nil ?_
            exact QP_end false rfl [(1, 1)] hn (by kernel_rfl) (by kernel_rfl) rfl rfl rfl
        · intro y_70 hy; subst hy
          skip
          skip
          refine VL_cond (y_70) (by kernel_rfl) ?_ ?_
          · intro b_27; have H_77 := of_t H_69 b_27
            refine V_run hN hn 1 2 [2, 7, 8, 9, 10] [1] ⟨[(2, .c (.val (.bool after_4))), (7, .c (.val (.int .i64 (mx2 (0 : Int) (mn2 at_3 d_1))))), (8, .c (.h 1)), (9, .c (.val (.int .i64 (IntKind.wrap .i64 (i_17 + (1 : Int)))))), (10, .c (.val (.int .i64 i_17)))], [(1, .row (.pair (.int .i64) (.int .u8)) r_12)], 2⟩ [] (by kernel_rfl) rfl rfl ap0 ?_
            refine VL_nil (QB_end ?_)
            refine V_run hN hn 1 2 [2, 7, 8, 9, 10] [1] ⟨[(2, .c (.val (.bool after_4))), (7, .c (.val (.int .i64 (mx2 (0 : Int) (mn2 at_3 d_1))))), (8, .c (.h 1)), (9, .c (.val (.int .i64 (IntKind.wrap .i64 (i_17 + (1 : Int)))))), (10, .c (.val (.int .i64 (IntKind.wrap .i64 (i_17 + (1 : Int))))))], [(1, .row (.pair (.int .i64) (.int .u8)) r_12)], 2⟩ [] (by kernel_rfl) rfl rfl ap0 ?_
            refine VL_nil ?_
            exact V_roundEnd ((IntKind.wrap .i64 (i_17 + (1 : Int))), (IntKind.wrap .i64 (i_17 + (1 : Int)))) H_77 [(1, 1)] hn (by kernel_rfl) (by kernel_rfl) rfl rfl rfl
          · intro b_27; have H_78 := of_f H_69 b_27
            refine V_run hN hn 1 2 [2, 7, 8, 9, 10, 41] [1] ⟨[(2, .c (.val (.bool after_4))), (7, .c (.val (.int .i64 (mx2 (0 : Int) (mn2 at_3 d_1))))), (8, .c (.h 1)), (9, .c (.val (.int .i64 n_16))), (10, .c (.val (.int .i64 i_17))), (41, .c (.val (.bool y_70)))], [(1, .row (.pair (.int .i64) (.int .u8)) r_12)], 2⟩ [] (by kernel_rfl) rfl rfl ap0 ?_
            refine VL_nil (QB_end ?_)
            refine V_run hN hn 1 2 [2, 7, 8, 9, 10] [1] ⟨[(2, .c (.val (.bool after_4))), (7, .c (.val (.int .i64 (mx2 (0 : Int) (mn2 at_3 d_1))))), (8, .c (.h 1)), (9, .c (.val (.int .i64 n_16))), (10, .c (.val (.int .i64 (IntKind.wrap .i64 (i_17 + (1 : Int))))))], [(1, .row (.pair (.int .i64) (.int .u8)) r_12)], 2⟩ [] (by kernel_rfl) rfl rfl ap0 ?_
            refine VL_nil ?_
            exact V_roundEnd (n_16, (IntKind.wrap .i64 (i_17 + (1 : Int)))) H_78 [(1, 1)] hn (by kernel_rfl) (by kernel_rfl) rfl rfl rfl
      · intro b_20; have H_66 := of_f H_64 b_20
        refine VL_exit ?_
        refine QL_exit ?_
        refine QB_here ?_
        have H_79 := Option.some.inj (show some n_16 = some q_59 from H_66); subst H_79
        refine VL_nil ?_
        exact QP_end n_16 rfl [(1, 1)] hn (by kernel_rfl) (by kernel_rfl) rfl rfl rfl
    · intro y_62 hy; subst hy
      skip
      skip
      refine V_run hN hn 3 2 [8, 9, 45] [1] ⟨[(8, .c (.h 1)), (9, .c (.val (.int .i64 y_62))), (45, .c (.val (.bool (!after_4))))], [(1, .row (.pair (.int .i64) (.int .u8)) r_12)], 2⟩ [] (by kernel_rfl) rfl rfl ap0 ?_
      refine VL_cond ((!after_4)) (by kernel_rfl) ?_ ?_
      · intro b_34; have H_80 := of_t H_61 b_34
        refine V_run hN hn 2 2 [6] [] ⟨[(6, .c (.val (.int .i64 y_62)))], [], 2⟩ [] (by kernel_rfl) rfl rfl ap0 ?_
        have H_82 := Option.some.inj (show some y_62 = some r from H_80); subst H_82
        refine VL_ret ?_
        exact P_to [(6, .c (.val (.int .i64 y_62)))] [] [] hn (by kernel_rfl) (by kernel_rfl) rfl rfl rfl (QF_retS (by kernel_rfl) (by kernel_rfl) rfl)
      · intro b_34; have H_81 := of_f H_61 b_34
        refine V_run hN hn 2 2 [8, 9, 45] [1] ⟨[(8, .c (.h 1)), (9, .c (.val (.int .i64 y_62))), (45, .c (.val (.bool (!after_4))))], [(1, .row (.pair (.int .i64) (.int .u8)) r_12)], 2⟩ [] (by kernel_rfl) rfl rfl ap0 ?_
        refine VL_block ?_
        refine V_to [(8, .c (.h 1)), (9, .c (.val (.int .i64 y_62)))] [(1, .row (.pair (.int .i64) (.int .u8)) r_12)] [(1, 1)] hn (by kernel_rfl) (by kernel_rfl) rfl rfl rfl ?_
        refine VL_loop (X := Int) (fun x => [(8, .c (.h 1)), (9, .c (.val (.int .i64 x)))]) (fun x => [(1, .row (.pair (.int .i64) (.int .u8)) r_12)]) (fun k x => palinoderef11_Move.l1 K r_12 k x = some r) K y_62 H_81 (fun _ h => no_none h) ?_
        intro k_38 n_37 H_83
        have H_84 : palinoderef11_Move.l1 K r_12 (k_38 + 1) n_37 = some r := H_83
        rw [palinoderef11_Move.l1] at H_84
        refine V_run hN hn 2 2 [8, 9] [1] ⟨[(8, .c (.h 1)), (9, .c (.val (.int .i64 n_37)))], [(1, .row (.pair (.int .i64) (.int .u8)) r_12)], 2⟩ [] (by kernel_rfl) rfl rfl ap0 ?_
        obtain ⟨q_85, H_86, H_87⟩ := of_bind H_84
        refine V_cut (Y := Bool) (R := Bool) q_85 (fun y => y) (fun y => [(8, .c (.h 1)), (9, .c (.val (.int .i64 n_37))), (58, .c (.val (.bool y)))]) (fun y => [(1, .row (.pair (.int .i64) (.int .u8)) r_12)]) ?_ ?_
        · skip
          rcases Bool.eq_false_or_eq_true ((decide (n_37 < (((List.length r_12) : Nat) : Int)))) with b_40 | b_40
          · have H_89 := of_t H_86 b_40
            obtain ⟨c_41, H_91⟩ := of_if H_89
            refine V_reg hN hn [] [(51, true)] calls_nil 2 [8, 9, 58] [1] ⟨[(8, .c (.h 1)), (9, .c (.val (.int .i64 n_37))), (58, .c (.val (.bool (decide ((List.getD r_12 (Int.toNat n_37) ((0 : Int), (0 : Int))).1 < (0 : Int))))))], [(1, .row (.pair (.int .i64) (.int .u8)) r_12)], 2⟩ [(decide (n_37 < (((List.length r_12) : Nat) : Int))) = true, 0 ≤ n_37, n_37 < (((List.length r_12) : Nat) : Int)] (by kernel_rfl) rfl rfl (ap2 b_40 (ap2 c_41.1 (ap1 c_41.2))) (by kernel_rfl) (by kernel_rfl) ?_
            have H_92 := Option.some.inj (show some (decide ((List.getD r_12 (Int.toNat n_37) ((0 : Int), (0 : Int))).1 < (0 : Int))) = some q_85 from H_91); subst H_92
            refine VL_nil ?_
            exact QP_end (decide ((List.getD r_12 (Int.toNat n_37) ((0 : Int), (0 : Int))).1 < (0 : Int))) rfl [(1, 1)] hn (by kernel_rfl) (by kernel_rfl) rfl rfl rfl
          · have H_90 := of_f H_86 b_40
            refine V_reg hN hn [] [(51, false)] calls_nil 2 [8, 9, 58] [1] ⟨[(8, .c (.h 1)), (9, .c (.val (.int .i64 n_37))), (58, .c (.val (.bool false)))], [(1, .row (.pair (.int .i64) (.int .u8)) r_12)], 2⟩ [(decide (n_37 < (((List.length r_12) : Nat) : Int))) = false] (by kernel_rfl) rfl rfl (ap1 b_40) (by kernel_rfl) (by kernel_rfl) ?_
            have H_93 := Option.some.inj (show some false = some q_85 from H_90); subst H_93
            refine VL_nil ?_
            exact QP_end false rfl [(1, 1)] hn (by kernel_rfl) (by kernel_rfl) rfl rfl rfl
        · intro y_88 hy; subst hy
          skip
          skip
          refine VL_cond (y_88) (by kernel_rfl) ?_ ?_
          · intro b_44; have H_94 := of_t H_87 b_44
            refine V_run hN hn 1 2 [8, 9, 58] [1] ⟨[(8, .c (.h 1)), (9, .c (.val (.int .i64 n_37))), (58, .c (.val (.bool y_88)))], [(1, .row (.pair (.int .i64) (.int .u8)) r_12)], 2⟩ [] (by kernel_rfl) rfl rfl ap0 ?_
            refine VL_block ?_
            refine V_run hN hn 1 2 [8, 9] [1] ⟨[(8, .c (.h 1)), (9, .c (.val (.int .i64 (IntKind.wrap .i64 (n_37 + (1 : Int))))))], [(1, .row (.pair (.int .i64) (.int .u8)) r_12)], 2⟩ [] (by kernel_rfl) rfl rfl ap0 ?_
            refine VL_nil (QB_end ?_)
            refine VL_nil ?_
            exact V_roundEnd (IntKind.wrap .i64 (n_37 + (1 : Int))) H_94 [(1, 1)] hn (by kernel_rfl) (by kernel_rfl) rfl rfl rfl
          · intro b_44; have H_95 := of_f H_87 b_44
            refine VL_exit ?_
            refine QL_exit ?_
            refine QB_here ?_
            refine V_run hN hn 2 2 [6] [] ⟨[(6, .c (.val (.int .i64 n_37)))], [], 2⟩ [] (by kernel_rfl) rfl rfl ap0 ?_
            have H_96 := Option.some.inj (show some n_37 = some r from H_95); subst H_96
            refine VL_ret ?_
            exact P_to [(6, .c (.val (.int .i64 n_37)))] [] [] hn (by kernel_rfl) (by kernel_rfl) rfl rfl rfl (QF_retS (by kernel_rfl) (by kernel_rfl) rfl)

theorem palinoderef11_Back_spec (K : Nat) (d_1 : Int) (d_2 : (List (Int × (Int × ByteArray)))) (at_3 : Int) (r : Int) (H : palinoderef11_Back K d_1 d_2 at_3 = some r) : Spec Try.prog 15 0 [.agg [.val (.int .i64 d_1), .imm (.slice (.pair (.int .i64) (.pair (.int .i64) .str))) d_2], .c (.val (.int .i64 at_3))] [] (.c (.val (.int .i64 r))) [] := by
  refine Spec_mk (fn := Try.f15) (c := (Try.f15.body).get!) Try.func15 (by kernel_rfl) rfl ?_
  intro C hN hn
  replace hN : C.N = 46 := hN
  unfold palinoderef11_Back at H
  refine V_run hN hn 4 0 [1, 2] [0] ⟨[(1, .c (.val (.int .i64 at_3))), (2, .c (.h 0))], [(0, .box [.val (.int .i64 d_1), .imm (.slice (.pair (.int .i64) (.pair (.int .i64) .str))) d_2])], 1⟩ [] (by kernel_rfl) rfl rfl ap0 ?_
  obtain ⟨r_5, h_6, H_33⟩ := of_bind H
  refine V_reg hN hn [(1, ⟨10, 0, [.agg [.val (.int .i64 d_1), .imm (.slice (.pair (.int .i64) (.pair (.int .i64) .str))) d_2]], [], .c (.val (.bool r_5)), [], [], 1⟩)] [] (calls_cons (palinoderef11_Is_spec K d_1 d_2 r_5 h_6) (by kernel_rfl) calls_nil) 1 [1, 2, 10] [0] ⟨[(1, .c (.val (.int .i64 at_3))), (2, .c (.h 0)), (10, .c (.val (.bool (!r_5))))], [(0, .box [.val (.int .i64 d_1), .imm (.slice (.pair (.int .i64) (.pair (.int .i64) .str))) d_2])], 1⟩ [] (by kernel_rfl) rfl rfl ap0 (by kernel_rfl) (by kernel_rfl) ?_
  refine VL_cond ((!r_5)) (by kernel_rfl) ?_ ?_
  · intro b_8; have H_34 := of_t H_33 b_8
    refine V_run hN hn 2 1 [4] [] ⟨[(4, .c (.val (.int .i64 (0 : Int))))], [], 1⟩ [] (by kernel_rfl) rfl rfl ap0 ?_
    have H_36 := Option.some.inj (show some (0 : Int) = some r from H_34); subst H_36
    refine VL_ret ?_
    exact P_to [(4, .c (.val (.int .i64 (0 : Int))))] [] [] hn (by kernel_rfl) (by kernel_rfl) rfl rfl rfl (QF_retS (by kernel_rfl) (by kernel_rfl) rfl)
  · intro b_8; have H_35 := of_f H_33 b_8
    refine V_run hN hn 2 1 [1, 2, 10] [0] ⟨[(1, .c (.val (.int .i64 at_3))), (2, .c (.h 0)), (10, .c (.val (.bool (!r_5))))], [(0, .box [.val (.int .i64 d_1), .imm (.slice (.pair (.int .i64) (.pair (.int .i64) .str))) d_2])], 1⟩ [] (by kernel_rfl) rfl rfl ap0 ?_
    obtain ⟨r_11, h_12, H_37⟩ := of_bind H_35
    refine V_reg hN hn [(1, ⟨26, 0, [.agg [.val (.int .i64 d_1), .imm (.slice (.pair (.int .i64) (.pair (.int .i64) .str))) d_2]], [], .c (.h 9), [(9, .row (.pair (.int .i64) (.int .u8)) r_11)], [(9, 1)], 2⟩)] [] (calls_cons (palinoderef11_Cells_spec K d_1 d_2 r_11 h_12) (by kernel_rfl) calls_nil) 1 [1, 2, 5] [0, 1] ⟨[(1, .c (.val (.int .i64 at_3))), (2, .c (.h 0)), (5, .c (.h 1))], [(0, .box [.val (.int .i64 d_1), .imm (.slice (.pair (.int .i64) (.pair (.int .i64) .str))) d_2]), (1, .row (.pair (.int .i64) (.int .u8)) r_11)], 2⟩ [] (by kernel_rfl) rfl rfl ap0 (by kernel_rfl) (by kernel_rfl) ?_
    refine V_run hN hn 5 2 [2, 5, 6, 18] [0, 1] ⟨[(2, .c (.h 0)), (5, .c (.h 1)), (6, .c (.val (.int .i64 (mx2 (0 : Int) at_3)))), (18, .c (.val (.bool (decide ((mx2 (0 : Int) at_3) ≥ (((List.length r_11) : Nat) : Int))))))], [(0, .box [.val (.int .i64 d_1), .imm (.slice (.pair (.int .i64) (.pair (.int .i64) .str))) d_2]), (1, .row (.pair (.int .i64) (.int .u8)) r_11)], 2⟩ [] (by kernel_rfl) rfl rfl ap0 ?_
    refine VL_cond ((decide ((mx2 (0 : Int) at_3) ≥ (((List.length r_11) : Nat) : Int)))) (by kernel_rfl) ?_ ?_
    · intro b_15; have H_38 := of_t H_37 b_15
      refine V_run hN hn 2 2 [4] [] ⟨[(4, .c (.val (.int .i64 d_1)))], [], 2⟩ [] (by kernel_rfl) rfl rfl ap0 ?_
      have H_40 := Option.some.inj (show some d_1 = some r from H_38); subst H_40
      refine VL_ret ?_
      exact P_to [(4, .c (.val (.int .i64 d_1)))] [] [] hn (by kernel_rfl) (by kernel_rfl) rfl rfl rfl (QF_retS (by kernel_rfl) (by kernel_rfl) rfl)
    · intro b_15; have H_39 := of_f H_37 b_15
      refine V_run hN hn 4 2 [5, 6, 7] [1] ⟨[(5, .c (.h 1)), (6, .c (.val (.int .i64 (mx2 (0 : Int) at_3)))), (7, .c (.val (.int .i64 (mx2 (0 : Int) at_3))))], [(1, .row (.pair (.int .i64) (.int .u8)) r_11)], 2⟩ [] (by kernel_rfl) rfl rfl ap0 ?_
      refine VL_block ?_
      refine V_to [(5, .c (.h 1)), (6, .c (.val (.int .i64 (mx2 (0 : Int) at_3)))), (7, .c (.val (.int .i64 (mx2 (0 : Int) at_3))))] [(1, .row (.pair (.int .i64) (.int .u8)) r_11)] [(1, 1)] hn (by kernel_rfl) (by kernel_rfl) rfl rfl rfl ?_
      refine VL_loop (X := Int) (fun x => [(5, .c (.h 1)), (6, .c (.val (.int .i64 (mx2 (0 : Int) at_3)))), (7, .c (.val (.int .i64 x)))]) (fun x => [(1, .row (.pair (.int .i64) (.int .u8)) r_11)]) (fun k x => palinoderef11_Back.l0 K r_11 at_3 k x = some r) K (mx2 (0 : Int) at_3) H_39 (fun _ h => no_none h) ?_
      intro k_19 i_18 H_41
      have H_42 : palinoderef11_Back.l0 K r_11 at_3 (k_19 + 1) i_18 = some r := H_41
      rw [palinoderef11_Back.l0] at H_42
      refine V_run hN hn 3 2 [5, 6, 7, 23] [1] ⟨[(5, .c (.h 1)), (6, .c (.val (.int .i64 (mx2 (0 : Int) at_3)))), (7, .c (.val (.int .i64 i_18))), (23, .c (.val (.bool (decide (i_18 ≥ (0 : Int))))))], [(1, .row (.pair (.int .i64) (.int .u8)) r_11)], 2⟩ [] (by kernel_rfl) rfl rfl ap0 ?_
      refine VL_cond ((decide (i_18 ≥ (0 : Int)))) (by kernel_rfl) ?_ ?_
      · intro b_21; have H_43 := of_t H_42 b_21
        refine V_run hN hn 2 2 [5, 6, 7, 23] [1] ⟨[(5, .c (.h 1)), (6, .c (.val (.int .i64 (mx2 (0 : Int) at_3)))), (7, .c (.val (.int .i64 i_18))), (23, .c (.val (.bool (decide (i_18 ≥ (0 : Int))))))], [(1, .row (.pair (.int .i64) (.int .u8)) r_11)], 2⟩ [] (by kernel_rfl) rfl rfl ap0 ?_
        refine VL_block ?_
        obtain ⟨c_23, H_45⟩ := of_if H_43
        refine V_run hN hn 2 2 [5, 6, 7, 31] [1] ⟨[(5, .c (.h 1)), (6, .c (.val (.int .i64 (mx2 (0 : Int) at_3)))), (7, .c (.val (.int .i64 i_18))), (31, .c (.val (.bool (decide ((List.getD r_11 (Int.toNat i_18) ((0 : Int), (0 : Int))).1 ≥ (0 : Int))))))], [(1, .row (.pair (.int .i64) (.int .u8)) r_11)], 2⟩ [0 ≤ i_18, i_18 < (((List.length r_11) : Nat) : Int)] (by kernel_rfl) rfl rfl (ap2 c_23.1 (ap1 c_23.2)) ?_
        refine VL_cond ((decide ((List.getD r_11 (Int.toNat i_18) ((0 : Int), (0 : Int))).1 ≥ (0 : Int)))) (by kernel_rfl) ?_ ?_
        · intro b_24; have H_46 := of_t H_45 b_24
          refine V_run hN hn 3 2 [5, 7, 34] [1] ⟨[(5, .c (.h 1)), (7, .c (.val (.int .i64 i_18))), (34, .c (.val (.bool (i_18 == (mx2 (0 : Int) at_3)))))], [(1, .row (.pair (.int .i64) (.int .u8)) r_11)], 2⟩ [] (by kernel_rfl) rfl rfl ap0 ?_
          refine VL_cond ((i_18 == (mx2 (0 : Int) at_3))) (by kernel_rfl) ?_ ?_
          · intro b_26; have H_48 := of_t H_46 b_26
            refine V_run hN hn 2 2 [4] [] ⟨[(4, .c (.val (.int .i64 (List.getD r_11 (Int.toNat i_18) ((0 : Int), (0 : Int))).1)))], [], 2⟩ [0 ≤ i_18, i_18 < (((List.length r_11) : Nat) : Int)] (by kernel_rfl) rfl rfl (ap2 c_23.1 (ap1 c_23.2)) ?_
            have H_50 := Option.some.inj (show some (List.getD r_11 (Int.toNat i_18) ((0 : Int), (0 : Int))).1 = some r from H_48); subst H_50
            refine VL_ret ?_
            refine QB_ret ?_
            refine QL_ret ?_
            refine QB_ret ?_
            exact P_to [(4, .c (.val (.int .i64 (List.getD r_11 (Int.toNat i_18) ((0 : Int), (0 : Int))).1)))] [] [] hn (by kernel_rfl) (by kernel_rfl) rfl rfl rfl (QF_retS (by kernel_rfl) (by kernel_rfl) rfl)
          · intro b_26; have H_49 := of_f H_46 b_26
            refine V_run hN hn 3 2 [4] [] ⟨[(4, .c (.val (.int .i64 (IntKind.wrap .i64 ((List.getD r_11 (Int.toNat i_18) ((0 : Int), (0 : Int))).1 + (1 : Int))))))], [], 2⟩ [0 ≤ i_18, i_18 < (((List.length r_11) : Nat) : Int)] (by kernel_rfl) rfl rfl (ap2 c_23.1 (ap1 c_23.2)) ?_
            have H_51 := Option.some.inj (show some (IntKind.wrap .i64 ((List.getD r_11 (Int.toNat i_18) ((0 : Int), (0 : Int))).1 + (1 : Int))) = some r from H_49); subst H_51
            refine VL_ret ?_
            refine QB_ret ?_
            refine QL_ret ?_
            refine QB_ret ?_
            exact P_to [(4, .c (.val (.int .i64 (IntKind.wrap .i64 ((List.getD r_11 (Int.toNat i_18) ((0 : Int), (0 : Int))).1 + (1 : Int))))))] [] [] hn (by kernel_rfl) (by kernel_rfl) rfl rfl rfl (QF_retS (by kernel_rfl) (by kernel_rfl) rfl)
        · intro b_24; have H_47 := of_f H_45 b_24
          refine V_run hN hn 1 2 [5, 6, 7, 31] [1] ⟨[(5, .c (.h 1)), (6, .c (.val (.int .i64 (mx2 (0 : Int) at_3)))), (7, .c (.val (.int .i64 i_18))), (31, .c (.val (.bool (decide ((List.getD r_11 (Int.toNat i_18) ((0 : Int), (0 : Int))).1 ≥ (0 : Int))))))], [(1, .row (.pair (.int .i64) (.int .u8)) r_11)], 2⟩ [] (by kernel_rfl) rfl rfl ap0 ?_
          refine VL_nil (QB_end ?_)
          refine V_run hN hn 1 2 [5, 6, 7] [1] ⟨[(5, .c (.h 1)), (6, .c (.val (.int .i64 (mx2 (0 : Int) at_3)))), (7, .c (.val (.int .i64 (IntKind.wrap .i64 (i_18 - (1 : Int))))))], [(1, .row (.pair (.int .i64) (.int .u8)) r_11)], 2⟩ [] (by kernel_rfl) rfl rfl ap0 ?_
          refine VL_nil ?_
          exact V_roundEnd (IntKind.wrap .i64 (i_18 - (1 : Int))) H_47 [(1, 1)] hn (by kernel_rfl) (by kernel_rfl) rfl rfl rfl
      · intro b_21; have H_44 := of_f H_42 b_21
        refine VL_exit ?_
        refine QL_exit ?_
        refine QB_here ?_
        refine V_run hN hn 2 2 [4] [] ⟨[(4, .c (.val (.int .i64 (0 : Int))))], [], 2⟩ [] (by kernel_rfl) rfl rfl ap0 ?_
        have H_52 := Option.some.inj (show some (0 : Int) = some r from H_44); subst H_52
        refine VL_ret ?_
        exact P_to [(4, .c (.val (.int .i64 (0 : Int))))] [] [] hn (by kernel_rfl) (by kernel_rfl) rfl rfl rfl (QF_retS (by kernel_rfl) (by kernel_rfl) rfl)

theorem palinoderef11_Interval_spec (K : Nat) (d_1 : Int) (d_2 : (List (Int × (Int × ByteArray)))) (i_3 : Int) (i_4 : Int) (r : (Int × Int)) (H : palinoderef11_Interval K d_1 d_2 i_3 i_4 = some r) : Spec Try.prog 18 0 [.agg [.val (.int .i64 d_1), .imm (.slice (.pair (.int .i64) (.pair (.int .i64) .str))) d_2], .agg [.val (.int .i64 i_3), .val (.int .i64 i_4)]] [] (.agg [.val (.int .i64 r.1), .val (.int .i64 r.2)]) [] := by
  refine Spec_mk (fn := Try.f18) (c := (Try.f18.body).get!) Try.func18 (by kernel_rfl) rfl ?_
  intro C hN hn
  replace hN : C.N = 24 := hN
  unfold palinoderef11_Interval at H
  refine V_run hN hn 4 0 [2, 3, 4] [0, 1, 2] ⟨[(2, .c (.h 0)), (3, .c (.h 1)), (4, .c (.h 2))], [(0, .box [.val (.int .i64 d_1), .imm (.slice (.pair (.int .i64) (.pair (.int .i64) .str))) d_2]), (1, .box [.val (.int .i64 i_3), .val (.int .i64 i_4)]), (2, .box [.val (.int .i64 (0 : Int)), .val (.int .i64 (0 : Int))])], 3⟩ [] (by kernel_rfl) rfl rfl ap0 ?_
  obtain ⟨r_6, h_7, H_20⟩ := of_bind H
  refine V_reg hN hn [(1, ⟨10, 0, [.agg [.val (.int .i64 d_1), .imm (.slice (.pair (.int .i64) (.pair (.int .i64) .str))) d_2]], [], .c (.val (.bool r_6)), [], [], 3⟩)] [] (calls_cons (palinoderef11_Is_spec K d_1 d_2 r_6 h_7) (by kernel_rfl) calls_nil) 3 [2, 3, 4, 9] [0, 1, 2] ⟨[(2, .c (.h 0)), (3, .c (.h 1)), (4, .c (.h 2)), (9, .c (.val (.bool (!r_6))))], [(0, .box [.val (.int .i64 d_1), .imm (.slice (.pair (.int .i64) (.pair (.int .i64) .str))) d_2]), (1, .box [.val (.int .i64 i_3), .val (.int .i64 i_4)]), (2, .box [.val (.int .i64 (0 : Int)), .val (.int .i64 (0 : Int))])], 3⟩ [] (by kernel_rfl) rfl rfl ap0 (by kernel_rfl) (by kernel_rfl) ?_
  refine VL_cond ((!r_6)) (by kernel_rfl) ?_ ?_
  · intro b_9; have H_21 := of_t H_20 b_9
    refine V_run hN hn 2 3 [4] [2] ⟨[(4, .c (.h 2))], [(2, .box [.val (.int .i64 (0 : Int)), .val (.int .i64 (0 : Int))])], 3⟩ [] (by kernel_rfl) rfl rfl ap0 ?_
    have H_23 := Option.some.inj (show some ((0 : Int), (0 : Int)) = some r from H_21); subst H_23
    refine VL_ret ?_
    exact P_to [(4, .c (.h 2))] [(2, .box [.val (.int .i64 (0 : Int)), .val (.int .i64 (0 : Int))])] [(2, 2)] hn (by kernel_rfl) (by kernel_rfl) rfl rfl rfl (QF_retS (by kernel_rfl) (by kernel_rfl) rfl)
  · intro b_9; have H_22 := of_f H_20 b_9
    refine V_run hN hn 2 3 [2, 3, 4, 9] [0, 1, 2] ⟨[(2, .c (.h 0)), (3, .c (.h 1)), (4, .c (.h 2)), (9, .c (.val (.bool (!r_6))))], [(0, .box [.val (.int .i64 d_1), .imm (.slice (.pair (.int .i64) (.pair (.int .i64) .str))) d_2]), (1, .box [.val (.int .i64 i_3), .val (.int .i64 i_4)]), (2, .box [.val (.int .i64 (0 : Int)), .val (.int .i64 (0 : Int))])], 3⟩ [] (by kernel_rfl) rfl rfl ap0 ?_
    obtain ⟨r_12, h_13, H_24⟩ := of_bind H_22
    obtain ⟨r_14, h_15, H_25⟩ := of_bind H_24
    refine V_draw hN hn (by kernel_rfl) [(3, ⟨13, 0, [.agg [.val (.int .i64 d_1), .imm (.slice (.pair (.int .i64) (.pair (.int .i64) .str))) d_2], .c (.val (.int .i64 i_3)), .c (.val (.bool true))], [], .c (.val (.int .i64 r_12)), [], [], 3⟩), (7, ⟨13, 0, [.agg [.val (.int .i64 d_1), .imm (.slice (.pair (.int .i64) (.pair (.int .i64) .str))) d_2], .c (.val (.int .i64 i_4)), .c (.val (.bool false))], [], .c (.val (.int .i64 r_14)), [], [], 3⟩)] [] (calls_cons (palinoderef11_Move_spec K d_1 d_2 i_3 true r_12 h_13) (by kernel_rfl) (calls_cons (palinoderef11_Move_spec K d_1 d_2 i_4 false r_14 h_15) (by kernel_rfl) calls_nil)) 3 [4, 5, 6] [2] ⟨[(4, .c (.h 2)), (5, .c (.val (.int .i64 r_12))), (6, .c (.val (.int .i64 r_14)))], [(2, .box [.val (.int .i64 (0 : Int)), .val (.int .i64 (0 : Int))])], 3⟩ [] (by kernel_rfl) rfl rfl ap0 (by kernel_rfl) (by kernel_rfl) ?_
    refine V_run hN hn 2 3 [4] [2] ⟨[(4, .c (.h 2))], [(2, .box [.val (.int .i64 r_12), .val (.int .i64 (mx2 r_12 r_14))])], 3⟩ [] (by kernel_rfl) rfl rfl ap0 ?_
    have H_26 := Option.some.inj (show some (r_12, (mx2 r_12 r_14)) = some r from H_25); subst H_26
    refine VL_ret ?_
    exact P_to [(4, .c (.h 2))] [(2, .box [.val (.int .i64 r_12), .val (.int .i64 (mx2 r_12 r_14))])] [(2, 2)] hn (by kernel_rfl) (by kernel_rfl) rfl rfl rfl (QF_retS (by kernel_rfl) (by kernel_rfl) rfl)

theorem palinodelaw14_OffsetTells_spec (K : Nat) (d_1 : Int) (d_2 : (List (Int × (Int × ByteArray)))) (at_3 : Int) (i_4 : Int) (i_5 : Int) (r : Bool) (H : palinodelaw14_OffsetTells K d_1 d_2 at_3 i_4 i_5 = some r) : Spec Try.prog 3 0 [.agg [.val (.int .i64 d_1), .imm (.slice (.pair (.int .i64) (.pair (.int .i64) .str))) d_2], .c (.val (.int .i64 at_3)), .agg [.val (.int .i64 i_4), .val (.int .i64 i_5)]] [] (.c (.val (.bool r))) [] := by
  refine Spec_mk (fn := Try.f3) (c := (Try.f3.body).get!) Try.func3 (by kernel_rfl) rfl ?_
  intro C hN hn
  replace hN : C.N = 71 := hN
  unfold palinodelaw14_OffsetTells at H
  refine V_run hN hn 4 0 [1, 3, 5] [0, 1] ⟨[(1, .c (.val (.int .i64 at_3))), (3, .c (.h 0)), (5, .c (.h 1))], [(0, .box [.val (.int .i64 d_1), .imm (.slice (.pair (.int .i64) (.pair (.int .i64) .str))) d_2]), (1, .box [.val (.int .i64 i_4), .val (.int .i64 i_5)])], 2⟩ [] (by kernel_rfl) rfl rfl ap0 ?_
  obtain ⟨r_7, h_8, H_64⟩ := of_bind H
  refine V_reg hN hn [(0, ⟨8, 0, [], [], .c (.val (.bool r_7)), [], [], 2⟩)] [] (calls_cons (palinodelaw14_known_spec K  r_7 h_8) (by kernel_rfl) calls_nil) 2 [1, 3, 5, 9] [0, 1] ⟨[(1, .c (.val (.int .i64 at_3))), (3, .c (.h 0)), (5, .c (.h 1)), (9, .c (.val (.bool (!r_7))))], [(0, .box [.val (.int .i64 d_1), .imm (.slice (.pair (.int .i64) (.pair (.int .i64) .str))) d_2]), (1, .box [.val (.int .i64 i_4), .val (.int .i64 i_5)])], 2⟩ [] (by kernel_rfl) rfl rfl ap0 (by kernel_rfl) (by kernel_rfl) ?_
  refine VL_cond ((!r_7)) (by kernel_rfl) ?_ ?_
  · intro b_10; have H_65 := of_t H_64 b_10
    refine V_run hN hn 2 2 [6] [] ⟨[(6, .c (.val (.bool false)))], [], 2⟩ [] (by kernel_rfl) rfl rfl ap0 ?_
    have H_67 := Option.some.inj (show some false = some r from H_65); subst H_67
    refine VL_ret ?_
    exact P_to [(6, .c (.val (.bool false)))] [] [] hn (by kernel_rfl) (by kernel_rfl) rfl rfl rfl (QF_retS (by kernel_rfl) (by kernel_rfl) rfl)
  · intro b_10; have H_66 := of_f H_64 b_10
    refine V_run hN hn 3 2 [1, 3, 5, 9] [0, 1] ⟨[(1, .c (.val (.int .i64 at_3))), (3, .c (.h 0)), (5, .c (.h 1)), (9, .c (.val (.bool (!r_7))))], [(0, .box [.val (.int .i64 d_1), .imm (.slice (.pair (.int .i64) (.pair (.int .i64) .str))) d_2]), (1, .box [.val (.int .i64 i_4), .val (.int .i64 i_5)])], 2⟩ [] (by kernel_rfl) rfl rfl ap0 ?_
    obtain ⟨r_13, h_14, H_68⟩ := of_bind H_66
    refine V_reg hN hn [(1, ⟨9, 0, [.agg [.val (.int .i64 d_1), .imm (.slice (.pair (.int .i64) (.pair (.int .i64) .str))) d_2]], [], .c (.val (.bool r_13)), [], [], 2⟩)] [] (calls_cons (palinodelaw14_few_spec K d_1 d_2 r_13 h_14) (by kernel_rfl) calls_nil) 2 [1, 3, 5, 12] [0, 1] ⟨[(1, .c (.val (.int .i64 at_3))), (3, .c (.h 0)), (5, .c (.h 1)), (12, .c (.val (.bool (!r_13))))], [(0, .box [.val (.int .i64 d_1), .imm (.slice (.pair (.int .i64) (.pair (.int .i64) .str))) d_2]), (1, .box [.val (.int .i64 i_4), .val (.int .i64 i_5)])], 2⟩ [] (by kernel_rfl) rfl rfl ap0 (by kernel_rfl) (by kernel_rfl) ?_
    refine VL_cond ((!r_13)) (by kernel_rfl) ?_ ?_
    · intro b_16; have H_69 := of_t H_68 b_16
      refine V_run hN hn 2 2 [6] [] ⟨[(6, .c (.val (.bool true)))], [], 2⟩ [] (by kernel_rfl) rfl rfl ap0 ?_
      have H_71 := Option.some.inj (show some true = some r from H_69); subst H_71
      refine VL_ret ?_
      exact P_to [(6, .c (.val (.bool true)))] [] [] hn (by kernel_rfl) (by kernel_rfl) rfl rfl rfl (QF_retS (by kernel_rfl) (by kernel_rfl) rfl)
    · intro b_16; have H_70 := of_f H_68 b_16
      refine V_run hN hn 5 2 [1, 3, 5, 7] [0, 1] ⟨[(1, .c (.val (.int .i64 at_3))), (3, .c (.h 0)), (5, .c (.h 1)), (7, .c (.val (.bool false)))], [(0, .box [.val (.int .i64 d_1), .imm (.slice (.pair (.int .i64) (.pair (.int .i64) .str))) d_2]), (1, .box [.val (.int .i64 i_4), .val (.int .i64 i_5)])], 2⟩ [] (by kernel_rfl) rfl rfl ap0 ?_
      obtain ⟨q_72, H_73, H_74⟩ := of_bind H_70
      refine V_cut (Y := Bool) (R := Bool) q_72 (fun y => y) (fun y => [(1, .c (.val (.int .i64 at_3))), (3, .c (.h 0)), (5, .c (.h 1)), (7, .c (.val (.bool false))), (24, .c (.val (.bool y)))]) (fun y => [(0, .box [.val (.int .i64 d_1), .imm (.slice (.pair (.int .i64) (.pair (.int .i64) .str))) d_2]), (1, .box [.val (.int .i64 i_4), .val (.int .i64 i_5)])]) ?_ ?_
      · skip
        obtain ⟨r_19, h_20, H_76⟩ := of_bind H_73
        rcases Bool.eq_false_or_eq_true (r_19) with b_21 | b_21
        · have H_77 := of_t H_76 b_21
          rcases Bool.eq_false_or_eq_true ((decide (at_3 ≥ (0 : Int)))) with b_22 | b_22
          · have H_79 := of_t H_77 b_22
            refine V_reg hN hn [(1, ⟨10, 0, [.agg [.val (.int .i64 d_1), .imm (.slice (.pair (.int .i64) (.pair (.int .i64) .str))) d_2]], [], .c (.val (.bool r_19)), [], [], 2⟩)] [(15, true), (19, true)] (calls_cons (palinoderef11_Is_spec K d_1 d_2 r_19 h_20) (by kernel_rfl) calls_nil) 2 [1, 3, 5, 7, 24] [0, 1] ⟨[(1, .c (.val (.int .i64 at_3))), (3, .c (.h 0)), (5, .c (.h 1)), (7, .c (.val (.bool false))), (24, .c (.val (.bool (decide (at_3 < d_1)))))], [(0, .box [.val (.int .i64 d_1), .imm (.slice (.pair (.int .i64) (.pair (.int .i64) .str))) d_2]), (1, .box [.val (.int .i64 i_4), .val (.int .i64 i_5)])], 2⟩ [r_19 = true, (decide (at_3 ≥ (0 : Int))) = true] (by kernel_rfl) rfl rfl (ap2 b_21 (ap1 b_22)) (by kernel_rfl) (by kernel_rfl) ?_
            have H_81 := Option.some.inj (show some (decide (at_3 < d_1)) = some q_72 from H_79); subst H_81
            refine VL_nil ?_
            exact QP_end (decide (at_3 < d_1)) rfl [(0, 0), (1, 1)] hn (by kernel_rfl) (by kernel_rfl) rfl rfl rfl
          · have H_80 := of_f H_77 b_22
            refine V_reg hN hn [(1, ⟨10, 0, [.agg [.val (.int .i64 d_1), .imm (.slice (.pair (.int .i64) (.pair (.int .i64) .str))) d_2]], [], .c (.val (.bool r_19)), [], [], 2⟩)] [(15, true), (19, false)] (calls_cons (palinoderef11_Is_spec K d_1 d_2 r_19 h_20) (by kernel_rfl) calls_nil) 2 [1, 3, 5, 7, 24] [0, 1] ⟨[(1, .c (.val (.int .i64 at_3))), (3, .c (.h 0)), (5, .c (.h 1)), (7, .c (.val (.bool false))), (24, .c (.val (.bool false)))], [(0, .box [.val (.int .i64 d_1), .imm (.slice (.pair (.int .i64) (.pair (.int .i64) .str))) d_2]), (1, .box [.val (.int .i64 i_4), .val (.int .i64 i_5)])], 2⟩ [r_19 = true, (decide (at_3 ≥ (0 : Int))) = false] (by kernel_rfl) rfl rfl (ap2 b_21 (ap1 b_22)) (by kernel_rfl) (by kernel_rfl) ?_
            have H_82 := Option.some.inj (show some false = some q_72 from H_80); subst H_82
            refine VL_nil ?_
            exact QP_end false rfl [(0, 0), (1, 1)] hn (by kernel_rfl) (by kernel_rfl) rfl rfl rfl
        · have H_78 := of_f H_76 b_21
          refine V_reg hN hn [(1, ⟨10, 0, [.agg [.val (.int .i64 d_1), .imm (.slice (.pair (.int .i64) (.pair (.int .i64) .str))) d_2]], [], .c (.val (.bool r_19)), [], [], 2⟩)] [(15, false)] (calls_cons (palinoderef11_Is_spec K d_1 d_2 r_19 h_20) (by kernel_rfl) calls_nil) 2 [1, 3, 5, 7, 24] [0, 1] ⟨[(1, .c (.val (.int .i64 at_3))), (3, .c (.h 0)), (5, .c (.h 1)), (7, .c (.val (.bool false))), (24, .c (.val (.bool false)))], [(0, .box [.val (.int .i64 d_1), .imm (.slice (.pair (.int .i64) (.pair (.int .i64) .str))) d_2]), (1, .box [.val (.int .i64 i_4), .val (.int .i64 i_5)])], 2⟩ [r_19 = false] (by kernel_rfl) rfl rfl (ap1 b_21) (by kernel_rfl) (by kernel_rfl) ?_
          have H_83 := Option.some.inj (show some false = some q_72 from H_78); subst H_83
          refine VL_nil ?_
          exact QP_end false rfl [(0, 0), (1, 1)] hn (by kernel_rfl) (by kernel_rfl) rfl rfl rfl
      · intro y_75 hy; subst hy
        skip
        skip
        obtain ⟨q_84, H_85, H_86⟩ := of_bind H_74
        refine V_cut (Y := Bool) (R := Bool) q_84 (fun y => y) (fun y => [(1, .c (.val (.int .i64 at_3))), (3, .c (.h 0)), (5, .c (.h 1)), (7, .c (.val (.bool y)))]) (fun y => [(0, .box [.val (.int .i64 d_1), .imm (.slice (.pair (.int .i64) (.pair (.int .i64) .str))) d_2]), (1, .box [.val (.int .i64 i_4), .val (.int .i64 i_5)])]) ?_ ?_
        · skip
          refine VL_cond (y_75) (by kernel_rfl) ?_ ?_
          · intro b_27; have H_88 := of_t H_85 b_27
            obtain ⟨r_28, h_29, H_90⟩ := of_bind H_88
            obtain ⟨c_30, H_91⟩ := of_if H_90
            refine V_reg hN hn [(1, ⟨11, 0, [.agg [.val (.int .i64 d_1), .imm (.slice (.pair (.int .i64) (.pair (.int .i64) .str))) d_2]], [], .c (.h 1), [(1, .row .bool r_28)], [(1, 2)], 3⟩)] [] (calls_cons (palinoderef11_Kept_spec K d_1 d_2 r_28 h_29) (by kernel_rfl) calls_nil) 2 [1, 3, 5, 7] [0, 1] ⟨[(1, .c (.val (.int .i64 at_3))), (3, .c (.h 0)), (5, .c (.h 1)), (7, .c (.val (.bool (List.getD r_28 (Int.toNat at_3) false))))], [(0, .box [.val (.int .i64 d_1), .imm (.slice (.pair (.int .i64) (.pair (.int .i64) .str))) d_2]), (1, .box [.val (.int .i64 i_4), .val (.int .i64 i_5)])], 3⟩ [0 ≤ at_3, at_3 < (((List.length r_28) : Nat) : Int)] (by kernel_rfl) rfl rfl (ap2 c_30.1 (ap1 c_30.2)) (by kernel_rfl) (by kernel_rfl) ?_
            have H_92 := Option.some.inj (show some (List.getD r_28 (Int.toNat at_3) false) = some q_84 from H_91); subst H_92
            refine VL_nil ?_
            exact QP_end (List.getD r_28 (Int.toNat at_3) false) rfl [(0, 0), (1, 1)] hn (by kernel_rfl) (by kernel_rfl) rfl rfl rfl
          · intro b_27; have H_89 := of_f H_85 b_27
            refine V_run hN hn 1 2 [1, 3, 5, 7, 24] [0, 1] ⟨[(1, .c (.val (.int .i64 at_3))), (3, .c (.h 0)), (5, .c (.h 1)), (7, .c (.val (.bool false))), (24, .c (.val (.bool y_75)))], [(0, .box [.val (.int .i64 d_1), .imm (.slice (.pair (.int .i64) (.pair (.int .i64) .str))) d_2]), (1, .box [.val (.int .i64 i_4), .val (.int .i64 i_5)])], 2⟩ [] (by kernel_rfl) rfl rfl ap0 ?_
            have H_93 := Option.some.inj (show some false = some q_84 from H_89); subst H_93
            refine VL_nil ?_
            exact QP_end false rfl [(0, 0), (1, 1)] hn (by kernel_rfl) (by kernel_rfl) rfl rfl rfl
        · intro y_87 hy; subst hy
          skip
          skip
          refine V_run hN hn 1 3 [1, 3, 5, 7] [0, 1] ⟨[(1, .c (.val (.int .i64 at_3))), (3, .c (.h 0)), (5, .c (.h 1)), (7, .c (.val (.bool y_87)))], [(0, .box [.val (.int .i64 d_1), .imm (.slice (.pair (.int .i64) (.pair (.int .i64) .str))) d_2]), (1, .box [.val (.int .i64 i_4), .val (.int .i64 i_5)])], 3⟩ [] (by kernel_rfl) rfl rfl ap0 ?_
          obtain ⟨r_34, h_35, H_94⟩ := of_bind H_86
          obtain ⟨r_36, h_37, H_95⟩ := of_bind H_94
          rcases Bool.eq_false_or_eq_true ((r_34 == r_36)) with b_38 | b_38
          · have H_96 := of_t H_95 b_38
            obtain ⟨r_39, h_40, H_98⟩ := of_bind H_96
            obtain ⟨r_41, h_42, H_99⟩ := of_bind H_98
            rcases Bool.eq_false_or_eq_true ((r_39 == r_41)) with b_43 | b_43
            · have H_100 := of_t H_99 b_43
              obtain ⟨r_44, h_45, H_102⟩ := of_bind H_100
              obtain ⟨r_46, h_47, H_103⟩ := of_bind H_102
              rcases Bool.eq_false_or_eq_true ((r_44 == r_46)) with b_48 | b_48
              · have H_104 := of_t H_103 b_48
                obtain ⟨r_49, h_50, H_106⟩ := of_bind H_104
                rcases Bool.eq_false_or_eq_true ((r_49 == y_87)) with b_51 | b_51
                · have H_107 := of_t H_106 b_51
                  obtain ⟨r_52, h_53, H_109⟩ := of_bind H_107
                  obtain ⟨r_54, h_55, H_110⟩ := of_bind H_109
                  refine V_draw hN hn (by kernel_rfl) [(2, ⟨12, 0, [.agg [.val (.int .i64 d_1), .imm (.slice (.pair (.int .i64) (.pair (.int .i64) .str))) d_2], .c (.val (.int .i64 at_3)), .c (.val (.bool false))], [], .c (.val (.int .i64 r_34)), [], [], 3⟩), (5, ⟨13, 0, [.agg [.val (.int .i64 d_1), .imm (.slice (.pair (.int .i64) (.pair (.int .i64) .str))) d_2], .c (.val (.int .i64 at_3)), .c (.val (.bool false))], [], .c (.val (.int .i64 r_36)), [], [], 3⟩), (10, ⟨12, 0, [.agg [.val (.int .i64 d_1), .imm (.slice (.pair (.int .i64) (.pair (.int .i64) .str))) d_2], .c (.val (.int .i64 at_3)), .c (.val (.bool true))], [], .c (.val (.int .i64 r_39)), [], [], 3⟩), (13, ⟨13, 0, [.agg [.val (.int .i64 d_1), .imm (.slice (.pair (.int .i64) (.pair (.int .i64) .str))) d_2], .c (.val (.int .i64 at_3)), .c (.val (.bool true))], [], .c (.val (.int .i64 r_41)), [], [], 3⟩), (19, ⟨14, 0, [.agg [.val (.int .i64 d_1), .imm (.slice (.pair (.int .i64) (.pair (.int .i64) .str))) d_2], .c (.val (.int .i64 at_3))], [], .c (.val (.int .i64 r_44)), [], [], 3⟩), (22, ⟨15, 0, [.agg [.val (.int .i64 d_1), .imm (.slice (.pair (.int .i64) (.pair (.int .i64) .str))) d_2], .c (.val (.int .i64 at_3))], [], .c (.val (.int .i64 r_46)), [], [], 3⟩), (28, ⟨16, 0, [.agg [.val (.int .i64 d_1), .imm (.slice (.pair (.int .i64) (.pair (.int .i64) .str))) d_2], .c (.val (.int .i64 at_3))], [], .c (.val (.bool r_49)), [], [], 3⟩), (35, ⟨17, 0, [.agg [.val (.int .i64 d_1), .imm (.slice (.pair (.int .i64) (.pair (.int .i64) .str))) d_2], .agg [.val (.int .i64 i_4), .val (.int .i64 i_5)]], [], .agg [.val (.int .i64 r_52.1), .val (.int .i64 r_52.2)], [], [], 3⟩), (38, ⟨18, 0, [.agg [.val (.int .i64 d_1), .imm (.slice (.pair (.int .i64) (.pair (.int .i64) .str))) d_2], .agg [.val (.int .i64 i_4), .val (.int .i64 i_5)]], [], .agg [.val (.int .i64 r_54.1), .val (.int .i64 r_54.2)], [], [], 3⟩)] [(37, true), (46, true), (55, true), (62, true)] (calls_cons (offset_Move_spec K d_1 d_2 at_3 false r_34 h_35) (by kernel_rfl) (calls_cons (palinoderef11_Move_spec K d_1 d_2 at_3 false r_36 h_37) (by kernel_rfl) (calls_cons (offset_Move_spec K d_1 d_2 at_3 true r_39 h_40) (by kernel_rfl) (calls_cons (palinoderef11_Move_spec K d_1 d_2 at_3 true r_41 h_42) (by kernel_rfl) (calls_cons (offset_Back_spec K d_1 d_2 at_3 r_44 h_45) (by kernel_rfl) (calls_cons (palinoderef11_Back_spec K d_1 d_2 at_3 r_46 h_47) (by kernel_rfl) (calls_cons (offset_Stays_spec K d_1 d_2 at_3 r_49 h_50) (by kernel_rfl) (calls_cons (offset_Interval_spec K d_1 d_2 i_4 i_5 r_52 h_53) (by kernel_rfl) (calls_cons (palinoderef11_Interval_spec K d_1 d_2 i_4 i_5 r_54 h_55) (by kernel_rfl) calls_nil))))))))) 3 [6] [] ⟨[(6, .c (.val (.bool ((r_52.1 == r_54.1) && (r_52.2 == r_54.2)))))], [], 3⟩ [(r_34 == r_36) = true, (r_39 == r_41) = true, (r_44 == r_46) = true, (r_49 == y_87) = true] (by kernel_rfl) rfl rfl (ap2 b_38 (ap2 b_43 (ap2 b_48 (ap1 b_51)))) (by kernel_rfl) (by kernel_rfl) ?_
                  have H_111 := Option.some.inj (show some ((r_52.1 == r_54.1) && (r_52.2 == r_54.2)) = some r from H_110); subst H_111
                  refine VL_ret ?_
                  exact P_to [(6, .c (.val (.bool ((r_52.1 == r_54.1) && (r_52.2 == r_54.2)))))] [] [] hn (by kernel_rfl) (by kernel_rfl) rfl rfl rfl (QF_retS (by kernel_rfl) (by kernel_rfl) rfl)
                · have H_108 := of_f H_106 b_51
                  refine V_draw hN hn (by kernel_rfl) [(2, ⟨12, 0, [.agg [.val (.int .i64 d_1), .imm (.slice (.pair (.int .i64) (.pair (.int .i64) .str))) d_2], .c (.val (.int .i64 at_3)), .c (.val (.bool false))], [], .c (.val (.int .i64 r_34)), [], [], 3⟩), (5, ⟨13, 0, [.agg [.val (.int .i64 d_1), .imm (.slice (.pair (.int .i64) (.pair (.int .i64) .str))) d_2], .c (.val (.int .i64 at_3)), .c (.val (.bool false))], [], .c (.val (.int .i64 r_36)), [], [], 3⟩), (10, ⟨12, 0, [.agg [.val (.int .i64 d_1), .imm (.slice (.pair (.int .i64) (.pair (.int .i64) .str))) d_2], .c (.val (.int .i64 at_3)), .c (.val (.bool true))], [], .c (.val (.int .i64 r_39)), [], [], 3⟩), (13, ⟨13, 0, [.agg [.val (.int .i64 d_1), .imm (.slice (.pair (.int .i64) (.pair (.int .i64) .str))) d_2], .c (.val (.int .i64 at_3)), .c (.val (.bool true))], [], .c (.val (.int .i64 r_41)), [], [], 3⟩), (19, ⟨14, 0, [.agg [.val (.int .i64 d_1), .imm (.slice (.pair (.int .i64) (.pair (.int .i64) .str))) d_2], .c (.val (.int .i64 at_3))], [], .c (.val (.int .i64 r_44)), [], [], 3⟩), (22, ⟨15, 0, [.agg [.val (.int .i64 d_1), .imm (.slice (.pair (.int .i64) (.pair (.int .i64) .str))) d_2], .c (.val (.int .i64 at_3))], [], .c (.val (.int .i64 r_46)), [], [], 3⟩), (28, ⟨16, 0, [.agg [.val (.int .i64 d_1), .imm (.slice (.pair (.int .i64) (.pair (.int .i64) .str))) d_2], .c (.val (.int .i64 at_3))], [], .c (.val (.bool r_49)), [], [], 3⟩)] [(37, true), (46, true), (55, true), (62, false)] (calls_cons (offset_Move_spec K d_1 d_2 at_3 false r_34 h_35) (by kernel_rfl) (calls_cons (palinoderef11_Move_spec K d_1 d_2 at_3 false r_36 h_37) (by kernel_rfl) (calls_cons (offset_Move_spec K d_1 d_2 at_3 true r_39 h_40) (by kernel_rfl) (calls_cons (palinoderef11_Move_spec K d_1 d_2 at_3 true r_41 h_42) (by kernel_rfl) (calls_cons (offset_Back_spec K d_1 d_2 at_3 r_44 h_45) (by kernel_rfl) (calls_cons (palinoderef11_Back_spec K d_1 d_2 at_3 r_46 h_47) (by kernel_rfl) (calls_cons (offset_Stays_spec K d_1 d_2 at_3 r_49 h_50) (by kernel_rfl) calls_nil))))))) 3 [6] [] ⟨[(6, .c (.val (.bool false)))], [], 3⟩ [(r_34 == r_36) = true, (r_39 == r_41) = true, (r_44 == r_46) = true, (r_49 == y_87) = false] (by kernel_rfl) rfl rfl (ap2 b_38 (ap2 b_43 (ap2 b_48 (ap1 b_51)))) (by kernel_rfl) (by kernel_rfl) ?_
                  have H_112 := Option.some.inj (show some false = some r from H_108); subst H_112
                  refine VL_ret ?_
                  exact P_to [(6, .c (.val (.bool false)))] [] [] hn (by kernel_rfl) (by kernel_rfl) rfl rfl rfl (QF_retS (by kernel_rfl) (by kernel_rfl) rfl)
              · have H_105 := of_f H_103 b_48
                refine V_draw hN hn (by kernel_rfl) [(2, ⟨12, 0, [.agg [.val (.int .i64 d_1), .imm (.slice (.pair (.int .i64) (.pair (.int .i64) .str))) d_2], .c (.val (.int .i64 at_3)), .c (.val (.bool false))], [], .c (.val (.int .i64 r_34)), [], [], 3⟩), (5, ⟨13, 0, [.agg [.val (.int .i64 d_1), .imm (.slice (.pair (.int .i64) (.pair (.int .i64) .str))) d_2], .c (.val (.int .i64 at_3)), .c (.val (.bool false))], [], .c (.val (.int .i64 r_36)), [], [], 3⟩), (10, ⟨12, 0, [.agg [.val (.int .i64 d_1), .imm (.slice (.pair (.int .i64) (.pair (.int .i64) .str))) d_2], .c (.val (.int .i64 at_3)), .c (.val (.bool true))], [], .c (.val (.int .i64 r_39)), [], [], 3⟩), (13, ⟨13, 0, [.agg [.val (.int .i64 d_1), .imm (.slice (.pair (.int .i64) (.pair (.int .i64) .str))) d_2], .c (.val (.int .i64 at_3)), .c (.val (.bool true))], [], .c (.val (.int .i64 r_41)), [], [], 3⟩), (19, ⟨14, 0, [.agg [.val (.int .i64 d_1), .imm (.slice (.pair (.int .i64) (.pair (.int .i64) .str))) d_2], .c (.val (.int .i64 at_3))], [], .c (.val (.int .i64 r_44)), [], [], 3⟩), (22, ⟨15, 0, [.agg [.val (.int .i64 d_1), .imm (.slice (.pair (.int .i64) (.pair (.int .i64) .str))) d_2], .c (.val (.int .i64 at_3))], [], .c (.val (.int .i64 r_46)), [], [], 3⟩)] [(37, true), (46, true), (55, false)] (calls_cons (offset_Move_spec K d_1 d_2 at_3 false r_34 h_35) (by kernel_rfl) (calls_cons (palinoderef11_Move_spec K d_1 d_2 at_3 false r_36 h_37) (by kernel_rfl) (calls_cons (offset_Move_spec K d_1 d_2 at_3 true r_39 h_40) (by kernel_rfl) (calls_cons (palinoderef11_Move_spec K d_1 d_2 at_3 true r_41 h_42) (by kernel_rfl) (calls_cons (offset_Back_spec K d_1 d_2 at_3 r_44 h_45) (by kernel_rfl) (calls_cons (palinoderef11_Back_spec K d_1 d_2 at_3 r_46 h_47) (by kernel_rfl) calls_nil)))))) 3 [6] [] ⟨[(6, .c (.val (.bool false)))], [], 3⟩ [(r_34 == r_36) = true, (r_39 == r_41) = true, (r_44 == r_46) = false] (by kernel_rfl) rfl rfl (ap2 b_38 (ap2 b_43 (ap1 b_48))) (by kernel_rfl) (by kernel_rfl) ?_
                have H_113 := Option.some.inj (show some false = some r from H_105); subst H_113
                refine VL_ret ?_
                exact P_to [(6, .c (.val (.bool false)))] [] [] hn (by kernel_rfl) (by kernel_rfl) rfl rfl rfl (QF_retS (by kernel_rfl) (by kernel_rfl) rfl)
            · have H_101 := of_f H_99 b_43
              refine V_draw hN hn (by kernel_rfl) [(2, ⟨12, 0, [.agg [.val (.int .i64 d_1), .imm (.slice (.pair (.int .i64) (.pair (.int .i64) .str))) d_2], .c (.val (.int .i64 at_3)), .c (.val (.bool false))], [], .c (.val (.int .i64 r_34)), [], [], 3⟩), (5, ⟨13, 0, [.agg [.val (.int .i64 d_1), .imm (.slice (.pair (.int .i64) (.pair (.int .i64) .str))) d_2], .c (.val (.int .i64 at_3)), .c (.val (.bool false))], [], .c (.val (.int .i64 r_36)), [], [], 3⟩), (10, ⟨12, 0, [.agg [.val (.int .i64 d_1), .imm (.slice (.pair (.int .i64) (.pair (.int .i64) .str))) d_2], .c (.val (.int .i64 at_3)), .c (.val (.bool true))], [], .c (.val (.int .i64 r_39)), [], [], 3⟩), (13, ⟨13, 0, [.agg [.val (.int .i64 d_1), .imm (.slice (.pair (.int .i64) (.pair (.int .i64) .str))) d_2], .c (.val (.int .i64 at_3)), .c (.val (.bool true))], [], .c (.val (.int .i64 r_41)), [], [], 3⟩)] [(37, true), (46, false)] (calls_cons (offset_Move_spec K d_1 d_2 at_3 false r_34 h_35) (by kernel_rfl) (calls_cons (palinoderef11_Move_spec K d_1 d_2 at_3 false r_36 h_37) (by kernel_rfl) (calls_cons (offset_Move_spec K d_1 d_2 at_3 true r_39 h_40) (by kernel_rfl) (calls_cons (palinoderef11_Move_spec K d_1 d_2 at_3 true r_41 h_42) (by kernel_rfl) calls_nil)))) 3 [6] [] ⟨[(6, .c (.val (.bool false)))], [], 3⟩ [(r_34 == r_36) = true, (r_39 == r_41) = false] (by kernel_rfl) rfl rfl (ap2 b_38 (ap1 b_43)) (by kernel_rfl) (by kernel_rfl) ?_
              have H_114 := Option.some.inj (show some false = some r from H_101); subst H_114
              refine VL_ret ?_
              exact P_to [(6, .c (.val (.bool false)))] [] [] hn (by kernel_rfl) (by kernel_rfl) rfl rfl rfl (QF_retS (by kernel_rfl) (by kernel_rfl) rfl)
          · have H_97 := of_f H_95 b_38
            refine V_draw hN hn (by kernel_rfl) [(2, ⟨12, 0, [.agg [.val (.int .i64 d_1), .imm (.slice (.pair (.int .i64) (.pair (.int .i64) .str))) d_2], .c (.val (.int .i64 at_3)), .c (.val (.bool false))], [], .c (.val (.int .i64 r_34)), [], [], 3⟩), (5, ⟨13, 0, [.agg [.val (.int .i64 d_1), .imm (.slice (.pair (.int .i64) (.pair (.int .i64) .str))) d_2], .c (.val (.int .i64 at_3)), .c (.val (.bool false))], [], .c (.val (.int .i64 r_36)), [], [], 3⟩)] [(37, false)] (calls_cons (offset_Move_spec K d_1 d_2 at_3 false r_34 h_35) (by kernel_rfl) (calls_cons (palinoderef11_Move_spec K d_1 d_2 at_3 false r_36 h_37) (by kernel_rfl) calls_nil)) 3 [6] [] ⟨[(6, .c (.val (.bool false)))], [], 3⟩ [(r_34 == r_36) = false] (by kernel_rfl) rfl rfl (ap1 b_38) (by kernel_rfl) (by kernel_rfl) ?_
            have H_115 := Option.some.inj (show some false = some r from H_97); subst H_115
            refine VL_ret ?_
            exact P_to [(6, .c (.val (.bool false)))] [] [] hn (by kernel_rfl) (by kernel_rfl) rfl rfl rfl (QF_retS (by kernel_rfl) (by kernel_rfl) rfl)

end Go.Pal
