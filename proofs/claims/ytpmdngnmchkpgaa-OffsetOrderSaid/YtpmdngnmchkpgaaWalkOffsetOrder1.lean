/- The Go functions that OffsetOrder reaches compute what the plain functions say: part 1, printed by a program of this workplace. -/
import Derived.Test.YtpmdngnmchkpgaaChecked
import Derived.Test.YtpmdngnmchkpgaaWalkOffsetOrder0
namespace Go.Pal
open Go Go.Proofs
set_option maxRecDepth 100000
set_option linter.unusedVariables false

theorem offset_Move_sgngg_spec (K : Nat) (d_1 : Int) (at_2 : Int) (after_3 : Bool) (r : Int) (H : offset_Move_sgngg K d_1 at_2 after_3 = some r) : Spec Try.prog 12 0 [.agg [.val (.int .i64 d_1), .val (.slice none 0 0)], .c (.val (.int .i64 at_2)), .c (.val (.bool after_3))] [] (.c (.val (.int .i64 r))) [] := by
  refine Spec_mk (fn := Try.f12) (c := (Try.f12.body).get!) Try.func12 (by kernel_rfl) rfl ?_
  intro C hN hn
  replace hN : C.N = 61 := hN
  unfold offset_Move_sgngg at H
  refine V_run hN hn 2 0 [1, 2, 3] [0] ⟨[(1, .c (.val (.int .i64 at_2))), (2, .c (.val (.bool after_3))), (3, .c (.h 0))], [(0, .box [.val (.int .i64 d_1), .val (.slice none 0 0)])], 1⟩ [] (by kernel_rfl) rfl rfl ap0 ?_
  refine VL_scope ?_
  refine V_run hN hn 2 1 [1, 2, 3] [0] ⟨[(1, .c (.val (.int .i64 at_2))), (2, .c (.val (.bool after_3))), (3, .c (.h 0))], [(0, .box [.val (.int .i64 d_1), .val (.slice none 0 0)])], 1⟩ [] (by kernel_rfl) rfl rfl ap0 ?_
  obtain ⟨r_6, h_7, H_42⟩ := of_bind H
  refine V_reg hN hn [(1, ⟨24, 0, [.agg [.val (.int .i64 d_1), .val (.slice none 0 0)]], [], .c (.val (.bool r_6)), [], [], 1⟩)] [] (calls_cons (delta_Is_sgn_spec K d_1 r_6 h_7) (by kernel_rfl) calls_nil) 1 [1, 2, 3, 13] [0] ⟨[(1, .c (.val (.int .i64 at_2))), (2, .c (.val (.bool after_3))), (3, .c (.h 0)), (13, .c (.val (.bool (!r_6))))], [(0, .box [.val (.int .i64 d_1), .val (.slice none 0 0)])], 1⟩ [] (by kernel_rfl) rfl rfl ap0 (by kernel_rfl) (by kernel_rfl) ?_
  refine VL_cond ((!r_6)) (by kernel_rfl) ?_ ?_
  · intro b_9; have H_43 := of_t H_42 b_9
    refine V_run hN hn 2 1 [6] [] ⟨[(6, .c (.val (.int .i64 (0 : Int))))], [], 1⟩ [] (by kernel_rfl) rfl rfl ap0 ?_
    have H_45 := Option.some.inj (show some (0 : Int) = some r from H_43); subst H_45
    refine VL_ret ?_
    refine QG_ret ?_
    exact P_to [(6, .c (.val (.int .i64 (0 : Int))))] [] [] hn (by kernel_rfl) (by kernel_rfl) rfl rfl rfl (QF_retS (by kernel_rfl) (by kernel_rfl) rfl)
  · intro b_9; have H_44 := of_f H_42 b_9
    refine V_run hN hn 6 1 [1, 2, 3, 7, 8] [0] ⟨[(1, .c (.val (.int .i64 (mn2 (mx2 at_2 (0 : Int)) d_1)))), (2, .c (.val (.bool after_3))), (3, .c (.h 0)), (7, .c (.val (.int .i64 (0 : Int)))), (8, .c (.val (.int .i64 (0 : Int))))], [(0, .box [.val (.int .i64 d_1), .val (.slice none 0 0)])], 1⟩ [] (by kernel_rfl) rfl rfl ap0 ?_
    refine VL_label ?_
    refine V_run hN hn 3 1 [1, 2, 7, 8, 20, 21, 22] [] ⟨[(1, .c (.val (.int .i64 (mn2 (mx2 at_2 (0 : Int)) d_1)))), (2, .c (.val (.bool after_3))), (7, .c (.val (.int .i64 (0 : Int)))), (8, .c (.val (.int .i64 (0 : Int)))), (20, .c (.val (.slice none 0 0))), (21, .c (.val (.int .i64 (0 : Int)))), (22, .c (.val (.int .i64 (0 : Int))))], [], 1⟩ [] (by kernel_rfl) rfl rfl ap0 ?_
    obtain ⟨q_46, H_47, H_48⟩ := of_bind H_44
    refine V_cut (Y := (Int × Int)) (R := (Int × Int)) q_46 (fun y => y) (fun y => [(2, .c (.val (.bool after_3))), (7, .c (.val (.int .i64 y.1))), (8, .c (.val (.int .i64 y.2)))]) (fun y => []) ?_ ?_
    · skip
      refine VL_block ?_
      refine V_to [(1, .c (.val (.int .i64 (mn2 (mx2 at_2 (0 : Int)) d_1)))), (2, .c (.val (.bool after_3))), (7, .c (.val (.int .i64 (0 : Int)))), (8, .c (.val (.int .i64 (0 : Int)))), (20, .c (.val (.slice none 0 0))), (21, .c (.val (.int .i64 (0 : Int)))), (22, .c (.val (.int .i64 (0 : Int))))] [] [] hn (by kernel_rfl) (by kernel_rfl) rfl rfl rfl ?_
      refine VL_loop (X := (Int × Int × Int)) (fun x => [(1, .c (.val (.int .i64 (mn2 (mx2 at_2 (0 : Int)) d_1)))), (2, .c (.val (.bool after_3))), (7, .c (.val (.int .i64 x.1))), (8, .c (.val (.int .i64 x.2.1))), (20, .c (.val (.slice none 0 0))), (21, .c (.val (.int .i64 (0 : Int)))), (22, .c (.val (.int .i64 x.2.2)))]) (fun x => []) (fun k x => offset_Move_sgngg.l0 K at_2 d_1 k x.1 x.2.1 x.2.2 = some q_46) K ((0 : Int), (0 : Int), (0 : Int)) H_47 (fun _ h => no_none h) ?_
      intro k_16 x_16 H_50
      obtain ⟨n_13, waits_14, t_15⟩ := x_16
      have H_51 : offset_Move_sgngg.l0 K at_2 d_1 (k_16 + 1) n_13 waits_14 t_15 = some q_46 := H_50
      rw [offset_Move_sgngg.l0] at H_51
      refine V_run hN hn 3 1 [1, 2, 7, 8, 20, 21, 22, 23] [] ⟨[(1, .c (.val (.int .i64 (mn2 (mx2 at_2 (0 : Int)) d_1)))), (2, .c (.val (.bool after_3))), (7, .c (.val (.int .i64 n_13))), (8, .c (.val (.int .i64 waits_14))), (20, .c (.val (.slice none 0 0))), (21, .c (.val (.int .i64 (0 : Int)))), (22, .c (.val (.int .i64 t_15))), (23, .c (.val (.bool (decide (t_15 < (0 : Int))))))], [], 1⟩ [] (by kernel_rfl) rfl rfl ap0 ?_
      refine VL_cond ((decide (t_15 < (0 : Int)))) (by kernel_rfl) ?_ ?_
      · intro b_18; have H_52 := of_t H_51 b_18
        refine V_run hN hn 2 1 [1, 2, 7, 8, 20, 21, 22, 23] [] ⟨[(1, .c (.val (.int .i64 (mn2 (mx2 at_2 (0 : Int)) d_1)))), (2, .c (.val (.bool after_3))), (7, .c (.val (.int .i64 n_13))), (8, .c (.val (.int .i64 waits_14))), (20, .c (.val (.slice none 0 0))), (21, .c (.val (.int .i64 (0 : Int)))), (22, .c (.val (.int .i64 t_15))), (23, .c (.val (.bool (decide (t_15 < (0 : Int))))))], [], 1⟩ [] (by kernel_rfl) rfl rfl ap0 ?_
        refine VL_block ?_
        obtain ⟨c_20, H_54⟩ := of_if H_52
        refine V_run hN hn 2 1 [1, 2, 7, 8, 10, 20, 21, 22] [1] ⟨[(1, .c (.val (.int .i64 (mn2 (mx2 at_2 (0 : Int)) d_1)))), (2, .c (.val (.bool after_3))), (7, .c (.val (.int .i64 n_13))), (8, .c (.val (.int .i64 waits_14))), (10, .c (.h 1)), (20, .c (.val (.slice none 0 0))), (21, .c (.val (.int .i64 (0 : Int)))), (22, .c (.val (.int .i64 t_15)))], [(1, .box [.val (.int .i64 (List.getD ([] : List (Int × (Int × ByteArray))) (Int.toNat t_15) ((0 : Int), ((0 : Int), ByteArray.empty))).1), .val (.int .i64 (List.getD ([] : List (Int × (Int × ByteArray))) (Int.toNat t_15) ((0 : Int), ((0 : Int), ByteArray.empty))).2.1), .val (.string (List.getD ([] : List (Int × (Int × ByteArray))) (Int.toNat t_15) ((0 : Int), ((0 : Int), ByteArray.empty))).2.2)])], 2⟩ [0 ≤ t_15, t_15 < (((List.length ([] : List (Int × (Int × ByteArray)))) : Nat) : Int)] (by kernel_rfl) rfl rfl (ap2 c_20.1 (ap1 c_20.2)) ?_
        refine VL_block ?_
        refine V_run hN hn 1 2 [1, 2, 7, 8, 10, 20, 21, 22] [1] ⟨[(1, .c (.val (.int .i64 (mn2 (mx2 at_2 (0 : Int)) d_1)))), (2, .c (.val (.bool after_3))), (7, .c (.val (.int .i64 n_13))), (8, .c (.val (.int .i64 waits_14))), (10, .c (.h 1)), (20, .c (.val (.slice none 0 0))), (21, .c (.val (.int .i64 (0 : Int)))), (22, .c (.val (.int .i64 t_15)))], [(1, .box [.val (.int .i64 (List.getD ([] : List (Int × (Int × ByteArray))) (Int.toNat t_15) ((0 : Int), ((0 : Int), ByteArray.empty))).1), .val (.int .i64 (List.getD ([] : List (Int × (Int × ByteArray))) (Int.toNat t_15) ((0 : Int), ((0 : Int), ByteArray.empty))).2.1), .val (.string (List.getD ([] : List (Int × (Int × ByteArray))) (Int.toNat t_15) ((0 : Int), ((0 : Int), ByteArray.empty))).2.2)])], 2⟩ [] (by kernel_rfl) rfl rfl ap0 ?_
        obtain ⟨r_22, h_23, H_55⟩ := of_bind H_54
        refine V_reg hN hn [(1, ⟨25, 0, [.agg [.val (.int .i64 (List.getD ([] : List (Int × (Int × ByteArray))) (Int.toNat t_15) ((0 : Int), ((0 : Int), ByteArray.empty))).1), .val (.int .i64 (List.getD ([] : List (Int × (Int × ByteArray))) (Int.toNat t_15) ((0 : Int), ((0 : Int), ByteArray.empty))).2.1), .val (.string (List.getD ([] : List (Int × (Int × ByteArray))) (Int.toNat t_15) ((0 : Int), ((0 : Int), ByteArray.empty))).2.2)]], [], .c (.val (.bool r_22)), [], [], 2⟩)] [] (calls_cons (delta_IsCopy_spec K (List.getD ([] : List (Int × (Int × ByteArray))) (Int.toNat t_15) ((0 : Int), ((0 : Int), ByteArray.empty))).1 (List.getD ([] : List (Int × (Int × ByteArray))) (Int.toNat t_15) ((0 : Int), ((0 : Int), ByteArray.empty))).2.1 (List.getD ([] : List (Int × (Int × ByteArray))) (Int.toNat t_15) ((0 : Int), ((0 : Int), ByteArray.empty))).2.2 r_22 h_23) (by kernel_rfl) calls_nil) 2 [1, 2, 7, 8, 10, 20, 21, 22, 41] [1] ⟨[(1, .c (.val (.int .i64 (mn2 (mx2 at_2 (0 : Int)) d_1)))), (2, .c (.val (.bool after_3))), (7, .c (.val (.int .i64 n_13))), (8, .c (.val (.int .i64 waits_14))), (10, .c (.h 1)), (20, .c (.val (.slice none 0 0))), (21, .c (.val (.int .i64 (0 : Int)))), (22, .c (.val (.int .i64 t_15))), (41, .c (.val (.bool (!r_22))))], [(1, .box [.val (.int .i64 (List.getD ([] : List (Int × (Int × ByteArray))) (Int.toNat t_15) ((0 : Int), ((0 : Int), ByteArray.empty))).1), .val (.int .i64 (List.getD ([] : List (Int × (Int × ByteArray))) (Int.toNat t_15) ((0 : Int), ((0 : Int), ByteArray.empty))).2.1), .val (.string (List.getD ([] : List (Int × (Int × ByteArray))) (Int.toNat t_15) ((0 : Int), ((0 : Int), ByteArray.empty))).2.2)])], 2⟩ [] (by kernel_rfl) rfl rfl ap0 (by kernel_rfl) (by kernel_rfl) ?_
        refine VL_cond ((!r_22)) (by kernel_rfl) ?_ ?_
        · intro b_25; have H_56 := of_t H_55 b_25
          refine V_run hN hn 1 2 [1, 2, 7, 8, 20, 21, 22] [] ⟨[(1, .c (.val (.int .i64 (mn2 (mx2 at_2 (0 : Int)) d_1)))), (2, .c (.val (.bool after_3))), (7, .c (.val (.int .i64 n_13))), (8, .c (.val (.int .i64 (IntKind.wrap .i64 (waits_14 + (((ByteArray.size (List.getD ([] : List (Int × (Int × ByteArray))) (Int.toNat t_15) ((0 : Int), ((0 : Int), ByteArray.empty))).2.2) : Nat) : Int)))))), (20, .c (.val (.slice none 0 0))), (21, .c (.val (.int .i64 (0 : Int)))), (22, .c (.val (.int .i64 t_15)))], [], 2⟩ [] (by kernel_rfl) rfl rfl ap0 ?_
          refine VL_nil (QB_end ?_)
          refine VL_nil (QB_end ?_)
          refine V_run hN hn 1 2 [1, 2, 7, 8, 20, 21, 22] [] ⟨[(1, .c (.val (.int .i64 (mn2 (mx2 at_2 (0 : Int)) d_1)))), (2, .c (.val (.bool after_3))), (7, .c (.val (.int .i64 n_13))), (8, .c (.val (.int .i64 (IntKind.wrap .i64 (waits_14 + (((ByteArray.size (List.getD ([] : List (Int × (Int × ByteArray))) (Int.toNat t_15) ((0 : Int), ((0 : Int), ByteArray.empty))).2.2) : Nat) : Int)))))), (20, .c (.val (.slice none 0 0))), (21, .c (.val (.int .i64 (0 : Int)))), (22, .c (.val (.int .i64 (IntKind.wrap .i64 (t_15 + (1 : Int))))))], [], 2⟩ [] (by kernel_rfl) rfl rfl ap0 ?_
          refine VL_nil ?_
          exact V_roundEnd (n_13, (IntKind.wrap .i64 (waits_14 + (((ByteArray.size (List.getD ([] : List (Int × (Int × ByteArray))) (Int.toNat t_15) ((0 : Int), ((0 : Int), ByteArray.empty))).2.2) : Nat) : Int))), (IntKind.wrap .i64 (t_15 + (1 : Int)))) H_56 [] hn (by kernel_rfl) (by kernel_rfl) rfl rfl rfl
        · intro b_25; have H_57 := of_f H_55 b_25
          refine V_run hN hn 2 2 [1, 2, 7, 8, 10, 20, 21, 22, 50] [1] ⟨[(1, .c (.val (.int .i64 (mn2 (mx2 at_2 (0 : Int)) d_1)))), (2, .c (.val (.bool after_3))), (7, .c (.val (.int .i64 n_13))), (8, .c (.val (.int .i64 waits_14))), (10, .c (.h 1)), (20, .c (.val (.slice none 0 0))), (21, .c (.val (.int .i64 (0 : Int)))), (22, .c (.val (.int .i64 t_15))), (50, .c (.val (.bool (decide ((List.getD ([] : List (Int × (Int × ByteArray))) (Int.toNat t_15) ((0 : Int), ((0 : Int), ByteArray.empty))).1 ≥ (mn2 (mx2 at_2 (0 : Int)) d_1))))))], [(1, .box [.val (.int .i64 (List.getD ([] : List (Int × (Int × ByteArray))) (Int.toNat t_15) ((0 : Int), ((0 : Int), ByteArray.empty))).1), .val (.int .i64 (List.getD ([] : List (Int × (Int × ByteArray))) (Int.toNat t_15) ((0 : Int), ((0 : Int), ByteArray.empty))).2.1), .val (.string (List.getD ([] : List (Int × (Int × ByteArray))) (Int.toNat t_15) ((0 : Int), ((0 : Int), ByteArray.empty))).2.2)])], 2⟩ [] (by kernel_rfl) rfl rfl ap0 ?_
          refine VL_cond ((decide ((List.getD ([] : List (Int × (Int × ByteArray))) (Int.toNat t_15) ((0 : Int), ((0 : Int), ByteArray.empty))).1 ≥ (mn2 (mx2 at_2 (0 : Int)) d_1)))) (by kernel_rfl) ?_ ?_
          · intro b_29; have H_58 := of_t H_57 b_29
            refine VL_exit ?_
            refine QB_out (by decide) ?_
            refine QB_out (by decide) ?_
            refine QL_exit ?_
            refine QB_here ?_
            have H_60 := Option.some.inj (show some (n_13, waits_14) = some q_46 from H_58); subst H_60
            refine VL_nil ?_
            exact QP_end (n_13, waits_14) rfl [] hn (by kernel_rfl) (by kernel_rfl) rfl rfl rfl
          · intro b_29; have H_59 := of_f H_57 b_29
            refine V_run hN hn 6 2 [1, 2, 7, 8, 20, 21, 22, 40] [] ⟨[(1, .c (.val (.int .i64 (mn2 (mx2 at_2 (0 : Int)) d_1)))), (2, .c (.val (.bool after_3))), (7, .c (.val (.int .i64 (IntKind.wrap .i64 (n_13 + (IntKind.wrap .i64 ((IntKind.wrap .i64 (waits_14 + (mn2 (List.getD ([] : List (Int × (Int × ByteArray))) (Int.toNat t_15) ((0 : Int), ((0 : Int), ByteArray.empty))).2.1 (mn2 (mx2 at_2 (0 : Int)) d_1)))) - (List.getD ([] : List (Int × (Int × ByteArray))) (Int.toNat t_15) ((0 : Int), ((0 : Int), ByteArray.empty))).1))))))), (8, .c (.val (.int .i64 (0 : Int)))), (20, .c (.val (.slice none 0 0))), (21, .c (.val (.int .i64 (0 : Int)))), (22, .c (.val (.int .i64 t_15))), (40, .c (.val (.bool (decide ((List.getD ([] : List (Int × (Int × ByteArray))) (Int.toNat t_15) ((0 : Int), ((0 : Int), ByteArray.empty))).2.1 > (mn2 (mx2 at_2 (0 : Int)) d_1))))))], [], 2⟩ [] (by kernel_rfl) rfl rfl ap0 ?_
            refine VL_cond ((decide ((List.getD ([] : List (Int × (Int × ByteArray))) (Int.toNat t_15) ((0 : Int), ((0 : Int), ByteArray.empty))).2.1 > (mn2 (mx2 at_2 (0 : Int)) d_1)))) (by kernel_rfl) ?_ ?_
            · intro b_31; have H_61 := of_t H_59 b_31
              refine VL_exit ?_
              refine QB_out (by decide) ?_
              refine QB_out (by decide) ?_
              refine QL_exit ?_
              refine QB_here ?_
              have H_63 := Option.some.inj (show some ((IntKind.wrap .i64 (n_13 + (IntKind.wrap .i64 ((IntKind.wrap .i64 (waits_14 + (mn2 (List.getD ([] : List (Int × (Int × ByteArray))) (Int.toNat t_15) ((0 : Int), ((0 : Int), ByteArray.empty))).2.1 (mn2 (mx2 at_2 (0 : Int)) d_1)))) - (List.getD ([] : List (Int × (Int × ByteArray))) (Int.toNat t_15) ((0 : Int), ((0 : Int), ByteArray.empty))).1)))), (0 : Int)) = some q_46 from H_61); subst H_63
              refine VL_nil ?_
              exact QP_end ((IntKind.wrap .i64 (n_13 + (IntKind.wrap .i64 ((IntKind.wrap .i64 (waits_14 + (mn2 (List.getD ([] : List (Int × (Int × ByteArray))) (Int.toNat t_15) ((0 : Int), ((0 : Int), ByteArray.empty))).2.1 (mn2 (mx2 at_2 (0 : Int)) d_1)))) - (List.getD ([] : List (Int × (Int × ByteArray))) (Int.toNat t_15) ((0 : Int), ((0 : Int), ByteArray.empty))).1)))), (0 : Int)) rfl [] hn (by kernel_rfl) (by kernel_rfl) rfl rfl rfl
            · intro b_31; have H_62 := of_f H_59 b_31
              refine V_run hN hn 1 2 [1, 2, 7, 8, 20, 21, 22, 40] [] ⟨[(1, .c (.val (.int .i64 (mn2 (mx2 at_2 (0 : Int)) d_1)))), (2, .c (.val (.bool after_3))), (7, .c (.val (.int .i64 (IntKind.wrap .i64 (n_13 + (IntKind.wrap .i64 ((IntKind.wrap .i64 (waits_14 + (mn2 (List.getD ([] : List (Int × (Int × ByteArray))) (Int.toNat t_15) ((0 : Int), ((0 : Int), ByteArray.empty))).2.1 (mn2 (mx2 at_2 (0 : Int)) d_1)))) - (List.getD ([] : List (Int × (Int × ByteArray))) (Int.toNat t_15) ((0 : Int), ((0 : Int), ByteArray.empty))).1))))))), (8, .c (.val (.int .i64 (0 : Int)))), (20, .c (.val (.slice none 0 0))), (21, .c (.val (.int .i64 (0 : Int)))), (22, .c (.val (.int .i64 t_15))), (40, .c (.val (.bool (decide ((List.getD ([] : List (Int × (Int × ByteArray))) (Int.toNat t_15) ((0 : Int), ((0 : Int), ByteArray.empty))).2.1 > (mn2 (mx2 at_2 (0 : Int)) d_1))))))], [], 2⟩ [] (by kernel_rfl) rfl rfl ap0 ?_
              refine VL_nil (QB_end ?_)
              refine VL_nil (QB_end ?_)
              refine V_run hN hn 1 2 [1, 2, 7, 8, 20, 21, 22] [] ⟨[(1, .c (.val (.int .i64 (mn2 (mx2 at_2 (0 : Int)) d_1)))), (2, .c (.val (.bool after_3))), (7, .c (.val (.int .i64 (IntKind.wrap .i64 (n_13 + (IntKind.wrap .i64 ((IntKind.wrap .i64 (waits_14 + (mn2 (List.getD ([] : List (Int × (Int × ByteArray))) (Int.toNat t_15) ((0 : Int), ((0 : Int), ByteArray.empty))).2.1 (mn2 (mx2 at_2 (0 : Int)) d_1)))) - (List.getD ([] : List (Int × (Int × ByteArray))) (Int.toNat t_15) ((0 : Int), ((0 : Int), ByteArray.empty))).1))))))), (8, .c (.val (.int .i64 (0 : Int)))), (20, .c (.val (.slice none 0 0))), (21, .c (.val (.int .i64 (0 : Int)))), (22, .c (.val (.int .i64 (IntKind.wrap .i64 (t_15 + (1 : Int))))))], [], 2⟩ [] (by kernel_rfl) rfl rfl ap0 ?_
              refine VL_nil ?_
              exact V_roundEnd ((IntKind.wrap .i64 (n_13 + (IntKind.wrap .i64 ((IntKind.wrap .i64 (waits_14 + (mn2 (List.getD ([] : List (Int × (Int × ByteArray))) (Int.toNat t_15) ((0 : Int), ((0 : Int), ByteArray.empty))).2.1 (mn2 (mx2 at_2 (0 : Int)) d_1)))) - (List.getD ([] : List (Int × (Int × ByteArray))) (Int.toNat t_15) ((0 : Int), ((0 : Int), ByteArray.empty))).1)))), (0 : Int), (IntKind.wrap .i64 (t_15 + (1 : Int)))) H_62 [] hn (by kernel_rfl) (by kernel_rfl) rfl rfl rfl
      · intro b_18; have H_53 := of_f H_51 b_18
        refine VL_exit ?_
        refine QL_exit ?_
        refine QB_here ?_
        have H_64 := Option.some.inj (show some (n_13, waits_14) = some q_46 from H_53); subst H_64
        refine VL_nil ?_
        exact QP_end (n_13, waits_14) rfl [] hn (by kernel_rfl) (by kernel_rfl) rfl rfl rfl
    · intro y_49 hy; subst hy
      obtain ⟨n_34, waits_35⟩ := y_49
      refine V_run hN hn 3 2 [7, 8, 56] [] ⟨[(7, .c (.val (.int .i64 n_34))), (8, .c (.val (.int .i64 waits_35))), (56, .c (.val (.bool after_3)))], [], 2⟩ [] (by kernel_rfl) rfl rfl ap0 ?_
      refine VL_cond (after_3) (by kernel_rfl) ?_ ?_
      · intro b_37; have H_65 := of_t H_48 b_37
        refine V_run hN hn 3 2 [6] [] ⟨[(6, .c (.val (.int .i64 (IntKind.wrap .i64 (n_34 + waits_35)))))], [], 2⟩ [] (by kernel_rfl) rfl rfl ap0 ?_
        have H_67 := Option.some.inj (show some (IntKind.wrap .i64 (n_34 + waits_35)) = some r from H_65); subst H_67
        refine VL_ret ?_
        refine QG_ret ?_
        exact P_to [(6, .c (.val (.int .i64 (IntKind.wrap .i64 (n_34 + waits_35)))))] [] [] hn (by kernel_rfl) (by kernel_rfl) rfl rfl rfl (QF_retS (by kernel_rfl) (by kernel_rfl) rfl)
      · intro b_37; have H_66 := of_f H_48 b_37
        refine V_run hN hn 3 2 [6] [] ⟨[(6, .c (.val (.int .i64 n_34)))], [], 2⟩ [] (by kernel_rfl) rfl rfl ap0 ?_
        have H_68 := Option.some.inj (show some n_34 = some r from H_66); subst H_68
        refine VL_ret ?_
        refine QG_ret ?_
        exact P_to [(6, .c (.val (.int .i64 n_34)))] [] [] hn (by kernel_rfl) (by kernel_rfl) rfl rfl rfl (QF_retS (by kernel_rfl) (by kernel_rfl) rfl)

theorem palinodelaw14_known_spec (K : Nat) (r : Bool) (H : palinodelaw14_known K  = some r) : Spec Try.prog 8 0 [] [] (.c (.val (.bool r))) [] := by
  refine Spec_mk (fn := Try.f8) (c := (Try.f8.body).get!) Try.func8 (by kernel_rfl) rfl ?_
  intro C hN hn
  replace hN : C.N = 62 := hN
  unfold palinodelaw14_known at H
  refine V_run hN hn 3 0 [] [] ⟨[], [], 0⟩ [] (by kernel_rfl) rfl rfl ap0 ?_
  obtain ⟨r_2, h_3, H_48⟩ := of_bind H
  refine V_reg hN hn [(2, ⟨19, 1, [.c (.val (.int .i64 (4 : Int))), .c (.h 0)], [(0, .row (.pair (.int .i64) (.pair (.int .i64) .str)) ([((2 : Int), ((2 : Int), (ByteArray.mk #[120])))] : List (Int × (Int × ByteArray))))], .tup [(true, [.val (.int .i64 r_2.1), .imm (.slice (.pair (.int .i64) (.pair (.int .i64) .str))) r_2.2.1]), (false, [.val (.int .i64 r_2.2.2)])], [(0, .row (.pair (.int .i64) (.pair (.int .i64) .str)) ([((2 : Int), ((2 : Int), (ByteArray.mk #[120])))] : List (Int × (Int × ByteArray))))], [(0, 0)], 1⟩)] [] (calls_cons (delta_Build_gr_spec K (4 : Int) ([((2 : Int), ((2 : Int), (ByteArray.mk #[120])))] : List (Int × (Int × ByteArray))) r_2 h_3) (by kernel_rfl) calls_nil) 0 [1, 2] [1] ⟨[(1, .c (.h 1)), (2, .c (.val (.int .i64 r_2.2.2)))], [(1, .box [.val (.int .i64 r_2.1), .imm (.slice (.pair (.int .i64) (.pair (.int .i64) .str))) r_2.2.1])], 2⟩ [] (by kernel_rfl) rfl rfl ap0 (by kernel_rfl) (by kernel_rfl) ?_
  refine V_run hN hn 1 2 [1, 2] [1] ⟨[(1, .c (.h 1)), (2, .c (.val (.int .i64 r_2.2.2)))], [(1, .box [.val (.int .i64 r_2.1), .imm (.slice (.pair (.int .i64) (.pair (.int .i64) .str))) r_2.2.1])], 2⟩ [] (by kernel_rfl) rfl rfl ap0 ?_
  rcases Bool.eq_false_or_eq_true ((r_2.2.2 == (0 : Int))) with b_6 | b_6
  · have H_49 := of_t H_48 b_6
    obtain ⟨r_7, h_8, H_51⟩ := of_bind H_49
    rcases Bool.eq_false_or_eq_true ((r_7 == (2 : Int))) with b_9 | b_9
    · have H_52 := of_t H_51 b_9
      obtain ⟨r_10, h_11, H_54⟩ := of_bind H_52
      rcases Bool.eq_false_or_eq_true ((r_10 == (3 : Int))) with b_12 | b_12
      · have H_55 := of_t H_54 b_12
        obtain ⟨r_13, h_14, H_57⟩ := of_bind H_55
        rcases Bool.eq_false_or_eq_true ((r_13 == (4 : Int))) with b_15 | b_15
        · have H_58 := of_t H_57 b_15
          obtain ⟨r_16, h_17, H_60⟩ := of_bind H_58
          rcases Bool.eq_false_or_eq_true ((r_16 == (2 : Int))) with b_18 | b_18
          · have H_61 := of_t H_60 b_18
            obtain ⟨r_19, h_20, H_63⟩ := of_bind H_61
            rcases Bool.eq_false_or_eq_true ((r_19 == (2 : Int))) with b_21 | b_21
            · have H_64 := of_t H_63 b_21
              obtain ⟨r_22, h_23, H_66⟩ := of_bind H_64
              rcases Bool.eq_false_or_eq_true ((r_22 == (4 : Int))) with b_24 | b_24
              · have H_67 := of_t H_66 b_24
                obtain ⟨r_25, h_26, H_69⟩ := of_bind H_67
                rcases Bool.eq_false_or_eq_true (r_25) with b_27 | b_27
                · have H_70 := of_t H_69 b_27
                  obtain ⟨r_28, h_29, H_72⟩ := of_bind H_70
                  rcases Bool.eq_false_or_eq_true ((!r_28)) with b_30 | b_30
                  · have H_73 := of_t H_72 b_30
                    obtain ⟨r_31, h_32, H_75⟩ := of_bind H_73
                    rcases Bool.eq_false_or_eq_true (((r_31.1 == (3 : Int)) && (r_31.2 == (5 : Int)))) with b_33 | b_33
                    · have H_76 := of_t H_75 b_33
                      obtain ⟨r_34, h_35, H_78⟩ := of_bind H_76
                      refine V_reg hN hn [(4, ⟨12, 0, [.agg [.val (.int .i64 r_2.1), .imm (.slice (.pair (.int .i64) (.pair (.int .i64) .str))) r_2.2.1], .c (.val (.int .i64 (2 : Int))), .c (.val (.bool false))], [], .c (.val (.int .i64 r_7)), [], [], 2⟩), (9, ⟨12, 0, [.agg [.val (.int .i64 r_2.1), .imm (.slice (.pair (.int .i64) (.pair (.int .i64) .str))) r_2.2.1], .c (.val (.int .i64 (2 : Int))), .c (.val (.bool true))], [], .c (.val (.int .i64 r_10)), [], [], 2⟩), (14, ⟨12, 0, [.agg [.val (.int .i64 r_2.1), .imm (.slice (.pair (.int .i64) (.pair (.int .i64) .str))) r_2.2.1], .c (.val (.int .i64 (3 : Int))), .c (.val (.bool false))], [], .c (.val (.int .i64 r_13)), [], [], 2⟩), (19, ⟨14, 0, [.agg [.val (.int .i64 r_2.1), .imm (.slice (.pair (.int .i64) (.pair (.int .i64) .str))) r_2.2.1], .c (.val (.int .i64 (2 : Int)))], [], .c (.val (.int .i64 r_16)), [], [], 2⟩), (24, ⟨14, 0, [.agg [.val (.int .i64 r_2.1), .imm (.slice (.pair (.int .i64) (.pair (.int .i64) .str))) r_2.2.1], .c (.val (.int .i64 (3 : Int)))], [], .c (.val (.int .i64 r_19)), [], [], 2⟩), (29, ⟨14, 0, [.agg [.val (.int .i64 r_2.1), .imm (.slice (.pair (.int .i64) (.pair (.int .i64) .str))) r_2.2.1], .c (.val (.int .i64 (5 : Int)))], [], .c (.val (.int .i64 r_22)), [], [], 2⟩), (34, ⟨16, 0, [.agg [.val (.int .i64 r_2.1), .imm (.slice (.pair (.int .i64) (.pair (.int .i64) .str))) r_2.2.1], .c (.val (.int .i64 (1 : Int)))], [], .c (.val (.bool r_25)), [], [], 2⟩), (38, ⟨16, 0, [.agg [.val (.int .i64 r_2.1), .imm (.slice (.pair (.int .i64) (.pair (.int .i64) .str))) r_2.2.1], .c (.val (.int .i64 (4 : Int)))], [], .c (.val (.bool r_28)), [], [], 2⟩), (44, ⟨17, 0, [.agg [.val (.int .i64 r_2.1), .imm (.slice (.pair (.int .i64) (.pair (.int .i64) .str))) r_2.2.1], .agg [.val (.int .i64 (2 : Int)), .val (.int .i64 (4 : Int))]], [], .agg [.val (.int .i64 r_31.1), .val (.int .i64 r_31.2)], [], [], 2⟩), (50, ⟨12, 0, [.agg [.val (.int .i64 (-1 : Int)), .val (.slice none 0 0)], .c (.val (.int .i64 (0 : Int))), .c (.val (.bool true))], [], .c (.val (.int .i64 r_34)), [], [], 2⟩)] [(11, true), (16, true), (21, true), (26, true), (31, true), (36, true), (41, true), (45, true), (50, true), (57, true)] (calls_cons (offset_Move_spec K r_2.1 r_2.2.1 (2 : Int) false r_7 h_8) (by kernel_rfl) (calls_cons (offset_Move_spec K r_2.1 r_2.2.1 (2 : Int) true r_10 h_11) (by kernel_rfl) (calls_cons (offset_Move_spec K r_2.1 r_2.2.1 (3 : Int) false r_13 h_14) (by kernel_rfl) (calls_cons (offset_Back_spec K r_2.1 r_2.2.1 (2 : Int) r_16 h_17) (by kernel_rfl) (calls_cons (offset_Back_spec K r_2.1 r_2.2.1 (3 : Int) r_19 h_20) (by kernel_rfl) (calls_cons (offset_Back_spec K r_2.1 r_2.2.1 (5 : Int) r_22 h_23) (by kernel_rfl) (calls_cons (offset_Stays_spec K r_2.1 r_2.2.1 (1 : Int) r_25 h_26) (by kernel_rfl) (calls_cons (offset_Stays_spec K r_2.1 r_2.2.1 (4 : Int) r_28 h_29) (by kernel_rfl) (calls_cons (offset_Interval_spec K r_2.1 r_2.2.1 (2 : Int) (4 : Int) r_31 h_32) (by kernel_rfl) (calls_cons (offset_Move_sgngg_spec K (-1 : Int) (0 : Int) true r_34 h_35) (by kernel_rfl) calls_nil)))))))))) 2 [0] [] ⟨[(0, .c (.val (.bool (r_34 == (0 : Int)))))], [], 2⟩ [(r_2.2.2 == (0 : Int)) = true, (r_7 == (2 : Int)) = true, (r_10 == (3 : Int)) = true, (r_13 == (4 : Int)) = true, (r_16 == (2 : Int)) = true, (r_19 == (2 : Int)) = true, (r_22 == (4 : Int)) = true, r_25 = true, (!r_28) = true, ((r_31.1 == (3 : Int)) && (r_31.2 == (5 : Int))) = true] (by kernel_rfl) rfl rfl (ap2 b_6 (ap2 b_9 (ap2 b_12 (ap2 b_15 (ap2 b_18 (ap2 b_21 (ap2 b_24 (ap2 b_27 (ap2 b_30 (ap1 b_33)))))))))) (by kernel_rfl) (by kernel_rfl) ?_
                      have H_79 := Option.some.inj (show some (r_34 == (0 : Int)) = some r from H_78); subst H_79
                      refine VL_ret ?_
                      exact P_to [(0, .c (.val (.bool (r_34 == (0 : Int)))))] [] [] hn (by kernel_rfl) (by kernel_rfl) rfl rfl rfl (QF_retS (by kernel_rfl) (by kernel_rfl) rfl)
                    · have H_77 := of_f H_75 b_33
                      refine V_reg hN hn [(4, ⟨12, 0, [.agg [.val (.int .i64 r_2.1), .imm (.slice (.pair (.int .i64) (.pair (.int .i64) .str))) r_2.2.1], .c (.val (.int .i64 (2 : Int))), .c (.val (.bool false))], [], .c (.val (.int .i64 r_7)), [], [], 2⟩), (9, ⟨12, 0, [.agg [.val (.int .i64 r_2.1), .imm (.slice (.pair (.int .i64) (.pair (.int .i64) .str))) r_2.2.1], .c (.val (.int .i64 (2 : Int))), .c (.val (.bool true))], [], .c (.val (.int .i64 r_10)), [], [], 2⟩), (14, ⟨12, 0, [.agg [.val (.int .i64 r_2.1), .imm (.slice (.pair (.int .i64) (.pair (.int .i64) .str))) r_2.2.1], .c (.val (.int .i64 (3 : Int))), .c (.val (.bool false))], [], .c (.val (.int .i64 r_13)), [], [], 2⟩), (19, ⟨14, 0, [.agg [.val (.int .i64 r_2.1), .imm (.slice (.pair (.int .i64) (.pair (.int .i64) .str))) r_2.2.1], .c (.val (.int .i64 (2 : Int)))], [], .c (.val (.int .i64 r_16)), [], [], 2⟩), (24, ⟨14, 0, [.agg [.val (.int .i64 r_2.1), .imm (.slice (.pair (.int .i64) (.pair (.int .i64) .str))) r_2.2.1], .c (.val (.int .i64 (3 : Int)))], [], .c (.val (.int .i64 r_19)), [], [], 2⟩), (29, ⟨14, 0, [.agg [.val (.int .i64 r_2.1), .imm (.slice (.pair (.int .i64) (.pair (.int .i64) .str))) r_2.2.1], .c (.val (.int .i64 (5 : Int)))], [], .c (.val (.int .i64 r_22)), [], [], 2⟩), (34, ⟨16, 0, [.agg [.val (.int .i64 r_2.1), .imm (.slice (.pair (.int .i64) (.pair (.int .i64) .str))) r_2.2.1], .c (.val (.int .i64 (1 : Int)))], [], .c (.val (.bool r_25)), [], [], 2⟩), (38, ⟨16, 0, [.agg [.val (.int .i64 r_2.1), .imm (.slice (.pair (.int .i64) (.pair (.int .i64) .str))) r_2.2.1], .c (.val (.int .i64 (4 : Int)))], [], .c (.val (.bool r_28)), [], [], 2⟩), (44, ⟨17, 0, [.agg [.val (.int .i64 r_2.1), .imm (.slice (.pair (.int .i64) (.pair (.int .i64) .str))) r_2.2.1], .agg [.val (.int .i64 (2 : Int)), .val (.int .i64 (4 : Int))]], [], .agg [.val (.int .i64 r_31.1), .val (.int .i64 r_31.2)], [], [], 2⟩)] [(11, true), (16, true), (21, true), (26, true), (31, true), (36, true), (41, true), (45, true), (50, true), (57, false)] (calls_cons (offset_Move_spec K r_2.1 r_2.2.1 (2 : Int) false r_7 h_8) (by kernel_rfl) (calls_cons (offset_Move_spec K r_2.1 r_2.2.1 (2 : Int) true r_10 h_11) (by kernel_rfl) (calls_cons (offset_Move_spec K r_2.1 r_2.2.1 (3 : Int) false r_13 h_14) (by kernel_rfl) (calls_cons (offset_Back_spec K r_2.1 r_2.2.1 (2 : Int) r_16 h_17) (by kernel_rfl) (calls_cons (offset_Back_spec K r_2.1 r_2.2.1 (3 : Int) r_19 h_20) (by kernel_rfl) (calls_cons (offset_Back_spec K r_2.1 r_2.2.1 (5 : Int) r_22 h_23) (by kernel_rfl) (calls_cons (offset_Stays_spec K r_2.1 r_2.2.1 (1 : Int) r_25 h_26) (by kernel_rfl) (calls_cons (offset_Stays_spec K r_2.1 r_2.2.1 (4 : Int) r_28 h_29) (by kernel_rfl) (calls_cons (offset_Interval_spec K r_2.1 r_2.2.1 (2 : Int) (4 : Int) r_31 h_32) (by kernel_rfl) calls_nil))))))))) 2 [0] [] ⟨[(0, .c (.val (.bool false)))], [], 2⟩ [(r_2.2.2 == (0 : Int)) = true, (r_7 == (2 : Int)) = true, (r_10 == (3 : Int)) = true, (r_13 == (4 : Int)) = true, (r_16 == (2 : Int)) = true, (r_19 == (2 : Int)) = true, (r_22 == (4 : Int)) = true, r_25 = true, (!r_28) = true, ((r_31.1 == (3 : Int)) && (r_31.2 == (5 : Int))) = false] (by kernel_rfl) rfl rfl (ap2 b_6 (ap2 b_9 (ap2 b_12 (ap2 b_15 (ap2 b_18 (ap2 b_21 (ap2 b_24 (ap2 b_27 (ap2 b_30 (ap1 b_33)))))))))) (by kernel_rfl) (by kernel_rfl) ?_
                      have H_80 := Option.some.inj (show some false = some r from H_77); subst H_80
                      refine VL_ret ?_
                      exact P_to [(0, .c (.val (.bool false)))] [] [] hn (by kernel_rfl) (by kernel_rfl) rfl rfl rfl (QF_retS (by kernel_rfl) (by kernel_rfl) rfl)
                  · have H_74 := of_f H_72 b_30
                    refine V_reg hN hn [(4, ⟨12, 0, [.agg [.val (.int .i64 r_2.1), .imm (.slice (.pair (.int .i64) (.pair (.int .i64) .str))) r_2.2.1], .c (.val (.int .i64 (2 : Int))), .c (.val (.bool false))], [], .c (.val (.int .i64 r_7)), [], [], 2⟩), (9, ⟨12, 0, [.agg [.val (.int .i64 r_2.1), .imm (.slice (.pair (.int .i64) (.pair (.int .i64) .str))) r_2.2.1], .c (.val (.int .i64 (2 : Int))), .c (.val (.bool true))], [], .c (.val (.int .i64 r_10)), [], [], 2⟩), (14, ⟨12, 0, [.agg [.val (.int .i64 r_2.1), .imm (.slice (.pair (.int .i64) (.pair (.int .i64) .str))) r_2.2.1], .c (.val (.int .i64 (3 : Int))), .c (.val (.bool false))], [], .c (.val (.int .i64 r_13)), [], [], 2⟩), (19, ⟨14, 0, [.agg [.val (.int .i64 r_2.1), .imm (.slice (.pair (.int .i64) (.pair (.int .i64) .str))) r_2.2.1], .c (.val (.int .i64 (2 : Int)))], [], .c (.val (.int .i64 r_16)), [], [], 2⟩), (24, ⟨14, 0, [.agg [.val (.int .i64 r_2.1), .imm (.slice (.pair (.int .i64) (.pair (.int .i64) .str))) r_2.2.1], .c (.val (.int .i64 (3 : Int)))], [], .c (.val (.int .i64 r_19)), [], [], 2⟩), (29, ⟨14, 0, [.agg [.val (.int .i64 r_2.1), .imm (.slice (.pair (.int .i64) (.pair (.int .i64) .str))) r_2.2.1], .c (.val (.int .i64 (5 : Int)))], [], .c (.val (.int .i64 r_22)), [], [], 2⟩), (34, ⟨16, 0, [.agg [.val (.int .i64 r_2.1), .imm (.slice (.pair (.int .i64) (.pair (.int .i64) .str))) r_2.2.1], .c (.val (.int .i64 (1 : Int)))], [], .c (.val (.bool r_25)), [], [], 2⟩), (38, ⟨16, 0, [.agg [.val (.int .i64 r_2.1), .imm (.slice (.pair (.int .i64) (.pair (.int .i64) .str))) r_2.2.1], .c (.val (.int .i64 (4 : Int)))], [], .c (.val (.bool r_28)), [], [], 2⟩)] [(11, true), (16, true), (21, true), (26, true), (31, true), (36, true), (41, true), (45, true), (50, false)] (calls_cons (offset_Move_spec K r_2.1 r_2.2.1 (2 : Int) false r_7 h_8) (by kernel_rfl) (calls_cons (offset_Move_spec K r_2.1 r_2.2.1 (2 : Int) true r_10 h_11) (by kernel_rfl) (calls_cons (offset_Move_spec K r_2.1 r_2.2.1 (3 : Int) false r_13 h_14) (by kernel_rfl) (calls_cons (offset_Back_spec K r_2.1 r_2.2.1 (2 : Int) r_16 h_17) (by kernel_rfl) (calls_cons (offset_Back_spec K r_2.1 r_2.2.1 (3 : Int) r_19 h_20) (by kernel_rfl) (calls_cons (offset_Back_spec K r_2.1 r_2.2.1 (5 : Int) r_22 h_23) (by kernel_rfl) (calls_cons (offset_Stays_spec K r_2.1 r_2.2.1 (1 : Int) r_25 h_26) (by kernel_rfl) (calls_cons (offset_Stays_spec K r_2.1 r_2.2.1 (4 : Int) r_28 h_29) (by kernel_rfl) calls_nil)))))))) 2 [0] [] ⟨[(0, .c (.val (.bool false)))], [], 2⟩ [(r_2.2.2 == (0 : Int)) = true, (r_7 == (2 : Int)) = true, (r_10 == (3 : Int)) = true, (r_13 == (4 : Int)) = true, (r_16 == (2 : Int)) = true, (r_19 == (2 : Int)) = true, (r_22 == (4 : Int)) = true, r_25 = true, (!r_28) = false] (by kernel_rfl) rfl rfl (ap2 b_6 (ap2 b_9 (ap2 b_12 (ap2 b_15 (ap2 b_18 (ap2 b_21 (ap2 b_24 (ap2 b_27 (ap1 b_30))))))))) (by kernel_rfl) (by kernel_rfl) ?_
                    have H_81 := Option.some.inj (show some false = some r from H_74); subst H_81
                    refine VL_ret ?_
                    exact P_to [(0, .c (.val (.bool false)))] [] [] hn (by kernel_rfl) (by kernel_rfl) rfl rfl rfl (QF_retS (by kernel_rfl) (by kernel_rfl) rfl)
                · have H_71 := of_f H_69 b_27
                  refine V_reg hN hn [(4, ⟨12, 0, [.agg [.val (.int .i64 r_2.1), .imm (.slice (.pair (.int .i64) (.pair (.int .i64) .str))) r_2.2.1], .c (.val (.int .i64 (2 : Int))), .c (.val (.bool false))], [], .c (.val (.int .i64 r_7)), [], [], 2⟩), (9, ⟨12, 0, [.agg [.val (.int .i64 r_2.1), .imm (.slice (.pair (.int .i64) (.pair (.int .i64) .str))) r_2.2.1], .c (.val (.int .i64 (2 : Int))), .c (.val (.bool true))], [], .c (.val (.int .i64 r_10)), [], [], 2⟩), (14, ⟨12, 0, [.agg [.val (.int .i64 r_2.1), .imm (.slice (.pair (.int .i64) (.pair (.int .i64) .str))) r_2.2.1], .c (.val (.int .i64 (3 : Int))), .c (.val (.bool false))], [], .c (.val (.int .i64 r_13)), [], [], 2⟩), (19, ⟨14, 0, [.agg [.val (.int .i64 r_2.1), .imm (.slice (.pair (.int .i64) (.pair (.int .i64) .str))) r_2.2.1], .c (.val (.int .i64 (2 : Int)))], [], .c (.val (.int .i64 r_16)), [], [], 2⟩), (24, ⟨14, 0, [.agg [.val (.int .i64 r_2.1), .imm (.slice (.pair (.int .i64) (.pair (.int .i64) .str))) r_2.2.1], .c (.val (.int .i64 (3 : Int)))], [], .c (.val (.int .i64 r_19)), [], [], 2⟩), (29, ⟨14, 0, [.agg [.val (.int .i64 r_2.1), .imm (.slice (.pair (.int .i64) (.pair (.int .i64) .str))) r_2.2.1], .c (.val (.int .i64 (5 : Int)))], [], .c (.val (.int .i64 r_22)), [], [], 2⟩), (34, ⟨16, 0, [.agg [.val (.int .i64 r_2.1), .imm (.slice (.pair (.int .i64) (.pair (.int .i64) .str))) r_2.2.1], .c (.val (.int .i64 (1 : Int)))], [], .c (.val (.bool r_25)), [], [], 2⟩)] [(11, true), (16, true), (21, true), (26, true), (31, true), (36, true), (41, true), (45, false)] (calls_cons (offset_Move_spec K r_2.1 r_2.2.1 (2 : Int) false r_7 h_8) (by kernel_rfl) (calls_cons (offset_Move_spec K r_2.1 r_2.2.1 (2 : Int) true r_10 h_11) (by kernel_rfl) (calls_cons (offset_Move_spec K r_2.1 r_2.2.1 (3 : Int) false r_13 h_14) (by kernel_rfl) (calls_cons (offset_Back_spec K r_2.1 r_2.2.1 (2 : Int) r_16 h_17) (by kernel_rfl) (calls_cons (offset_Back_spec K r_2.1 r_2.2.1 (3 : Int) r_19 h_20) (by kernel_rfl) (calls_cons (offset_Back_spec K r_2.1 r_2.2.1 (5 : Int) r_22 h_23) (by kernel_rfl) (calls_cons (offset_Stays_spec K r_2.1 r_2.2.1 (1 : Int) r_25 h_26) (by kernel_rfl) calls_nil))))))) 2 [0] [] ⟨[(0, .c (.val (.bool false)))], [], 2⟩ [(r_2.2.2 == (0 : Int)) = true, (r_7 == (2 : Int)) = true, (r_10 == (3 : Int)) = true, (r_13 == (4 : Int)) = true, (r_16 == (2 : Int)) = true, (r_19 == (2 : Int)) = true, (r_22 == (4 : Int)) = true, r_25 = false] (by kernel_rfl) rfl rfl (ap2 b_6 (ap2 b_9 (ap2 b_12 (ap2 b_15 (ap2 b_18 (ap2 b_21 (ap2 b_24 (ap1 b_27)))))))) (by kernel_rfl) (by kernel_rfl) ?_
                  have H_82 := Option.some.inj (show some false = some r from H_71); subst H_82
                  refine VL_ret ?_
                  exact P_to [(0, .c (.val (.bool false)))] [] [] hn (by kernel_rfl) (by kernel_rfl) rfl rfl rfl (QF_retS (by kernel_rfl) (by kernel_rfl) rfl)
              · have H_68 := of_f H_66 b_24
                refine V_reg hN hn [(4, ⟨12, 0, [.agg [.val (.int .i64 r_2.1), .imm (.slice (.pair (.int .i64) (.pair (.int .i64) .str))) r_2.2.1], .c (.val (.int .i64 (2 : Int))), .c (.val (.bool false))], [], .c (.val (.int .i64 r_7)), [], [], 2⟩), (9, ⟨12, 0, [.agg [.val (.int .i64 r_2.1), .imm (.slice (.pair (.int .i64) (.pair (.int .i64) .str))) r_2.2.1], .c (.val (.int .i64 (2 : Int))), .c (.val (.bool true))], [], .c (.val (.int .i64 r_10)), [], [], 2⟩), (14, ⟨12, 0, [.agg [.val (.int .i64 r_2.1), .imm (.slice (.pair (.int .i64) (.pair (.int .i64) .str))) r_2.2.1], .c (.val (.int .i64 (3 : Int))), .c (.val (.bool false))], [], .c (.val (.int .i64 r_13)), [], [], 2⟩), (19, ⟨14, 0, [.agg [.val (.int .i64 r_2.1), .imm (.slice (.pair (.int .i64) (.pair (.int .i64) .str))) r_2.2.1], .c (.val (.int .i64 (2 : Int)))], [], .c (.val (.int .i64 r_16)), [], [], 2⟩), (24, ⟨14, 0, [.agg [.val (.int .i64 r_2.1), .imm (.slice (.pair (.int .i64) (.pair (.int .i64) .str))) r_2.2.1], .c (.val (.int .i64 (3 : Int)))], [], .c (.val (.int .i64 r_19)), [], [], 2⟩), (29, ⟨14, 0, [.agg [.val (.int .i64 r_2.1), .imm (.slice (.pair (.int .i64) (.pair (.int .i64) .str))) r_2.2.1], .c (.val (.int .i64 (5 : Int)))], [], .c (.val (.int .i64 r_22)), [], [], 2⟩)] [(11, true), (16, true), (21, true), (26, true), (31, true), (36, true), (41, false)] (calls_cons (offset_Move_spec K r_2.1 r_2.2.1 (2 : Int) false r_7 h_8) (by kernel_rfl) (calls_cons (offset_Move_spec K r_2.1 r_2.2.1 (2 : Int) true r_10 h_11) (by kernel_rfl) (calls_cons (offset_Move_spec K r_2.1 r_2.2.1 (3 : Int) false r_13 h_14) (by kernel_rfl) (calls_cons (offset_Back_spec K r_2.1 r_2.2.1 (2 : Int) r_16 h_17) (by kernel_rfl) (calls_cons (offset_Back_spec K r_2.1 r_2.2.1 (3 : Int) r_19 h_20) (by kernel_rfl) (calls_cons (offset_Back_spec K r_2.1 r_2.2.1 (5 : Int) r_22 h_23) (by kernel_rfl) calls_nil)))))) 2 [0] [] ⟨[(0, .c (.val (.bool false)))], [], 2⟩ [(r_2.2.2 == (0 : Int)) = true, (r_7 == (2 : Int)) = true, (r_10 == (3 : Int)) = true, (r_13 == (4 : Int)) = true, (r_16 == (2 : Int)) = true, (r_19 == (2 : Int)) = true, (r_22 == (4 : Int)) = false] (by kernel_rfl) rfl rfl (ap2 b_6 (ap2 b_9 (ap2 b_12 (ap2 b_15 (ap2 b_18 (ap2 b_21 (ap1 b_24))))))) (by kernel_rfl) (by kernel_rfl) ?_
                have H_83 := Option.some.inj (show some false = some r from H_68); subst H_83
                refine VL_ret ?_
                exact P_to [(0, .c (.val (.bool false)))] [] [] hn (by kernel_rfl) (by kernel_rfl) rfl rfl rfl (QF_retS (by kernel_rfl) (by kernel_rfl) rfl)
            · have H_65 := of_f H_63 b_21
              refine V_reg hN hn [(4, ⟨12, 0, [.agg [.val (.int .i64 r_2.1), .imm (.slice (.pair (.int .i64) (.pair (.int .i64) .str))) r_2.2.1], .c (.val (.int .i64 (2 : Int))), .c (.val (.bool false))], [], .c (.val (.int .i64 r_7)), [], [], 2⟩), (9, ⟨12, 0, [.agg [.val (.int .i64 r_2.1), .imm (.slice (.pair (.int .i64) (.pair (.int .i64) .str))) r_2.2.1], .c (.val (.int .i64 (2 : Int))), .c (.val (.bool true))], [], .c (.val (.int .i64 r_10)), [], [], 2⟩), (14, ⟨12, 0, [.agg [.val (.int .i64 r_2.1), .imm (.slice (.pair (.int .i64) (.pair (.int .i64) .str))) r_2.2.1], .c (.val (.int .i64 (3 : Int))), .c (.val (.bool false))], [], .c (.val (.int .i64 r_13)), [], [], 2⟩), (19, ⟨14, 0, [.agg [.val (.int .i64 r_2.1), .imm (.slice (.pair (.int .i64) (.pair (.int .i64) .str))) r_2.2.1], .c (.val (.int .i64 (2 : Int)))], [], .c (.val (.int .i64 r_16)), [], [], 2⟩), (24, ⟨14, 0, [.agg [.val (.int .i64 r_2.1), .imm (.slice (.pair (.int .i64) (.pair (.int .i64) .str))) r_2.2.1], .c (.val (.int .i64 (3 : Int)))], [], .c (.val (.int .i64 r_19)), [], [], 2⟩)] [(11, true), (16, true), (21, true), (26, true), (31, true), (36, false)] (calls_cons (offset_Move_spec K r_2.1 r_2.2.1 (2 : Int) false r_7 h_8) (by kernel_rfl) (calls_cons (offset_Move_spec K r_2.1 r_2.2.1 (2 : Int) true r_10 h_11) (by kernel_rfl) (calls_cons (offset_Move_spec K r_2.1 r_2.2.1 (3 : Int) false r_13 h_14) (by kernel_rfl) (calls_cons (offset_Back_spec K r_2.1 r_2.2.1 (2 : Int) r_16 h_17) (by kernel_rfl) (calls_cons (offset_Back_spec K r_2.1 r_2.2.1 (3 : Int) r_19 h_20) (by kernel_rfl) calls_nil))))) 2 [0] [] ⟨[(0, .c (.val (.bool false)))], [], 2⟩ [(r_2.2.2 == (0 : Int)) = true, (r_7 == (2 : Int)) = true, (r_10 == (3 : Int)) = true, (r_13 == (4 : Int)) = true, (r_16 == (2 : Int)) = true, (r_19 == (2 : Int)) = false] (by kernel_rfl) rfl rfl (ap2 b_6 (ap2 b_9 (ap2 b_12 (ap2 b_15 (ap2 b_18 (ap1 b_21)))))) (by kernel_rfl) (by kernel_rfl) ?_
              have H_84 := Option.some.inj (show some false = some r from H_65); subst H_84
              refine VL_ret ?_
              exact P_to [(0, .c (.val (.bool false)))] [] [] hn (by kernel_rfl) (by kernel_rfl) rfl rfl rfl (QF_retS (by kernel_rfl) (by kernel_rfl) rfl)
          · have H_62 := of_f H_60 b_18
            refine V_reg hN hn [(4, ⟨12, 0, [.agg [.val (.int .i64 r_2.1), .imm (.slice (.pair (.int .i64) (.pair (.int .i64) .str))) r_2.2.1], .c (.val (.int .i64 (2 : Int))), .c (.val (.bool false))], [], .c (.val (.int .i64 r_7)), [], [], 2⟩), (9, ⟨12, 0, [.agg [.val (.int .i64 r_2.1), .imm (.slice (.pair (.int .i64) (.pair (.int .i64) .str))) r_2.2.1], .c (.val (.int .i64 (2 : Int))), .c (.val (.bool true))], [], .c (.val (.int .i64 r_10)), [], [], 2⟩), (14, ⟨12, 0, [.agg [.val (.int .i64 r_2.1), .imm (.slice (.pair (.int .i64) (.pair (.int .i64) .str))) r_2.2.1], .c (.val (.int .i64 (3 : Int))), .c (.val (.bool false))], [], .c (.val (.int .i64 r_13)), [], [], 2⟩), (19, ⟨14, 0, [.agg [.val (.int .i64 r_2.1), .imm (.slice (.pair (.int .i64) (.pair (.int .i64) .str))) r_2.2.1], .c (.val (.int .i64 (2 : Int)))], [], .c (.val (.int .i64 r_16)), [], [], 2⟩)] [(11, true), (16, true), (21, true), (26, true), (31, false)] (calls_cons (offset_Move_spec K r_2.1 r_2.2.1 (2 : Int) false r_7 h_8) (by kernel_rfl) (calls_cons (offset_Move_spec K r_2.1 r_2.2.1 (2 : Int) true r_10 h_11) (by kernel_rfl) (calls_cons (offset_Move_spec K r_2.1 r_2.2.1 (3 : Int) false r_13 h_14) (by kernel_rfl) (calls_cons (offset_Back_spec K r_2.1 r_2.2.1 (2 : Int) r_16 h_17) (by kernel_rfl) calls_nil)))) 2 [0] [] ⟨[(0, .c (.val (.bool false)))], [], 2⟩ [(r_2.2.2 == (0 : Int)) = true, (r_7 == (2 : Int)) = true, (r_10 == (3 : Int)) = true, (r_13 == (4 : Int)) = true, (r_16 == (2 : Int)) = false] (by kernel_rfl) rfl rfl (ap2 b_6 (ap2 b_9 (ap2 b_12 (ap2 b_15 (ap1 b_18))))) (by kernel_rfl) (by kernel_rfl) ?_
            have H_85 := Option.some.inj (show some false = some r from H_62); subst H_85
            refine VL_ret ?_
            exact P_to [(0, .c (.val (.bool false)))] [] [] hn (by kernel_rfl) (by kernel_rfl) rfl rfl rfl (QF_retS (by kernel_rfl) (by kernel_rfl) rfl)
        · have H_59 := of_f H_57 b_15
          refine V_reg hN hn [(4, ⟨12, 0, [.agg [.val (.int .i64 r_2.1), .imm (.slice (.pair (.int .i64) (.pair (.int .i64) .str))) r_2.2.1], .c (.val (.int .i64 (2 : Int))), .c (.val (.bool false))], [], .c (.val (.int .i64 r_7)), [], [], 2⟩), (9, ⟨12, 0, [.agg [.val (.int .i64 r_2.1), .imm (.slice (.pair (.int .i64) (.pair (.int .i64) .str))) r_2.2.1], .c (.val (.int .i64 (2 : Int))), .c (.val (.bool true))], [], .c (.val (.int .i64 r_10)), [], [], 2⟩), (14, ⟨12, 0, [.agg [.val (.int .i64 r_2.1), .imm (.slice (.pair (.int .i64) (.pair (.int .i64) .str))) r_2.2.1], .c (.val (.int .i64 (3 : Int))), .c (.val (.bool false))], [], .c (.val (.int .i64 r_13)), [], [], 2⟩)] [(11, true), (16, true), (21, true), (26, false)] (calls_cons (offset_Move_spec K r_2.1 r_2.2.1 (2 : Int) false r_7 h_8) (by kernel_rfl) (calls_cons (offset_Move_spec K r_2.1 r_2.2.1 (2 : Int) true r_10 h_11) (by kernel_rfl) (calls_cons (offset_Move_spec K r_2.1 r_2.2.1 (3 : Int) false r_13 h_14) (by kernel_rfl) calls_nil))) 2 [0] [] ⟨[(0, .c (.val (.bool false)))], [], 2⟩ [(r_2.2.2 == (0 : Int)) = true, (r_7 == (2 : Int)) = true, (r_10 == (3 : Int)) = true, (r_13 == (4 : Int)) = false] (by kernel_rfl) rfl rfl (ap2 b_6 (ap2 b_9 (ap2 b_12 (ap1 b_15)))) (by kernel_rfl) (by kernel_rfl) ?_
          have H_86 := Option.some.inj (show some false = some r from H_59); subst H_86
          refine VL_ret ?_
          exact P_to [(0, .c (.val (.bool false)))] [] [] hn (by kernel_rfl) (by kernel_rfl) rfl rfl rfl (QF_retS (by kernel_rfl) (by kernel_rfl) rfl)
      · have H_56 := of_f H_54 b_12
        refine V_reg hN hn [(4, ⟨12, 0, [.agg [.val (.int .i64 r_2.1), .imm (.slice (.pair (.int .i64) (.pair (.int .i64) .str))) r_2.2.1], .c (.val (.int .i64 (2 : Int))), .c (.val (.bool false))], [], .c (.val (.int .i64 r_7)), [], [], 2⟩), (9, ⟨12, 0, [.agg [.val (.int .i64 r_2.1), .imm (.slice (.pair (.int .i64) (.pair (.int .i64) .str))) r_2.2.1], .c (.val (.int .i64 (2 : Int))), .c (.val (.bool true))], [], .c (.val (.int .i64 r_10)), [], [], 2⟩)] [(11, true), (16, true), (21, false)] (calls_cons (offset_Move_spec K r_2.1 r_2.2.1 (2 : Int) false r_7 h_8) (by kernel_rfl) (calls_cons (offset_Move_spec K r_2.1 r_2.2.1 (2 : Int) true r_10 h_11) (by kernel_rfl) calls_nil)) 2 [0] [] ⟨[(0, .c (.val (.bool false)))], [], 2⟩ [(r_2.2.2 == (0 : Int)) = true, (r_7 == (2 : Int)) = true, (r_10 == (3 : Int)) = false] (by kernel_rfl) rfl rfl (ap2 b_6 (ap2 b_9 (ap1 b_12))) (by kernel_rfl) (by kernel_rfl) ?_
        have H_87 := Option.some.inj (show some false = some r from H_56); subst H_87
        refine VL_ret ?_
        exact P_to [(0, .c (.val (.bool false)))] [] [] hn (by kernel_rfl) (by kernel_rfl) rfl rfl rfl (QF_retS (by kernel_rfl) (by kernel_rfl) rfl)
    · have H_53 := of_f H_51 b_9
      refine V_reg hN hn [(4, ⟨12, 0, [.agg [.val (.int .i64 r_2.1), .imm (.slice (.pair (.int .i64) (.pair (.int .i64) .str))) r_2.2.1], .c (.val (.int .i64 (2 : Int))), .c (.val (.bool false))], [], .c (.val (.int .i64 r_7)), [], [], 2⟩)] [(11, true), (16, false)] (calls_cons (offset_Move_spec K r_2.1 r_2.2.1 (2 : Int) false r_7 h_8) (by kernel_rfl) calls_nil) 2 [0] [] ⟨[(0, .c (.val (.bool false)))], [], 2⟩ [(r_2.2.2 == (0 : Int)) = true, (r_7 == (2 : Int)) = false] (by kernel_rfl) rfl rfl (ap2 b_6 (ap1 b_9)) (by kernel_rfl) (by kernel_rfl) ?_
      have H_88 := Option.some.inj (show some false = some r from H_53); subst H_88
      refine VL_ret ?_
      exact P_to [(0, .c (.val (.bool false)))] [] [] hn (by kernel_rfl) (by kernel_rfl) rfl rfl rfl (QF_retS (by kernel_rfl) (by kernel_rfl) rfl)
  · have H_50 := of_f H_48 b_6
    refine V_reg hN hn [] [(11, false)] calls_nil 2 [0] [] ⟨[(0, .c (.val (.bool false)))], [], 2⟩ [(r_2.2.2 == (0 : Int)) = false] (by kernel_rfl) rfl rfl (ap1 b_6) (by kernel_rfl) (by kernel_rfl) ?_
    have H_89 := Option.some.inj (show some false = some r from H_50); subst H_89
    refine VL_ret ?_
    exact P_to [(0, .c (.val (.bool false)))] [] [] hn (by kernel_rfl) (by kernel_rfl) rfl rfl rfl (QF_retS (by kernel_rfl) (by kernel_rfl) rfl)

theorem delta_Ordered_spec (K : Nat) (l_1 : (List (Int × (Int × ByteArray)))) (r : Bool) (H : delta_Ordered_r K l_1 = some r) : Spec Try.prog 37 0 [.c (.imm (.slice (.pair (.int .i64) (.pair (.int .i64) .str))) l_1)] [] (.c (.val (.bool r))) [] := by
  refine Spec_mk (fn := Try.f37) (c := (Try.f37.body).get!) Try.func37 (by kernel_rfl) rfl ?_
  intro C hN hn
  replace hN : C.N = 40 := hN
  unfold delta_Ordered_r at H
  refine V_run hN hn 5 0 [0, 3] [] ⟨[(0, .c (.imm (.slice (.pair (.int .i64) (.pair (.int .i64) .str))) l_1)), (3, .c (.val (.int .i64 (1 : Int))))], [], 0⟩ [] (by kernel_rfl) rfl rfl ap0 ?_
  refine VL_block ?_
  refine V_to [(0, .c (.imm (.slice (.pair (.int .i64) (.pair (.int .i64) .str))) l_1)), (3, .c (.val (.int .i64 (1 : Int))))] [] [] hn (by kernel_rfl) (by kernel_rfl) rfl rfl rfl ?_
  refine VL_loop (X := Int) (fun x => [(0, .c (.imm (.slice (.pair (.int .i64) (.pair (.int .i64) .str))) l_1)), (3, .c (.val (.int .i64 x)))]) (fun x => []) (fun k x => delta_Ordered_r.l0 K l_1 k x = some r) K (1 : Int) H (fun _ h => no_none h) ?_
  intro k_4 i_3 H_25
  have H_26 : delta_Ordered_r.l0 K l_1 (k_4 + 1) i_3 = some r := H_25
  rw [delta_Ordered_r.l0] at H_26
  refine V_run hN hn 3 0 [0, 3, 9] [] ⟨[(0, .c (.imm (.slice (.pair (.int .i64) (.pair (.int .i64) .str))) l_1)), (3, .c (.val (.int .i64 i_3))), (9, .c (.val (.bool (decide (i_3 < (((List.length l_1) : Nat) : Int))))))], [], 0⟩ [] (by kernel_rfl) rfl rfl ap0 ?_
  refine VL_cond ((decide (i_3 < (((List.length l_1) : Nat) : Int)))) (by kernel_rfl) ?_ ?_
  · intro b_6; have H_27 := of_t H_26 b_6
    refine V_run hN hn 2 0 [0, 3, 9] [] ⟨[(0, .c (.imm (.slice (.pair (.int .i64) (.pair (.int .i64) .str))) l_1)), (3, .c (.val (.int .i64 i_3))), (9, .c (.val (.bool (decide (i_3 < (((List.length l_1) : Nat) : Int))))))], [], 0⟩ [] (by kernel_rfl) rfl rfl ap0 ?_
    refine VL_block ?_
    refine V_run hN hn 1 0 [0, 3, 9] [] ⟨[(0, .c (.imm (.slice (.pair (.int .i64) (.pair (.int .i64) .str))) l_1)), (3, .c (.val (.int .i64 i_3))), (9, .c (.val (.bool (decide (i_3 < (((List.length l_1) : Nat) : Int))))))], [], 0⟩ [] (by kernel_rfl) rfl rfl ap0 ?_
    obtain ⟨c_9, H_29⟩ := of_if H_27
    refine V_draw hN hn (by kernel_rfl) [] [] calls_nil 0 [0, 3, 4, 5] [0, 1] ⟨[(0, .c (.imm (.slice (.pair (.int .i64) (.pair (.int .i64) .str))) l_1)), (3, .c (.val (.int .i64 i_3))), (4, .c (.h 0)), (5, .c (.h 1))], [(0, .box [.val (.int .i64 (List.getD l_1 (Int.toNat (IntKind.wrap .i64 (i_3 - (1 : Int)))) ((0 : Int), ((0 : Int), ByteArray.empty))).1), .val (.int .i64 (List.getD l_1 (Int.toNat (IntKind.wrap .i64 (i_3 - (1 : Int)))) ((0 : Int), ((0 : Int), ByteArray.empty))).2.1), .val (.string (List.getD l_1 (Int.toNat (IntKind.wrap .i64 (i_3 - (1 : Int)))) ((0 : Int), ((0 : Int), ByteArray.empty))).2.2)]), (1, .box [.val (.int .i64 (List.getD l_1 (Int.toNat i_3) ((0 : Int), ((0 : Int), ByteArray.empty))).1), .val (.int .i64 (List.getD l_1 (Int.toNat i_3) ((0 : Int), ((0 : Int), ByteArray.empty))).2.1), .val (.string (List.getD l_1 (Int.toNat i_3) ((0 : Int), ((0 : Int), ByteArray.empty))).2.2)])], 2⟩ [0 ≤ (IntKind.wrap .i64 (i_3 - (1 : Int))), (IntKind.wrap .i64 (i_3 - (1 : Int))) < (((List.length l_1) : Nat) : Int), 0 ≤ (IntKind.wrap .i64 (i_3 - (1 : Int))), (IntKind.wrap .i64 (i_3 - (1 : Int))) < (((List.length l_1) : Nat) : Int), 0 ≤ (IntKind.wrap .i64 (i_3 - (1 : Int))), (IntKind.wrap .i64 (i_3 - (1 : Int))) < (((List.length l_1) : Nat) : Int), 0 ≤ (IntKind.wrap .i64 (i_3 - (1 : Int))), (IntKind.wrap .i64 (i_3 - (1 : Int))) < (((List.length l_1) : Nat) : Int), 0 ≤ i_3, i_3 < (((List.length l_1) : Nat) : Int), 0 ≤ i_3, i_3 < (((List.length l_1) : Nat) : Int), 0 ≤ i_3, i_3 < (((List.length l_1) : Nat) : Int), 0 ≤ i_3, i_3 < (((List.length l_1) : Nat) : Int), 0 ≤ i_3, i_3 < (((List.length l_1) : Nat) : Int)] (by kernel_rfl) rfl rfl (ap2 c_9.1 (ap2 c_9.2.1 (ap2 c_9.1 (ap2 c_9.2.1 (ap2 c_9.1 (ap2 c_9.2.1 (ap2 c_9.1 (ap2 c_9.2.1 (ap2 c_9.2.2.1 (ap2 c_9.2.2.2 (ap2 c_9.2.2.1 (ap2 c_9.2.2.2 (ap2 c_9.2.2.1 (ap2 c_9.2.2.2 (ap2 c_9.2.2.1 (ap2 c_9.2.2.2 (ap2 c_9.2.2.1 (ap1 c_9.2.2.2)))))))))))))))))) (by kernel_rfl) (by kernel_rfl) ?_
    refine V_run hN hn 1 2 [0, 3, 4, 5] [0, 1] ⟨[(0, .c (.imm (.slice (.pair (.int .i64) (.pair (.int .i64) .str))) l_1)), (3, .c (.val (.int .i64 i_3))), (4, .c (.h 0)), (5, .c (.h 1))], [(0, .box [.val (.int .i64 (List.getD l_1 (Int.toNat (IntKind.wrap .i64 (i_3 - (1 : Int)))) ((0 : Int), ((0 : Int), ByteArray.empty))).1), .val (.int .i64 (List.getD l_1 (Int.toNat (IntKind.wrap .i64 (i_3 - (1 : Int)))) ((0 : Int), ((0 : Int), ByteArray.empty))).2.1), .val (.string (List.getD l_1 (Int.toNat (IntKind.wrap .i64 (i_3 - (1 : Int)))) ((0 : Int), ((0 : Int), ByteArray.empty))).2.2)]), (1, .box [.val (.int .i64 (List.getD l_1 (Int.toNat i_3) ((0 : Int), ((0 : Int), ByteArray.empty))).1), .val (.int .i64 (List.getD l_1 (Int.toNat i_3) ((0 : Int), ((0 : Int), ByteArray.empty))).2.1), .val (.string (List.getD l_1 (Int.toNat i_3) ((0 : Int), ((0 : Int), ByteArray.empty))).2.2)])], 2⟩ [] (by kernel_rfl) rfl rfl ap0 ?_
    obtain ⟨q_30, H_31, H_32⟩ := of_bind H_29
    refine V_cut (Y := Bool) (R := Bool) q_30 (fun y => y) (fun y => [(0, .c (.imm (.slice (.pair (.int .i64) (.pair (.int .i64) .str))) l_1)), (3, .c (.val (.int .i64 i_3))), (39, .c (.val (.bool y)))]) (fun y => []) ?_ ?_
    · skip
      rcases Bool.eq_false_or_eq_true ((decide ((List.getD l_1 (Int.toNat i_3) ((0 : Int), ((0 : Int), ByteArray.empty))).1 < (List.getD l_1 (Int.toNat (IntKind.wrap .i64 (i_3 - (1 : Int)))) ((0 : Int), ((0 : Int), ByteArray.empty))).2.1))) with b_11 | b_11
      · have H_34 := of_t H_31 b_11
        refine V_reg hN hn [] [(26, true)] calls_nil 2 [0, 3, 39] [] ⟨[(0, .c (.imm (.slice (.pair (.int .i64) (.pair (.int .i64) .str))) l_1)), (3, .c (.val (.int .i64 i_3))), (39, .c (.val (.bool true)))], [], 2⟩ [(decide ((List.getD l_1 (Int.toNat i_3) ((0 : Int), ((0 : Int), ByteArray.empty))).1 < (List.getD l_1 (Int.toNat (IntKind.wrap .i64 (i_3 - (1 : Int)))) ((0 : Int), ((0 : Int), ByteArray.empty))).2.1)) = true] (by kernel_rfl) rfl rfl (ap1 b_11) (by kernel_rfl) (by kernel_rfl) ?_
        have H_36 := Option.some.inj (show some true = some q_30 from H_34); subst H_36
        refine VL_nil ?_
        exact QP_end true rfl [] hn (by kernel_rfl) (by kernel_rfl) rfl rfl rfl
      · have H_35 := of_f H_31 b_11
        rcases Bool.eq_false_or_eq_true (((List.getD l_1 (Int.toNat (IntKind.wrap .i64 (i_3 - (1 : Int)))) ((0 : Int), ((0 : Int), ByteArray.empty))).1 == (List.getD l_1 (Int.toNat i_3) ((0 : Int), ((0 : Int), ByteArray.empty))).1)) with b_13 | b_13
        · have H_37 := of_t H_35 b_13
          refine V_reg hN hn [] [(26, false), (32, true)] calls_nil 2 [0, 3, 39] [] ⟨[(0, .c (.imm (.slice (.pair (.int .i64) (.pair (.int .i64) .str))) l_1)), (3, .c (.val (.int .i64 i_3))), (39, .c (.val (.bool ((List.getD l_1 (Int.toNat (IntKind.wrap .i64 (i_3 - (1 : Int)))) ((0 : Int), ((0 : Int), ByteArray.empty))).2.1 == (List.getD l_1 (Int.toNat i_3) ((0 : Int), ((0 : Int), ByteArray.empty))).1))))], [], 2⟩ [(decide ((List.getD l_1 (Int.toNat i_3) ((0 : Int), ((0 : Int), ByteArray.empty))).1 < (List.getD l_1 (Int.toNat (IntKind.wrap .i64 (i_3 - (1 : Int)))) ((0 : Int), ((0 : Int), ByteArray.empty))).2.1)) = false, ((List.getD l_1 (Int.toNat (IntKind.wrap .i64 (i_3 - (1 : Int)))) ((0 : Int), ((0 : Int), ByteArray.empty))).1 == (List.getD l_1 (Int.toNat i_3) ((0 : Int), ((0 : Int), ByteArray.empty))).1) = true] (by kernel_rfl) rfl rfl (ap2 b_11 (ap1 b_13)) (by kernel_rfl) (by kernel_rfl) ?_
          have H_39 := Option.some.inj (show some ((List.getD l_1 (Int.toNat (IntKind.wrap .i64 (i_3 - (1 : Int)))) ((0 : Int), ((0 : Int), ByteArray.empty))).2.1 == (List.getD l_1 (Int.toNat i_3) ((0 : Int), ((0 : Int), ByteArray.empty))).1) = some q_30 from H_37); subst H_39
          refine VL_nil ?_
          exact QP_end ((List.getD l_1 (Int.toNat (IntKind.wrap .i64 (i_3 - (1 : Int)))) ((0 : Int), ((0 : Int), ByteArray.empty))).2.1 == (List.getD l_1 (Int.toNat i_3) ((0 : Int), ((0 : Int), ByteArray.empty))).1) rfl [] hn (by kernel_rfl) (by kernel_rfl) rfl rfl rfl
        · have H_38 := of_f H_35 b_13
          refine V_reg hN hn [] [(26, false), (32, false)] calls_nil 2 [0, 3, 39] [] ⟨[(0, .c (.imm (.slice (.pair (.int .i64) (.pair (.int .i64) .str))) l_1)), (3, .c (.val (.int .i64 i_3))), (39, .c (.val (.bool false)))], [], 2⟩ [(decide ((List.getD l_1 (Int.toNat i_3) ((0 : Int), ((0 : Int), ByteArray.empty))).1 < (List.getD l_1 (Int.toNat (IntKind.wrap .i64 (i_3 - (1 : Int)))) ((0 : Int), ((0 : Int), ByteArray.empty))).2.1)) = false, ((List.getD l_1 (Int.toNat (IntKind.wrap .i64 (i_3 - (1 : Int)))) ((0 : Int), ((0 : Int), ByteArray.empty))).1 == (List.getD l_1 (Int.toNat i_3) ((0 : Int), ((0 : Int), ByteArray.empty))).1) = false] (by kernel_rfl) rfl rfl (ap2 b_11 (ap1 b_13)) (by kernel_rfl) (by kernel_rfl) ?_
          have H_40 := Option.some.inj (show some false = some q_30 from H_38); subst H_40
          refine VL_nil ?_
          exact QP_end false rfl [] hn (by kernel_rfl) (by kernel_rfl) rfl rfl rfl
    · intro y_33 hy; subst hy
      skip
      skip
      refine VL_cond (y_33) (by kernel_rfl) ?_ ?_
      · intro b_17; have H_41 := of_t H_32 b_17
        refine V_run hN hn 2 2 [2] [] ⟨[(2, .c (.val (.bool false)))], [], 2⟩ [] (by kernel_rfl) rfl rfl ap0 ?_
        have H_43 := Option.some.inj (show some false = some r from H_41); subst H_43
        refine VL_ret ?_
        refine QB_ret ?_
        refine QL_ret ?_
        refine QB_ret ?_
        exact P_to [(2, .c (.val (.bool false)))] [] [] hn (by kernel_rfl) (by kernel_rfl) rfl rfl rfl (QF_retS (by kernel_rfl) (by kernel_rfl) rfl)
      · intro b_17; have H_42 := of_f H_32 b_17
        refine V_run hN hn 1 2 [0, 3, 39] [] ⟨[(0, .c (.imm (.slice (.pair (.int .i64) (.pair (.int .i64) .str))) l_1)), (3, .c (.val (.int .i64 i_3))), (39, .c (.val (.bool y_33)))], [], 2⟩ [] (by kernel_rfl) rfl rfl ap0 ?_
        refine VL_nil (QB_end ?_)
        refine V_run hN hn 1 2 [0, 3] [] ⟨[(0, .c (.imm (.slice (.pair (.int .i64) (.pair (.int .i64) .str))) l_1)), (3, .c (.val (.int .i64 (IntKind.wrap .i64 (i_3 + (1 : Int))))))], [], 2⟩ [] (by kernel_rfl) rfl rfl ap0 ?_
        refine VL_nil ?_
        exact V_roundEnd (IntKind.wrap .i64 (i_3 + (1 : Int))) H_42 [] hn (by kernel_rfl) (by kernel_rfl) rfl rfl rfl
  · intro b_6; have H_28 := of_f H_26 b_6
    refine VL_exit ?_
    refine QL_exit ?_
    refine QB_here ?_
    refine V_run hN hn 2 0 [2] [] ⟨[(2, .c (.val (.bool true)))], [], 0⟩ [] (by kernel_rfl) rfl rfl ap0 ?_
    have H_44 := Option.some.inj (show some true = some r from H_28); subst H_44
    refine VL_ret ?_
    exact P_to [(2, .c (.val (.bool true)))] [] [] hn (by kernel_rfl) (by kernel_rfl) rfl rfl rfl (QF_retS (by kernel_rfl) (by kernel_rfl) rfl)

theorem delta_long_spec (K : Nat) (base_1 : Int) (l_2 : (List (Int × (Int × ByteArray)))) (r : Int) (H : delta_long_gr K base_1 l_2 = some r) : Spec Try.prog 39 0 [.c (.val (.int .i64 base_1)), .c (.imm (.slice (.pair (.int .i64) (.pair (.int .i64) .str))) l_2)] [] (.c (.val (.int .i64 r))) [] := by
  refine Spec_mk (fn := Try.f39) (c := (Try.f39.body).get!) Try.func39 (by kernel_rfl) rfl ?_
  intro C hN hn
  replace hN : C.N = 43 := hN
  unfold delta_long_gr at H
  refine V_run hN hn 7 0 [1, 5, 12, 13, 14] [] ⟨[(1, .c (.imm (.slice (.pair (.int .i64) (.pair (.int .i64) .str))) l_2)), (5, .c (.val (.int .i64 (IntKind.wrap .i64 ((20000 : Int) - base_1))))), (12, .c (.imm (.slice (.pair (.int .i64) (.pair (.int .i64) .str))) l_2)), (13, .c (.val (.int .i64 (((List.length l_2) : Nat) : Int)))), (14, .c (.val (.int .i64 (0 : Int))))], [], 0⟩ [] (by kernel_rfl) rfl rfl ap0 ?_
  obtain ⟨q_28, H_29, H_30⟩ := of_bind H
  refine V_cut (Y := Int) (R := Int) q_28 (fun y => y) (fun y => [(1, .c (.imm (.slice (.pair (.int .i64) (.pair (.int .i64) .str))) l_2)), (5, .c (.val (.int .i64 y)))]) (fun y => []) ?_ ?_
  · skip
    refine VL_block ?_
    refine V_to [(1, .c (.imm (.slice (.pair (.int .i64) (.pair (.int .i64) .str))) l_2)), (5, .c (.val (.int .i64 (IntKind.wrap .i64 ((20000 : Int) - base_1))))), (12, .c (.imm (.slice (.pair (.int .i64) (.pair (.int .i64) .str))) l_2)), (13, .c (.val (.int .i64 (((List.length l_2) : Nat) : Int)))), (14, .c (.val (.int .i64 (0 : Int))))] [] [] hn (by kernel_rfl) (by kernel_rfl) rfl rfl rfl ?_
    refine VL_loop (X := (Int × Int)) (fun x => [(1, .c (.imm (.slice (.pair (.int .i64) (.pair (.int .i64) .str))) l_2)), (5, .c (.val (.int .i64 x.1))), (12, .c (.imm (.slice (.pair (.int .i64) (.pair (.int .i64) .str))) l_2)), (13, .c (.val (.int .i64 (((List.length l_2) : Nat) : Int)))), (14, .c (.val (.int .i64 x.2)))]) (fun x => []) (fun k x => delta_long_gr.l0 K l_2 k x.1 x.2 = some q_28) K ((IntKind.wrap .i64 ((20000 : Int) - base_1)), (0 : Int)) H_29 (fun _ h => no_none h) ?_
    intro k_6 x_6 H_32
    obtain ⟨left_4, t_5⟩ := x_6
    have H_33 : delta_long_gr.l0 K l_2 (k_6 + 1) left_4 t_5 = some q_28 := H_32
    rw [delta_long_gr.l0] at H_33
    refine V_run hN hn 3 0 [1, 5, 12, 13, 14, 15] [] ⟨[(1, .c (.imm (.slice (.pair (.int .i64) (.pair (.int .i64) .str))) l_2)), (5, .c (.val (.int .i64 left_4))), (12, .c (.imm (.slice (.pair (.int .i64) (.pair (.int .i64) .str))) l_2)), (13, .c (.val (.int .i64 (((List.length l_2) : Nat) : Int)))), (14, .c (.val (.int .i64 t_5))), (15, .c (.val (.bool (decide (t_5 < (((List.length l_2) : Nat) : Int))))))], [], 0⟩ [] (by kernel_rfl) rfl rfl ap0 ?_
    refine VL_cond ((decide (t_5 < (((List.length l_2) : Nat) : Int)))) (by kernel_rfl) ?_ ?_
    · intro b_8; have H_34 := of_t H_33 b_8
      refine V_run hN hn 2 0 [1, 5, 12, 13, 14, 15] [] ⟨[(1, .c (.imm (.slice (.pair (.int .i64) (.pair (.int .i64) .str))) l_2)), (5, .c (.val (.int .i64 left_4))), (12, .c (.imm (.slice (.pair (.int .i64) (.pair (.int .i64) .str))) l_2)), (13, .c (.val (.int .i64 (((List.length l_2) : Nat) : Int)))), (14, .c (.val (.int .i64 t_5))), (15, .c (.val (.bool (decide (t_5 < (((List.length l_2) : Nat) : Int))))))], [], 0⟩ [] (by kernel_rfl) rfl rfl ap0 ?_
      refine VL_block ?_
      obtain ⟨c_10, H_36⟩ := of_if H_34
      refine V_run hN hn 3 0 [1, 5, 12, 13, 14] [] ⟨[(1, .c (.imm (.slice (.pair (.int .i64) (.pair (.int .i64) .str))) l_2)), (5, .c (.val (.int .i64 (IntKind.wrap .i64 (left_4 + (IntKind.wrap .i64 ((List.getD l_2 (Int.toNat t_5) ((0 : Int), ((0 : Int), ByteArray.empty))).2.1 - (List.getD l_2 (Int.toNat t_5) ((0 : Int), ((0 : Int), ByteArray.empty))).1))))))), (12, .c (.imm (.slice (.pair (.int .i64) (.pair (.int .i64) .str))) l_2)), (13, .c (.val (.int .i64 (((List.length l_2) : Nat) : Int)))), (14, .c (.val (.int .i64 t_5)))], [], 1⟩ [0 ≤ t_5, t_5 < (((List.length l_2) : Nat) : Int)] (by kernel_rfl) rfl rfl (ap2 c_10.1 (ap1 c_10.2)) ?_
      refine VL_nil (QB_end ?_)
      refine V_run hN hn 1 1 [1, 5, 12, 13, 14] [] ⟨[(1, .c (.imm (.slice (.pair (.int .i64) (.pair (.int .i64) .str))) l_2)), (5, .c (.val (.int .i64 (IntKind.wrap .i64 (left_4 + (IntKind.wrap .i64 ((List.getD l_2 (Int.toNat t_5) ((0 : Int), ((0 : Int), ByteArray.empty))).2.1 - (List.getD l_2 (Int.toNat t_5) ((0 : Int), ((0 : Int), ByteArray.empty))).1))))))), (12, .c (.imm (.slice (.pair (.int .i64) (.pair (.int .i64) .str))) l_2)), (13, .c (.val (.int .i64 (((List.length l_2) : Nat) : Int)))), (14, .c (.val (.int .i64 (IntKind.wrap .i64 (t_5 + (1 : Int))))))], [], 1⟩ [] (by kernel_rfl) rfl rfl ap0 ?_
      refine VL_nil ?_
      exact V_roundEnd ((IntKind.wrap .i64 (left_4 + (IntKind.wrap .i64 ((List.getD l_2 (Int.toNat t_5) ((0 : Int), ((0 : Int), ByteArray.empty))).2.1 - (List.getD l_2 (Int.toNat t_5) ((0 : Int), ((0 : Int), ByteArray.empty))).1)))), (IntKind.wrap .i64 (t_5 + (1 : Int)))) H_36 [] hn (by kernel_rfl) (by kernel_rfl) rfl rfl rfl
    · intro b_8; have H_35 := of_f H_33 b_8
      refine VL_exit ?_
      refine QL_exit ?_
      refine QB_here ?_
      have H_37 := Option.some.inj (show some left_4 = some q_28 from H_35); subst H_37
      refine VL_nil ?_
      exact QP_end left_4 rfl [] hn (by kernel_rfl) (by kernel_rfl) rfl rfl rfl
  · intro y_31 hy; subst hy
    skip
    skip
    refine V_run hN hn 3 0 [5, 26, 27, 28] [] ⟨[(5, .c (.val (.int .i64 y_31))), (26, .c (.imm (.slice (.pair (.int .i64) (.pair (.int .i64) .str))) l_2)), (27, .c (.val (.int .i64 (((List.length l_2) : Nat) : Int)))), (28, .c (.val (.int .i64 (0 : Int))))], [], 0⟩ [] (by kernel_rfl) rfl rfl ap0 ?_
    refine VL_block ?_
    refine V_to [(5, .c (.val (.int .i64 y_31))), (26, .c (.imm (.slice (.pair (.int .i64) (.pair (.int .i64) .str))) l_2)), (27, .c (.val (.int .i64 (((List.length l_2) : Nat) : Int)))), (28, .c (.val (.int .i64 (0 : Int))))] [] [] hn (by kernel_rfl) (by kernel_rfl) rfl rfl rfl ?_
    refine VL_loop (X := (Int × Int)) (fun x => [(5, .c (.val (.int .i64 x.1))), (26, .c (.imm (.slice (.pair (.int .i64) (.pair (.int .i64) .str))) l_2)), (27, .c (.val (.int .i64 (((List.length l_2) : Nat) : Int)))), (28, .c (.val (.int .i64 x.2)))]) (fun x => []) (fun k x => delta_long_gr.l1 K l_2 k x.1 x.2 = some r) K (y_31, (0 : Int)) H_30 (fun _ h => no_none h) ?_
    intro k_16 x_16 H_38
    obtain ⟨left_14, t_15⟩ := x_16
    have H_39 : delta_long_gr.l1 K l_2 (k_16 + 1) left_14 t_15 = some r := H_38
    rw [delta_long_gr.l1] at H_39
    refine V_run hN hn 3 0 [5, 26, 27, 28, 29] [] ⟨[(5, .c (.val (.int .i64 left_14))), (26, .c (.imm (.slice (.pair (.int .i64) (.pair (.int .i64) .str))) l_2)), (27, .c (.val (.int .i64 (((List.length l_2) : Nat) : Int)))), (28, .c (.val (.int .i64 t_15))), (29, .c (.val (.bool (decide (t_15 < (((List.length l_2) : Nat) : Int))))))], [], 0⟩ [] (by kernel_rfl) rfl rfl ap0 ?_
    refine VL_cond ((decide (t_15 < (((List.length l_2) : Nat) : Int)))) (by kernel_rfl) ?_ ?_
    · intro b_18; have H_40 := of_t H_39 b_18
      refine V_run hN hn 2 0 [5, 26, 27, 28, 29] [] ⟨[(5, .c (.val (.int .i64 left_14))), (26, .c (.imm (.slice (.pair (.int .i64) (.pair (.int .i64) .str))) l_2)), (27, .c (.val (.int .i64 (((List.length l_2) : Nat) : Int)))), (28, .c (.val (.int .i64 t_15))), (29, .c (.val (.bool (decide (t_15 < (((List.length l_2) : Nat) : Int))))))], [], 0⟩ [] (by kernel_rfl) rfl rfl ap0 ?_
      refine VL_block ?_
      obtain ⟨c_20, H_42⟩ := of_if H_40
      refine V_run hN hn 5 0 [5, 9, 26, 27, 28, 36] [0] ⟨[(5, .c (.val (.int .i64 left_14))), (9, .c (.h 0)), (26, .c (.imm (.slice (.pair (.int .i64) (.pair (.int .i64) .str))) l_2)), (27, .c (.val (.int .i64 (((List.length l_2) : Nat) : Int)))), (28, .c (.val (.int .i64 t_15))), (36, .c (.val (.bool (decide ((((ByteArray.size (List.getD l_2 (Int.toNat t_15) ((0 : Int), ((0 : Int), ByteArray.empty))).2.2) : Nat) : Int) > left_14)))))], [(0, .box [.val (.int .i64 (List.getD l_2 (Int.toNat t_15) ((0 : Int), ((0 : Int), ByteArray.empty))).1), .val (.int .i64 (List.getD l_2 (Int.toNat t_15) ((0 : Int), ((0 : Int), ByteArray.empty))).2.1), .val (.string (List.getD l_2 (Int.toNat t_15) ((0 : Int), ((0 : Int), ByteArray.empty))).2.2)])], 1⟩ [0 ≤ t_15, t_15 < (((List.length l_2) : Nat) : Int)] (by kernel_rfl) rfl rfl (ap2 c_20.1 (ap1 c_20.2)) ?_
      refine VL_cond ((decide ((((ByteArray.size (List.getD l_2 (Int.toNat t_15) ((0 : Int), ((0 : Int), ByteArray.empty))).2.2) : Nat) : Int) > left_14))) (by kernel_rfl) ?_ ?_
      · intro b_21; have H_43 := of_t H_42 b_21
        refine V_run hN hn 2 1 [4] [] ⟨[(4, .c (.val (.int .i64 (13 : Int))))], [], 1⟩ [] (by kernel_rfl) rfl rfl ap0 ?_
        have H_45 := Option.some.inj (show some (13 : Int) = some r from H_43); subst H_45
        refine VL_ret ?_
        refine QB_ret ?_
        refine QL_ret ?_
        refine QB_ret ?_
        exact P_to [(4, .c (.val (.int .i64 (13 : Int))))] [] [] hn (by kernel_rfl) (by kernel_rfl) rfl rfl rfl (QF_retS (by kernel_rfl) (by kernel_rfl) rfl)
      · intro b_21; have H_44 := of_f H_42 b_21
        refine V_run hN hn 2 1 [5, 26, 27, 28] [] ⟨[(5, .c (.val (.int .i64 (IntKind.wrap .i64 (left_14 - (((ByteArray.size (List.getD l_2 (Int.toNat t_15) ((0 : Int), ((0 : Int), ByteArray.empty))).2.2) : Nat) : Int)))))), (26, .c (.imm (.slice (.pair (.int .i64) (.pair (.int .i64) .str))) l_2)), (27, .c (.val (.int .i64 (((List.length l_2) : Nat) : Int)))), (28, .c (.val (.int .i64 t_15)))], [], 1⟩ [] (by kernel_rfl) rfl rfl ap0 ?_
        refine VL_nil (QB_end ?_)
        refine V_run hN hn 1 1 [5, 26, 27, 28] [] ⟨[(5, .c (.val (.int .i64 (IntKind.wrap .i64 (left_14 - (((ByteArray.size (List.getD l_2 (Int.toNat t_15) ((0 : Int), ((0 : Int), ByteArray.empty))).2.2) : Nat) : Int)))))), (26, .c (.imm (.slice (.pair (.int .i64) (.pair (.int .i64) .str))) l_2)), (27, .c (.val (.int .i64 (((List.length l_2) : Nat) : Int)))), (28, .c (.val (.int .i64 (IntKind.wrap .i64 (t_15 + (1 : Int))))))], [], 1⟩ [] (by kernel_rfl) rfl rfl ap0 ?_
        refine VL_nil ?_
        exact V_roundEnd ((IntKind.wrap .i64 (left_14 - (((ByteArray.size (List.getD l_2 (Int.toNat t_15) ((0 : Int), ((0 : Int), ByteArray.empty))).2.2) : Nat) : Int))), (IntKind.wrap .i64 (t_15 + (1 : Int)))) H_44 [] hn (by kernel_rfl) (by kernel_rfl) rfl rfl rfl
    · intro b_18; have H_41 := of_f H_39 b_18
      refine VL_exit ?_
      refine QL_exit ?_
      refine QB_here ?_
      refine V_run hN hn 2 0 [4] [] ⟨[(4, .c (.val (.int .i64 (0 : Int))))], [], 0⟩ [] (by kernel_rfl) rfl rfl ap0 ?_
      have H_46 := Option.some.inj (show some (0 : Int) = some r from H_41); subst H_46
      refine VL_ret ?_
      exact P_to [(4, .c (.val (.int .i64 (0 : Int))))] [] [] hn (by kernel_rfl) (by kernel_rfl) rfl rfl rfl (QF_retS (by kernel_rfl) (by kernel_rfl) rfl)

theorem delta_check_spec (K : Nat) (base_1 : Int) (l_2 : (List (Int × (Int × ByteArray)))) (r : Int) (H : delta_check_gr K base_1 l_2 = some r) : Spec Try.prog 27 0 [.c (.val (.int .i64 base_1)), .c (.imm (.slice (.pair (.int .i64) (.pair (.int .i64) .str))) l_2)] [] (.c (.val (.int .i64 r))) [] := by
  refine Spec_mk (fn := Try.f27) (c := (Try.f27.body).get!) Try.func27 (by kernel_rfl) rfl ?_
  intro C hN hn
  replace hN : C.N = 55 := hN
  unfold delta_check_gr at H
  refine V_run hN hn 4 0 [0, 1] [] ⟨[(0, .c (.val (.int .i64 base_1))), (1, .c (.imm (.slice (.pair (.int .i64) (.pair (.int .i64) .str))) l_2))], [], 0⟩ [] (by kernel_rfl) rfl rfl ap0 ?_
  obtain ⟨q_59, H_60, H_61⟩ := of_bind H
  refine V_cut (Y := Bool) (R := Bool) q_59 (fun y => y) (fun y => [(0, .c (.val (.int .i64 base_1))), (1, .c (.imm (.slice (.pair (.int .i64) (.pair (.int .i64) .str))) l_2)), (14, .c (.val (.bool y)))]) (fun y => []) ?_ ?_
  · skip
    rcases Bool.eq_false_or_eq_true ((decide (base_1 < (0 : Int)))) with b_4 | b_4
    · have H_63 := of_t H_60 b_4
      refine V_reg hN hn [] [(11, true)] calls_nil 0 [0, 1, 14] [] ⟨[(0, .c (.val (.int .i64 base_1))), (1, .c (.imm (.slice (.pair (.int .i64) (.pair (.int .i64) .str))) l_2)), (14, .c (.val (.bool true)))], [], 0⟩ [(decide (base_1 < (0 : Int))) = true] (by kernel_rfl) rfl rfl (ap1 b_4) (by kernel_rfl) (by kernel_rfl) ?_
      have H_65 := Option.some.inj (show some true = some q_59 from H_63); subst H_65
      refine VL_nil ?_
      exact QP_end true rfl [] hn (by kernel_rfl) (by kernel_rfl) rfl rfl rfl
    · have H_64 := of_f H_60 b_4
      refine V_reg hN hn [] [(11, false)] calls_nil 0 [0, 1, 14] [] ⟨[(0, .c (.val (.int .i64 base_1))), (1, .c (.imm (.slice (.pair (.int .i64) (.pair (.int .i64) .str))) l_2)), (14, .c (.val (.bool (decide (base_1 > (20000 : Int))))))], [], 0⟩ [(decide (base_1 < (0 : Int))) = false] (by kernel_rfl) rfl rfl (ap1 b_4) (by kernel_rfl) (by kernel_rfl) ?_
      have H_66 := Option.some.inj (show some (decide (base_1 > (20000 : Int))) = some q_59 from H_64); subst H_66
      refine VL_nil ?_
      exact QP_end (decide (base_1 > (20000 : Int))) rfl [] hn (by kernel_rfl) (by kernel_rfl) rfl rfl rfl
  · intro y_62 hy; subst hy
    skip
    skip
    refine VL_cond (y_62) (by kernel_rfl) ?_ ?_
    · intro b_8; have H_67 := of_t H_61 b_8
      refine V_run hN hn 2 0 [4] [] ⟨[(4, .c (.val (.int .i64 (10 : Int))))], [], 0⟩ [] (by kernel_rfl) rfl rfl ap0 ?_
      have H_69 := Option.some.inj (show some (10 : Int) = some r from H_67); subst H_69
      refine VL_ret ?_
      exact P_to [(4, .c (.val (.int .i64 (10 : Int))))] [] [] hn (by kernel_rfl) (by kernel_rfl) rfl rfl rfl (QF_retS (by kernel_rfl) (by kernel_rfl) rfl)
    · intro b_8; have H_68 := of_f H_61 b_8
      refine V_run hN hn 4 0 [0, 1, 15, 16, 17] [] ⟨[(0, .c (.val (.int .i64 base_1))), (1, .c (.imm (.slice (.pair (.int .i64) (.pair (.int .i64) .str))) l_2)), (15, .c (.imm (.slice (.pair (.int .i64) (.pair (.int .i64) .str))) l_2)), (16, .c (.val (.int .i64 (((List.length l_2) : Nat) : Int)))), (17, .c (.val (.int .i64 (0 : Int))))], [], 0⟩ [] (by kernel_rfl) rfl rfl ap0 ?_
      obtain ⟨q_70, H_71, H_72⟩ := of_bind H_68
      refine V_cut (Y := Unit) (R := (Int ⊕ Unit)) q_70 (fun y => (Sum.inr y)) (fun y => [(0, .c (.val (.int .i64 base_1))), (1, .c (.imm (.slice (.pair (.int .i64) (.pair (.int .i64) .str))) l_2))]) (fun y => []) ?_ ?_
      · skip
        refine VL_block ?_
        refine V_to [(0, .c (.val (.int .i64 base_1))), (1, .c (.imm (.slice (.pair (.int .i64) (.pair (.int .i64) .str))) l_2)), (15, .c (.imm (.slice (.pair (.int .i64) (.pair (.int .i64) .str))) l_2)), (16, .c (.val (.int .i64 (((List.length l_2) : Nat) : Int)))), (17, .c (.val (.int .i64 (0 : Int))))] [] [] hn (by kernel_rfl) (by kernel_rfl) rfl rfl rfl ?_
        refine VL_loop (X := Int) (fun x => [(0, .c (.val (.int .i64 base_1))), (1, .c (.imm (.slice (.pair (.int .i64) (.pair (.int .i64) .str))) l_2)), (15, .c (.imm (.slice (.pair (.int .i64) (.pair (.int .i64) .str))) l_2)), (16, .c (.val (.int .i64 (((List.length l_2) : Nat) : Int)))), (17, .c (.val (.int .i64 x)))]) (fun x => []) (fun k x => delta_check_gr.l0 K l_2 base_1 k x = some q_70) K (0 : Int) H_71 (fun _ h => no_none h) ?_
        intro k_12 t_11 H_74
        have H_75 : delta_check_gr.l0 K l_2 base_1 (k_12 + 1) t_11 = some q_70 := H_74
        rw [delta_check_gr.l0] at H_75
        refine V_run hN hn 3 0 [0, 1, 15, 16, 17, 18] [] ⟨[(0, .c (.val (.int .i64 base_1))), (1, .c (.imm (.slice (.pair (.int .i64) (.pair (.int .i64) .str))) l_2)), (15, .c (.imm (.slice (.pair (.int .i64) (.pair (.int .i64) .str))) l_2)), (16, .c (.val (.int .i64 (((List.length l_2) : Nat) : Int)))), (17, .c (.val (.int .i64 t_11))), (18, .c (.val (.bool (decide (t_11 < (((List.length l_2) : Nat) : Int))))))], [], 0⟩ [] (by kernel_rfl) rfl rfl ap0 ?_
        refine VL_cond ((decide (t_11 < (((List.length l_2) : Nat) : Int)))) (by kernel_rfl) ?_ ?_
        · intro b_14; have H_76 := of_t H_75 b_14
          refine V_run hN hn 2 0 [0, 1, 15, 16, 17, 18] [] ⟨[(0, .c (.val (.int .i64 base_1))), (1, .c (.imm (.slice (.pair (.int .i64) (.pair (.int .i64) .str))) l_2)), (15, .c (.imm (.slice (.pair (.int .i64) (.pair (.int .i64) .str))) l_2)), (16, .c (.val (.int .i64 (((List.length l_2) : Nat) : Int)))), (17, .c (.val (.int .i64 t_11))), (18, .c (.val (.bool (decide (t_11 < (((List.length l_2) : Nat) : Int))))))], [], 0⟩ [] (by kernel_rfl) rfl rfl ap0 ?_
          refine VL_block ?_
          obtain ⟨c_16, H_78⟩ := of_if H_76
          refine V_run hN hn 3 0 [0, 1, 6, 15, 16, 17] [0] ⟨[(0, .c (.val (.int .i64 base_1))), (1, .c (.imm (.slice (.pair (.int .i64) (.pair (.int .i64) .str))) l_2)), (6, .c (.h 0)), (15, .c (.imm (.slice (.pair (.int .i64) (.pair (.int .i64) .str))) l_2)), (16, .c (.val (.int .i64 (((List.length l_2) : Nat) : Int)))), (17, .c (.val (.int .i64 t_11)))], [(0, .box [.val (.int .i64 (List.getD l_2 (Int.toNat t_11) ((0 : Int), ((0 : Int), ByteArray.empty))).1), .val (.int .i64 (List.getD l_2 (Int.toNat t_11) ((0 : Int), ((0 : Int), ByteArray.empty))).2.1), .val (.string (List.getD l_2 (Int.toNat t_11) ((0 : Int), ((0 : Int), ByteArray.empty))).2.2)])], 1⟩ [0 ≤ t_11, t_11 < (((List.length l_2) : Nat) : Int)] (by kernel_rfl) rfl rfl (ap2 c_16.1 (ap1 c_16.2)) ?_
          obtain ⟨q_79, H_80, H_81⟩ := of_bind H_78
          refine V_cut (Y := Bool) (R := Bool) q_79 (fun y => y) (fun y => [(0, .c (.val (.int .i64 base_1))), (1, .c (.imm (.slice (.pair (.int .i64) (.pair (.int .i64) .str))) l_2)), (15, .c (.imm (.slice (.pair (.int .i64) (.pair (.int .i64) .str))) l_2)), (16, .c (.val (.int .i64 (((List.length l_2) : Nat) : Int)))), (17, .c (.val (.int .i64 t_11))), (36, .c (.val (.bool y)))]) (fun y => []) ?_ ?_
          · skip
            rcases Bool.eq_false_or_eq_true ((decide ((List.getD l_2 (Int.toNat t_11) ((0 : Int), ((0 : Int), ByteArray.empty))).1 < (0 : Int)))) with b_17 | b_17
            · have H_83 := of_t H_80 b_17
              refine V_reg hN hn [] [(24, true)] calls_nil 1 [0, 1, 15, 16, 17, 36] [] ⟨[(0, .c (.val (.int .i64 base_1))), (1, .c (.imm (.slice (.pair (.int .i64) (.pair (.int .i64) .str))) l_2)), (15, .c (.imm (.slice (.pair (.int .i64) (.pair (.int .i64) .str))) l_2)), (16, .c (.val (.int .i64 (((List.length l_2) : Nat) : Int)))), (17, .c (.val (.int .i64 t_11))), (36, .c (.val (.bool true)))], [], 1⟩ [(decide ((List.getD l_2 (Int.toNat t_11) ((0 : Int), ((0 : Int), ByteArray.empty))).1 < (0 : Int))) = true] (by kernel_rfl) rfl rfl (ap1 b_17) (by kernel_rfl) (by kernel_rfl) ?_
              have H_85 := Option.some.inj (show some true = some q_79 from H_83); subst H_85
              refine VL_nil ?_
              exact QP_end true rfl [] hn (by kernel_rfl) (by kernel_rfl) rfl rfl rfl
            · have H_84 := of_f H_80 b_17
              rcases Bool.eq_false_or_eq_true ((decide ((List.getD l_2 (Int.toNat t_11) ((0 : Int), ((0 : Int), ByteArray.empty))).1 > (List.getD l_2 (Int.toNat t_11) ((0 : Int), ((0 : Int), ByteArray.empty))).2.1))) with b_19 | b_19
              · have H_86 := of_t H_84 b_19
                refine V_reg hN hn [] [(24, false), (31, true)] calls_nil 1 [0, 1, 15, 16, 17, 36] [] ⟨[(0, .c (.val (.int .i64 base_1))), (1, .c (.imm (.slice (.pair (.int .i64) (.pair (.int .i64) .str))) l_2)), (15, .c (.imm (.slice (.pair (.int .i64) (.pair (.int .i64) .str))) l_2)), (16, .c (.val (.int .i64 (((List.length l_2) : Nat) : Int)))), (17, .c (.val (.int .i64 t_11))), (36, .c (.val (.bool true)))], [], 1⟩ [(decide ((List.getD l_2 (Int.toNat t_11) ((0 : Int), ((0 : Int), ByteArray.empty))).1 < (0 : Int))) = false, (decide ((List.getD l_2 (Int.toNat t_11) ((0 : Int), ((0 : Int), ByteArray.empty))).1 > (List.getD l_2 (Int.toNat t_11) ((0 : Int), ((0 : Int), ByteArray.empty))).2.1)) = true] (by kernel_rfl) rfl rfl (ap2 b_17 (ap1 b_19)) (by kernel_rfl) (by kernel_rfl) ?_
                have H_88 := Option.some.inj (show some true = some q_79 from H_86); subst H_88
                refine VL_nil ?_
                exact QP_end true rfl [] hn (by kernel_rfl) (by kernel_rfl) rfl rfl rfl
              · have H_87 := of_f H_84 b_19
                refine V_reg hN hn [] [(24, false), (31, false)] calls_nil 1 [0, 1, 15, 16, 17, 36] [] ⟨[(0, .c (.val (.int .i64 base_1))), (1, .c (.imm (.slice (.pair (.int .i64) (.pair (.int .i64) .str))) l_2)), (15, .c (.imm (.slice (.pair (.int .i64) (.pair (.int .i64) .str))) l_2)), (16, .c (.val (.int .i64 (((List.length l_2) : Nat) : Int)))), (17, .c (.val (.int .i64 t_11))), (36, .c (.val (.bool (decide ((List.getD l_2 (Int.toNat t_11) ((0 : Int), ((0 : Int), ByteArray.empty))).2.1 > base_1)))))], [], 1⟩ [(decide ((List.getD l_2 (Int.toNat t_11) ((0 : Int), ((0 : Int), ByteArray.empty))).1 < (0 : Int))) = false, (decide ((List.getD l_2 (Int.toNat t_11) ((0 : Int), ((0 : Int), ByteArray.empty))).1 > (List.getD l_2 (Int.toNat t_11) ((0 : Int), ((0 : Int), ByteArray.empty))).2.1)) = false] (by kernel_rfl) rfl rfl (ap2 b_17 (ap1 b_19)) (by kernel_rfl) (by kernel_rfl) ?_
                have H_89 := Option.some.inj (show some (decide ((List.getD l_2 (Int.toNat t_11) ((0 : Int), ((0 : Int), ByteArray.empty))).2.1 > base_1)) = some q_79 from H_87); subst H_89
                refine VL_nil ?_
                exact QP_end (decide ((List.getD l_2 (Int.toNat t_11) ((0 : Int), ((0 : Int), ByteArray.empty))).2.1 > base_1)) rfl [] hn (by kernel_rfl) (by kernel_rfl) rfl rfl rfl
          · intro y_82 hy; subst hy
            skip
            skip
            refine VL_cond (y_82) (by kernel_rfl) ?_ ?_
            · intro b_23; have H_90 := of_t H_81 b_23
              refine V_run hN hn 2 1 [4] [] ⟨[(4, .c (.val (.int .i64 (10 : Int))))], [], 1⟩ [] (by kernel_rfl) rfl rfl ap0 ?_
              have H_92 := Option.some.inj (show some (Sum.inl (10 : Int)) = some q_70 from H_90); subst H_92
              have H_93 := Option.some.inj (show some (10 : Int) = some r from H_72); subst H_93
              refine VL_ret ?_
              refine QB_ret ?_
              refine QL_ret ?_
              refine QB_ret ?_
              refine QP_ret ?_
              exact P_to [(4, .c (.val (.int .i64 (10 : Int))))] [] [] hn (by kernel_rfl) (by kernel_rfl) rfl rfl rfl (QF_retS (by kernel_rfl) (by kernel_rfl) rfl)
            · intro b_23; have H_91 := of_f H_81 b_23
              refine V_run hN hn 1 1 [0, 1, 15, 16, 17, 36] [] ⟨[(0, .c (.val (.int .i64 base_1))), (1, .c (.imm (.slice (.pair (.int .i64) (.pair (.int .i64) .str))) l_2)), (15, .c (.imm (.slice (.pair (.int .i64) (.pair (.int .i64) .str))) l_2)), (16, .c (.val (.int .i64 (((List.length l_2) : Nat) : Int)))), (17, .c (.val (.int .i64 t_11))), (36, .c (.val (.bool y_82)))], [], 1⟩ [] (by kernel_rfl) rfl rfl ap0 ?_
              refine VL_nil (QB_end ?_)
              refine V_run hN hn 1 1 [0, 1, 15, 16, 17] [] ⟨[(0, .c (.val (.int .i64 base_1))), (1, .c (.imm (.slice (.pair (.int .i64) (.pair (.int .i64) .str))) l_2)), (15, .c (.imm (.slice (.pair (.int .i64) (.pair (.int .i64) .str))) l_2)), (16, .c (.val (.int .i64 (((List.length l_2) : Nat) : Int)))), (17, .c (.val (.int .i64 (IntKind.wrap .i64 (t_11 + (1 : Int))))))], [], 1⟩ [] (by kernel_rfl) rfl rfl ap0 ?_
              refine VL_nil ?_
              exact V_roundEnd (IntKind.wrap .i64 (t_11 + (1 : Int))) H_91 [] hn (by kernel_rfl) (by kernel_rfl) rfl rfl rfl
        · intro b_14; have H_77 := of_f H_75 b_14
          refine VL_exit ?_
          refine QL_exit ?_
          refine QB_here ?_
          have H_94 := Option.some.inj (show some (Sum.inr ()) = some q_70 from H_77); subst H_94
          refine VL_nil ?_
          exact QP_end () rfl [] hn (by kernel_rfl) (by kernel_rfl) rfl rfl rfl
      · intro y_73 hy; subst hy
        skip
        refine V_run hN hn 2 0 [0, 1] [] ⟨[(0, .c (.val (.int .i64 base_1))), (1, .c (.imm (.slice (.pair (.int .i64) (.pair (.int .i64) .str))) l_2))], [], 0⟩ [] (by kernel_rfl) rfl rfl ap0 ?_
        obtain ⟨r_28, h_29, H_95⟩ := of_bind H_72
        refine V_reg hN hn [(1, ⟨37, 0, [.c (.imm (.slice (.pair (.int .i64) (.pair (.int .i64) .str))) l_2)], [], .c (.val (.bool r_28)), [], [], 0⟩)] [] (calls_cons (delta_Ordered_spec K l_2 r_28 h_29) (by kernel_rfl) calls_nil) 0 [0, 1, 40] [] ⟨[(0, .c (.val (.int .i64 base_1))), (1, .c (.imm (.slice (.pair (.int .i64) (.pair (.int .i64) .str))) l_2)), (40, .c (.val (.bool (!r_28))))], [], 0⟩ [] (by kernel_rfl) rfl rfl ap0 (by kernel_rfl) (by kernel_rfl) ?_
        refine VL_cond ((!r_28)) (by kernel_rfl) ?_ ?_
        · intro b_31; have H_96 := of_t H_95 b_31
          refine V_run hN hn 2 0 [4] [] ⟨[(4, .c (.val (.int .i64 (180 : Int))))], [], 0⟩ [] (by kernel_rfl) rfl rfl ap0 ?_
          have H_98 := Option.some.inj (show some (180 : Int) = some r from H_96); subst H_98
          refine VL_ret ?_
          exact P_to [(4, .c (.val (.int .i64 (180 : Int))))] [] [] hn (by kernel_rfl) (by kernel_rfl) rfl rfl rfl (QF_retS (by kernel_rfl) (by kernel_rfl) rfl)
        · intro b_31; have H_97 := of_f H_95 b_31
          refine V_run hN hn 4 0 [0, 1, 41, 42, 43] [] ⟨[(0, .c (.val (.int .i64 base_1))), (1, .c (.imm (.slice (.pair (.int .i64) (.pair (.int .i64) .str))) l_2)), (41, .c (.imm (.slice (.pair (.int .i64) (.pair (.int .i64) .str))) l_2)), (42, .c (.val (.int .i64 (((List.length l_2) : Nat) : Int)))), (43, .c (.val (.int .i64 (0 : Int))))], [], 0⟩ [] (by kernel_rfl) rfl rfl ap0 ?_
          obtain ⟨q_99, H_100, H_101⟩ := of_bind H_97
          refine V_cut (Y := Unit) (R := (Int ⊕ Unit)) q_99 (fun y => (Sum.inr y)) (fun y => [(0, .c (.val (.int .i64 base_1))), (1, .c (.imm (.slice (.pair (.int .i64) (.pair (.int .i64) .str))) l_2))]) (fun y => []) ?_ ?_
          · skip
            refine VL_block ?_
            refine V_to [(0, .c (.val (.int .i64 base_1))), (1, .c (.imm (.slice (.pair (.int .i64) (.pair (.int .i64) .str))) l_2)), (41, .c (.imm (.slice (.pair (.int .i64) (.pair (.int .i64) .str))) l_2)), (42, .c (.val (.int .i64 (((List.length l_2) : Nat) : Int)))), (43, .c (.val (.int .i64 (0 : Int))))] [] [] hn (by kernel_rfl) (by kernel_rfl) rfl rfl rfl ?_
            refine VL_loop (X := Int) (fun x => [(0, .c (.val (.int .i64 base_1))), (1, .c (.imm (.slice (.pair (.int .i64) (.pair (.int .i64) .str))) l_2)), (41, .c (.imm (.slice (.pair (.int .i64) (.pair (.int .i64) .str))) l_2)), (42, .c (.val (.int .i64 (((List.length l_2) : Nat) : Int)))), (43, .c (.val (.int .i64 x)))]) (fun x => []) (fun k x => delta_check_gr.l1 K l_2 k x = some q_99) K (0 : Int) H_100 (fun _ h => no_none h) ?_
            intro k_35 t_34 H_103
            have H_104 : delta_check_gr.l1 K l_2 (k_35 + 1) t_34 = some q_99 := H_103
            rw [delta_check_gr.l1] at H_104
            refine V_run hN hn 3 0 [0, 1, 41, 42, 43, 44] [] ⟨[(0, .c (.val (.int .i64 base_1))), (1, .c (.imm (.slice (.pair (.int .i64) (.pair (.int .i64) .str))) l_2)), (41, .c (.imm (.slice (.pair (.int .i64) (.pair (.int .i64) .str))) l_2)), (42, .c (.val (.int .i64 (((List.length l_2) : Nat) : Int)))), (43, .c (.val (.int .i64 t_34))), (44, .c (.val (.bool (decide (t_34 < (((List.length l_2) : Nat) : Int))))))], [], 0⟩ [] (by kernel_rfl) rfl rfl ap0 ?_
            refine VL_cond ((decide (t_34 < (((List.length l_2) : Nat) : Int)))) (by kernel_rfl) ?_ ?_
            · intro b_37; have H_105 := of_t H_104 b_37
              refine V_run hN hn 2 0 [0, 1, 41, 42, 43, 44] [] ⟨[(0, .c (.val (.int .i64 base_1))), (1, .c (.imm (.slice (.pair (.int .i64) (.pair (.int .i64) .str))) l_2)), (41, .c (.imm (.slice (.pair (.int .i64) (.pair (.int .i64) .str))) l_2)), (42, .c (.val (.int .i64 (((List.length l_2) : Nat) : Int)))), (43, .c (.val (.int .i64 t_34))), (44, .c (.val (.bool (decide (t_34 < (((List.length l_2) : Nat) : Int))))))], [], 0⟩ [] (by kernel_rfl) rfl rfl ap0 ?_
              refine VL_block ?_
              obtain ⟨c_39, H_107⟩ := of_if H_105
              refine V_run hN hn 3 0 [0, 1, 8, 41, 42, 43] [0] ⟨[(0, .c (.val (.int .i64 base_1))), (1, .c (.imm (.slice (.pair (.int .i64) (.pair (.int .i64) .str))) l_2)), (8, .c (.h 0)), (41, .c (.imm (.slice (.pair (.int .i64) (.pair (.int .i64) .str))) l_2)), (42, .c (.val (.int .i64 (((List.length l_2) : Nat) : Int)))), (43, .c (.val (.int .i64 t_34)))], [(0, .box [.val (.int .i64 (List.getD l_2 (Int.toNat t_34) ((0 : Int), ((0 : Int), ByteArray.empty))).1), .val (.int .i64 (List.getD l_2 (Int.toNat t_34) ((0 : Int), ((0 : Int), ByteArray.empty))).2.1), .val (.string (List.getD l_2 (Int.toNat t_34) ((0 : Int), ((0 : Int), ByteArray.empty))).2.2)])], 1⟩ [0 ≤ t_34, t_34 < (((List.length l_2) : Nat) : Int)] (by kernel_rfl) rfl rfl (ap2 c_39.1 (ap1 c_39.2)) ?_
              obtain ⟨r_40, h_41, H_108⟩ := of_bind H_107
              refine V_reg hN hn [(2, ⟨38, 0, [.c (.val (.string (List.getD l_2 (Int.toNat t_34) ((0 : Int), ((0 : Int), ByteArray.empty))).2.2))], [], .c (.val (.bool r_40)), [], [], 1⟩)] [] (calls_cons (utf_Valid_spec K (List.getD l_2 (Int.toNat t_34) ((0 : Int), ((0 : Int), ByteArray.empty))).2.2 r_40 h_41) (by kernel_rfl) calls_nil) 1 [0, 1, 41, 42, 43, 50] [] ⟨[(0, .c (.val (.int .i64 base_1))), (1, .c (.imm (.slice (.pair (.int .i64) (.pair (.int .i64) .str))) l_2)), (41, .c (.imm (.slice (.pair (.int .i64) (.pair (.int .i64) .str))) l_2)), (42, .c (.val (.int .i64 (((List.length l_2) : Nat) : Int)))), (43, .c (.val (.int .i64 t_34))), (50, .c (.val (.bool (!r_40))))], [], 1⟩ [] (by kernel_rfl) rfl rfl ap0 (by kernel_rfl) (by kernel_rfl) ?_
              refine VL_cond ((!r_40)) (by kernel_rfl) ?_ ?_
              · intro b_43; have H_109 := of_t H_108 b_43
                refine V_run hN hn 2 1 [4] [] ⟨[(4, .c (.val (.int .i64 (12 : Int))))], [], 1⟩ [] (by kernel_rfl) rfl rfl ap0 ?_
                have H_111 := Option.some.inj (show some (Sum.inl (12 : Int)) = some q_99 from H_109); subst H_111
                have H_112 := Option.some.inj (show some (12 : Int) = some r from H_101); subst H_112
                refine VL_ret ?_
                refine QB_ret ?_
                refine QL_ret ?_
                refine QB_ret ?_
                refine QP_ret ?_
                exact P_to [(4, .c (.val (.int .i64 (12 : Int))))] [] [] hn (by kernel_rfl) (by kernel_rfl) rfl rfl rfl (QF_retS (by kernel_rfl) (by kernel_rfl) rfl)
              · intro b_43; have H_110 := of_f H_108 b_43
                refine V_run hN hn 1 1 [0, 1, 41, 42, 43, 50] [] ⟨[(0, .c (.val (.int .i64 base_1))), (1, .c (.imm (.slice (.pair (.int .i64) (.pair (.int .i64) .str))) l_2)), (41, .c (.imm (.slice (.pair (.int .i64) (.pair (.int .i64) .str))) l_2)), (42, .c (.val (.int .i64 (((List.length l_2) : Nat) : Int)))), (43, .c (.val (.int .i64 t_34))), (50, .c (.val (.bool (!r_40))))], [], 1⟩ [] (by kernel_rfl) rfl rfl ap0 ?_
                refine VL_nil (QB_end ?_)
                refine V_run hN hn 1 1 [0, 1, 41, 42, 43] [] ⟨[(0, .c (.val (.int .i64 base_1))), (1, .c (.imm (.slice (.pair (.int .i64) (.pair (.int .i64) .str))) l_2)), (41, .c (.imm (.slice (.pair (.int .i64) (.pair (.int .i64) .str))) l_2)), (42, .c (.val (.int .i64 (((List.length l_2) : Nat) : Int)))), (43, .c (.val (.int .i64 (IntKind.wrap .i64 (t_34 + (1 : Int))))))], [], 1⟩ [] (by kernel_rfl) rfl rfl ap0 ?_
                refine VL_nil ?_
                exact V_roundEnd (IntKind.wrap .i64 (t_34 + (1 : Int))) H_110 [] hn (by kernel_rfl) (by kernel_rfl) rfl rfl rfl
            · intro b_37; have H_106 := of_f H_104 b_37
              refine VL_exit ?_
              refine QL_exit ?_
              refine QB_here ?_
              have H_113 := Option.some.inj (show some (Sum.inr ()) = some q_99 from H_106); subst H_113
              refine VL_nil ?_
              exact QP_end () rfl [] hn (by kernel_rfl) (by kernel_rfl) rfl rfl rfl
          · intro y_102 hy; subst hy
            skip
            refine V_run hN hn 1 0 [0, 1] [] ⟨[(0, .c (.val (.int .i64 base_1))), (1, .c (.imm (.slice (.pair (.int .i64) (.pair (.int .i64) .str))) l_2))], [], 0⟩ [] (by kernel_rfl) rfl rfl ap0 ?_
            obtain ⟨r_48, h_49, H_114⟩ := of_bind H_101
            refine V_reg hN hn [(2, ⟨39, 0, [.c (.val (.int .i64 base_1)), .c (.imm (.slice (.pair (.int .i64) (.pair (.int .i64) .str))) l_2)], [], .c (.val (.int .i64 r_48)), [], [], 0⟩)] [] (calls_cons (delta_long_spec K base_1 l_2 r_48 h_49) (by kernel_rfl) calls_nil) 0 [4] [] ⟨[(4, .c (.val (.int .i64 r_48)))], [], 0⟩ [] (by kernel_rfl) rfl rfl ap0 (by kernel_rfl) (by kernel_rfl) ?_
            have H_115 := Option.some.inj (show some r_48 = some r from H_114); subst H_115
            refine VL_ret ?_
            exact P_to [(4, .c (.val (.int .i64 r_48)))] [] [] hn (by kernel_rfl) (by kernel_rfl) rfl rfl rfl (QF_retS (by kernel_rfl) (by kernel_rfl) rfl)

theorem delta_Build_spec (K : Nat) (base_1 : Int) (l_2 : (List (Int × (Int × ByteArray)))) (r : (Int × (List (Int × (Int × ByteArray))) × Int)) (H : delta_Build_gr K base_1 l_2 = some r) : Spec Try.prog 19 0 [.c (.val (.int .i64 base_1)), .c (.imm (.slice (.pair (.int .i64) (.pair (.int .i64) .str))) l_2)] [] (.tup [(true, [.val (.int .i64 r.1), .imm (.slice (.pair (.int .i64) (.pair (.int .i64) .str))) r.2.1]), (false, [.val (.int .i64 r.2.2)])]) [] := by
  refine Spec_mk (fn := Try.f19) (c := (Try.f19.body).get!) Try.func19 (by kernel_rfl) rfl ?_
  intro C hN hn
  replace hN : C.N = 46 := hN
  unfold delta_Build_gr at H
  refine V_run hN hn 4 0 [0, 1, 4] [0] ⟨[(0, .c (.val (.int .i64 base_1))), (1, .c (.imm (.slice (.pair (.int .i64) (.pair (.int .i64) .str))) l_2)), (4, .c (.h 0))], [(0, .box [.val (.int .i64 (0 : Int)), .val (.slice none 0 0)])], 1⟩ [] (by kernel_rfl) rfl rfl ap0 ?_
  obtain ⟨r_4, h_5, H_60⟩ := of_bind H
  refine V_reg hN hn [(2, ⟨27, 0, [.c (.val (.int .i64 base_1)), .c (.imm (.slice (.pair (.int .i64) (.pair (.int .i64) .str))) l_2)], [], .c (.val (.int .i64 r_4)), [], [], 1⟩)] [] (calls_cons (delta_check_spec K base_1 l_2 r_4 h_5) (by kernel_rfl) calls_nil) 1 [0, 1, 4, 6] [0] ⟨[(0, .c (.val (.int .i64 base_1))), (1, .c (.imm (.slice (.pair (.int .i64) (.pair (.int .i64) .str))) l_2)), (4, .c (.h 0)), (6, .c (.val (.int .i64 r_4)))], [(0, .box [.val (.int .i64 (0 : Int)), .val (.slice none 0 0)])], 1⟩ [] (by kernel_rfl) rfl rfl ap0 (by kernel_rfl) (by kernel_rfl) ?_
  refine V_run hN hn 2 1 [0, 1, 4, 6, 15] [0] ⟨[(0, .c (.val (.int .i64 base_1))), (1, .c (.imm (.slice (.pair (.int .i64) (.pair (.int .i64) .str))) l_2)), (4, .c (.h 0)), (6, .c (.val (.int .i64 r_4))), (15, .c (.val (.bool (r_4 != (0 : Int)))))], [(0, .box [.val (.int .i64 (0 : Int)), .val (.slice none 0 0)])], 1⟩ [] (by kernel_rfl) rfl rfl ap0 ?_
  refine VL_cond ((r_4 != (0 : Int))) (by kernel_rfl) ?_ ?_
  · intro b_8; have H_61 := of_t H_60 b_8
    refine V_run hN hn 2 1 [4, 5] [0] ⟨[(4, .c (.h 0)), (5, .c (.val (.int .i64 r_4)))], [(0, .box [.val (.int .i64 (0 : Int)), .val (.slice none 0 0)])], 1⟩ [] (by kernel_rfl) rfl rfl ap0 ?_
    have H_63 := Option.some.inj (show some ((0 : Int), ([] : List (Int × (Int × ByteArray))), r_4) = some r from H_61); subst H_63
    refine VL_ret ?_
    refine P_ghost [.readCell 0 1 (.slice (.pair (.int .i64) (.pair (.int .i64) .str)))] 1 hn [4, 5] [0] ⟨[(4, .c (.h 0)), (5, .c (.val (.int .i64 r_4)))], [(0, .box [.val (.int .i64 (0 : Int)), .imm (.slice (.pair (.int .i64) (.pair (.int .i64) .str))) ([] : List (Int × (Int × ByteArray)))])], 1⟩ (by kernel_rfl) rfl rfl ?_
    exact P_to [(4, .c (.h 0)), (5, .c (.val (.int .i64 r_4)))] [(0, .box [.val (.int .i64 (0 : Int)), .imm (.slice (.pair (.int .i64) (.pair (.int .i64) .str))) ([] : List (Int × (Int × ByteArray)))])] [(0, 0)] hn (by kernel_rfl) (by kernel_rfl) rfl rfl rfl (QF_retS (by kernel_rfl) (by kernel_rfl) rfl)
  · intro b_8; have H_62 := of_f H_60 b_8
    refine V_run hN hn 2 1 [0, 1, 4, 6, 15] [0] ⟨[(0, .c (.val (.int .i64 base_1))), (1, .c (.imm (.slice (.pair (.int .i64) (.pair (.int .i64) .str))) l_2)), (4, .c (.h 0)), (6, .c (.val (.int .i64 r_4))), (15, .c (.val (.bool (r_4 != (0 : Int)))))], [(0, .box [.val (.int .i64 (0 : Int)), .val (.slice none 0 0)])], 1⟩ [] (by kernel_rfl) rfl rfl ap0 ?_
    obtain ⟨r_11, h_12, H_64⟩ := of_bind H_62
    refine V_reg hN hn [(1, ⟨28, 0, [.c (.val (.int .i64 base_1))], [], .c (.h 0), [(0, .box [.val (.int .i64 base_1), .val (.slice none 0 0)])], [(0, 1)], 2⟩)] [] (calls_cons (delta_NewMaker_spec K base_1 r_11 h_12) (by kernel_rfl) calls_nil) 1 [0, 1, 4, 7] [0, 1] ⟨[(0, .c (.val (.int .i64 base_1))), (1, .c (.imm (.slice (.pair (.int .i64) (.pair (.int .i64) .str))) l_2)), (4, .c (.h 0)), (7, .c (.h 1))], [(0, .box [.val (.int .i64 (0 : Int)), .val (.slice none 0 0)]), (1, .box [.val (.int .i64 base_1), .val (.slice none 0 0)])], 2⟩ [] (by kernel_rfl) rfl rfl ap0 (by kernel_rfl) (by kernel_rfl) ?_
    refine V_run hN hn 5 2 [0, 4, 7, 8, 20, 21, 22] [0, 1] ⟨[(0, .c (.val (.int .i64 base_1))), (4, .c (.h 0)), (7, .c (.h 1)), (8, .c (.val (.int .i64 (0 : Int)))), (20, .c (.imm (.slice (.pair (.int .i64) (.pair (.int .i64) .str))) l_2)), (21, .c (.val (.int .i64 (((List.length l_2) : Nat) : Int)))), (22, .c (.val (.int .i64 (0 : Int))))], [(0, .box [.val (.int .i64 (0 : Int)), .val (.slice none 0 0)]), (1, .box [.val (.int .i64 base_1), .val (.slice none 0 0)])], 2⟩ [] (by kernel_rfl) rfl rfl ap0 ?_
    obtain ⟨q_65, H_66, H_67⟩ := of_bind H_64
    refine V_cut (Y := ((List (Int × (Int × ByteArray))) × Int)) (R := ((List (Int × (Int × ByteArray))) × Int)) q_65 (fun y => y) (fun y => [(0, .c (.val (.int .i64 base_1))), (4, .c (.h 0)), (7, .c (.h 1)), (8, .c (.val (.int .i64 y.2)))]) (fun y => [(0, .box [.val (.int .i64 (0 : Int)), .val (.slice none 0 0)]), (1, .box [.val (.int .i64 base_1), .h 5]), (5, .row (.pair (.int .i64) (.pair (.int .i64) .str)) y.1)]) ?_ ?_
    · skip
      refine VL_block ?_
      refine V_ghost [.nilCell 1 1 (.pair (.int .i64) (.pair (.int .i64) .str))] 2 hn [0, 4, 7, 8, 20, 21, 22] [0, 1, 2] ⟨[(0, .c (.val (.int .i64 base_1))), (4, .c (.h 0)), (7, .c (.h 1)), (8, .c (.val (.int .i64 (0 : Int)))), (20, .c (.imm (.slice (.pair (.int .i64) (.pair (.int .i64) .str))) l_2)), (21, .c (.val (.int .i64 (((List.length l_2) : Nat) : Int)))), (22, .c (.val (.int .i64 (0 : Int))))], [(0, .box [.val (.int .i64 (0 : Int)), .val (.slice none 0 0)]), (1, .box [.val (.int .i64 base_1), .h 2]), (2, .row (.pair (.int .i64) (.pair (.int .i64) .str)) ([] : List (Int × (Int × ByteArray))))], 3⟩ (by kernel_rfl) rfl rfl ?_
      refine V_to [(0, .c (.val (.int .i64 base_1))), (4, .c (.h 0)), (7, .c (.h 1)), (8, .c (.val (.int .i64 (0 : Int)))), (20, .c (.imm (.slice (.pair (.int .i64) (.pair (.int .i64) .str))) l_2)), (21, .c (.val (.int .i64 (((List.length l_2) : Nat) : Int)))), (22, .c (.val (.int .i64 (0 : Int))))] [(0, .box [.val (.int .i64 (0 : Int)), .val (.slice none 0 0)]), (1, .box [.val (.int .i64 base_1), .h 5]), (5, .row (.pair (.int .i64) (.pair (.int .i64) .str)) ([] : List (Int × (Int × ByteArray))))] [(0, 0), (1, 1), (5, 2)] hn (by kernel_rfl) (by kernel_rfl) rfl rfl rfl ?_
      refine VL_loop (X := ((List (Int × (Int × ByteArray))) × Int × Int)) (fun x => [(0, .c (.val (.int .i64 base_1))), (4, .c (.h 0)), (7, .c (.h 1)), (8, .c (.val (.int .i64 x.2.1))), (20, .c (.imm (.slice (.pair (.int .i64) (.pair (.int .i64) .str))) l_2)), (21, .c (.val (.int .i64 (((List.length l_2) : Nat) : Int)))), (22, .c (.val (.int .i64 x.2.2)))]) (fun x => [(0, .box [.val (.int .i64 (0 : Int)), .val (.slice none 0 0)]), (1, .box [.val (.int .i64 base_1), .h 5]), (5, .row (.pair (.int .i64) (.pair (.int .i64) .str)) x.1)]) (fun k x => delta_Build_gr.l0 K l_2 base_1 k x.1 x.2.1 x.2.2 = some q_65) K (([] : List (Int × (Int × ByteArray))), (0 : Int), (0 : Int)) H_66 (fun _ h => no_none h) ?_
      intro k_32 x_32 H_69
      obtain ⟨x_31, at_15, t_16⟩ := x_32
      have H_70 : delta_Build_gr.l0 K l_2 base_1 (k_32 + 1) x_31 at_15 t_16 = some q_65 := H_69
      rw [delta_Build_gr.l0] at H_70
      refine V_run hN hn 3 6 [0, 4, 7, 8, 20, 21, 22, 23] [0, 1, 5] ⟨[(0, .c (.val (.int .i64 base_1))), (4, .c (.h 0)), (7, .c (.h 1)), (8, .c (.val (.int .i64 at_15))), (20, .c (.imm (.slice (.pair (.int .i64) (.pair (.int .i64) .str))) l_2)), (21, .c (.val (.int .i64 (((List.length l_2) : Nat) : Int)))), (22, .c (.val (.int .i64 t_16))), (23, .c (.val (.bool (decide (t_16 < (((List.length l_2) : Nat) : Int))))))], [(0, .box [.val (.int .i64 (0 : Int)), .val (.slice none 0 0)]), (1, .box [.val (.int .i64 base_1), .h 5]), (5, .row (.pair (.int .i64) (.pair (.int .i64) .str)) x_31)], 6⟩ [] (by kernel_rfl) rfl rfl ap0 ?_
      refine VL_cond ((decide (t_16 < (((List.length l_2) : Nat) : Int)))) (by kernel_rfl) ?_ ?_
      · intro b_34; have H_71 := of_t H_70 b_34
        refine V_run hN hn 2 6 [0, 4, 7, 8, 20, 21, 22, 23] [0, 1, 5] ⟨[(0, .c (.val (.int .i64 base_1))), (4, .c (.h 0)), (7, .c (.h 1)), (8, .c (.val (.int .i64 at_15))), (20, .c (.imm (.slice (.pair (.int .i64) (.pair (.int .i64) .str))) l_2)), (21, .c (.val (.int .i64 (((List.length l_2) : Nat) : Int)))), (22, .c (.val (.int .i64 t_16))), (23, .c (.val (.bool (decide (t_16 < (((List.length l_2) : Nat) : Int))))))], [(0, .box [.val (.int .i64 (0 : Int)), .val (.slice none 0 0)]), (1, .box [.val (.int .i64 base_1), .h 5]), (5, .row (.pair (.int .i64) (.pair (.int .i64) .str)) x_31)], 6⟩ [] (by kernel_rfl) rfl rfl ap0 ?_
        refine VL_block ?_
        obtain ⟨c_36, H_73⟩ := of_if H_71
        refine V_run hN hn 3 6 [0, 4, 7, 8, 10, 20, 21, 22] [0, 1, 5, 6] ⟨[(0, .c (.val (.int .i64 base_1))), (4, .c (.h 0)), (7, .c (.h 1)), (8, .c (.val (.int .i64 at_15))), (10, .c (.h 6)), (20, .c (.imm (.slice (.pair (.int .i64) (.pair (.int .i64) .str))) l_2)), (21, .c (.val (.int .i64 (((List.length l_2) : Nat) : Int)))), (22, .c (.val (.int .i64 t_16)))], [(0, .box [.val (.int .i64 (0 : Int)), .val (.slice none 0 0)]), (1, .box [.val (.int .i64 base_1), .h 5]), (5, .row (.pair (.int .i64) (.pair (.int .i64) .str)) x_31), (6, .box [.val (.int .i64 (List.getD l_2 (Int.toNat t_16) ((0 : Int), ((0 : Int), ByteArray.empty))).1), .val (.int .i64 (List.getD l_2 (Int.toNat t_16) ((0 : Int), ((0 : Int), ByteArray.empty))).2.1), .val (.string (List.getD l_2 (Int.toNat t_16) ((0 : Int), ((0 : Int), ByteArray.empty))).2.2)])], 7⟩ [0 ≤ t_16, t_16 < (((List.length l_2) : Nat) : Int)] (by kernel_rfl) rfl rfl (ap2 c_36.1 (ap1 c_36.2)) ?_
        obtain ⟨r_37, h_38, H_74⟩ := of_bind H_73
        refine V_reg hN hn [(4, ⟨29, 2, [.c (.h 0), .c (.val (.int .i64 at_15)), .c (.val (.int .i64 (List.getD l_2 (Int.toNat t_16) ((0 : Int), ((0 : Int), ByteArray.empty))).1))], [(0, .box [.val (.int .i64 base_1), .h 1]), (1, .row (.pair (.int .i64) (.pair (.int .i64) .str)) x_31)], .tup [], [(0, .box [.val (.int .i64 base_1), .h 4]), (4, .row (.pair (.int .i64) (.pair (.int .i64) .str)) r_37)], [(0, 1), (1, 5), (4, 7)], 8⟩)] [] (calls_cons (delta_Maker_Copy_bgg_11dec_spec K base_1 x_31 at_15 (List.getD l_2 (Int.toNat t_16) ((0 : Int), ((0 : Int), ByteArray.empty))).1 r_37 h_38) (by kernel_rfl) calls_nil) 7 [0, 4, 7, 10, 20, 21, 22] [0, 1, 6, 7] ⟨[(0, .c (.val (.int .i64 base_1))), (4, .c (.h 0)), (7, .c (.h 1)), (10, .c (.h 6)), (20, .c (.imm (.slice (.pair (.int .i64) (.pair (.int .i64) .str))) l_2)), (21, .c (.val (.int .i64 (((List.length l_2) : Nat) : Int)))), (22, .c (.val (.int .i64 t_16)))], [(0, .box [.val (.int .i64 (0 : Int)), .val (.slice none 0 0)]), (1, .box [.val (.int .i64 base_1), .h 7]), (6, .box [.val (.int .i64 (List.getD l_2 (Int.toNat t_16) ((0 : Int), ((0 : Int), ByteArray.empty))).1), .val (.int .i64 (List.getD l_2 (Int.toNat t_16) ((0 : Int), ((0 : Int), ByteArray.empty))).2.1), .val (.string (List.getD l_2 (Int.toNat t_16) ((0 : Int), ((0 : Int), ByteArray.empty))).2.2)]), (7, .row (.pair (.int .i64) (.pair (.int .i64) .str)) r_37)], 8⟩ [] (by kernel_rfl) rfl rfl ap0 (by kernel_rfl) (by kernel_rfl) ?_
        refine V_run hN hn 1 8 [0, 4, 7, 10, 20, 21, 22] [0, 1, 6, 7] ⟨[(0, .c (.val (.int .i64 base_1))), (4, .c (.h 0)), (7, .c (.h 1)), (10, .c (.h 6)), (20, .c (.imm (.slice (.pair (.int .i64) (.pair (.int .i64) .str))) l_2)), (21, .c (.val (.int .i64 (((List.length l_2) : Nat) : Int)))), (22, .c (.val (.int .i64 t_16)))], [(0, .box [.val (.int .i64 (0 : Int)), .val (.slice none 0 0)]), (1, .box [.val (.int .i64 base_1), .h 7]), (6, .box [.val (.int .i64 (List.getD l_2 (Int.toNat t_16) ((0 : Int), ((0 : Int), ByteArray.empty))).1), .val (.int .i64 (List.getD l_2 (Int.toNat t_16) ((0 : Int), ((0 : Int), ByteArray.empty))).2.1), .val (.string (List.getD l_2 (Int.toNat t_16) ((0 : Int), ((0 : Int), ByteArray.empty))).2.2)]), (7, .row (.pair (.int .i64) (.pair (.int .i64) .str)) r_37)], 8⟩ [] (by kernel_rfl) rfl rfl ap0 ?_
        obtain ⟨r_41, h_42, H_75⟩ := of_bind H_74
        refine V_reg hN hn [(3, ⟨30, 2, [.c (.h 0), .c (.val (.string (List.getD l_2 (Int.toNat t_16) ((0 : Int), ((0 : Int), ByteArray.empty))).2.2))], [(0, .box [.val (.int .i64 base_1), .h 1]), (1, .row (.pair (.int .i64) (.pair (.int .i64) .str)) r_37)], .tup [], [(0, .box [.val (.int .i64 base_1), .h 4]), (4, .row (.pair (.int .i64) (.pair (.int .i64) .str)) r_41)], [(0, 1), (1, 7), (4, 8)], 9⟩)] [] (calls_cons (delta_Maker_Put_bg_92925_spec K base_1 r_37 (List.getD l_2 (Int.toNat t_16) ((0 : Int), ((0 : Int), ByteArray.empty))).2.2 r_41 h_42) (by kernel_rfl) calls_nil) 8 [0, 4, 7, 10, 20, 21, 22] [0, 1, 6, 8] ⟨[(0, .c (.val (.int .i64 base_1))), (4, .c (.h 0)), (7, .c (.h 1)), (10, .c (.h 6)), (20, .c (.imm (.slice (.pair (.int .i64) (.pair (.int .i64) .str))) l_2)), (21, .c (.val (.int .i64 (((List.length l_2) : Nat) : Int)))), (22, .c (.val (.int .i64 t_16)))], [(0, .box [.val (.int .i64 (0 : Int)), .val (.slice none 0 0)]), (1, .box [.val (.int .i64 base_1), .h 8]), (6, .box [.val (.int .i64 (List.getD l_2 (Int.toNat t_16) ((0 : Int), ((0 : Int), ByteArray.empty))).1), .val (.int .i64 (List.getD l_2 (Int.toNat t_16) ((0 : Int), ((0 : Int), ByteArray.empty))).2.1), .val (.string (List.getD l_2 (Int.toNat t_16) ((0 : Int), ((0 : Int), ByteArray.empty))).2.2)]), (8, .row (.pair (.int .i64) (.pair (.int .i64) .str)) r_41)], 9⟩ [] (by kernel_rfl) rfl rfl ap0 (by kernel_rfl) (by kernel_rfl) ?_
        refine V_run hN hn 1 9 [0, 4, 7, 8, 20, 21, 22] [0, 1, 8] ⟨[(0, .c (.val (.int .i64 base_1))), (4, .c (.h 0)), (7, .c (.h 1)), (8, .c (.val (.int .i64 (List.getD l_2 (Int.toNat t_16) ((0 : Int), ((0 : Int), ByteArray.empty))).2.1))), (20, .c (.imm (.slice (.pair (.int .i64) (.pair (.int .i64) .str))) l_2)), (21, .c (.val (.int .i64 (((List.length l_2) : Nat) : Int)))), (22, .c (.val (.int .i64 t_16)))], [(0, .box [.val (.int .i64 (0 : Int)), .val (.slice none 0 0)]), (1, .box [.val (.int .i64 base_1), .h 8]), (8, .row (.pair (.int .i64) (.pair (.int .i64) .str)) r_41)], 9⟩ [] (by kernel_rfl) rfl rfl ap0 ?_
        refine VL_nil (QB_end ?_)
        refine V_run hN hn 1 9 [0, 4, 7, 8, 20, 21, 22] [0, 1, 8] ⟨[(0, .c (.val (.int .i64 base_1))), (4, .c (.h 0)), (7, .c (.h 1)), (8, .c (.val (.int .i64 (List.getD l_2 (Int.toNat t_16) ((0 : Int), ((0 : Int), ByteArray.empty))).2.1))), (20, .c (.imm (.slice (.pair (.int .i64) (.pair (.int .i64) .str))) l_2)), (21, .c (.val (.int .i64 (((List.length l_2) : Nat) : Int)))), (22, .c (.val (.int .i64 (IntKind.wrap .i64 (t_16 + (1 : Int))))))], [(0, .box [.val (.int .i64 (0 : Int)), .val (.slice none 0 0)]), (1, .box [.val (.int .i64 base_1), .h 8]), (8, .row (.pair (.int .i64) (.pair (.int .i64) .str)) r_41)], 9⟩ [] (by kernel_rfl) rfl rfl ap0 ?_
        refine VL_nil ?_
        exact V_roundEnd (r_41, (List.getD l_2 (Int.toNat t_16) ((0 : Int), ((0 : Int), ByteArray.empty))).2.1, (IntKind.wrap .i64 (t_16 + (1 : Int)))) H_75 [(0, 0), (1, 1), (5, 8)] hn (by kernel_rfl) (by kernel_rfl) rfl rfl rfl
      · intro b_34; have H_72 := of_f H_70 b_34
        refine VL_exit ?_
        refine QL_exit ?_
        refine QB_here ?_
        have H_76 := Option.some.inj (show some (x_31, at_15) = some q_65 from H_72); subst H_76
        refine VL_nil ?_
        exact QP_end (x_31, at_15) rfl [(0, 0), (1, 1), (5, 5)] hn (by kernel_rfl) (by kernel_rfl) rfl rfl rfl
    · intro y_68 hy; subst hy
      obtain ⟨x_46, at_47⟩ := y_68
      refine V_run hN hn 1 6 [0, 4, 7, 8] [0, 1, 5] ⟨[(0, .c (.val (.int .i64 base_1))), (4, .c (.h 0)), (7, .c (.h 1)), (8, .c (.val (.int .i64 at_47)))], [(0, .box [.val (.int .i64 (0 : Int)), .val (.slice none 0 0)]), (1, .box [.val (.int .i64 base_1), .h 5]), (5, .row (.pair (.int .i64) (.pair (.int .i64) .str)) x_46)], 6⟩ [] (by kernel_rfl) rfl rfl ap0 ?_
      obtain ⟨r_49, h_50, H_77⟩ := of_bind H_67
      refine V_reg hN hn [(3, ⟨29, 2, [.c (.h 0), .c (.val (.int .i64 at_47)), .c (.val (.int .i64 base_1))], [(0, .box [.val (.int .i64 base_1), .h 1]), (1, .row (.pair (.int .i64) (.pair (.int .i64) .str)) x_46)], .tup [], [(0, .box [.val (.int .i64 base_1), .h 4]), (4, .row (.pair (.int .i64) (.pair (.int .i64) .str)) r_49)], [(0, 1), (1, 5), (4, 6)], 7⟩)] [] (calls_cons (delta_Maker_Copy_bgg_11dec_spec K base_1 x_46 at_47 base_1 r_49 h_50) (by kernel_rfl) calls_nil) 6 [4, 7] [0, 1, 6] ⟨[(4, .c (.h 0)), (7, .c (.h 1))], [(0, .box [.val (.int .i64 (0 : Int)), .val (.slice none 0 0)]), (1, .box [.val (.int .i64 base_1), .h 6]), (6, .row (.pair (.int .i64) (.pair (.int .i64) .str)) r_49)], 7⟩ [] (by kernel_rfl) rfl rfl ap0 (by kernel_rfl) (by kernel_rfl) ?_
      refine V_run hN hn 1 7 [4, 7] [0, 1, 6] ⟨[(4, .c (.h 0)), (7, .c (.h 1))], [(0, .box [.val (.int .i64 (0 : Int)), .val (.slice none 0 0)]), (1, .box [.val (.int .i64 base_1), .h 6]), (6, .row (.pair (.int .i64) (.pair (.int .i64) .str)) r_49)], 7⟩ [] (by kernel_rfl) rfl rfl ap0 ?_
      refine V_ghost [.shut 6] 7 hn [4, 7] [0, 1] ⟨[(4, .c (.h 0)), (7, .c (.h 1))], [(0, .box [.val (.int .i64 (0 : Int)), .val (.slice none 0 0)]), (1, .box [.val (.int .i64 base_1), .imm (.slice (.pair (.int .i64) (.pair (.int .i64) .str))) r_49])], 7⟩ (by kernel_rfl) rfl rfl ?_
      obtain ⟨r_53, h_54, H_78⟩ := of_bind H_77
      refine V_reg hN hn [(1, ⟨31, 1, [.c (.h 0)], [(0, .box [.val (.int .i64 base_1), .imm (.slice (.pair (.int .i64) (.pair (.int .i64) .str))) r_49])], .tup [(true, [.val (.int .i64 r_53.1), .imm (.slice (.pair (.int .i64) (.pair (.int .i64) .str))) r_53.2.1]), (false, [.val (.int .i64 r_53.2.2)])], [(0, .box [.val (.int .i64 base_1), .imm (.slice (.pair (.int .i64) (.pair (.int .i64) .str))) r_49])], [(0, 1)], 7⟩)] [] (calls_cons (delta_Maker_Delta_b_ee1c6_spec K base_1 r_49 r_53 h_54) (by kernel_rfl) calls_nil) 7 [4, 5] [0] ⟨[(4, .c (.h 0)), (5, .c (.val (.int .i64 r_53.2.2)))], [(0, .box [.val (.int .i64 r_53.1), .imm (.slice (.pair (.int .i64) (.pair (.int .i64) .str))) r_53.2.1])], 7⟩ [] (by kernel_rfl) rfl rfl ap0 (by kernel_rfl) (by kernel_rfl) ?_
      have H_79 := Option.some.inj (show some (r_53.1, r_53.2.1, r_53.2.2) = some r from H_78); subst H_79
      refine VL_ret ?_
      exact P_to [(4, .c (.h 0)), (5, .c (.val (.int .i64 r_53.2.2)))] [(0, .box [.val (.int .i64 r_53.1), .imm (.slice (.pair (.int .i64) (.pair (.int .i64) .str))) r_53.2.1])] [(0, 0)] hn (by kernel_rfl) (by kernel_rfl) rfl rfl rfl (QF_retS (by kernel_rfl) (by kernel_rfl) rfl)

theorem palinodelaw14_OffsetOrder_spec (K : Nat) (base_1 : Int) (l_2 : (List (Int × (Int × ByteArray)))) (r : Bool) (H : palinodelaw14_OffsetOrder K base_1 l_2 = some r) : Spec Try.prog 4 0 [.c (.val (.int .u8 base_1)), .c (.imm (.slice (.pair (.int .i64) (.pair (.int .i64) .str))) l_2)] [] (.c (.val (.bool r))) [] := by
  refine Spec_mk (fn := Try.f4) (c := (Try.f4.body).get!) Try.func4 (by kernel_rfl) rfl ?_
  intro C hN hn
  replace hN : C.N = 127 := hN
  unfold palinodelaw14_OffsetOrder at H
  refine V_run hN hn 4 0 [0, 1] [] ⟨[(0, .c (.val (.int .u8 base_1))), (1, .c (.imm (.slice (.pair (.int .i64) (.pair (.int .i64) .str))) l_2))], [], 0⟩ [] (by kernel_rfl) rfl rfl ap0 ?_
  obtain ⟨r_4, h_5, H_105⟩ := of_bind H
  refine V_reg hN hn [(0, ⟨8, 0, [], [], .c (.val (.bool r_4)), [], [], 0⟩)] [] (calls_cons (palinodelaw14_known_spec K  r_4 h_5) (by kernel_rfl) calls_nil) 0 [0, 1, 14] [] ⟨[(0, .c (.val (.int .u8 base_1))), (1, .c (.imm (.slice (.pair (.int .i64) (.pair (.int .i64) .str))) l_2)), (14, .c (.val (.bool (!r_4))))], [], 0⟩ [] (by kernel_rfl) rfl rfl ap0 (by kernel_rfl) (by kernel_rfl) ?_
  refine VL_cond ((!r_4)) (by kernel_rfl) ?_ ?_
  · intro b_7; have H_106 := of_t H_105 b_7
    refine V_run hN hn 2 0 [4] [] ⟨[(4, .c (.val (.bool false)))], [], 0⟩ [] (by kernel_rfl) rfl rfl ap0 ?_
    have H_108 := Option.some.inj (show some false = some r from H_106); subst H_108
    refine VL_ret ?_
    exact P_to [(4, .c (.val (.bool false)))] [] [] hn (by kernel_rfl) (by kernel_rfl) rfl rfl rfl (QF_retS (by kernel_rfl) (by kernel_rfl) rfl)
  · intro b_7; have H_107 := of_f H_105 b_7
    refine V_run hN hn 6 0 [1, 5, 19] [] ⟨[(1, .c (.imm (.slice (.pair (.int .i64) (.pair (.int .i64) .str))) l_2)), (5, .c (.val (.int .i64 (IntKind.wrap .i64 base_1)))), (19, .c (.val (.bool (decide ((((List.length l_2) : Nat) : Int) > (12 : Int))))))], [], 0⟩ [] (by kernel_rfl) rfl rfl ap0 ?_
    refine VL_cond ((decide ((((List.length l_2) : Nat) : Int) > (12 : Int)))) (by kernel_rfl) ?_ ?_
    · intro b_10; have H_109 := of_t H_107 b_10
      refine V_run hN hn 2 0 [4] [] ⟨[(4, .c (.val (.bool true)))], [], 0⟩ [] (by kernel_rfl) rfl rfl ap0 ?_
      have H_111 := Option.some.inj (show some true = some r from H_109); subst H_111
      refine VL_ret ?_
      exact P_to [(4, .c (.val (.bool true)))] [] [] hn (by kernel_rfl) (by kernel_rfl) rfl rfl rfl (QF_retS (by kernel_rfl) (by kernel_rfl) rfl)
    · intro b_10; have H_110 := of_f H_107 b_10
      refine V_run hN hn 4 0 [1, 5, 6] [] ⟨[(1, .c (.imm (.slice (.pair (.int .i64) (.pair (.int .i64) .str))) l_2)), (5, .c (.val (.int .i64 (IntKind.wrap .i64 base_1)))), (6, .c (.val (.int .i64 (0 : Int))))], [], 0⟩ [] (by kernel_rfl) rfl rfl ap0 ?_
      obtain ⟨q_112, H_113, H_114⟩ := of_bind H_110
      refine V_cut (Y := Unit) (R := (Bool ⊕ Unit)) q_112 (fun y => (Sum.inr y)) (fun y => [(1, .c (.imm (.slice (.pair (.int .i64) (.pair (.int .i64) .str))) l_2)), (5, .c (.val (.int .i64 (IntKind.wrap .i64 base_1))))]) (fun y => []) ?_ ?_
      · skip
        refine VL_block ?_
        refine V_to [(1, .c (.imm (.slice (.pair (.int .i64) (.pair (.int .i64) .str))) l_2)), (5, .c (.val (.int .i64 (IntKind.wrap .i64 base_1)))), (6, .c (.val (.int .i64 (0 : Int))))] [] [] hn (by kernel_rfl) (by kernel_rfl) rfl rfl rfl ?_
        refine VL_loop (X := Int) (fun x => [(1, .c (.imm (.slice (.pair (.int .i64) (.pair (.int .i64) .str))) l_2)), (5, .c (.val (.int .i64 (IntKind.wrap .i64 base_1)))), (6, .c (.val (.int .i64 x)))]) (fun x => []) (fun k x => palinodelaw14_OffsetOrder.l0 K l_2 k x = some q_112) K (0 : Int) H_113 (fun _ h => no_none h) ?_
        intro k_14 i_13 H_116
        have H_117 : palinodelaw14_OffsetOrder.l0 K l_2 (k_14 + 1) i_13 = some q_112 := H_116
        rw [palinodelaw14_OffsetOrder.l0] at H_117
        refine V_run hN hn 3 0 [1, 5, 6, 23] [] ⟨[(1, .c (.imm (.slice (.pair (.int .i64) (.pair (.int .i64) .str))) l_2)), (5, .c (.val (.int .i64 (IntKind.wrap .i64 base_1)))), (6, .c (.val (.int .i64 i_13))), (23, .c (.val (.bool (decide (i_13 < (((List.length l_2) : Nat) : Int))))))], [], 0⟩ [] (by kernel_rfl) rfl rfl ap0 ?_
        refine VL_cond ((decide (i_13 < (((List.length l_2) : Nat) : Int)))) (by kernel_rfl) ?_ ?_
        · intro b_16; have H_118 := of_t H_117 b_16
          refine V_run hN hn 2 0 [1, 5, 6, 23] [] ⟨[(1, .c (.imm (.slice (.pair (.int .i64) (.pair (.int .i64) .str))) l_2)), (5, .c (.val (.int .i64 (IntKind.wrap .i64 base_1)))), (6, .c (.val (.int .i64 i_13))), (23, .c (.val (.bool (decide (i_13 < (((List.length l_2) : Nat) : Int))))))], [], 0⟩ [] (by kernel_rfl) rfl rfl ap0 ?_
          refine VL_block ?_
          obtain ⟨c_18, H_120⟩ := of_if H_118
          refine V_run hN hn 2 0 [1, 5, 6, 32] [] ⟨[(1, .c (.imm (.slice (.pair (.int .i64) (.pair (.int .i64) .str))) l_2)), (5, .c (.val (.int .i64 (IntKind.wrap .i64 base_1)))), (6, .c (.val (.int .i64 i_13))), (32, .c (.val (.bool (decide ((((ByteArray.size (List.getD l_2 (Int.toNat i_13) ((0 : Int), ((0 : Int), ByteArray.empty))).2.2) : Nat) : Int) > (60 : Int))))))], [], 0⟩ [0 ≤ i_13, i_13 < (((List.length l_2) : Nat) : Int)] (by kernel_rfl) rfl rfl (ap2 c_18.1 (ap1 c_18.2)) ?_
          refine VL_cond ((decide ((((ByteArray.size (List.getD l_2 (Int.toNat i_13) ((0 : Int), ((0 : Int), ByteArray.empty))).2.2) : Nat) : Int) > (60 : Int)))) (by kernel_rfl) ?_ ?_
          · intro b_19; have H_121 := of_t H_120 b_19
            refine V_run hN hn 2 0 [4] [] ⟨[(4, .c (.val (.bool true)))], [], 0⟩ [] (by kernel_rfl) rfl rfl ap0 ?_
            have H_123 := Option.some.inj (show some (Sum.inl true) = some q_112 from H_121); subst H_123
            have H_124 := Option.some.inj (show some true = some r from H_114); subst H_124
            refine VL_ret ?_
            refine QB_ret ?_
            refine QL_ret ?_
            refine QB_ret ?_
            refine QP_ret ?_
            exact P_to [(4, .c (.val (.bool true)))] [] [] hn (by kernel_rfl) (by kernel_rfl) rfl rfl rfl (QF_retS (by kernel_rfl) (by kernel_rfl) rfl)
          · intro b_19; have H_122 := of_f H_120 b_19
            refine V_run hN hn 1 0 [1, 5, 6, 32] [] ⟨[(1, .c (.imm (.slice (.pair (.int .i64) (.pair (.int .i64) .str))) l_2)), (5, .c (.val (.int .i64 (IntKind.wrap .i64 base_1)))), (6, .c (.val (.int .i64 i_13))), (32, .c (.val (.bool (decide ((((ByteArray.size (List.getD l_2 (Int.toNat i_13) ((0 : Int), ((0 : Int), ByteArray.empty))).2.2) : Nat) : Int) > (60 : Int))))))], [], 0⟩ [] (by kernel_rfl) rfl rfl ap0 ?_
            refine VL_nil (QB_end ?_)
            refine V_run hN hn 1 0 [1, 5, 6] [] ⟨[(1, .c (.imm (.slice (.pair (.int .i64) (.pair (.int .i64) .str))) l_2)), (5, .c (.val (.int .i64 (IntKind.wrap .i64 base_1)))), (6, .c (.val (.int .i64 (IntKind.wrap .i64 (i_13 + (1 : Int))))))], [], 0⟩ [] (by kernel_rfl) rfl rfl ap0 ?_
            refine VL_nil ?_
            exact V_roundEnd (IntKind.wrap .i64 (i_13 + (1 : Int))) H_122 [] hn (by kernel_rfl) (by kernel_rfl) rfl rfl rfl
        · intro b_16; have H_119 := of_f H_117 b_16
          refine VL_exit ?_
          refine QL_exit ?_
          refine QB_here ?_
          have H_125 := Option.some.inj (show some (Sum.inr ()) = some q_112 from H_119); subst H_125
          refine VL_nil ?_
          exact QP_end () rfl [] hn (by kernel_rfl) (by kernel_rfl) rfl rfl rfl
      · intro y_115 hy; subst hy
        skip
        refine V_run hN hn 1 0 [1, 5] [] ⟨[(1, .c (.imm (.slice (.pair (.int .i64) (.pair (.int .i64) .str))) l_2)), (5, .c (.val (.int .i64 (IntKind.wrap .i64 base_1))))], [], 0⟩ [] (by kernel_rfl) rfl rfl ap0 ?_
        obtain ⟨r_24, h_25, H_126⟩ := of_bind H_114
        refine V_reg hN hn [(2, ⟨19, 0, [.c (.val (.int .i64 (IntKind.wrap .i64 base_1))), .c (.imm (.slice (.pair (.int .i64) (.pair (.int .i64) .str))) l_2)], [], .tup [(true, [.val (.int .i64 r_24.1), .imm (.slice (.pair (.int .i64) (.pair (.int .i64) .str))) r_24.2.1]), (false, [.val (.int .i64 r_24.2.2)])], [], [], 0⟩)] [] (calls_cons (delta_Build_spec K (IntKind.wrap .i64 base_1) l_2 r_24 h_25) (by kernel_rfl) calls_nil) 0 [5, 7, 8] [0] ⟨[(5, .c (.val (.int .i64 (IntKind.wrap .i64 base_1)))), (7, .c (.h 0)), (8, .c (.val (.int .i64 r_24.2.2)))], [(0, .box [.val (.int .i64 r_24.1), .imm (.slice (.pair (.int .i64) (.pair (.int .i64) .str))) r_24.2.1])], 1⟩ [] (by kernel_rfl) rfl rfl ap0 (by kernel_rfl) (by kernel_rfl) ?_
        refine V_run hN hn 3 1 [5, 7, 40] [0] ⟨[(5, .c (.val (.int .i64 (IntKind.wrap .i64 base_1)))), (7, .c (.h 0)), (40, .c (.val (.bool (r_24.2.2 != (0 : Int)))))], [(0, .box [.val (.int .i64 r_24.1), .imm (.slice (.pair (.int .i64) (.pair (.int .i64) .str))) r_24.2.1])], 1⟩ [] (by kernel_rfl) rfl rfl ap0 ?_
        refine VL_cond ((r_24.2.2 != (0 : Int))) (by kernel_rfl) ?_ ?_
        · intro b_28; have H_127 := of_t H_126 b_28
          refine V_run hN hn 2 1 [4] [] ⟨[(4, .c (.val (.bool true)))], [], 1⟩ [] (by kernel_rfl) rfl rfl ap0 ?_
          have H_129 := Option.some.inj (show some true = some r from H_127); subst H_129
          refine VL_ret ?_
          exact P_to [(4, .c (.val (.bool true)))] [] [] hn (by kernel_rfl) (by kernel_rfl) rfl rfl rfl (QF_retS (by kernel_rfl) (by kernel_rfl) rfl)
        · intro b_28; have H_128 := of_f H_126 b_28
          refine V_run hN hn 2 1 [5, 7, 40] [0] ⟨[(5, .c (.val (.int .i64 (IntKind.wrap .i64 base_1)))), (7, .c (.h 0)), (40, .c (.val (.bool (r_24.2.2 != (0 : Int)))))], [(0, .box [.val (.int .i64 r_24.1), .imm (.slice (.pair (.int .i64) (.pair (.int .i64) .str))) r_24.2.1])], 1⟩ [] (by kernel_rfl) rfl rfl ap0 ?_
          obtain ⟨r_31, h_32, H_130⟩ := of_bind H_128
          refine V_reg hN hn [(1, ⟨20, 0, [.agg [.val (.int .i64 r_24.1), .imm (.slice (.pair (.int .i64) (.pair (.int .i64) .str))) r_24.2.1]], [], .c (.val (.int .i64 r_31)), [], [], 1⟩)] [] (calls_cons (delta_Size_spec K r_24.1 r_24.2.1 r_31 h_32) (by kernel_rfl) calls_nil) 1 [5, 7, 9] [0] ⟨[(5, .c (.val (.int .i64 (IntKind.wrap .i64 base_1)))), (7, .c (.h 0)), (9, .c (.val (.int .i64 r_31)))], [(0, .box [.val (.int .i64 r_24.1), .imm (.slice (.pair (.int .i64) (.pair (.int .i64) .str))) r_24.2.1])], 1⟩ [] (by kernel_rfl) rfl rfl ap0 (by kernel_rfl) (by kernel_rfl) ?_
          refine V_run hN hn 3 1 [5, 7, 9, 10] [0] ⟨[(5, .c (.val (.int .i64 (IntKind.wrap .i64 base_1)))), (7, .c (.h 0)), (9, .c (.val (.int .i64 r_31))), (10, .c (.val (.int .i64 (0 : Int))))], [(0, .box [.val (.int .i64 r_24.1), .imm (.slice (.pair (.int .i64) (.pair (.int .i64) .str))) r_24.2.1])], 1⟩ [] (by kernel_rfl) rfl rfl ap0 ?_
          obtain ⟨q_131, H_132, H_133⟩ := of_bind H_130
          refine V_cut (Y := Unit) (R := (Bool ⊕ Unit)) q_131 (fun y => (Sum.inr y)) (fun y => [(5, .c (.val (.int .i64 (IntKind.wrap .i64 base_1)))), (7, .c (.h 0)), (9, .c (.val (.int .i64 r_31)))]) (fun y => [(0, .box [.val (.int .i64 r_24.1), .imm (.slice (.pair (.int .i64) (.pair (.int .i64) .str))) r_24.2.1])]) ?_ ?_
          · skip
            refine VL_block ?_
            refine V_to [(5, .c (.val (.int .i64 (IntKind.wrap .i64 base_1)))), (7, .c (.h 0)), (9, .c (.val (.int .i64 r_31))), (10, .c (.val (.int .i64 (0 : Int))))] [(0, .box [.val (.int .i64 r_24.1), .imm (.slice (.pair (.int .i64) (.pair (.int .i64) .str))) r_24.2.1])] [(0, 0)] hn (by kernel_rfl) (by kernel_rfl) rfl rfl rfl ?_
            refine VL_loop (X := Int) (fun x => [(5, .c (.val (.int .i64 (IntKind.wrap .i64 base_1)))), (7, .c (.h 0)), (9, .c (.val (.int .i64 r_31))), (10, .c (.val (.int .i64 x)))]) (fun x => [(0, .box [.val (.int .i64 r_24.1), .imm (.slice (.pair (.int .i64) (.pair (.int .i64) .str))) r_24.2.1])]) (fun k x => palinodelaw14_OffsetOrder.l1 K base_1 r_24 r_31 k x = some q_131) K (0 : Int) H_132 (fun _ h => no_none h) ?_
            intro k_36 at_35 H_135
            have H_136 : palinodelaw14_OffsetOrder.l1 K base_1 r_24 r_31 (k_36 + 1) at_35 = some q_131 := H_135
            rw [palinodelaw14_OffsetOrder.l1] at H_136
            refine V_run hN hn 3 1 [5, 7, 9, 10, 45] [0] ⟨[(5, .c (.val (.int .i64 (IntKind.wrap .i64 base_1)))), (7, .c (.h 0)), (9, .c (.val (.int .i64 r_31))), (10, .c (.val (.int .i64 at_35))), (45, .c (.val (.bool (decide (at_35 ≤ (IntKind.wrap .i64 base_1))))))], [(0, .box [.val (.int .i64 r_24.1), .imm (.slice (.pair (.int .i64) (.pair (.int .i64) .str))) r_24.2.1])], 1⟩ [] (by kernel_rfl) rfl rfl ap0 ?_
            refine VL_cond ((decide (at_35 ≤ (IntKind.wrap .i64 base_1)))) (by kernel_rfl) ?_ ?_
            · intro b_38; have H_137 := of_t H_136 b_38
              refine V_run hN hn 2 1 [5, 7, 9, 10, 45] [0] ⟨[(5, .c (.val (.int .i64 (IntKind.wrap .i64 base_1)))), (7, .c (.h 0)), (9, .c (.val (.int .i64 r_31))), (10, .c (.val (.int .i64 at_35))), (45, .c (.val (.bool (decide (at_35 ≤ (IntKind.wrap .i64 base_1))))))], [(0, .box [.val (.int .i64 r_24.1), .imm (.slice (.pair (.int .i64) (.pair (.int .i64) .str))) r_24.2.1])], 1⟩ [] (by kernel_rfl) rfl rfl ap0 ?_
              refine VL_block ?_
              refine V_run hN hn 1 1 [5, 7, 9, 10, 45] [0] ⟨[(5, .c (.val (.int .i64 (IntKind.wrap .i64 base_1)))), (7, .c (.h 0)), (9, .c (.val (.int .i64 r_31))), (10, .c (.val (.int .i64 at_35))), (45, .c (.val (.bool (decide (at_35 ≤ (IntKind.wrap .i64 base_1))))))], [(0, .box [.val (.int .i64 r_24.1), .imm (.slice (.pair (.int .i64) (.pair (.int .i64) .str))) r_24.2.1])], 1⟩ [] (by kernel_rfl) rfl rfl ap0 ?_
              obtain ⟨r_41, h_42, H_139⟩ := of_bind H_137
              obtain ⟨r_43, h_44, H_140⟩ := of_bind H_139
              refine V_draw hN hn (by kernel_rfl) [(2, ⟨12, 0, [.agg [.val (.int .i64 r_24.1), .imm (.slice (.pair (.int .i64) (.pair (.int .i64) .str))) r_24.2.1], .c (.val (.int .i64 at_35)), .c (.val (.bool false))], [], .c (.val (.int .i64 r_41)), [], [], 1⟩), (5, ⟨12, 0, [.agg [.val (.int .i64 r_24.1), .imm (.slice (.pair (.int .i64) (.pair (.int .i64) .str))) r_24.2.1], .c (.val (.int .i64 at_35)), .c (.val (.bool true))], [], .c (.val (.int .i64 r_43)), [], [], 1⟩)] [] (calls_cons (offset_Move_spec K r_24.1 r_24.2.1 at_35 false r_41 h_42) (by kernel_rfl) (calls_cons (offset_Move_spec K r_24.1 r_24.2.1 at_35 true r_43 h_44) (by kernel_rfl) calls_nil)) 1 [5, 7, 9, 10, 11, 12] [0] ⟨[(5, .c (.val (.int .i64 (IntKind.wrap .i64 base_1)))), (7, .c (.h 0)), (9, .c (.val (.int .i64 r_31))), (10, .c (.val (.int .i64 at_35))), (11, .c (.val (.int .i64 r_41))), (12, .c (.val (.int .i64 r_43)))], [(0, .box [.val (.int .i64 r_24.1), .imm (.slice (.pair (.int .i64) (.pair (.int .i64) .str))) r_24.2.1])], 1⟩ [] (by kernel_rfl) rfl rfl ap0 (by kernel_rfl) (by kernel_rfl) ?_
              refine V_run hN hn 2 1 [5, 7, 9, 10, 11, 12] [0] ⟨[(5, .c (.val (.int .i64 (IntKind.wrap .i64 base_1)))), (7, .c (.h 0)), (9, .c (.val (.int .i64 r_31))), (10, .c (.val (.int .i64 at_35))), (11, .c (.val (.int .i64 r_41))), (12, .c (.val (.int .i64 r_43)))], [(0, .box [.val (.int .i64 r_24.1), .imm (.slice (.pair (.int .i64) (.pair (.int .i64) .str))) r_24.2.1])], 1⟩ [] (by kernel_rfl) rfl rfl ap0 ?_
              obtain ⟨q_141, H_142, H_143⟩ := of_bind H_140
              refine V_cut (Y := Bool) (R := Bool) q_141 (fun y => y) (fun y => [(5, .c (.val (.int .i64 (IntKind.wrap .i64 base_1)))), (7, .c (.h 0)), (9, .c (.val (.int .i64 r_31))), (10, .c (.val (.int .i64 at_35))), (12, .c (.val (.int .i64 r_43))), (85, .c (.val (.bool y)))]) (fun y => [(0, .box [.val (.int .i64 r_24.1), .imm (.slice (.pair (.int .i64) (.pair (.int .i64) .str))) r_24.2.1])]) ?_ ?_
              · skip
                rcases Bool.eq_false_or_eq_true ((decide (r_41 < (0 : Int)))) with b_47 | b_47
                · have H_145 := of_t H_142 b_47
                  refine V_reg hN hn [] [(56, true)] calls_nil 1 [5, 7, 9, 10, 12, 85] [0] ⟨[(5, .c (.val (.int .i64 (IntKind.wrap .i64 base_1)))), (7, .c (.h 0)), (9, .c (.val (.int .i64 r_31))), (10, .c (.val (.int .i64 at_35))), (12, .c (.val (.int .i64 r_43))), (85, .c (.val (.bool true)))], [(0, .box [.val (.int .i64 r_24.1), .imm (.slice (.pair (.int .i64) (.pair (.int .i64) .str))) r_24.2.1])], 1⟩ [(decide (r_41 < (0 : Int))) = true] (by kernel_rfl) rfl rfl (ap1 b_47) (by kernel_rfl) (by kernel_rfl) ?_
                  have H_147 := Option.some.inj (show some true = some q_141 from H_145); subst H_147
                  refine VL_nil ?_
                  exact QP_end true rfl [(0, 0)] hn (by kernel_rfl) (by kernel_rfl) rfl rfl rfl
                · have H_146 := of_f H_142 b_47
                  rcases Bool.eq_false_or_eq_true ((decide (r_43 < r_41))) with b_49 | b_49
                  · have H_148 := of_t H_146 b_49
                    refine V_reg hN hn [] [(56, false), (61, true)] calls_nil 1 [5, 7, 9, 10, 12, 85] [0] ⟨[(5, .c (.val (.int .i64 (IntKind.wrap .i64 base_1)))), (7, .c (.h 0)), (9, .c (.val (.int .i64 r_31))), (10, .c (.val (.int .i64 at_35))), (12, .c (.val (.int .i64 r_43))), (85, .c (.val (.bool true)))], [(0, .box [.val (.int .i64 r_24.1), .imm (.slice (.pair (.int .i64) (.pair (.int .i64) .str))) r_24.2.1])], 1⟩ [(decide (r_41 < (0 : Int))) = false, (decide (r_43 < r_41)) = true] (by kernel_rfl) rfl rfl (ap2 b_47 (ap1 b_49)) (by kernel_rfl) (by kernel_rfl) ?_
                    have H_150 := Option.some.inj (show some true = some q_141 from H_148); subst H_150
                    refine VL_nil ?_
                    exact QP_end true rfl [(0, 0)] hn (by kernel_rfl) (by kernel_rfl) rfl rfl rfl
                  · have H_149 := of_f H_146 b_49
                    rcases Bool.eq_false_or_eq_true ((decide (r_43 > r_31))) with b_51 | b_51
                    · have H_151 := of_t H_149 b_51
                      refine V_reg hN hn [] [(56, false), (61, false), (66, true)] calls_nil 1 [5, 7, 9, 10, 12, 85] [0] ⟨[(5, .c (.val (.int .i64 (IntKind.wrap .i64 base_1)))), (7, .c (.h 0)), (9, .c (.val (.int .i64 r_31))), (10, .c (.val (.int .i64 at_35))), (12, .c (.val (.int .i64 r_43))), (85, .c (.val (.bool true)))], [(0, .box [.val (.int .i64 r_24.1), .imm (.slice (.pair (.int .i64) (.pair (.int .i64) .str))) r_24.2.1])], 1⟩ [(decide (r_41 < (0 : Int))) = false, (decide (r_43 < r_41)) = false, (decide (r_43 > r_31)) = true] (by kernel_rfl) rfl rfl (ap2 b_47 (ap2 b_49 (ap1 b_51))) (by kernel_rfl) (by kernel_rfl) ?_
                      have H_153 := Option.some.inj (show some true = some q_141 from H_151); subst H_153
                      refine VL_nil ?_
                      exact QP_end true rfl [(0, 0)] hn (by kernel_rfl) (by kernel_rfl) rfl rfl rfl
                    · have H_152 := of_f H_149 b_51
                      rcases Bool.eq_false_or_eq_true ((decide (at_35 > (0 : Int)))) with b_53 | b_53
                      · have H_154 := of_t H_152 b_53
                        obtain ⟨r_54, h_55, H_156⟩ := of_bind H_154
                        rcases Bool.eq_false_or_eq_true ((decide (r_54 > r_41))) with b_56 | b_56
                        · have H_157 := of_t H_156 b_56
                          refine V_reg hN hn [(19, ⟨12, 0, [.agg [.val (.int .i64 r_24.1), .imm (.slice (.pair (.int .i64) (.pair (.int .i64) .str))) r_24.2.1], .c (.val (.int .i64 (IntKind.wrap .i64 (at_35 - (1 : Int))))), .c (.val (.bool false))], [], .c (.val (.int .i64 r_54)), [], [], 1⟩)] [(56, false), (61, false), (66, false), (69, true), (76, true)] (calls_cons (offset_Move_spec K r_24.1 r_24.2.1 (IntKind.wrap .i64 (at_35 - (1 : Int))) false r_54 h_55) (by kernel_rfl) calls_nil) 1 [5, 7, 9, 10, 12, 85] [0] ⟨[(5, .c (.val (.int .i64 (IntKind.wrap .i64 base_1)))), (7, .c (.h 0)), (9, .c (.val (.int .i64 r_31))), (10, .c (.val (.int .i64 at_35))), (12, .c (.val (.int .i64 r_43))), (85, .c (.val (.bool true)))], [(0, .box [.val (.int .i64 r_24.1), .imm (.slice (.pair (.int .i64) (.pair (.int .i64) .str))) r_24.2.1])], 1⟩ [(decide (r_41 < (0 : Int))) = false, (decide (r_43 < r_41)) = false, (decide (r_43 > r_31)) = false, (decide (at_35 > (0 : Int))) = true, (decide (r_54 > r_41)) = true] (by kernel_rfl) rfl rfl (ap2 b_47 (ap2 b_49 (ap2 b_51 (ap2 b_53 (ap1 b_56))))) (by kernel_rfl) (by kernel_rfl) ?_
                          have H_159 := Option.some.inj (show some true = some q_141 from H_157); subst H_159
                          refine VL_nil ?_
                          exact QP_end true rfl [(0, 0)] hn (by kernel_rfl) (by kernel_rfl) rfl rfl rfl
                        · have H_158 := of_f H_156 b_56
                          obtain ⟨r_58, h_59, H_160⟩ := of_bind H_158
                          refine V_reg hN hn [(19, ⟨12, 0, [.agg [.val (.int .i64 r_24.1), .imm (.slice (.pair (.int .i64) (.pair (.int .i64) .str))) r_24.2.1], .c (.val (.int .i64 (IntKind.wrap .i64 (at_35 - (1 : Int))))), .c (.val (.bool false))], [], .c (.val (.int .i64 r_54)), [], [], 1⟩), (26, ⟨12, 0, [.agg [.val (.int .i64 r_24.1), .imm (.slice (.pair (.int .i64) (.pair (.int .i64) .str))) r_24.2.1], .c (.val (.int .i64 (IntKind.wrap .i64 (at_35 - (1 : Int))))), .c (.val (.bool true))], [], .c (.val (.int .i64 r_58)), [], [], 1⟩)] [(56, false), (61, false), (66, false), (69, true), (76, false)] (calls_cons (offset_Move_spec K r_24.1 r_24.2.1 (IntKind.wrap .i64 (at_35 - (1 : Int))) false r_54 h_55) (by kernel_rfl) (calls_cons (offset_Move_spec K r_24.1 r_24.2.1 (IntKind.wrap .i64 (at_35 - (1 : Int))) true r_58 h_59) (by kernel_rfl) calls_nil)) 1 [5, 7, 9, 10, 12, 85] [0] ⟨[(5, .c (.val (.int .i64 (IntKind.wrap .i64 base_1)))), (7, .c (.h 0)), (9, .c (.val (.int .i64 r_31))), (10, .c (.val (.int .i64 at_35))), (12, .c (.val (.int .i64 r_43))), (85, .c (.val (.bool (decide (r_58 > r_43)))))], [(0, .box [.val (.int .i64 r_24.1), .imm (.slice (.pair (.int .i64) (.pair (.int .i64) .str))) r_24.2.1])], 1⟩ [(decide (r_41 < (0 : Int))) = false, (decide (r_43 < r_41)) = false, (decide (r_43 > r_31)) = false, (decide (at_35 > (0 : Int))) = true, (decide (r_54 > r_41)) = false] (by kernel_rfl) rfl rfl (ap2 b_47 (ap2 b_49 (ap2 b_51 (ap2 b_53 (ap1 b_56))))) (by kernel_rfl) (by kernel_rfl) ?_
                          have H_161 := Option.some.inj (show some (decide (r_58 > r_43)) = some q_141 from H_160); subst H_161
                          refine VL_nil ?_
                          exact QP_end (decide (r_58 > r_43)) rfl [(0, 0)] hn (by kernel_rfl) (by kernel_rfl) rfl rfl rfl
                      · have H_155 := of_f H_152 b_53
                        refine V_reg hN hn [] [(56, false), (61, false), (66, false), (69, false)] calls_nil 1 [5, 7, 9, 10, 12, 85] [0] ⟨[(5, .c (.val (.int .i64 (IntKind.wrap .i64 base_1)))), (7, .c (.h 0)), (9, .c (.val (.int .i64 r_31))), (10, .c (.val (.int .i64 at_35))), (12, .c (.val (.int .i64 r_43))), (85, .c (.val (.bool false)))], [(0, .box [.val (.int .i64 r_24.1), .imm (.slice (.pair (.int .i64) (.pair (.int .i64) .str))) r_24.2.1])], 1⟩ [(decide (r_41 < (0 : Int))) = false, (decide (r_43 < r_41)) = false, (decide (r_43 > r_31)) = false, (decide (at_35 > (0 : Int))) = false] (by kernel_rfl) rfl rfl (ap2 b_47 (ap2 b_49 (ap2 b_51 (ap1 b_53)))) (by kernel_rfl) (by kernel_rfl) ?_
                        have H_162 := Option.some.inj (show some false = some q_141 from H_155); subst H_162
                        refine VL_nil ?_
                        exact QP_end false rfl [(0, 0)] hn (by kernel_rfl) (by kernel_rfl) rfl rfl rfl
              · intro y_144 hy; subst hy
                skip
                skip
                refine VL_cond (y_144) (by kernel_rfl) ?_ ?_
                · intro b_63; have H_163 := of_t H_143 b_63
                  refine V_run hN hn 2 1 [4] [] ⟨[(4, .c (.val (.bool false)))], [], 1⟩ [] (by kernel_rfl) rfl rfl ap0 ?_
                  have H_165 := Option.some.inj (show some (Sum.inl false) = some q_131 from H_163); subst H_165
                  have H_166 := Option.some.inj (show some false = some r from H_133); subst H_166
                  refine VL_ret ?_
                  refine QB_ret ?_
                  refine QL_ret ?_
                  refine QB_ret ?_
                  refine QP_ret ?_
                  exact P_to [(4, .c (.val (.bool false)))] [] [] hn (by kernel_rfl) (by kernel_rfl) rfl rfl rfl (QF_retS (by kernel_rfl) (by kernel_rfl) rfl)
                · intro b_63; have H_164 := of_f H_143 b_63
                  refine V_run hN hn 2 1 [5, 7, 9, 10, 12, 85] [0] ⟨[(5, .c (.val (.int .i64 (IntKind.wrap .i64 base_1)))), (7, .c (.h 0)), (9, .c (.val (.int .i64 r_31))), (10, .c (.val (.int .i64 at_35))), (12, .c (.val (.int .i64 r_43))), (85, .c (.val (.bool y_144)))], [(0, .box [.val (.int .i64 r_24.1), .imm (.slice (.pair (.int .i64) (.pair (.int .i64) .str))) r_24.2.1])], 1⟩ [] (by kernel_rfl) rfl rfl ap0 ?_
                  obtain ⟨q_167, H_168, H_169⟩ := of_bind H_164
                  refine V_cut (Y := Bool) (R := Bool) q_167 (fun y => y) (fun y => [(5, .c (.val (.int .i64 (IntKind.wrap .i64 base_1)))), (7, .c (.h 0)), (9, .c (.val (.int .i64 r_31))), (10, .c (.val (.int .i64 at_35))), (109, .c (.val (.bool y)))]) (fun y => [(0, .box [.val (.int .i64 r_24.1), .imm (.slice (.pair (.int .i64) (.pair (.int .i64) .str))) r_24.2.1])]) ?_ ?_
                  · skip
                    rcases Bool.eq_false_or_eq_true ((decide (at_35 < (IntKind.wrap .i64 base_1)))) with b_66 | b_66
                    · have H_171 := of_t H_168 b_66
                      obtain ⟨r_67, h_68, H_173⟩ := of_bind H_171
                      rcases Bool.eq_false_or_eq_true (r_67) with b_69 | b_69
                      · have H_174 := of_t H_173 b_69
                        obtain ⟨r_70, h_71, H_176⟩ := of_bind H_174
                        rcases Bool.eq_false_or_eq_true ((r_70 != at_35)) with b_72 | b_72
                        · have H_177 := of_t H_176 b_72
                          refine V_reg hN hn [(6, ⟨16, 0, [.agg [.val (.int .i64 r_24.1), .imm (.slice (.pair (.int .i64) (.pair (.int .i64) .str))) r_24.2.1], .c (.val (.int .i64 at_35))], [], .c (.val (.bool r_67)), [], [], 1⟩), (11, ⟨14, 0, [.agg [.val (.int .i64 r_24.1), .imm (.slice (.pair (.int .i64) (.pair (.int .i64) .str))) r_24.2.1], .c (.val (.int .i64 r_43))], [], .c (.val (.int .i64 r_70)), [], [], 1⟩)] [(89, true), (94, true), (100, true)] (calls_cons (offset_Stays_spec K r_24.1 r_24.2.1 at_35 r_67 h_68) (by kernel_rfl) (calls_cons (offset_Back_spec K r_24.1 r_24.2.1 r_43 r_70 h_71) (by kernel_rfl) calls_nil)) 1 [5, 7, 9, 10, 109] [0] ⟨[(5, .c (.val (.int .i64 (IntKind.wrap .i64 base_1)))), (7, .c (.h 0)), (9, .c (.val (.int .i64 r_31))), (10, .c (.val (.int .i64 at_35))), (109, .c (.val (.bool true)))], [(0, .box [.val (.int .i64 r_24.1), .imm (.slice (.pair (.int .i64) (.pair (.int .i64) .str))) r_24.2.1])], 1⟩ [(decide (at_35 < (IntKind.wrap .i64 base_1))) = true, r_67 = true, (r_70 != at_35) = true] (by kernel_rfl) rfl rfl (ap2 b_66 (ap2 b_69 (ap1 b_72))) (by kernel_rfl) (by kernel_rfl) ?_
                          have H_179 := Option.some.inj (show some true = some q_167 from H_177); subst H_179
                          refine VL_nil ?_
                          exact QP_end true rfl [(0, 0)] hn (by kernel_rfl) (by kernel_rfl) rfl rfl rfl
                        · have H_178 := of_f H_176 b_72
                          obtain ⟨r_74, h_75, H_180⟩ := of_bind H_178
                          refine V_reg hN hn [(6, ⟨16, 0, [.agg [.val (.int .i64 r_24.1), .imm (.slice (.pair (.int .i64) (.pair (.int .i64) .str))) r_24.2.1], .c (.val (.int .i64 at_35))], [], .c (.val (.bool r_67)), [], [], 1⟩), (11, ⟨14, 0, [.agg [.val (.int .i64 r_24.1), .imm (.slice (.pair (.int .i64) (.pair (.int .i64) .str))) r_24.2.1], .c (.val (.int .i64 r_43))], [], .c (.val (.int .i64 r_70)), [], [], 1⟩), (18, ⟨12, 0, [.agg [.val (.int .i64 r_24.1), .imm (.slice (.pair (.int .i64) (.pair (.int .i64) .str))) r_24.2.1], .c (.val (.int .i64 (IntKind.wrap .i64 (at_35 + (1 : Int))))), .c (.val (.bool false))], [], .c (.val (.int .i64 r_74)), [], [], 1⟩)] [(89, true), (94, true), (100, false)] (calls_cons (offset_Stays_spec K r_24.1 r_24.2.1 at_35 r_67 h_68) (by kernel_rfl) (calls_cons (offset_Back_spec K r_24.1 r_24.2.1 r_43 r_70 h_71) (by kernel_rfl) (calls_cons (offset_Move_spec K r_24.1 r_24.2.1 (IntKind.wrap .i64 (at_35 + (1 : Int))) false r_74 h_75) (by kernel_rfl) calls_nil))) 1 [5, 7, 9, 10, 109] [0] ⟨[(5, .c (.val (.int .i64 (IntKind.wrap .i64 base_1)))), (7, .c (.h 0)), (9, .c (.val (.int .i64 r_31))), (10, .c (.val (.int .i64 at_35))), (109, .c (.val (.bool (r_74 != (IntKind.wrap .i64 (r_43 + (1 : Int)))))))], [(0, .box [.val (.int .i64 r_24.1), .imm (.slice (.pair (.int .i64) (.pair (.int .i64) .str))) r_24.2.1])], 1⟩ [(decide (at_35 < (IntKind.wrap .i64 base_1))) = true, r_67 = true, (r_70 != at_35) = false] (by kernel_rfl) rfl rfl (ap2 b_66 (ap2 b_69 (ap1 b_72))) (by kernel_rfl) (by kernel_rfl) ?_
                          have H_181 := Option.some.inj (show some (r_74 != (IntKind.wrap .i64 (r_43 + (1 : Int)))) = some q_167 from H_180); subst H_181
                          refine VL_nil ?_
                          exact QP_end (r_74 != (IntKind.wrap .i64 (r_43 + (1 : Int)))) rfl [(0, 0)] hn (by kernel_rfl) (by kernel_rfl) rfl rfl rfl
                      · have H_175 := of_f H_173 b_69
                        refine V_reg hN hn [(6, ⟨16, 0, [.agg [.val (.int .i64 r_24.1), .imm (.slice (.pair (.int .i64) (.pair (.int .i64) .str))) r_24.2.1], .c (.val (.int .i64 at_35))], [], .c (.val (.bool r_67)), [], [], 1⟩)] [(89, true), (94, false)] (calls_cons (offset_Stays_spec K r_24.1 r_24.2.1 at_35 r_67 h_68) (by kernel_rfl) calls_nil) 1 [5, 7, 9, 10, 109] [0] ⟨[(5, .c (.val (.int .i64 (IntKind.wrap .i64 base_1)))), (7, .c (.h 0)), (9, .c (.val (.int .i64 r_31))), (10, .c (.val (.int .i64 at_35))), (109, .c (.val (.bool false)))], [(0, .box [.val (.int .i64 r_24.1), .imm (.slice (.pair (.int .i64) (.pair (.int .i64) .str))) r_24.2.1])], 1⟩ [(decide (at_35 < (IntKind.wrap .i64 base_1))) = true, r_67 = false] (by kernel_rfl) rfl rfl (ap2 b_66 (ap1 b_69)) (by kernel_rfl) (by kernel_rfl) ?_
                        have H_182 := Option.some.inj (show some false = some q_167 from H_175); subst H_182
                        refine VL_nil ?_
                        exact QP_end false rfl [(0, 0)] hn (by kernel_rfl) (by kernel_rfl) rfl rfl rfl
                    · have H_172 := of_f H_168 b_66
                      refine V_reg hN hn [] [(89, false)] calls_nil 1 [5, 7, 9, 10, 109] [0] ⟨[(5, .c (.val (.int .i64 (IntKind.wrap .i64 base_1)))), (7, .c (.h 0)), (9, .c (.val (.int .i64 r_31))), (10, .c (.val (.int .i64 at_35))), (109, .c (.val (.bool false)))], [(0, .box [.val (.int .i64 r_24.1), .imm (.slice (.pair (.int .i64) (.pair (.int .i64) .str))) r_24.2.1])], 1⟩ [(decide (at_35 < (IntKind.wrap .i64 base_1))) = false] (by kernel_rfl) rfl rfl (ap1 b_66) (by kernel_rfl) (by kernel_rfl) ?_
                      have H_183 := Option.some.inj (show some false = some q_167 from H_172); subst H_183
                      refine VL_nil ?_
                      exact QP_end false rfl [(0, 0)] hn (by kernel_rfl) (by kernel_rfl) rfl rfl rfl
                  · intro y_170 hy; subst hy
                    skip
                    skip
                    refine VL_cond (y_170) (by kernel_rfl) ?_ ?_
                    · intro b_80; have H_184 := of_t H_169 b_80
                      refine V_run hN hn 2 1 [4] [] ⟨[(4, .c (.val (.bool false)))], [], 1⟩ [] (by kernel_rfl) rfl rfl ap0 ?_
                      have H_186 := Option.some.inj (show some (Sum.inl false) = some q_131 from H_184); subst H_186
                      have H_187 := Option.some.inj (show some false = some r from H_133); subst H_187
                      refine VL_ret ?_
                      refine QB_ret ?_
                      refine QL_ret ?_
                      refine QB_ret ?_
                      refine QP_ret ?_
                      exact P_to [(4, .c (.val (.bool false)))] [] [] hn (by kernel_rfl) (by kernel_rfl) rfl rfl rfl (QF_retS (by kernel_rfl) (by kernel_rfl) rfl)
                    · intro b_80; have H_185 := of_f H_169 b_80
                      refine V_run hN hn 1 1 [5, 7, 9, 10, 109] [0] ⟨[(5, .c (.val (.int .i64 (IntKind.wrap .i64 base_1)))), (7, .c (.h 0)), (9, .c (.val (.int .i64 r_31))), (10, .c (.val (.int .i64 at_35))), (109, .c (.val (.bool y_170)))], [(0, .box [.val (.int .i64 r_24.1), .imm (.slice (.pair (.int .i64) (.pair (.int .i64) .str))) r_24.2.1])], 1⟩ [] (by kernel_rfl) rfl rfl ap0 ?_
                      refine VL_nil (QB_end ?_)
                      refine V_run hN hn 1 1 [5, 7, 9, 10] [0] ⟨[(5, .c (.val (.int .i64 (IntKind.wrap .i64 base_1)))), (7, .c (.h 0)), (9, .c (.val (.int .i64 r_31))), (10, .c (.val (.int .i64 (IntKind.wrap .i64 (at_35 + (1 : Int))))))], [(0, .box [.val (.int .i64 r_24.1), .imm (.slice (.pair (.int .i64) (.pair (.int .i64) .str))) r_24.2.1])], 1⟩ [] (by kernel_rfl) rfl rfl ap0 ?_
                      refine VL_nil ?_
                      exact V_roundEnd (IntKind.wrap .i64 (at_35 + (1 : Int))) H_185 [(0, 0)] hn (by kernel_rfl) (by kernel_rfl) rfl rfl rfl
            · intro b_38; have H_138 := of_f H_136 b_38
              refine VL_exit ?_
              refine QL_exit ?_
              refine QB_here ?_
              have H_188 := Option.some.inj (show some (Sum.inr ()) = some q_131 from H_138); subst H_188
              refine VL_nil ?_
              exact QP_end () rfl [(0, 0)] hn (by kernel_rfl) (by kernel_rfl) rfl rfl rfl
          · intro y_134 hy; subst hy
            skip
            refine V_run hN hn 1 1 [5, 7, 9] [0] ⟨[(5, .c (.val (.int .i64 (IntKind.wrap .i64 base_1)))), (7, .c (.h 0)), (9, .c (.val (.int .i64 r_31)))], [(0, .box [.val (.int .i64 r_24.1), .imm (.slice (.pair (.int .i64) (.pair (.int .i64) .str))) r_24.2.1])], 1⟩ [] (by kernel_rfl) rfl rfl ap0 ?_
            obtain ⟨r_85, h_86, H_189⟩ := of_bind H_133
            rcases Bool.eq_false_or_eq_true ((r_85 == (0 : Int))) with b_87 | b_87
            · have H_190 := of_t H_189 b_87
              obtain ⟨r_88, h_89, H_192⟩ := of_bind H_190
              rcases Bool.eq_false_or_eq_true ((r_88 == r_31)) with b_90 | b_90
              · have H_193 := of_t H_192 b_90
                obtain ⟨r_91, h_92, H_195⟩ := of_bind H_193
                refine V_reg hN hn [(1, ⟨12, 0, [.agg [.val (.int .i64 r_24.1), .imm (.slice (.pair (.int .i64) (.pair (.int .i64) .str))) r_24.2.1], .c (.val (.int .i64 (0 : Int))), .c (.val (.bool false))], [], .c (.val (.int .i64 r_85)), [], [], 1⟩), (6, ⟨12, 0, [.agg [.val (.int .i64 r_24.1), .imm (.slice (.pair (.int .i64) (.pair (.int .i64) .str))) r_24.2.1], .c (.val (.int .i64 (IntKind.wrap .i64 base_1))), .c (.val (.bool true))], [], .c (.val (.int .i64 r_88)), [], [], 1⟩), (13, ⟨14, 0, [.agg [.val (.int .i64 r_24.1), .imm (.slice (.pair (.int .i64) (.pair (.int .i64) .str))) r_24.2.1], .c (.val (.int .i64 r_31))], [], .c (.val (.int .i64 r_91)), [], [], 1⟩)] [(113, true), (120, true)] (calls_cons (offset_Move_spec K r_24.1 r_24.2.1 (0 : Int) false r_85 h_86) (by kernel_rfl) (calls_cons (offset_Move_spec K r_24.1 r_24.2.1 (IntKind.wrap .i64 base_1) true r_88 h_89) (by kernel_rfl) (calls_cons (offset_Back_spec K r_24.1 r_24.2.1 r_31 r_91 h_92) (by kernel_rfl) calls_nil))) 1 [4] [] ⟨[(4, .c (.val (.bool (r_91 == (IntKind.wrap .i64 base_1)))))], [], 1⟩ [(r_85 == (0 : Int)) = true, (r_88 == r_31) = true] (by kernel_rfl) rfl rfl (ap2 b_87 (ap1 b_90)) (by kernel_rfl) (by kernel_rfl) ?_
                have H_196 := Option.some.inj (show some (r_91 == (IntKind.wrap .i64 base_1)) = some r from H_195); subst H_196
                refine VL_ret ?_
                exact P_to [(4, .c (.val (.bool (r_91 == (IntKind.wrap .i64 base_1)))))] [] [] hn (by kernel_rfl) (by kernel_rfl) rfl rfl rfl (QF_retS (by kernel_rfl) (by kernel_rfl) rfl)
              · have H_194 := of_f H_192 b_90
                refine V_reg hN hn [(1, ⟨12, 0, [.agg [.val (.int .i64 r_24.1), .imm (.slice (.pair (.int .i64) (.pair (.int .i64) .str))) r_24.2.1], .c (.val (.int .i64 (0 : Int))), .c (.val (.bool false))], [], .c (.val (.int .i64 r_85)), [], [], 1⟩), (6, ⟨12, 0, [.agg [.val (.int .i64 r_24.1), .imm (.slice (.pair (.int .i64) (.pair (.int .i64) .str))) r_24.2.1], .c (.val (.int .i64 (IntKind.wrap .i64 base_1))), .c (.val (.bool true))], [], .c (.val (.int .i64 r_88)), [], [], 1⟩)] [(113, true), (120, false)] (calls_cons (offset_Move_spec K r_24.1 r_24.2.1 (0 : Int) false r_85 h_86) (by kernel_rfl) (calls_cons (offset_Move_spec K r_24.1 r_24.2.1 (IntKind.wrap .i64 base_1) true r_88 h_89) (by kernel_rfl) calls_nil)) 1 [4] [] ⟨[(4, .c (.val (.bool false)))], [], 1⟩ [(r_85 == (0 : Int)) = true, (r_88 == r_31) = false] (by kernel_rfl) rfl rfl (ap2 b_87 (ap1 b_90)) (by kernel_rfl) (by kernel_rfl) ?_
                have H_197 := Option.some.inj (show some false = some r from H_194); subst H_197
                refine VL_ret ?_
                exact P_to [(4, .c (.val (.bool false)))] [] [] hn (by kernel_rfl) (by kernel_rfl) rfl rfl rfl (QF_retS (by kernel_rfl) (by kernel_rfl) rfl)
            · have H_191 := of_f H_189 b_87
              refine V_reg hN hn [(1, ⟨12, 0, [.agg [.val (.int .i64 r_24.1), .imm (.slice (.pair (.int .i64) (.pair (.int .i64) .str))) r_24.2.1], .c (.val (.int .i64 (0 : Int))), .c (.val (.bool false))], [], .c (.val (.int .i64 r_85)), [], [], 1⟩)] [(113, false)] (calls_cons (offset_Move_spec K r_24.1 r_24.2.1 (0 : Int) false r_85 h_86) (by kernel_rfl) calls_nil) 1 [4] [] ⟨[(4, .c (.val (.bool false)))], [], 1⟩ [(r_85 == (0 : Int)) = false] (by kernel_rfl) rfl rfl (ap1 b_87) (by kernel_rfl) (by kernel_rfl) ?_
              have H_198 := Option.some.inj (show some false = some r from H_191); subst H_198
              refine VL_ret ?_
              exact P_to [(4, .c (.val (.bool false)))] [] [] hn (by kernel_rfl) (by kernel_rfl) rfl rfl rfl (QF_retS (by kernel_rfl) (by kernel_rfl) rfl)

end Go.Pal
