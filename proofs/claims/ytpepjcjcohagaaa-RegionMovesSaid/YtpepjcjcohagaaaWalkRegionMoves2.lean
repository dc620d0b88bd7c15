/- The Go functions that RegionMoves reaches compute what the plain functions say: part 2, printed by a program of this workplace. -/
import Derived.Test.YtpepjcjcohagaaaChecked
import Derived.Test.YtpepjcjcohagaaaWalkRegionMoves1
namespace Go.Pal
open Go Go.Proofs
set_option maxRecDepth 100000
set_option linter.unusedVariables false

theorem slices_IndexFunc_rcregionevery1_6ba18_spec (K : Nat) (s_1 : (List (Int × Int))) (f_2 : Int) (f_3 : (List (Int × (Int × ByteArray)))) (r : Int) (H : slices_IndexFunc_rcregionevery1_c23b8 K s_1 f_2 f_3 = some r) : Spec Try.prog 66 4 [.c (.h 0), .c (.clo 47 [1])] [(0, .row kP s_1), (1, .box [.clo 37 [2]]), (2, .box [.val (.int .i64 f_2), .h 3]), (3, .row kE f_3)] (cI r) [(0, .row kP s_1), (1, .box [.clo 37 [2]]), (2, .box [.val (.int .i64 f_2), .h 3]), (3, .row kE f_3)] := by
  refine Spec_mk (fn := Try.f66) (c := (Try.f66.body).get!) Try.func66 (by kernel_rfl) rfl ?_
  intro C hN hn
  replace hN : C.N = 19 := hN
  unfold slices_IndexFunc_rcregionevery1_c23b8 at H
  refine V_run hN hn 5 4 [0, 1, 7, 8] [0, 1, 2, 3] ⟨[(0, .c (.h 0)), (1, .c (.clo 47 [1])), (7, cI (lnI s_1)), (8, cI (0 : Int))], [(0, .row kP s_1), (1, .box [.clo 37 [2]]), (2, .box [.val (.int .i64 f_2), .h 3]), (3, .row kE f_3)], 4⟩ [] (by kernel_rfl) rfl rfl ap0 ?_
  refine VL_block ?_
  refine V_to [(0, .c (.h 0)), (1, .c (.clo 47 [1])), (7, cI (lnI s_1)), (8, cI (0 : Int))] [(0, .row kP s_1), (1, .box [.clo 37 [2]]), (2, .box [.val (.int .i64 f_2), .h 3]), (3, .row kE f_3)] [] hn (by kernel_rfl) (by kernel_rfl) rfl rfl rfl ?_
  refine VL_loop (X := Int) (fun x => [(0, .c (.h 0)), (1, .c (.clo 47 [1])), (7, cI (lnI s_1)), (8, cI x)]) (fun x => [(0, .row kP s_1), (1, .box [.clo 37 [2]]), (2, .box [.val (.int .i64 f_2), .h 3]), (3, .row kE f_3)]) (fun k x => slices_IndexFunc_rcregionevery1_c23b8.l0 K s_1 f_2 f_3 k x = some r) K (0 : Int) H (fun _ h => no_none h) ?_
  intro k_6 t_5 H_20
  have H_21 : slices_IndexFunc_rcregionevery1_c23b8.l0 K s_1 f_2 f_3 (k_6 + 1) t_5 = some r := H_20
  rw [slices_IndexFunc_rcregionevery1_c23b8.l0] at H_21
  refine V_run hN hn 3 4 [0, 1, 7, 8, 9] [0, 1, 2, 3] ⟨[(0, .c (.h 0)), (1, .c (.clo 47 [1])), (7, cI (lnI s_1)), (8, cI t_5), (9, cB (decide (t_5 < (lnI s_1))))], [(0, .row kP s_1), (1, .box [.clo 37 [2]]), (2, .box [.val (.int .i64 f_2), .h 3]), (3, .row kE f_3)], 4⟩ [] (by kernel_rfl) rfl rfl ap0 ?_
  refine VL_cond ((decide (t_5 < (lnI s_1)))) (by kernel_rfl) ?_ ?_
  · intro b_8; have H_22 := of_t H_21 b_8
    refine V_run hN hn 2 4 [0, 1, 7, 8, 9] [0, 1, 2, 3] ⟨[(0, .c (.h 0)), (1, .c (.clo 47 [1])), (7, cI (lnI s_1)), (8, cI t_5), (9, cB (decide (t_5 < (lnI s_1))))], [(0, .row kP s_1), (1, .box [.clo 37 [2]]), (2, .box [.val (.int .i64 f_2), .h 3]), (3, .row kE f_3)], 4⟩ [] (by kernel_rfl) rfl rfl ap0 ?_
    refine VL_block ?_
    refine V_run hN hn 3 4 [0, 1, 5, 7, 8] [0, 1, 2, 3] ⟨[(0, .c (.h 0)), (1, .c (.clo 47 [1])), (5, cI t_5), (7, cI (lnI s_1)), (8, cI t_5)], [(0, .row kP s_1), (1, .box [.clo 37 [2]]), (2, .box [.val (.int .i64 f_2), .h 3]), (3, .row kE f_3)], 4⟩ [] (by kernel_rfl) rfl rfl ap0 ?_
    obtain ⟨r_11, h_12, H_24⟩ := of_bind H_22
    obtain ⟨c_13, H_25⟩ := of_if H_24
    refine V_reg hN hn [(5, ⟨47, 3, [.agg [.val (.int .i64 (List.getD s_1 (Int.toNat t_5) zP).1), .val (.int .i64 (List.getD s_1 (Int.toNat t_5) zP).2)], .c (.h 0)], [(0, .box [.clo 37 [1]]), (1, .box [.val (.int .i64 f_2), .h 2]), (2, .row kE f_3)], cB r_11, [(0, .box [.clo 37 [1]]), (1, .box [.val (.int .i64 f_2), .h 2]), (2, .row kE f_3)], [(0, 1), (1, 2), (2, 3)], 4⟩)] [] (calls_cons (region_every_1_sggb_a49df_spec K (List.getD s_1 (Int.toNat t_5) zP).1 (List.getD s_1 (Int.toNat t_5) zP).2 f_2 f_3 r_11 h_12) (by kernel_rfl) calls_nil) 4 [0, 1, 5, 7, 8, 16] [0, 1, 2, 3] ⟨[(0, .c (.h 0)), (1, .c (.clo 47 [1])), (5, cI t_5), (7, cI (lnI s_1)), (8, cI t_5), (16, cB r_11)], [(0, .row kP s_1), (1, .box [.clo 37 [2]]), (2, .box [.val (.int .i64 f_2), .h 3]), (3, .row kE f_3)], 4⟩ [0 ≤ t_5, t_5 < (lnI s_1)] (by kernel_rfl) rfl rfl (ap2 c_13.1 (ap1 c_13.2)) (by kernel_rfl) (by kernel_rfl) ?_
    refine VL_cond (r_11) (by kernel_rfl) ?_ ?_
    · intro b_14; have H_26 := of_t H_25 b_14
      refine V_run hN hn 2 4 [4] [0, 1, 2, 3] ⟨[(4, cI t_5)], [(0, .row kP s_1), (1, .box [.clo 37 [2]]), (2, .box [.val (.int .i64 f_2), .h 3]), (3, .row kE f_3)], 4⟩ [] (by kernel_rfl) rfl rfl ap0 ?_
      have H_28 := Option.some.inj (show some t_5 = some r from H_26); subst H_28
      refine VL_ret ?_
      refine QB_ret ?_
      refine QL_ret ?_
      refine QB_ret ?_
      exact P_to [(4, cI t_5)] [(0, .row kP s_1), (1, .box [.clo 37 [2]]), (2, .box [.val (.int .i64 f_2), .h 3]), (3, .row kE f_3)] [] hn (by kernel_rfl) (by kernel_rfl) rfl rfl rfl (QF_retS (by kernel_rfl) (by kernel_rfl) rfl)
    · intro b_14; have H_27 := of_f H_25 b_14
      refine V_run hN hn 1 4 [0, 1, 5, 7, 8, 16] [0, 1, 2, 3] ⟨[(0, .c (.h 0)), (1, .c (.clo 47 [1])), (5, cI t_5), (7, cI (lnI s_1)), (8, cI t_5), (16, cB r_11)], [(0, .row kP s_1), (1, .box [.clo 37 [2]]), (2, .box [.val (.int .i64 f_2), .h 3]), (3, .row kE f_3)], 4⟩ [] (by kernel_rfl) rfl rfl ap0 ?_
      refine VL_nil (QB_end ?_)
      refine V_run hN hn 1 4 [0, 1, 7, 8] [0, 1, 2, 3] ⟨[(0, .c (.h 0)), (1, .c (.clo 47 [1])), (7, cI (lnI s_1)), (8, cI (w6 (t_5 + (1 : Int))))], [(0, .row kP s_1), (1, .box [.clo 37 [2]]), (2, .box [.val (.int .i64 f_2), .h 3]), (3, .row kE f_3)], 4⟩ [] (by kernel_rfl) rfl rfl ap0 ?_
      refine VL_nil ?_
      exact V_roundEnd (w6 (t_5 + (1 : Int))) H_27 [] hn (by kernel_rfl) (by kernel_rfl) rfl rfl rfl
  · intro b_8; have H_23 := of_f H_21 b_8
    refine VL_exit ?_
    refine QL_exit ?_
    refine QB_here ?_
    refine V_run hN hn 2 4 [4] [0, 1, 2, 3] ⟨[(4, cI (-1 : Int))], [(0, .row kP s_1), (1, .box [.clo 37 [2]]), (2, .box [.val (.int .i64 f_2), .h 3]), (3, .row kE f_3)], 4⟩ [] (by kernel_rfl) rfl rfl ap0 ?_
    have H_29 := Option.some.inj (show some (-1 : Int) = some r from H_23); subst H_29
    refine VL_ret ?_
    exact P_to [(4, cI (-1 : Int))] [(0, .row kP s_1), (1, .box [.clo 37 [2]]), (2, .box [.val (.int .i64 f_2), .h 3]), (3, .row kE f_3)] [] hn (by kernel_rfl) (by kernel_rfl) rfl rfl rfl (QF_retS (by kernel_rfl) (by kernel_rfl) rfl)

theorem slices_ContainsFunc_rcregionevery1_6ba18_spec (K : Nat) (s_1 : (List (Int × Int))) (f_2 : Int) (f_3 : (List (Int × (Int × ByteArray)))) (r : Bool) (H : slices_ContainsFunc_rcregionevery1_c23b8 K s_1 f_2 f_3 = some r) : Spec Try.prog 46 4 [.c (.h 0), .c (.clo 47 [1])] [(0, .row kP s_1), (1, .box [.clo 37 [2]]), (2, .box [.val (.int .i64 f_2), .h 3]), (3, .row kE f_3)] (cB r) [(0, .row kP s_1), (1, .box [.clo 37 [2]]), (2, .box [.val (.int .i64 f_2), .h 3]), (3, .row kE f_3)] := by
  refine Spec_mk (fn := Try.f46) (c := (Try.f46.body).get!) Try.func46 (by kernel_rfl) rfl ?_
  intro C hN hn
  replace hN : C.N = 9 := hN
  unfold slices_ContainsFunc_rcregionevery1_c23b8 at H
  refine V_run hN hn 3 4 [0, 1] [0, 1, 2, 3] ⟨[(0, .c (.h 0)), (1, .c (.clo 47 [1]))], [(0, .row kP s_1), (1, .box [.clo 37 [2]]), (2, .box [.val (.int .i64 f_2), .h 3]), (3, .row kE f_3)], 4⟩ [] (by kernel_rfl) rfl rfl ap0 ?_
  obtain ⟨r_5, h_6, H_9⟩ := of_bind H
  refine V_reg hN hn [(2, ⟨66, 4, [.c (.h 0), .c (.clo 47 [1])], [(0, .row kP s_1), (1, .box [.clo 37 [2]]), (2, .box [.val (.int .i64 f_2), .h 3]), (3, .row kE f_3)], cI r_5, [(0, .row kP s_1), (1, .box [.clo 37 [2]]), (2, .box [.val (.int .i64 f_2), .h 3]), (3, .row kE f_3)], [(0, 0), (1, 1), (2, 2), (3, 3)], 4⟩)] [] (calls_cons (slices_IndexFunc_rcregionevery1_6ba18_spec K s_1 f_2 f_3 r_5 h_6) (by kernel_rfl) calls_nil) 4 [4] [0, 1, 2, 3] ⟨[(4, cB (decide (r_5 ≥ (0 : Int))))], [(0, .row kP s_1), (1, .box [.clo 37 [2]]), (2, .box [.val (.int .i64 f_2), .h 3]), (3, .row kE f_3)], 4⟩ [] (by kernel_rfl) rfl rfl ap0 (by kernel_rfl) (by kernel_rfl) ?_
  have H_10 := Option.some.inj (show some (decide (r_5 ≥ (0 : Int))) = some r from H_9); subst H_10
  refine VL_ret ?_
  exact P_to [(4, cB (decide (r_5 ≥ (0 : Int))))] [(0, .row kP s_1), (1, .box [.clo 37 [2]]), (2, .box [.val (.int .i64 f_2), .h 3]), (3, .row kE f_3)] [] hn (by kernel_rfl) (by kernel_rfl) rfl rfl rfl (QF_retS (by kernel_rfl) (by kernel_rfl) rfl)

theorem region_every_rcregionMove1_44133_spec (K : Nat) (l_1 : (List (Int × Int))) (is_2 : Int) (is_3 : (List (Int × (Int × ByteArray)))) (r : Bool) (H : region_every_rcregionMove1_9db43 K l_1 is_2 is_3 = some r) : Spec Try.prog 27 3 [.c (.h 0), .c (.clo 37 [1])] [(0, .row kP l_1), (1, .box [.val (.int .i64 is_2), .h 2]), (2, .row kE is_3)] (cB r) [(0, .row kP l_1), (1, .box [.val (.int .i64 is_2), .h 2]), (2, .row kE is_3)] := by
  refine Spec_mk (fn := Try.f27) (c := (Try.f27.body).get!) Try.func27 (by kernel_rfl) rfl ?_
  intro C hN hn
  replace hN : C.N = 9 := hN
  unfold region_every_rcregionMove1_9db43 at H
  refine V_run hN hn 3 3 [0, 3] [0, 1, 2, 3] ⟨[(0, .c (.h 0)), (3, .c (.h 3))], [(0, .row kP l_1), (1, .box [.val (.int .i64 is_2), .h 2]), (2, .row kE is_3), (3, .box [.clo 37 [1]])], 4⟩ [] (by kernel_rfl) rfl rfl ap0 ?_
  obtain ⟨r_5, h_6, H_9⟩ := of_bind H
  refine V_reg hN hn [(2, ⟨46, 4, [.c (.h 0), .c (.clo 47 [1])], [(0, .row kP l_1), (1, .box [.clo 37 [2]]), (2, .box [.val (.int .i64 is_2), .h 3]), (3, .row kE is_3)], cB r_5, [(0, .row kP l_1), (1, .box [.clo 37 [2]]), (2, .box [.val (.int .i64 is_2), .h 3]), (3, .row kE is_3)], [(0, 0), (1, 3), (2, 1), (3, 2)], 4⟩)] [] (calls_cons (slices_ContainsFunc_rcregionevery1_6ba18_spec K l_1 is_2 is_3 r_5 h_6) (by kernel_rfl) calls_nil) 4 [4] [0, 1, 2] ⟨[(4, cB (!r_5))], [(0, .row kP l_1), (1, .box [.val (.int .i64 is_2), .h 2]), (2, .row kE is_3)], 4⟩ [] (by kernel_rfl) rfl rfl ap0 (by kernel_rfl) (by kernel_rfl) ?_
  have H_10 := Option.some.inj (show some (!r_5) = some r from H_9); subst H_10
  refine VL_ret ?_
  exact P_to [(4, cB (!r_5))] [(0, .row kP l_1), (1, .box [.val (.int .i64 is_2), .h 2]), (2, .row kE is_3)] [] hn (by kernel_rfl) (by kernel_rfl) rfl rfl rfl (QF_retS (by kernel_rfl) (by kernel_rfl) rfl)

theorem offset_Move_sgrgg_spec (K : Nat) (d_1 : Int) (d_2 : (List (Int × (Int × ByteArray)))) (at_3 : Int) (after_4 : Bool) (r : Int) (H : offset_Move K d_1 d_2 at_3 after_4 = some r) : Spec Try.prog 39 1 [.agg [.val (.int .i64 d_1), .h 0], cI at_3, cB after_4] [(0, .row kE d_2)] (cI r) [(0, .row kE d_2)] := by
  refine Spec_mk (fn := Try.f39) (c := (Try.f39.body).get!) Try.func39 (by kernel_rfl) rfl ?_
  intro C hN hn
  replace hN : C.N = 61 := hN
  unfold offset_Move at H
  refine V_run hN hn 2 1 [1, 2, 3] [0, 1] ⟨[(1, cI at_3), (2, cB after_4), (3, .c (.h 1))], [(0, .row kE d_2), (1, .box [.val (.int .i64 d_1), .h 0])], 2⟩ [] (by kernel_rfl) rfl rfl ap0 ?_
  refine VL_scope ?_
  refine V_run hN hn 2 2 [1, 2, 3] [0, 1] ⟨[(1, cI at_3), (2, cB after_4), (3, .c (.h 1))], [(0, .row kE d_2), (1, .box [.val (.int .i64 d_1), .h 0])], 2⟩ [] (by kernel_rfl) rfl rfl ap0 ?_
  obtain ⟨r_7, h_8, H_43⟩ := of_bind H
  refine V_reg hN hn [(1, ⟨36, 1, [.agg [.val (.int .i64 d_1), .h 0]], [(0, .row kE d_2)], cB r_7, [(0, .row kE d_2)], [(0, 0)], 2⟩)] [] (calls_cons (delta_Is_sgr_spec K d_1 d_2 r_7 h_8) (by kernel_rfl) calls_nil) 2 [1, 2, 3, 13] [0, 1] ⟨[(1, cI at_3), (2, cB after_4), (3, .c (.h 1)), (13, cB (!r_7))], [(0, .row kE d_2), (1, .box [.val (.int .i64 d_1), .h 0])], 2⟩ [] (by kernel_rfl) rfl rfl ap0 (by kernel_rfl) (by kernel_rfl) ?_
  refine VL_cond ((!r_7)) (by kernel_rfl) ?_ ?_
  · intro b_10; have H_44 := of_t H_43 b_10
    refine V_run hN hn 2 2 [6] [0] ⟨[(6, cI (0 : Int))], [(0, .row kE d_2)], 2⟩ [] (by kernel_rfl) rfl rfl ap0 ?_
    have H_46 := Option.some.inj (show some (0 : Int) = some r from H_44); subst H_46
    refine VL_ret ?_
    refine QG_ret ?_
    exact P_to [(6, cI (0 : Int))] [(0, .row kE d_2)] [] hn (by kernel_rfl) (by kernel_rfl) rfl rfl rfl (QF_retS (by kernel_rfl) (by kernel_rfl) rfl)
  · intro b_10; have H_45 := of_f H_43 b_10
    refine V_run hN hn 6 2 [1, 2, 3, 7, 8] [0, 1] ⟨[(1, cI (mn2 (mx2 at_3 (0 : Int)) d_1)), (2, cB after_4), (3, .c (.h 1)), (7, cI (0 : Int)), (8, cI (0 : Int))], [(0, .row kE d_2), (1, .box [.val (.int .i64 d_1), .h 0])], 2⟩ [] (by kernel_rfl) rfl rfl ap0 ?_
    refine VL_label ?_
    refine V_run hN hn 3 2 [1, 2, 7, 8, 20, 21, 22] [0] ⟨[(1, cI (mn2 (mx2 at_3 (0 : Int)) d_1)), (2, cB after_4), (7, cI (0 : Int)), (8, cI (0 : Int)), (20, .c (.h 0)), (21, cI (lnI d_2)), (22, cI (0 : Int))], [(0, .row kE d_2)], 2⟩ [] (by kernel_rfl) rfl rfl ap0 ?_
    obtain ⟨q_47, H_48, H_49⟩ := of_bind H_45
    refine V_cut (Y := (Int × Int)) (R := (Int × Int)) q_47 (fun y => y) (fun y => [(2, cB after_4), (7, cI y.1), (8, cI y.2)]) (fun y => [(0, .row kE d_2)]) ?_ ?_
    · skip
      refine VL_block ?_
      refine V_to [(1, cI (mn2 (mx2 at_3 (0 : Int)) d_1)), (2, cB after_4), (7, cI (0 : Int)), (8, cI (0 : Int)), (20, .c (.h 0)), (21, cI (lnI d_2)), (22, cI (0 : Int))] [(0, .row kE d_2)] [] hn (by kernel_rfl) (by kernel_rfl) rfl rfl rfl ?_
      refine VL_loop (X := (Int × Int × Int)) (fun x => [(1, cI (mn2 (mx2 at_3 (0 : Int)) d_1)), (2, cB after_4), (7, cI x.1), (8, cI x.2.1), (20, .c (.h 0)), (21, cI (lnI d_2)), (22, cI x.2.2)]) (fun x => [(0, .row kE d_2)]) (fun k x => offset_Move.l0 K d_2 at_3 d_1 k x.1 x.2.1 x.2.2 = some q_47) K ((0 : Int), (0 : Int), (0 : Int)) H_48 (fun _ h => no_none h) ?_
      intro k_17 x_17 H_51
      obtain ⟨n_14, waits_15, t_16⟩ := x_17
      have H_52 : offset_Move.l0 K d_2 at_3 d_1 (k_17 + 1) n_14 waits_15 t_16 = some q_47 := H_51
      rw [offset_Move.l0] at H_52
      refine V_run hN hn 3 2 [1, 2, 7, 8, 20, 21, 22, 23] [0] ⟨[(1, cI (mn2 (mx2 at_3 (0 : Int)) d_1)), (2, cB after_4), (7, cI n_14), (8, cI waits_15), (20, .c (.h 0)), (21, cI (lnI d_2)), (22, cI t_16), (23, cB (decide (t_16 < (lnI d_2))))], [(0, .row kE d_2)], 2⟩ [] (by kernel_rfl) rfl rfl ap0 ?_
      refine VL_cond ((decide (t_16 < (lnI d_2)))) (by kernel_rfl) ?_ ?_
      · intro b_19; have H_53 := of_t H_52 b_19
        refine V_run hN hn 2 2 [1, 2, 7, 8, 20, 21, 22, 23] [0] ⟨[(1, cI (mn2 (mx2 at_3 (0 : Int)) d_1)), (2, cB after_4), (7, cI n_14), (8, cI waits_15), (20, .c (.h 0)), (21, cI (lnI d_2)), (22, cI t_16), (23, cB (decide (t_16 < (lnI d_2))))], [(0, .row kE d_2)], 2⟩ [] (by kernel_rfl) rfl rfl ap0 ?_
        refine VL_block ?_
        obtain ⟨c_21, H_55⟩ := of_if H_53
        refine V_run hN hn 2 2 [1, 2, 7, 8, 10, 20, 21, 22] [0, 2] ⟨[(1, cI (mn2 (mx2 at_3 (0 : Int)) d_1)), (2, cB after_4), (7, cI n_14), (8, cI waits_15), (10, .c (.h 2)), (20, .c (.h 0)), (21, cI (lnI d_2)), (22, cI t_16)], [(0, .row kE d_2), (2, .box [.val (.int .i64 (List.getD d_2 (Int.toNat t_16) zE).1), .val (.int .i64 (List.getD d_2 (Int.toNat t_16) zE).2.1), .val (.string (List.getD d_2 (Int.toNat t_16) zE).2.2)])], 3⟩ [0 ≤ t_16, t_16 < (lnI d_2)] (by kernel_rfl) rfl rfl (ap2 c_21.1 (ap1 c_21.2)) ?_
        refine VL_block ?_
        refine V_run hN hn 1 3 [1, 2, 7, 8, 10, 20, 21, 22] [0, 2] ⟨[(1, cI (mn2 (mx2 at_3 (0 : Int)) d_1)), (2, cB after_4), (7, cI n_14), (8, cI waits_15), (10, .c (.h 2)), (20, .c (.h 0)), (21, cI (lnI d_2)), (22, cI t_16)], [(0, .row kE d_2), (2, .box [.val (.int .i64 (List.getD d_2 (Int.toNat t_16) zE).1), .val (.int .i64 (List.getD d_2 (Int.toNat t_16) zE).2.1), .val (.string (List.getD d_2 (Int.toNat t_16) zE).2.2)])], 3⟩ [] (by kernel_rfl) rfl rfl ap0 ?_
        obtain ⟨r_23, h_24, H_56⟩ := of_bind H_55
        refine V_reg hN hn [(1, ⟨62, 0, [.agg [.val (.int .i64 (List.getD d_2 (Int.toNat t_16) zE).1), .val (.int .i64 (List.getD d_2 (Int.toNat t_16) zE).2.1), .val (.string (List.getD d_2 (Int.toNat t_16) zE).2.2)]], [], cB r_23, [], [], 3⟩)] [] (calls_cons (delta_IsCopy_spec K (List.getD d_2 (Int.toNat t_16) zE).1 (List.getD d_2 (Int.toNat t_16) zE).2.1 (List.getD d_2 (Int.toNat t_16) zE).2.2 r_23 h_24) (by kernel_rfl) calls_nil) 3 [1, 2, 7, 8, 10, 20, 21, 22, 41] [0, 2] ⟨[(1, cI (mn2 (mx2 at_3 (0 : Int)) d_1)), (2, cB after_4), (7, cI n_14), (8, cI waits_15), (10, .c (.h 2)), (20, .c (.h 0)), (21, cI (lnI d_2)), (22, cI t_16), (41, cB (!r_23))], [(0, .row kE d_2), (2, .box [.val (.int .i64 (List.getD d_2 (Int.toNat t_16) zE).1), .val (.int .i64 (List.getD d_2 (Int.toNat t_16) zE).2.1), .val (.string (List.getD d_2 (Int.toNat t_16) zE).2.2)])], 3⟩ [] (by kernel_rfl) rfl rfl ap0 (by kernel_rfl) (by kernel_rfl) ?_
        refine VL_cond ((!r_23)) (by kernel_rfl) ?_ ?_
        · intro b_26; have H_57 := of_t H_56 b_26
          refine V_run hN hn 1 3 [1, 2, 7, 8, 20, 21, 22] [0] ⟨[(1, cI (mn2 (mx2 at_3 (0 : Int)) d_1)), (2, cB after_4), (7, cI n_14), (8, cI (w6 (waits_15 + (((ByteArray.size (List.getD d_2 (Int.toNat t_16) zE).2.2) : Nat) : Int)))), (20, .c (.h 0)), (21, cI (lnI d_2)), (22, cI t_16)], [(0, .row kE d_2)], 3⟩ [] (by kernel_rfl) rfl rfl ap0 ?_
          refine VL_nil (QB_end ?_)
          refine VL_nil (QB_end ?_)
          refine V_run hN hn 1 3 [1, 2, 7, 8, 20, 21, 22] [0] ⟨[(1, cI (mn2 (mx2 at_3 (0 : Int)) d_1)), (2, cB after_4), (7, cI n_14), (8, cI (w6 (waits_15 + (((ByteArray.size (List.getD d_2 (Int.toNat t_16) zE).2.2) : Nat) : Int)))), (20, .c (.h 0)), (21, cI (lnI d_2)), (22, cI (w6 (t_16 + (1 : Int))))], [(0, .row kE d_2)], 3⟩ [] (by kernel_rfl) rfl rfl ap0 ?_
          refine VL_nil ?_
          exact V_roundEnd (n_14, (w6 (waits_15 + (((ByteArray.size (List.getD d_2 (Int.toNat t_16) zE).2.2) : Nat) : Int))), (w6 (t_16 + (1 : Int)))) H_57 [] hn (by kernel_rfl) (by kernel_rfl) rfl rfl rfl
        · intro b_26; have H_58 := of_f H_56 b_26
          refine V_run hN hn 2 3 [1, 2, 7, 8, 10, 20, 21, 22, 50] [0, 2] ⟨[(1, cI (mn2 (mx2 at_3 (0 : Int)) d_1)), (2, cB after_4), (7, cI n_14), (8, cI waits_15), (10, .c (.h 2)), (20, .c (.h 0)), (21, cI (lnI d_2)), (22, cI t_16), (50, cB (decide ((List.getD d_2 (Int.toNat t_16) zE).1 ≥ (mn2 (mx2 at_3 (0 : Int)) d_1))))], [(0, .row kE d_2), (2, .box [.val (.int .i64 (List.getD d_2 (Int.toNat t_16) zE).1), .val (.int .i64 (List.getD d_2 (Int.toNat t_16) zE).2.1), .val (.string (List.getD d_2 (Int.toNat t_16) zE).2.2)])], 3⟩ [] (by kernel_rfl) rfl rfl ap0 ?_
          refine VL_cond ((decide ((List.getD d_2 (Int.toNat t_16) zE).1 ≥ (mn2 (mx2 at_3 (0 : Int)) d_1)))) (by kernel_rfl) ?_ ?_
          · intro b_30; have H_59 := of_t H_58 b_30
            refine VL_exit ?_
            refine QB_out (by decide) ?_
            refine QB_out (by decide) ?_
            refine QL_exit ?_
            refine QB_here ?_
            have H_61 := Option.some.inj (show some (n_14, waits_15) = some q_47 from H_59); subst H_61
            refine VL_nil ?_
            exact QP_end (n_14, waits_15) rfl [] hn (by kernel_rfl) (by kernel_rfl) rfl rfl rfl
          · intro b_30; have H_60 := of_f H_58 b_30
            refine V_run hN hn 6 3 [1, 2, 7, 8, 20, 21, 22, 40] [0] ⟨[(1, cI (mn2 (mx2 at_3 (0 : Int)) d_1)), (2, cB after_4), (7, cI (w6 (n_14 + (w6 ((w6 (waits_15 + (mn2 (List.getD d_2 (Int.toNat t_16) zE).2.1 (mn2 (mx2 at_3 (0 : Int)) d_1)))) - (List.getD d_2 (Int.toNat t_16) zE).1))))), (8, cI (0 : Int)), (20, .c (.h 0)), (21, cI (lnI d_2)), (22, cI t_16), (40, cB (decide ((List.getD d_2 (Int.toNat t_16) zE).2.1 > (mn2 (mx2 at_3 (0 : Int)) d_1))))], [(0, .row kE d_2)], 3⟩ [] (by kernel_rfl) rfl rfl ap0 ?_
            refine VL_cond ((decide ((List.getD d_2 (Int.toNat t_16) zE).2.1 > (mn2 (mx2 at_3 (0 : Int)) d_1)))) (by kernel_rfl) ?_ ?_
            · intro b_32; have H_62 := of_t H_60 b_32
              refine VL_exit ?_
              refine QB_out (by decide) ?_
              refine QB_out (by decide) ?_
              refine QL_exit ?_
              refine QB_here ?_
              have H_64 := Option.some.inj (show some ((w6 (n_14 + (w6 ((w6 (waits_15 + (mn2 (List.getD d_2 (Int.toNat t_16) zE).2.1 (mn2 (mx2 at_3 (0 : Int)) d_1)))) - (List.getD d_2 (Int.toNat t_16) zE).1)))), (0 : Int)) = some q_47 from H_62); subst H_64
              refine VL_nil ?_
              exact QP_end ((w6 (n_14 + (w6 ((w6 (waits_15 + (mn2 (List.getD d_2 (Int.toNat t_16) zE).2.1 (mn2 (mx2 at_3 (0 : Int)) d_1)))) - (List.getD d_2 (Int.toNat t_16) zE).1)))), (0 : Int)) rfl [] hn (by kernel_rfl) (by kernel_rfl) rfl rfl rfl
            · intro b_32; have H_63 := of_f H_60 b_32
              refine V_run hN hn 1 3 [1, 2, 7, 8, 20, 21, 22, 40] [0] ⟨[(1, cI (mn2 (mx2 at_3 (0 : Int)) d_1)), (2, cB after_4), (7, cI (w6 (n_14 + (w6 ((w6 (waits_15 + (mn2 (List.getD d_2 (Int.toNat t_16) zE).2.1 (mn2 (mx2 at_3 (0 : Int)) d_1)))) - (List.getD d_2 (Int.toNat t_16) zE).1))))), (8, cI (0 : Int)), (20, .c (.h 0)), (21, cI (lnI d_2)), (22, cI t_16), (40, cB (decide ((List.getD d_2 (Int.toNat t_16) zE).2.1 > (mn2 (mx2 at_3 (0 : Int)) d_1))))], [(0, .row kE d_2)], 3⟩ [] (by kernel_rfl) rfl rfl ap0 ?_
              refine VL_nil (QB_end ?_)
              refine VL_nil (QB_end ?_)
              refine V_run hN hn 1 3 [1, 2, 7, 8, 20, 21, 22] [0] ⟨[(1, cI (mn2 (mx2 at_3 (0 : Int)) d_1)), (2, cB after_4), (7, cI (w6 (n_14 + (w6 ((w6 (waits_15 + (mn2 (List.getD d_2 (Int.toNat t_16) zE).2.1 (mn2 (mx2 at_3 (0 : Int)) d_1)))) - (List.getD d_2 (Int.toNat t_16) zE).1))))), (8, cI (0 : Int)), (20, .c (.h 0)), (21, cI (lnI d_2)), (22, cI (w6 (t_16 + (1 : Int))))], [(0, .row kE d_2)], 3⟩ [] (by kernel_rfl) rfl rfl ap0 ?_
              refine VL_nil ?_
              exact V_roundEnd ((w6 (n_14 + (w6 ((w6 (waits_15 + (mn2 (List.getD d_2 (Int.toNat t_16) zE).2.1 (mn2 (mx2 at_3 (0 : Int)) d_1)))) - (List.getD d_2 (Int.toNat t_16) zE).1)))), (0 : Int), (w6 (t_16 + (1 : Int)))) H_63 [] hn (by kernel_rfl) (by kernel_rfl) rfl rfl rfl
      · intro b_19; have H_54 := of_f H_52 b_19
        refine VL_exit ?_
        refine QL_exit ?_
        refine QB_here ?_
        have H_65 := Option.some.inj (show some (n_14, waits_15) = some q_47 from H_54); subst H_65
        refine VL_nil ?_
        exact QP_end (n_14, waits_15) rfl [] hn (by kernel_rfl) (by kernel_rfl) rfl rfl rfl
    · intro y_50 hy; subst hy
      obtain ⟨n_35, waits_36⟩ := y_50
      refine V_run hN hn 3 3 [7, 8, 56] [0] ⟨[(7, cI n_35), (8, cI waits_36), (56, cB after_4)], [(0, .row kE d_2)], 3⟩ [] (by kernel_rfl) rfl rfl ap0 ?_
      refine VL_cond (after_4) (by kernel_rfl) ?_ ?_
      · intro b_38; have H_66 := of_t H_49 b_38
        refine V_run hN hn 3 3 [6] [0] ⟨[(6, cI (w6 (n_35 + waits_36)))], [(0, .row kE d_2)], 3⟩ [] (by kernel_rfl) rfl rfl ap0 ?_
        have H_68 := Option.some.inj (show some (w6 (n_35 + waits_36)) = some r from H_66); subst H_68
        refine VL_ret ?_
        refine QG_ret ?_
        exact P_to [(6, cI (w6 (n_35 + waits_36)))] [(0, .row kE d_2)] [] hn (by kernel_rfl) (by kernel_rfl) rfl rfl rfl (QF_retS (by kernel_rfl) (by kernel_rfl) rfl)
      · intro b_38; have H_67 := of_f H_49 b_38
        refine V_run hN hn 3 3 [6] [0] ⟨[(6, cI n_35)], [(0, .row kE d_2)], 3⟩ [] (by kernel_rfl) rfl rfl ap0 ?_
        have H_69 := Option.some.inj (show some n_35 = some r from H_67); subst H_69
        refine VL_ret ?_
        refine QG_ret ?_
        exact P_to [(6, cI n_35)] [(0, .row kE d_2)] [] hn (by kernel_rfl) (by kernel_rfl) rfl rfl rfl (QF_retS (by kernel_rfl) (by kernel_rfl) rfl)

theorem region_Move_rsgr_spec (K : Nat) (l_1 : (List (Int × Int))) (d_2 : Int) (d_3 : (List (Int × (Int × ByteArray)))) (r : ((List (Int × Int)) × Int)) (H : region_Move_rsgg K l_1 d_2 d_3 = some r) : Spec Try.prog 14 2 [.c (.h 0), .agg [.val (.int .i64 d_2), .h 1]] [(0, .row kP l_1), (1, .row kE d_3)] (.tup [(false, [.h 9]), (false, [.val (.int .i64 r.2)])]) [(0, .row kP l_1), (1, .row kE d_3), (9, .row kP r.1)] := by
  refine Spec_mk (fn := Try.f14) (c := (Try.f14.body).get!) Try.func14 (by kernel_rfl) rfl ?_
  intro C hN hn
  replace hN : C.N = 50 := hN
  unfold region_Move_rsgg at H
  refine V_run hN hn 4 2 [0, 3] [0, 1, 2] ⟨[(0, .c (.h 0)), (3, .c (.h 2))], [(0, .row kP l_1), (1, .row kE d_3), (2, .box [.val (.int .i64 d_2), .h 1])], 3⟩ [] (by kernel_rfl) rfl rfl ap0 ?_
  obtain ⟨q_58, H_59, H_60⟩ := of_bind H
  refine V_cut (Y := Bool) (R := Bool) q_58 (fun y => y) (fun y => [(0, .c (.h 0)), (3, .c (.h 2)), (23, cB y)]) (fun y => [(0, .row kP l_1), (1, .row kE d_3), (2, .box [.val (.int .i64 d_2), .h 1])]) ?_ ?_
  · skip
    obtain ⟨r_5, h_6, H_62⟩ := of_bind H_59
    rcases Bool.eq_false_or_eq_true ((!r_5)) with b_7 | b_7
    · have H_63 := of_t H_62 b_7
      refine V_reg hN hn [(1, ⟨36, 1, [.agg [.val (.int .i64 d_2), .h 0]], [(0, .row kE d_3)], cB r_5, [(0, .row kE d_3)], [(0, 1)], 3⟩)] [(13, true)] (calls_cons (delta_Is_sgr_spec K d_2 d_3 r_5 h_6) (by kernel_rfl) calls_nil) 3 [0, 3, 23] [0, 1, 2] ⟨[(0, .c (.h 0)), (3, .c (.h 2)), (23, cB true)], [(0, .row kP l_1), (1, .row kE d_3), (2, .box [.val (.int .i64 d_2), .h 1])], 3⟩ [(!r_5) = true] (by kernel_rfl) rfl rfl (ap1 b_7) (by kernel_rfl) (by kernel_rfl) ?_
      have H_65 := Option.some.inj (show some true = some q_58 from H_63); subst H_65
      refine VL_nil ?_
      exact QP_end true rfl [(2, 2)] hn (by kernel_rfl) (by kernel_rfl) rfl rfl rfl
    · have H_64 := of_f H_62 b_7
      rcases Bool.eq_false_or_eq_true (((lnI l_1) == (0 : Int))) with b_9 | b_9
      · have H_66 := of_t H_64 b_9
        refine V_reg hN hn [(1, ⟨36, 1, [.agg [.val (.int .i64 d_2), .h 0]], [(0, .row kE d_3)], cB r_5, [(0, .row kE d_3)], [(0, 1)], 3⟩)] [(13, false), (18, true)] (calls_cons (delta_Is_sgr_spec K d_2 d_3 r_5 h_6) (by kernel_rfl) calls_nil) 3 [0, 3, 23] [0, 1, 2] ⟨[(0, .c (.h 0)), (3, .c (.h 2)), (23, cB true)], [(0, .row kP l_1), (1, .row kE d_3), (2, .box [.val (.int .i64 d_2), .h 1])], 3⟩ [(!r_5) = false, ((lnI l_1) == (0 : Int)) = true] (by kernel_rfl) rfl rfl (ap2 b_7 (ap1 b_9)) (by kernel_rfl) (by kernel_rfl) ?_
        have H_68 := Option.some.inj (show some true = some q_58 from H_66); subst H_68
        refine VL_nil ?_
        exact QP_end true rfl [(2, 2)] hn (by kernel_rfl) (by kernel_rfl) rfl rfl rfl
      · have H_67 := of_f H_64 b_9
        obtain ⟨r_11, h_12, H_69⟩ := of_bind H_67
        refine V_reg hN hn [(1, ⟨36, 1, [.agg [.val (.int .i64 d_2), .h 0]], [(0, .row kE d_3)], cB r_5, [(0, .row kE d_3)], [(0, 1)], 3⟩), (11, ⟨27, 3, [.c (.h 0), .c (.clo 37 [1])], [(0, .row kP l_1), (1, .box [.val (.int .i64 d_2), .h 2]), (2, .row kE d_3)], cB r_11, [(0, .row kP l_1), (1, .box [.val (.int .i64 d_2), .h 2]), (2, .row kE d_3)], [(0, 0), (1, 2), (2, 1)], 3⟩)] [(13, false), (18, false)] (calls_cons (delta_Is_sgr_spec K d_2 d_3 r_5 h_6) (by kernel_rfl) (calls_cons (region_every_rcregionMove1_44133_spec K l_1 d_2 d_3 r_11 h_12) (by kernel_rfl) calls_nil)) 3 [0, 3, 23] [0, 1, 2] ⟨[(0, .c (.h 0)), (3, .c (.h 2)), (23, cB (!r_11))], [(0, .row kP l_1), (1, .row kE d_3), (2, .box [.val (.int .i64 d_2), .h 1])], 3⟩ [(!r_5) = false, ((lnI l_1) == (0 : Int)) = false] (by kernel_rfl) rfl rfl (ap2 b_7 (ap1 b_9)) (by kernel_rfl) (by kernel_rfl) ?_
        have H_70 := Option.some.inj (show some (!r_11) = some q_58 from H_69); subst H_70
        refine VL_nil ?_
        exact QP_end (!r_11) rfl [(2, 2)] hn (by kernel_rfl) (by kernel_rfl) rfl rfl rfl
  · intro y_61 hy; subst hy
    skip
    skip
    refine VL_cond (y_61) (by kernel_rfl) ?_ ?_
    · intro b_15; have H_71 := of_t H_60 b_15
      refine V_run hN hn 2 3 [4, 5] [0, 1] ⟨[(4, .c (.val (.slice none 0 0))), (5, cI (12 : Int))], [(0, .row kP l_1), (1, .row kE d_3)], 3⟩ [] (by kernel_rfl) rfl rfl ap0 ?_
      have H_73 := Option.some.inj (show some (([] : List (Int × Int)), (12 : Int)) = some r from H_71); subst H_73
      refine VL_ret ?_
      refine P_ghost [.nilSlot 4 kP] 3 hn [4, 5] [0, 1, 3] ⟨[(4, .c (.h 3)), (5, cI (12 : Int))], [(0, .row kP l_1), (1, .row kE d_3), (3, .row kP ([] : List (Int × Int)))], 4⟩ (by kernel_rfl) rfl rfl ?_
      exact P_to [(4, .c (.h 9)), (5, cI (12 : Int))] [(0, .row kP l_1), (1, .row kE d_3), (9, .row kP ([] : List (Int × Int)))] [(9, 3)] hn (by kernel_rfl) (by kernel_rfl) rfl rfl rfl (QF_retS (by kernel_rfl) (by kernel_rfl) rfl)
    · intro b_15; have H_72 := of_f H_60 b_15
      refine V_run hN hn 3 3 [0, 3, 23] [0, 1, 2] ⟨[(0, .c (.h 0)), (3, .c (.h 2)), (23, cB y_61)], [(0, .row kP l_1), (1, .row kE d_3), (2, .box [.val (.int .i64 d_2), .h 1])], 3⟩ [] (by kernel_rfl) rfl rfl ap0 ?_
      obtain ⟨r_18, h_19, H_74⟩ := of_bind H_72
      refine V_reg hN hn [(1, ⟨26, 1, [.c (.h 0)], [(0, .row kP l_1)], cI r_18, [(0, .row kP l_1)], [(0, 0)], 3⟩)] [] (calls_cons (region_count_r_spec K l_1 r_18 h_19) (by kernel_rfl) calls_nil) 3 [0, 3, 6] [0, 1, 2] ⟨[(0, .c (.h 0)), (3, .c (.h 2)), (6, cI r_18)], [(0, .row kP l_1), (1, .row kE d_3), (2, .box [.val (.int .i64 d_2), .h 1])], 3⟩ [] (by kernel_rfl) rfl rfl ap0 (by kernel_rfl) (by kernel_rfl) ?_
      refine V_run hN hn 2 3 [0, 3, 6, 27] [0, 1, 2] ⟨[(0, .c (.h 0)), (3, .c (.h 2)), (6, cI r_18), (27, cB (r_18 != (0 : Int)))], [(0, .row kP l_1), (1, .row kE d_3), (2, .box [.val (.int .i64 d_2), .h 1])], 3⟩ [] (by kernel_rfl) rfl rfl ap0 ?_
      refine VL_cond ((r_18 != (0 : Int))) (by kernel_rfl) ?_ ?_
      · intro b_22; have H_75 := of_t H_74 b_22
        refine V_run hN hn 2 3 [4, 5] [0, 1] ⟨[(4, .c (.val (.slice none 0 0))), (5, cI r_18)], [(0, .row kP l_1), (1, .row kE d_3)], 3⟩ [] (by kernel_rfl) rfl rfl ap0 ?_
        have H_77 := Option.some.inj (show some (([] : List (Int × Int)), r_18) = some r from H_75); subst H_77
        refine VL_ret ?_
        refine P_ghost [.nilSlot 4 kP] 3 hn [4, 5] [0, 1, 3] ⟨[(4, .c (.h 3)), (5, cI r_18)], [(0, .row kP l_1), (1, .row kE d_3), (3, .row kP ([] : List (Int × Int)))], 4⟩ (by kernel_rfl) rfl rfl ?_
        exact P_to [(4, .c (.h 9)), (5, cI r_18)] [(0, .row kP l_1), (1, .row kE d_3), (9, .row kP ([] : List (Int × Int)))] [(9, 3)] hn (by kernel_rfl) (by kernel_rfl) rfl rfl rfl (QF_retS (by kernel_rfl) (by kernel_rfl) rfl)
      · intro b_22; have H_76 := of_f H_74 b_22
        refine V_run hN hn 6 3 [3, 7, 29, 30, 31] [0, 1, 2] ⟨[(3, .c (.h 2)), (7, .c (.val (.slice none 0 0))), (29, .c (.h 0)), (30, cI (lnI l_1)), (31, cI (0 : Int))], [(0, .row kP l_1), (1, .row kE d_3), (2, .box [.val (.int .i64 d_2), .h 1])], 3⟩ [] (by kernel_rfl) rfl rfl ap0 ?_
        obtain ⟨q_78, H_79, H_80⟩ := of_bind H_76
        refine V_cut (Y := (List (Int × Int))) (R := (List (Int × Int))) q_78 (fun y => y) (fun y => [(7, .c (.h 7))]) (fun y => [(0, .row kP l_1), (1, .row kE d_3), (7, .row kP y)]) ?_ ?_
        · skip
          refine VL_block ?_
          refine V_ghost [.nilSlot 7 kP] 3 hn [3, 7, 29, 30, 31] [0, 1, 2, 3] ⟨[(3, .c (.h 2)), (7, .c (.h 3)), (29, .c (.h 0)), (30, cI (lnI l_1)), (31, cI (0 : Int))], [(0, .row kP l_1), (1, .row kE d_3), (2, .box [.val (.int .i64 d_2), .h 1]), (3, .row kP ([] : List (Int × Int)))], 4⟩ (by kernel_rfl) rfl rfl ?_
          refine V_to [(3, .c (.h 2)), (7, .c (.h 7)), (29, .c (.h 0)), (30, cI (lnI l_1)), (31, cI (0 : Int))] [(0, .row kP l_1), (1, .row kE d_3), (2, .box [.val (.int .i64 d_2), .h 1]), (7, .row kP ([] : List (Int × Int)))] [(2, 2), (7, 3)] hn (by kernel_rfl) (by kernel_rfl) rfl rfl rfl ?_
          refine VL_loop (X := ((List (Int × Int)) × Int)) (fun x => [(3, .c (.h 2)), (7, .c (.h 7)), (29, .c (.h 0)), (30, cI (lnI l_1)), (31, cI x.2)]) (fun x => [(0, .row kP l_1), (1, .row kE d_3), (2, .box [.val (.int .i64 d_2), .h 1]), (7, .row kP x.1)]) (fun k x => region_Move_rsgg.l0 K l_1 d_2 d_3 k x.1 x.2 = some q_78) K (([] : List (Int × Int)), (0 : Int)) H_79 (fun _ h => no_none h) ?_
          intro k_38 x_38 H_82
          obtain ⟨out_37, t_25⟩ := x_38
          have H_83 : region_Move_rsgg.l0 K l_1 d_2 d_3 (k_38 + 1) out_37 t_25 = some q_78 := H_82
          rw [region_Move_rsgg.l0] at H_83
          refine V_run hN hn 3 8 [3, 7, 29, 30, 31, 32] [0, 1, 2, 7] ⟨[(3, .c (.h 2)), (7, .c (.h 7)), (29, .c (.h 0)), (30, cI (lnI l_1)), (31, cI t_25), (32, cB (decide (t_25 < (lnI l_1))))], [(0, .row kP l_1), (1, .row kE d_3), (2, .box [.val (.int .i64 d_2), .h 1]), (7, .row kP out_37)], 8⟩ [] (by kernel_rfl) rfl rfl ap0 ?_
          refine VL_cond ((decide (t_25 < (lnI l_1)))) (by kernel_rfl) ?_ ?_
          · intro b_40; have H_84 := of_t H_83 b_40
            refine V_run hN hn 2 8 [3, 7, 29, 30, 31, 32] [0, 1, 2, 7] ⟨[(3, .c (.h 2)), (7, .c (.h 7)), (29, .c (.h 0)), (30, cI (lnI l_1)), (31, cI t_25), (32, cB (decide (t_25 < (lnI l_1))))], [(0, .row kP l_1), (1, .row kE d_3), (2, .box [.val (.int .i64 d_2), .h 1]), (7, .row kP out_37)], 8⟩ [] (by kernel_rfl) rfl rfl ap0 ?_
            refine VL_block ?_
            obtain ⟨c_42, H_86⟩ := of_if H_84
            refine V_run hN hn 2 8 [3, 7, 9, 29, 30, 31] [0, 1, 2, 7, 8] ⟨[(3, .c (.h 2)), (7, .c (.h 7)), (9, .c (.h 8)), (29, .c (.h 0)), (30, cI (lnI l_1)), (31, cI t_25)], [(0, .row kP l_1), (1, .row kE d_3), (2, .box [.val (.int .i64 d_2), .h 1]), (7, .row kP out_37), (8, .box [.val (.int .i64 (List.getD l_1 (Int.toNat t_25) zP).1), .val (.int .i64 (List.getD l_1 (Int.toNat t_25) zP).2)])], 9⟩ [0 ≤ t_25, t_25 < (lnI l_1)] (by kernel_rfl) rfl rfl (ap2 c_42.1 (ap1 c_42.2)) ?_
            obtain ⟨r_43, h_44, H_87⟩ := of_bind H_86
            obtain ⟨r_45, h_46, H_88⟩ := of_bind H_87
            obtain ⟨c_47, H_89⟩ := of_if H_88
            refine V_draw hN hn (by kernel_rfl) [(4, ⟨39, 1, [.agg [.val (.int .i64 d_2), .h 0], .c (.val (.int .i64 (List.getD l_1 (Int.toNat t_25) zP).1)), cB true], [(0, .row kE d_3)], cI r_43, [(0, .row kE d_3)], [(0, 1)], 9⟩), (8, ⟨39, 1, [.agg [.val (.int .i64 d_2), .h 0], .c (.val (.int .i64 (List.getD l_1 (Int.toNat t_25) zP).2)), cB true], [(0, .row kE d_3)], cI r_45, [(0, .row kE d_3)], [(0, 1)], 9⟩)] [] (calls_cons (offset_Move_sgrgg_spec K d_2 d_3 (List.getD l_1 (Int.toNat t_25) zP).1 true r_43 h_44) (by kernel_rfl) (calls_cons (offset_Move_sgrgg_spec K d_2 d_3 (List.getD l_1 (Int.toNat t_25) zP).2 true r_45 h_46) (by kernel_rfl) calls_nil)) 9 [3, 7, 29, 30, 31] [0, 1, 2, 10] ⟨[(3, .c (.h 2)), (7, .c (.h 10)), (29, .c (.h 0)), (30, cI (lnI l_1)), (31, cI t_25)], [(0, .row kP l_1), (1, .row kE d_3), (2, .box [.val (.int .i64 d_2), .h 1]), (10, .row kP (out_37 ++ ([(r_43, r_45)] : List (Int × Int))))], 11⟩ [(List.length out_37 + List.length ([(r_43, r_45)] : List (Int × Int))) * 16 ≤ 140737488355328] (by kernel_rfl) rfl rfl (ap1 c_47) (by kernel_rfl) (by kernel_rfl) ?_
            refine VL_nil (QB_end ?_)
            refine V_run hN hn 1 11 [3, 7, 29, 30, 31] [0, 1, 2, 10] ⟨[(3, .c (.h 2)), (7, .c (.h 10)), (29, .c (.h 0)), (30, cI (lnI l_1)), (31, cI (w6 (t_25 + (1 : Int))))], [(0, .row kP l_1), (1, .row kE d_3), (2, .box [.val (.int .i64 d_2), .h 1]), (10, .row kP (out_37 ++ ([(r_43, r_45)] : List (Int × Int))))], 11⟩ [] (by kernel_rfl) rfl rfl ap0 ?_
            refine VL_nil ?_
            exact V_roundEnd ((out_37 ++ ([(r_43, r_45)] : List (Int × Int))), (w6 (t_25 + (1 : Int)))) H_89 [(2, 2), (7, 10)] hn (by kernel_rfl) (by kernel_rfl) rfl rfl rfl
          · intro b_40; have H_85 := of_f H_83 b_40
            refine VL_exit ?_
            refine QL_exit ?_
            refine QB_here ?_
            have H_90 := Option.some.inj (show some out_37 = some q_78 from H_85); subst H_90
            refine VL_nil ?_
            exact QP_end out_37 rfl [(7, 7)] hn (by kernel_rfl) (by kernel_rfl) rfl rfl rfl
        · intro y_81 hy; subst hy
          skip
          skip
          refine V_run hN hn 1 8 [7] [0, 1, 7] ⟨[(7, .c (.h 7))], [(0, .row kP l_1), (1, .row kE d_3), (7, .row kP y_81)], 8⟩ [] (by kernel_rfl) rfl rfl ap0 ?_
          refine V_ghost [.shut 7] 8 hn [7] [0, 1] ⟨[(7, .c (.imm (.slice kP) y_81))], [(0, .row kP l_1), (1, .row kE d_3)], 8⟩ (by kernel_rfl) rfl rfl ?_
          obtain ⟨r_51, h_52, H_91⟩ := of_bind H_80
          refine V_reg hN hn [(1, ⟨30, 0, [.c (.imm (.slice kP) y_81)], [], .c (.h 1), [(1, .row kP r_51)], [(1, 8)], 9⟩)] [] (calls_cons (region_apart_spec K y_81 r_51 h_52) (by kernel_rfl) calls_nil) 8 [4, 5] [0, 1, 8] ⟨[(4, .c (.h 8)), (5, cI (0 : Int))], [(0, .row kP l_1), (1, .row kE d_3), (8, .row kP r_51)], 9⟩ [] (by kernel_rfl) rfl rfl ap0 (by kernel_rfl) (by kernel_rfl) ?_
          have H_92 := Option.some.inj (show some (r_51, (0 : Int)) = some r from H_91); subst H_92
          refine VL_ret ?_
          exact P_to [(4, .c (.h 9)), (5, cI (0 : Int))] [(0, .row kP l_1), (1, .row kE d_3), (9, .row kP r_51)] [(9, 8)] hn (by kernel_rfl) (by kernel_rfl) rfl rfl rfl (QF_retS (by kernel_rfl) (by kernel_rfl) rfl)

theorem palinodelaw24_RegionMoves_spec (K : Nat) (s_1 : ByteArray) (l_2 : (List (Int × Int))) (c_3 : (List (Int × (Int × ByteArray)))) (r : Bool) (H : palinodelaw24_RegionMoves K s_1 l_2 c_3 = some r) : Spec Try.prog 7 0 [cS s_1, .c (.imm (.slice kP) l_2), .c (.imm (.slice kE) c_3)] [] (cB r) [] := by
  refine Spec_mk (fn := Try.f7) (c := (Try.f7.body).get!) Try.func7 (by kernel_rfl) rfl ?_
  intro C hN hn
  replace hN : C.N = 137 := hN
  unfold palinodelaw24_RegionMoves at H
  refine V_run hN hn 4 0 [0, 1, 2] [] ⟨[(0, cS s_1), (1, .c (.imm (.slice kP) l_2)), (2, .c (.imm (.slice kE) c_3))], [], 0⟩ [] (by kernel_rfl) rfl rfl ap0 ?_
  obtain ⟨r_5, h_6, H_96⟩ := of_bind H
  refine V_reg hN hn [(0, ⟨8, 0, [], [], cB r_5, [], [], 0⟩)] [] (calls_cons (palinodelaw24_known_spec K  r_5 h_6) (by kernel_rfl) calls_nil) 0 [0, 1, 2, 19] [] ⟨[(0, cS s_1), (1, .c (.imm (.slice kP) l_2)), (2, .c (.imm (.slice kE) c_3)), (19, cB (!r_5))], [], 0⟩ [] (by kernel_rfl) rfl rfl ap0 (by kernel_rfl) (by kernel_rfl) ?_
  refine VL_cond ((!r_5)) (by kernel_rfl) ?_ ?_
  · intro b_8; have H_97 := of_t H_96 b_8
    refine V_run hN hn 2 0 [6] [] ⟨[(6, cB false)], [], 0⟩ [] (by kernel_rfl) rfl rfl ap0 ?_
    have H_99 := Option.some.inj (show some false = some r from H_97); subst H_99
    refine VL_ret ?_
    exact P_to [(6, cB false)] [] [] hn (by kernel_rfl) (by kernel_rfl) rfl rfl rfl (QF_retS (by kernel_rfl) (by kernel_rfl) rfl)
  · intro b_8; have H_98 := of_f H_96 b_8
    refine V_run hN hn 3 0 [0, 1, 2, 19] [] ⟨[(0, cS s_1), (1, .c (.imm (.slice kP) l_2)), (2, .c (.imm (.slice kE) c_3)), (19, cB (!r_5))], [], 0⟩ [] (by kernel_rfl) rfl rfl ap0 ?_
    obtain ⟨q_100, H_101, H_102⟩ := of_bind H_98
    refine V_cut (Y := Bool) (R := Bool) q_100 (fun y => y) (fun y => [(0, cS s_1), (1, .c (.imm (.slice kP) l_2)), (2, .c (.imm (.slice kE) c_3)), (37, cB y)]) (fun y => []) ?_ ?_
    · skip
      rcases Bool.eq_false_or_eq_true ((decide ((((ByteArray.size s_1) : Nat) : Int) > (150 : Int)))) with b_11 | b_11
      · have H_104 := of_t H_101 b_11
        refine V_reg hN hn [] [(23, true)] calls_nil 0 [0, 1, 2, 37] [] ⟨[(0, cS s_1), (1, .c (.imm (.slice kP) l_2)), (2, .c (.imm (.slice kE) c_3)), (37, cB true)], [], 0⟩ [(decide ((((ByteArray.size s_1) : Nat) : Int) > (150 : Int))) = true] (by kernel_rfl) rfl rfl (ap1 b_11) (by kernel_rfl) (by kernel_rfl) ?_
        have H_106 := Option.some.inj (show some true = some q_100 from H_104); subst H_106
        refine VL_nil ?_
        exact QP_end true rfl [] hn (by kernel_rfl) (by kernel_rfl) rfl rfl rfl
      · have H_105 := of_f H_101 b_11
        rcases Bool.eq_false_or_eq_true ((decide ((lnI l_2) > (8 : Int)))) with b_13 | b_13
        · have H_107 := of_t H_105 b_13
          refine V_reg hN hn [] [(23, false), (28, true)] calls_nil 0 [0, 1, 2, 37] [] ⟨[(0, cS s_1), (1, .c (.imm (.slice kP) l_2)), (2, .c (.imm (.slice kE) c_3)), (37, cB true)], [], 0⟩ [(decide ((((ByteArray.size s_1) : Nat) : Int) > (150 : Int))) = false, (decide ((lnI l_2) > (8 : Int))) = true] (by kernel_rfl) rfl rfl (ap2 b_11 (ap1 b_13)) (by kernel_rfl) (by kernel_rfl) ?_
          have H_109 := Option.some.inj (show some true = some q_100 from H_107); subst H_109
          refine VL_nil ?_
          exact QP_end true rfl [] hn (by kernel_rfl) (by kernel_rfl) rfl rfl rfl
        · have H_108 := of_f H_105 b_13
          rcases Bool.eq_false_or_eq_true ((decide ((lnI c_3) > (8 : Int)))) with b_15 | b_15
          · have H_110 := of_t H_108 b_15
            refine V_reg hN hn [] [(23, false), (28, false), (33, true)] calls_nil 0 [0, 1, 2, 37] [] ⟨[(0, cS s_1), (1, .c (.imm (.slice kP) l_2)), (2, .c (.imm (.slice kE) c_3)), (37, cB true)], [], 0⟩ [(decide ((((ByteArray.size s_1) : Nat) : Int) > (150 : Int))) = false, (decide ((lnI l_2) > (8 : Int))) = false, (decide ((lnI c_3) > (8 : Int))) = true] (by kernel_rfl) rfl rfl (ap2 b_11 (ap2 b_13 (ap1 b_15))) (by kernel_rfl) (by kernel_rfl) ?_
            have H_112 := Option.some.inj (show some true = some q_100 from H_110); subst H_112
            refine VL_nil ?_
            exact QP_end true rfl [] hn (by kernel_rfl) (by kernel_rfl) rfl rfl rfl
          · have H_111 := of_f H_108 b_15
            obtain ⟨r_17, h_18, H_113⟩ := of_bind H_111
            refine V_reg hN hn [(15, ⟨22, 0, [cS s_1], [], cB r_17, [], [], 0⟩)] [(23, false), (28, false), (33, false)] (calls_cons (palinoderef1_Valid_spec K s_1 r_17 h_18) (by kernel_rfl) calls_nil) 0 [0, 1, 2, 37] [] ⟨[(0, cS s_1), (1, .c (.imm (.slice kP) l_2)), (2, .c (.imm (.slice kE) c_3)), (37, cB (!r_17))], [], 0⟩ [(decide ((((ByteArray.size s_1) : Nat) : Int) > (150 : Int))) = false, (decide ((lnI l_2) > (8 : Int))) = false, (decide ((lnI c_3) > (8 : Int))) = false] (by kernel_rfl) rfl rfl (ap2 b_11 (ap2 b_13 (ap1 b_15))) (by kernel_rfl) (by kernel_rfl) ?_
            have H_114 := Option.some.inj (show some (!r_17) = some q_100 from H_113); subst H_114
            refine VL_nil ?_
            exact QP_end (!r_17) rfl [] hn (by kernel_rfl) (by kernel_rfl) rfl rfl rfl
    · intro y_103 hy; subst hy
      skip
      skip
      refine VL_cond (y_103) (by kernel_rfl) ?_ ?_
      · intro b_21; have H_115 := of_t H_102 b_21
        refine V_run hN hn 2 0 [6] [] ⟨[(6, cB true)], [], 0⟩ [] (by kernel_rfl) rfl rfl ap0 ?_
        have H_117 := Option.some.inj (show some true = some r from H_115); subst H_117
        refine VL_ret ?_
        exact P_to [(6, cB true)] [] [] hn (by kernel_rfl) (by kernel_rfl) rfl rfl rfl (QF_retS (by kernel_rfl) (by kernel_rfl) rfl)
      · intro b_21; have H_116 := of_f H_102 b_21
        refine V_run hN hn 4 0 [0, 1, 2, 7] [] ⟨[(0, cS s_1), (1, .c (.imm (.slice kP) l_2)), (2, .c (.imm (.slice kE) c_3)), (7, cI (0 : Int))], [], 0⟩ [] (by kernel_rfl) rfl rfl ap0 ?_
        obtain ⟨q_118, H_119, H_120⟩ := of_bind H_116
        refine V_cut (Y := Unit) (R := (Bool ⊕ Unit)) q_118 (fun y => (Sum.inr y)) (fun y => [(0, cS s_1), (1, .c (.imm (.slice kP) l_2)), (2, .c (.imm (.slice kE) c_3))]) (fun y => []) ?_ ?_
        · skip
          refine VL_block ?_
          refine V_to [(0, cS s_1), (1, .c (.imm (.slice kP) l_2)), (2, .c (.imm (.slice kE) c_3)), (7, cI (0 : Int))] [] [] hn (by kernel_rfl) (by kernel_rfl) rfl rfl rfl ?_
          refine VL_loop (X := Int) (fun x => [(0, cS s_1), (1, .c (.imm (.slice kP) l_2)), (2, .c (.imm (.slice kE) c_3)), (7, cI x)]) (fun x => []) (fun k x => palinodelaw24_RegionMoves.l0 K c_3 s_1 k x = some q_118) K (0 : Int) H_119 (fun _ h => no_none h) ?_
          intro k_25 i_24 H_122
          have H_123 : palinodelaw24_RegionMoves.l0 K c_3 s_1 (k_25 + 1) i_24 = some q_118 := H_122
          rw [palinodelaw24_RegionMoves.l0] at H_123
          refine V_run hN hn 3 0 [0, 1, 2, 7, 41] [] ⟨[(0, cS s_1), (1, .c (.imm (.slice kP) l_2)), (2, .c (.imm (.slice kE) c_3)), (7, cI i_24), (41, cB (decide (i_24 < (lnI c_3))))], [], 0⟩ [] (by kernel_rfl) rfl rfl ap0 ?_
          refine VL_cond ((decide (i_24 < (lnI c_3)))) (by kernel_rfl) ?_ ?_
          · intro b_27; have H_124 := of_t H_123 b_27
            refine V_run hN hn 2 0 [0, 1, 2, 7, 41] [] ⟨[(0, cS s_1), (1, .c (.imm (.slice kP) l_2)), (2, .c (.imm (.slice kE) c_3)), (7, cI i_24), (41, cB (decide (i_24 < (lnI c_3))))], [], 0⟩ [] (by kernel_rfl) rfl rfl ap0 ?_
            refine VL_block ?_
            refine V_run hN hn 1 0 [0, 1, 2, 7, 41] [] ⟨[(0, cS s_1), (1, .c (.imm (.slice kP) l_2)), (2, .c (.imm (.slice kE) c_3)), (7, cI i_24), (41, cB (decide (i_24 < (lnI c_3))))], [], 0⟩ [] (by kernel_rfl) rfl rfl ap0 ?_
            obtain ⟨q_126, H_127, H_128⟩ := of_bind H_124
            refine V_cut (Y := Bool) (R := Bool) q_126 (fun y => y) (fun y => [(0, cS s_1), (1, .c (.imm (.slice kP) l_2)), (2, .c (.imm (.slice kE) c_3)), (7, cI i_24), (70, cB y)]) (fun y => []) ?_ ?_
            · skip
              rcases Bool.eq_false_or_eq_true ((decide ((((ByteArray.size (List.getD c_3 (Int.toNat i_24) zE).2.2) : Nat) : Int) > (40 : Int)))) with b_30 | b_30
              · have H_130 := of_t H_127 b_30
                obtain ⟨c_31, H_132⟩ := of_if H_130
                refine V_reg hN hn [] [(51, true)] calls_nil 0 [0, 1, 2, 7, 70] [] ⟨[(0, cS s_1), (1, .c (.imm (.slice kP) l_2)), (2, .c (.imm (.slice kE) c_3)), (7, cI i_24), (70, cB true)], [], 0⟩ [0 ≤ i_24, i_24 < (lnI c_3), (decide ((((ByteArray.size (List.getD c_3 (Int.toNat i_24) zE).2.2) : Nat) : Int) > (40 : Int))) = true] (by kernel_rfl) rfl rfl (ap2 c_31.1 (ap2 c_31.2 (ap1 b_30))) (by kernel_rfl) (by kernel_rfl) ?_
                have H_133 := Option.some.inj (show some true = some q_126 from H_132); subst H_133
                refine VL_nil ?_
                exact QP_end true rfl [] hn (by kernel_rfl) (by kernel_rfl) rfl rfl rfl
              · have H_131 := of_f H_127 b_30
                obtain ⟨r_32, h_33, H_134⟩ := of_bind H_131
                rcases Bool.eq_false_or_eq_true ((!r_32)) with b_34 | b_34
                · have H_135 := of_t H_134 b_34
                  obtain ⟨c_35, H_137⟩ := of_if H_135
                  refine V_reg hN hn [(14, ⟨23, 0, [cS s_1, .c (.val (.int .i64 (List.getD c_3 (Int.toNat i_24) zE).1))], [], cB r_32, [], [], 0⟩)] [(51, false), (61, true)] (calls_cons (palinoderef1_IsEdge_spec K s_1 (List.getD c_3 (Int.toNat i_24) zE).1 r_32 h_33) (by kernel_rfl) calls_nil) 0 [0, 1, 2, 7, 70] [] ⟨[(0, cS s_1), (1, .c (.imm (.slice kP) l_2)), (2, .c (.imm (.slice kE) c_3)), (7, cI i_24), (70, cB true)], [], 0⟩ [0 ≤ i_24, i_24 < (lnI c_3), (decide ((((ByteArray.size (List.getD c_3 (Int.toNat i_24) zE).2.2) : Nat) : Int) > (40 : Int))) = false, 0 ≤ i_24, i_24 < (lnI c_3), (!r_32) = true] (by kernel_rfl) rfl rfl (ap2 c_35.1 (ap2 c_35.2 (ap2 b_30 (ap2 c_35.1 (ap2 c_35.2 (ap1 b_34)))))) (by kernel_rfl) (by kernel_rfl) ?_
                  have H_138 := Option.some.inj (show some true = some q_126 from H_137); subst H_138
                  refine VL_nil ?_
                  exact QP_end true rfl [] hn (by kernel_rfl) (by kernel_rfl) rfl rfl rfl
                · have H_136 := of_f H_134 b_34
                  obtain ⟨r_36, h_37, H_139⟩ := of_bind H_136
                  obtain ⟨c_38, H_140⟩ := of_if H_139
                  refine V_reg hN hn [(14, ⟨23, 0, [cS s_1, .c (.val (.int .i64 (List.getD c_3 (Int.toNat i_24) zE).1))], [], cB r_32, [], [], 0⟩), (24, ⟨23, 0, [cS s_1, .c (.val (.int .i64 (List.getD c_3 (Int.toNat i_24) zE).2.1))], [], cB r_36, [], [], 0⟩)] [(51, false), (61, false)] (calls_cons (palinoderef1_IsEdge_spec K s_1 (List.getD c_3 (Int.toNat i_24) zE).1 r_32 h_33) (by kernel_rfl) (calls_cons (palinoderef1_IsEdge_spec K s_1 (List.getD c_3 (Int.toNat i_24) zE).2.1 r_36 h_37) (by kernel_rfl) calls_nil)) 0 [0, 1, 2, 7, 70] [] ⟨[(0, cS s_1), (1, .c (.imm (.slice kP) l_2)), (2, .c (.imm (.slice kE) c_3)), (7, cI i_24), (70, cB (!r_36))], [], 0⟩ [0 ≤ i_24, i_24 < (lnI c_3), (decide ((((ByteArray.size (List.getD c_3 (Int.toNat i_24) zE).2.2) : Nat) : Int) > (40 : Int))) = false, 0 ≤ i_24, i_24 < (lnI c_3), (!r_32) = false, 0 ≤ i_24, i_24 < (lnI c_3)] (by kernel_rfl) rfl rfl (ap2 c_38.1 (ap2 c_38.2 (ap2 b_30 (ap2 c_38.1 (ap2 c_38.2 (ap2 b_34 (ap2 c_38.1 (ap1 c_38.2)))))))) (by kernel_rfl) (by kernel_rfl) ?_
                  have H_141 := Option.some.inj (show some (!r_36) = some q_126 from H_140); subst H_141
                  refine VL_nil ?_
                  exact QP_end (!r_36) rfl [] hn (by kernel_rfl) (by kernel_rfl) rfl rfl rfl
            · intro y_129 hy; subst hy
              skip
              skip
              refine VL_cond (y_129) (by kernel_rfl) ?_ ?_
              · intro b_40; have H_142 := of_t H_128 b_40
                refine V_run hN hn 2 0 [6] [] ⟨[(6, cB true)], [], 0⟩ [] (by kernel_rfl) rfl rfl ap0 ?_
                have H_144 := Option.some.inj (show some (Sum.inl true) = some q_118 from H_142); subst H_144
                have H_145 := Option.some.inj (show some true = some r from H_120); subst H_145
                refine VL_ret ?_
                refine QB_ret ?_
                refine QL_ret ?_
                refine QB_ret ?_
                refine QP_ret ?_
                exact P_to [(6, cB true)] [] [] hn (by kernel_rfl) (by kernel_rfl) rfl rfl rfl (QF_retS (by kernel_rfl) (by kernel_rfl) rfl)
              · intro b_40; have H_143 := of_f H_128 b_40
                refine V_run hN hn 1 0 [0, 1, 2, 7, 70] [] ⟨[(0, cS s_1), (1, .c (.imm (.slice kP) l_2)), (2, .c (.imm (.slice kE) c_3)), (7, cI i_24), (70, cB y_129)], [], 0⟩ [] (by kernel_rfl) rfl rfl ap0 ?_
                refine VL_nil (QB_end ?_)
                refine V_run hN hn 1 0 [0, 1, 2, 7] [] ⟨[(0, cS s_1), (1, .c (.imm (.slice kP) l_2)), (2, .c (.imm (.slice kE) c_3)), (7, cI (w6 (i_24 + (1 : Int))))], [], 0⟩ [] (by kernel_rfl) rfl rfl ap0 ?_
                refine VL_nil ?_
                exact V_roundEnd (w6 (i_24 + (1 : Int))) H_143 [] hn (by kernel_rfl) (by kernel_rfl) rfl rfl rfl
          · intro b_27; have H_125 := of_f H_123 b_27
            refine VL_exit ?_
            refine QL_exit ?_
            refine QB_here ?_
            have H_146 := Option.some.inj (show some (Sum.inr ()) = some q_118 from H_125); subst H_146
            refine VL_nil ?_
            exact QP_end () rfl [] hn (by kernel_rfl) (by kernel_rfl) rfl rfl rfl
        · intro y_121 hy; subst hy
          skip
          refine V_run hN hn 1 0 [0, 1, 2] [] ⟨[(0, cS s_1), (1, .c (.imm (.slice kP) l_2)), (2, .c (.imm (.slice kE) c_3))], [], 0⟩ [] (by kernel_rfl) rfl rfl ap0 ?_
          obtain ⟨r_45, h_46, H_147⟩ := of_bind H_120
          refine V_reg hN hn [(2, ⟨9, 0, [.c (.imm (.slice kP) l_2), cS s_1], [], .tup [(false, [.h 3]), (false, [.val (.int .i64 r_45.2)])], [(3, .row kP r_45.1)], [(3, 0)], 1⟩)] [] (calls_cons (region_Make_spec K l_2 s_1 r_45 h_46) (by kernel_rfl) calls_nil) 0 [0, 2, 8, 9] [0] ⟨[(0, cS s_1), (2, .c (.imm (.slice kE) c_3)), (8, .c (.h 0)), (9, cI r_45.2)], [(0, .row kP r_45.1)], 1⟩ [] (by kernel_rfl) rfl rfl ap0 (by kernel_rfl) (by kernel_rfl) ?_
          refine V_run hN hn 1 1 [0, 2, 8, 9] [0] ⟨[(0, cS s_1), (2, .c (.imm (.slice kE) c_3)), (8, .c (.h 0)), (9, cI r_45.2)], [(0, .row kP r_45.1)], 1⟩ [] (by kernel_rfl) rfl rfl ap0 ?_
          obtain ⟨r_49, h_50, H_148⟩ := of_bind H_147
          refine V_reg hN hn [(3, ⟨13, 0, [cI (((ByteArray.size s_1) : Nat) : Int), .c (.imm (.slice kE) c_3)], [], .tup [(true, [.val (.int .i64 r_49.1), .imm (.slice kE) r_49.2.1]), (false, [.val (.int .i64 r_49.2.2)])], [], [], 1⟩)] [] (calls_cons (delta_Build_spec K (((ByteArray.size s_1) : Nat) : Int) c_3 r_49 h_50) (by kernel_rfl) calls_nil) 1 [0, 8, 9, 10, 11] [0, 1] ⟨[(0, cS s_1), (8, .c (.h 0)), (9, cI r_45.2), (10, .c (.h 1)), (11, cI r_49.2.2)], [(0, .row kP r_45.1), (1, .box [.val (.int .i64 r_49.1), .imm (.slice kE) r_49.2.1])], 2⟩ [] (by kernel_rfl) rfl rfl ap0 (by kernel_rfl) (by kernel_rfl) ?_
          refine V_run hN hn 2 2 [0, 8, 9, 10, 11] [0, 1] ⟨[(0, cS s_1), (8, .c (.h 0)), (9, cI r_45.2), (10, .c (.h 1)), (11, cI r_49.2.2)], [(0, .row kP r_45.1), (1, .box [.val (.int .i64 r_49.1), .imm (.slice kE) r_49.2.1])], 2⟩ [] (by kernel_rfl) rfl rfl ap0 ?_
          obtain ⟨q_149, H_150, H_151⟩ := of_bind H_148
          refine V_cut (Y := Bool) (R := Bool) q_149 (fun y => y) (fun y => [(0, cS s_1), (8, .c (.h 0)), (10, .c (.h 1)), (89, cB y)]) (fun y => [(0, .row kP r_45.1), (1, .box [.val (.int .i64 r_49.1), .imm (.slice kE) r_49.2.1])]) ?_ ?_
          · skip
            rcases Bool.eq_false_or_eq_true ((r_45.2 != (0 : Int))) with b_53 | b_53
            · have H_153 := of_t H_150 b_53
              refine V_reg hN hn [] [(86, true)] calls_nil 2 [0, 8, 10, 89] [0, 1] ⟨[(0, cS s_1), (8, .c (.h 0)), (10, .c (.h 1)), (89, cB true)], [(0, .row kP r_45.1), (1, .box [.val (.int .i64 r_49.1), .imm (.slice kE) r_49.2.1])], 2⟩ [(r_45.2 != (0 : Int)) = true] (by kernel_rfl) rfl rfl (ap1 b_53) (by kernel_rfl) (by kernel_rfl) ?_
              have H_155 := Option.some.inj (show some true = some q_149 from H_153); subst H_155
              refine VL_nil ?_
              exact QP_end true rfl [(0, 0), (1, 1)] hn (by kernel_rfl) (by kernel_rfl) rfl rfl rfl
            · have H_154 := of_f H_150 b_53
              refine V_reg hN hn [] [(86, false)] calls_nil 2 [0, 8, 10, 89] [0, 1] ⟨[(0, cS s_1), (8, .c (.h 0)), (10, .c (.h 1)), (89, cB (r_49.2.2 != (0 : Int)))], [(0, .row kP r_45.1), (1, .box [.val (.int .i64 r_49.1), .imm (.slice kE) r_49.2.1])], 2⟩ [(r_45.2 != (0 : Int)) = false] (by kernel_rfl) rfl rfl (ap1 b_53) (by kernel_rfl) (by kernel_rfl) ?_
              have H_156 := Option.some.inj (show some (r_49.2.2 != (0 : Int)) = some q_149 from H_154); subst H_156
              refine VL_nil ?_
              exact QP_end (r_49.2.2 != (0 : Int)) rfl [(0, 0), (1, 1)] hn (by kernel_rfl) (by kernel_rfl) rfl rfl rfl
          · intro y_152 hy; subst hy
            skip
            skip
            refine VL_cond (y_152) (by kernel_rfl) ?_ ?_
            · intro b_57; have H_157 := of_t H_151 b_57
              refine V_run hN hn 2 2 [6] [] ⟨[(6, cB true)], [], 2⟩ [] (by kernel_rfl) rfl rfl ap0 ?_
              have H_159 := Option.some.inj (show some true = some r from H_157); subst H_159
              refine VL_ret ?_
              exact P_to [(6, cB true)] [] [] hn (by kernel_rfl) (by kernel_rfl) rfl rfl rfl (QF_retS (by kernel_rfl) (by kernel_rfl) rfl)
            · intro b_57; have H_158 := of_f H_151 b_57
              refine V_run hN hn 2 2 [0, 8, 10, 89] [0, 1] ⟨[(0, cS s_1), (8, .c (.h 0)), (10, .c (.h 1)), (89, cB y_152)], [(0, .row kP r_45.1), (1, .box [.val (.int .i64 r_49.1), .imm (.slice kE) r_49.2.1])], 2⟩ [] (by kernel_rfl) rfl rfl ap0 ?_
              obtain ⟨r_60, h_61, H_160⟩ := of_bind H_158
              refine V_reg hN hn [(2, ⟨24, 0, [.agg [.val (.int .i64 r_49.1), .imm (.slice kE) r_49.2.1], cS s_1], [], .tup [(false, [.val (.string r_60.1)]), (false, [.val (.int .i64 r_60.2)])], [], [], 2⟩)] [] (calls_cons (delta_Apply_spec K r_49.1 r_49.2.1 s_1 r_60 h_61) (by kernel_rfl) calls_nil) 2 [0, 8, 10, 12, 13] [0, 1] ⟨[(0, cS s_1), (8, .c (.h 0)), (10, .c (.h 1)), (12, cS r_60.1), (13, cI r_60.2)], [(0, .row kP r_45.1), (1, .box [.val (.int .i64 r_49.1), .imm (.slice kE) r_49.2.1])], 2⟩ [] (by kernel_rfl) rfl rfl ap0 (by kernel_rfl) (by kernel_rfl) ?_
              refine V_run hN hn 1 2 [0, 8, 10, 12, 13] [0, 1] ⟨[(0, cS s_1), (8, .c (.h 0)), (10, .c (.h 1)), (12, cS r_60.1), (13, cI r_60.2)], [(0, .row kP r_45.1), (1, .box [.val (.int .i64 r_49.1), .imm (.slice kE) r_49.2.1])], 2⟩ [] (by kernel_rfl) rfl rfl ap0 ?_
              obtain ⟨r_64, h_65, H_161⟩ := of_bind H_160
              refine V_reg hN hn [(2, ⟨14, 1, [.c (.h 0), .agg [.val (.int .i64 r_49.1), .imm (.slice kE) r_49.2.1]], [(0, .row kP r_45.1)], .tup [(false, [.h 8]), (false, [.val (.int .i64 r_64.2)])], [(0, .row kP r_45.1), (8, .row kP r_64.1)], [(0, 0), (8, 2)], 3⟩)] [] (calls_cons (region_Move_rsgg_spec K r_45.1 r_49.1 r_49.2.1 r_64 h_65) (by kernel_rfl) calls_nil) 2 [0, 8, 12, 13, 14, 15] [0, 2] ⟨[(0, cS s_1), (8, .c (.h 0)), (12, cS r_60.1), (13, cI r_60.2), (14, .c (.h 2)), (15, cI r_64.2)], [(0, .row kP r_45.1), (2, .row kP r_64.1)], 3⟩ [] (by kernel_rfl) rfl rfl ap0 (by kernel_rfl) (by kernel_rfl) ?_
              refine V_run hN hn 1 3 [0, 8, 12, 13, 14, 15] [0, 2] ⟨[(0, cS s_1), (8, .c (.h 0)), (12, cS r_60.1), (13, cI r_60.2), (14, .c (.h 2)), (15, cI r_64.2)], [(0, .row kP r_45.1), (2, .row kP r_64.1)], 3⟩ [] (by kernel_rfl) rfl rfl ap0 ?_
              obtain ⟨r_68, h_69, H_162⟩ := of_bind H_161
              obtain ⟨r_70, h_71, H_163⟩ := of_bind H_162
              refine V_reg hN hn [(3, ⟨25, 0, [cI (((ByteArray.size s_1) : Nat) : Int)], [], .agg [.val (.int .i64 r_68.1), .h 2], [(2, .row kE r_68.2)], [(2, 3)], 4⟩), (4, ⟨14, 2, [.c (.h 0), .agg [.val (.int .i64 r_68.1), .h 1]], [(0, .row kP r_45.1), (1, .row kE r_68.2)], .tup [(false, [.h 9]), (false, [.val (.int .i64 r_70.2)])], [(0, .row kP r_45.1), (1, .row kE r_68.2), (9, .row kP r_70.1)], [(0, 0), (1, 3), (9, 4)], 5⟩)] [] (calls_cons (delta_Keep_spec K (((ByteArray.size s_1) : Nat) : Int) r_68 h_69) (by kernel_rfl) (calls_cons (region_Move_rsgr_spec K r_45.1 r_68.1 r_68.2 r_70 h_71) (by kernel_rfl) calls_nil)) 3 [8, 12, 13, 14, 15, 16, 17] [0, 2, 4] ⟨[(8, .c (.h 0)), (12, cS r_60.1), (13, cI r_60.2), (14, .c (.h 2)), (15, cI r_64.2), (16, .c (.h 4)), (17, cI r_70.2)], [(0, .row kP r_45.1), (2, .row kP r_64.1), (4, .row kP r_70.1)], 5⟩ [] (by kernel_rfl) rfl rfl ap0 (by kernel_rfl) (by kernel_rfl) ?_
              refine V_run hN hn 1 5 [8, 12, 13, 14, 15, 16, 17] [0, 2, 4] ⟨[(8, .c (.h 0)), (12, cS r_60.1), (13, cI r_60.2), (14, .c (.h 2)), (15, cI r_64.2), (16, .c (.h 4)), (17, cI r_70.2)], [(0, .row kP r_45.1), (2, .row kP r_64.1), (4, .row kP r_70.1)], 5⟩ [] (by kernel_rfl) rfl rfl ap0 ?_
              rcases Bool.eq_false_or_eq_true ((r_60.2 == (0 : Int))) with b_74 | b_74
              · have H_164 := of_t H_163 b_74
                rcases Bool.eq_false_or_eq_true ((r_64.2 == (0 : Int))) with b_75 | b_75
                · have H_166 := of_t H_164 b_75
                  obtain ⟨r_76, h_77, H_168⟩ := of_bind H_166
                  rcases Bool.eq_false_or_eq_true (r_76) with b_78 | b_78
                  · have H_169 := of_t H_168 b_78
                    rcases Bool.eq_false_or_eq_true ((decide ((lnI r_64.1) ≤ (lnI r_45.1)))) with b_79 | b_79
                    · have H_171 := of_t H_169 b_79
                      rcases Bool.eq_false_or_eq_true ((r_70.2 == (0 : Int))) with b_80 | b_80
                      · have H_173 := of_t H_171 b_80
                        obtain ⟨r_81, h_82, H_175⟩ := of_bind H_173
                        refine V_reg hN hn [(9, ⟨10, 1, [.c (.h 0), cS r_60.1], [(0, .row kP r_64.1)], cB r_76, [(0, .row kP r_64.1)], [(0, 2)], 5⟩), (25, ⟨11, 2, [.c (.h 0), .c (.h 1)], [(0, .row kP r_70.1), (1, .row kP r_45.1)], cB r_81, [(0, .row kP r_70.1), (1, .row kP r_45.1)], [(0, 4), (1, 0)], 5⟩)] [(112, true), (116, true), (121, true), (128, true), (132, true)] (calls_cons (region_Is_rg_spec K r_64.1 r_60.1 r_76 h_77) (by kernel_rfl) (calls_cons (palinodelaw24_same_rr_spec K r_70.1 r_45.1 r_81 h_82) (by kernel_rfl) calls_nil)) 5 [6] [] ⟨[(6, cB r_81)], [], 5⟩ [(r_60.2 == (0 : Int)) = true, (r_64.2 == (0 : Int)) = true, r_76 = true, (decide ((lnI r_64.1) ≤ (lnI r_45.1))) = true, (r_70.2 == (0 : Int)) = true] (by kernel_rfl) rfl rfl (ap2 b_74 (ap2 b_75 (ap2 b_78 (ap2 b_79 (ap1 b_80))))) (by kernel_rfl) (by kernel_rfl) ?_
                        have H_176 := Option.some.inj (show some r_81 = some r from H_175); subst H_176
                        refine VL_ret ?_
                        exact P_to [(6, cB r_81)] [] [] hn (by kernel_rfl) (by kernel_rfl) rfl rfl rfl (QF_retS (by kernel_rfl) (by kernel_rfl) rfl)
                      · have H_174 := of_f H_171 b_80
                        refine V_reg hN hn [(9, ⟨10, 1, [.c (.h 0), cS r_60.1], [(0, .row kP r_64.1)], cB r_76, [(0, .row kP r_64.1)], [(0, 2)], 5⟩)] [(112, true), (116, true), (121, true), (128, true), (132, false)] (calls_cons (region_Is_rg_spec K r_64.1 r_60.1 r_76 h_77) (by kernel_rfl) calls_nil) 5 [6] [] ⟨[(6, cB false)], [], 5⟩ [(r_60.2 == (0 : Int)) = true, (r_64.2 == (0 : Int)) = true, r_76 = true, (decide ((lnI r_64.1) ≤ (lnI r_45.1))) = true, (r_70.2 == (0 : Int)) = false] (by kernel_rfl) rfl rfl (ap2 b_74 (ap2 b_75 (ap2 b_78 (ap2 b_79 (ap1 b_80))))) (by kernel_rfl) (by kernel_rfl) ?_
                        have H_177 := Option.some.inj (show some false = some r from H_174); subst H_177
                        refine VL_ret ?_
                        exact P_to [(6, cB false)] [] [] hn (by kernel_rfl) (by kernel_rfl) rfl rfl rfl (QF_retS (by kernel_rfl) (by kernel_rfl) rfl)
                    · have H_172 := of_f H_169 b_79
                      refine V_reg hN hn [(9, ⟨10, 1, [.c (.h 0), cS r_60.1], [(0, .row kP r_64.1)], cB r_76, [(0, .row kP r_64.1)], [(0, 2)], 5⟩)] [(112, true), (116, true), (121, true), (128, false)] (calls_cons (region_Is_rg_spec K r_64.1 r_60.1 r_76 h_77) (by kernel_rfl) calls_nil) 5 [6] [] ⟨[(6, cB false)], [], 5⟩ [(r_60.2 == (0 : Int)) = true, (r_64.2 == (0 : Int)) = true, r_76 = true, (decide ((lnI r_64.1) ≤ (lnI r_45.1))) = false] (by kernel_rfl) rfl rfl (ap2 b_74 (ap2 b_75 (ap2 b_78 (ap1 b_79)))) (by kernel_rfl) (by kernel_rfl) ?_
                      have H_178 := Option.some.inj (show some false = some r from H_172); subst H_178
                      refine VL_ret ?_
                      exact P_to [(6, cB false)] [] [] hn (by kernel_rfl) (by kernel_rfl) rfl rfl rfl (QF_retS (by kernel_rfl) (by kernel_rfl) rfl)
                  · have H_170 := of_f H_168 b_78
                    refine V_reg hN hn [(9, ⟨10, 1, [.c (.h 0), cS r_60.1], [(0, .row kP r_64.1)], cB r_76, [(0, .row kP r_64.1)], [(0, 2)], 5⟩)] [(112, true), (116, true), (121, false)] (calls_cons (region_Is_rg_spec K r_64.1 r_60.1 r_76 h_77) (by kernel_rfl) calls_nil) 5 [6] [] ⟨[(6, cB false)], [], 5⟩ [(r_60.2 == (0 : Int)) = true, (r_64.2 == (0 : Int)) = true, r_76 = false] (by kernel_rfl) rfl rfl (ap2 b_74 (ap2 b_75 (ap1 b_78))) (by kernel_rfl) (by kernel_rfl) ?_
                    have H_179 := Option.some.inj (show some false = some r from H_170); subst H_179
                    refine VL_ret ?_
                    exact P_to [(6, cB false)] [] [] hn (by kernel_rfl) (by kernel_rfl) rfl rfl rfl (QF_retS (by kernel_rfl) (by kernel_rfl) rfl)
                · have H_167 := of_f H_164 b_75
                  refine V_reg hN hn [] [(112, true), (116, false)] calls_nil 5 [6] [] ⟨[(6, cB false)], [], 5⟩ [(r_60.2 == (0 : Int)) = true, (r_64.2 == (0 : Int)) = false] (by kernel_rfl) rfl rfl (ap2 b_74 (ap1 b_75)) (by kernel_rfl) (by kernel_rfl) ?_
                  have H_180 := Option.some.inj (show some false = some r from H_167); subst H_180
                  refine VL_ret ?_
                  exact P_to [(6, cB false)] [] [] hn (by kernel_rfl) (by kernel_rfl) rfl rfl rfl (QF_retS (by kernel_rfl) (by kernel_rfl) rfl)
              · have H_165 := of_f H_163 b_74
                refine V_reg hN hn [] [(112, false)] calls_nil 5 [6] [] ⟨[(6, cB false)], [], 5⟩ [(r_60.2 == (0 : Int)) = false] (by kernel_rfl) rfl rfl (ap1 b_74) (by kernel_rfl) (by kernel_rfl) ?_
                have H_181 := Option.some.inj (show some false = some r from H_165); subst H_181
                refine VL_ret ?_
                exact P_to [(6, cB false)] [] [] hn (by kernel_rfl) (by kernel_rfl) rfl rfl rfl (QF_retS (by kernel_rfl) (by kernel_rfl) rfl)

end Go.Pal
