/- The Go functions that CaretsWords reaches compute what the plain functions say: part 1, printed by a program of this workplace. -/
import Derived.Test.YtoennnfpnfaffaaChecked
import Derived.Test.YtoennnfpnfaffaaWalkCaretsWords0
namespace Go.Pal
open Go Go.Proofs
set_option maxRecDepth 100000
set_option linter.unusedVariables false

theorem carets_each_rgccaretsLines1_e11c4_spec (K : Nat) (l_1 : (List (Int × Int))) (s_2 : ByteArray) (does_3 : ByteArray) (r : ((List (Int × Int)) × Int)) (H : carets_each_rgccaretsLines1_e11c4 K l_1 s_2 does_3 = some r) : Spec Try.prog 27 2 [.c (.h 0), cS s_2, .c (.clo 33 [1])] [(0, .row kP l_1), (1, .box [.val (.string does_3)])] (.tup [(false, [.h 8]), (false, [.val (.int .i64 r.2)])]) [(0, .row kP l_1), (1, .box [.val (.string does_3)]), (8, .row kP r.1)] := by
  refine Spec_mk (fn := Try.f27) (c := (Try.f27.body).get!) Try.func27 (by kernel_rfl) rfl ?_
  intro C hN hn
  replace hN : C.N = 33 := hN
  unfold carets_each_rgccaretsLines1_e11c4 at H
  refine V_run hN hn 4 2 [0, 1, 2] [0, 1] ⟨[(0, .c (.h 0)), (1, cS s_2), (2, .c (.clo 33 [1]))], [(0, .row kP l_1), (1, .box [.val (.string does_3)])], 2⟩ [] (by kernel_rfl) rfl rfl ap0 ?_
  obtain ⟨r_5, h_6, H_39⟩ := of_bind H
  refine V_reg hN hn [(2, ⟨37, 1, [.c (.h 0), cS s_2], [(0, .row kP l_1)], cB r_5, [(0, .row kP l_1)], [(0, 0)], 2⟩)] [] (calls_cons (region_Is_rg_spec K l_1 s_2 r_5 h_6) (by kernel_rfl) calls_nil) 2 [0, 1, 2, 14] [0, 1] ⟨[(0, .c (.h 0)), (1, cS s_2), (2, .c (.clo 33 [1])), (14, cB (!r_5))], [(0, .row kP l_1), (1, .box [.val (.string does_3)])], 2⟩ [] (by kernel_rfl) rfl rfl ap0 (by kernel_rfl) (by kernel_rfl) ?_
  refine VL_cond ((!r_5)) (by kernel_rfl) ?_ ?_
  · intro b_8; have H_40 := of_t H_39 b_8
    refine V_run hN hn 2 2 [6, 7] [0, 1] ⟨[(6, .c (.val (.slice none 0 0))), (7, cI (12 : Int))], [(0, .row kP l_1), (1, .box [.val (.string does_3)])], 2⟩ [] (by kernel_rfl) rfl rfl ap0 ?_
    have H_42 := Option.some.inj (show some (([] : List (Int × Int)), (12 : Int)) = some r from H_40); subst H_42
    refine VL_ret ?_
    refine P_ghost [.nilSlot 6 kP] 2 hn [6, 7] [0, 1, 2] ⟨[(6, .c (.h 2)), (7, cI (12 : Int))], [(0, .row kP l_1), (1, .box [.val (.string does_3)]), (2, .row kP ([] : List (Int × Int)))], 3⟩ (by kernel_rfl) rfl rfl ?_
    exact P_to [(6, .c (.h 8)), (7, cI (12 : Int))] [(0, .row kP l_1), (1, .box [.val (.string does_3)]), (8, .row kP ([] : List (Int × Int)))] [(8, 2)] hn (by kernel_rfl) (by kernel_rfl) rfl rfl rfl (QF_retS (by kernel_rfl) (by kernel_rfl) rfl)
  · intro b_8; have H_41 := of_f H_39 b_8
    refine V_run hN hn 6 2 [1, 2, 8, 15, 16, 17] [0, 1] ⟨[(1, cS s_2), (2, .c (.clo 33 [1])), (8, .c (.val (.slice none 0 0))), (15, .c (.h 0)), (16, cI (lnI l_1)), (17, cI (0 : Int))], [(0, .row kP l_1), (1, .box [.val (.string does_3)])], 2⟩ [] (by kernel_rfl) rfl rfl ap0 ?_
    obtain ⟨q_43, H_44, H_45⟩ := of_bind H_41
    refine V_cut (Y := (List (Int × Int))) (R := (List (Int × Int))) q_43 (fun y => y) (fun y => [(1, cS s_2), (8, .c (.h 6))]) (fun y => [(0, .row kP l_1), (1, .box [.val (.string does_3)]), (6, .row kP y)]) ?_ ?_
    · skip
      refine VL_block ?_
      refine V_ghost [.nilSlot 8 kP] 2 hn [1, 2, 8, 15, 16, 17] [0, 1, 2] ⟨[(1, cS s_2), (2, .c (.clo 33 [1])), (8, .c (.h 2)), (15, .c (.h 0)), (16, cI (lnI l_1)), (17, cI (0 : Int))], [(0, .row kP l_1), (1, .box [.val (.string does_3)]), (2, .row kP ([] : List (Int × Int)))], 3⟩ (by kernel_rfl) rfl rfl ?_
      refine V_to [(1, cS s_2), (2, .c (.clo 33 [1])), (8, .c (.h 6)), (15, .c (.h 0)), (16, cI (lnI l_1)), (17, cI (0 : Int))] [(0, .row kP l_1), (1, .box [.val (.string does_3)]), (6, .row kP ([] : List (Int × Int)))] [(6, 2)] hn (by kernel_rfl) (by kernel_rfl) rfl rfl rfl ?_
      refine VL_loop (X := ((List (Int × Int)) × Int)) (fun x => [(1, cS s_2), (2, .c (.clo 33 [1])), (8, .c (.h 6)), (15, .c (.h 0)), (16, cI (lnI l_1)), (17, cI x.2)]) (fun x => [(0, .row kP l_1), (1, .box [.val (.string does_3)]), (6, .row kP x.1)]) (fun k x => carets_each_rgccaretsLines1_e11c4.l0 K l_1 does_3 k x.1 x.2 = some q_43) K (([] : List (Int × Int)), (0 : Int)) H_44 (fun _ h => no_none h) ?_
      intro k_22 x_22 H_47
      obtain ⟨out_21, t_11⟩ := x_22
      have H_48 : carets_each_rgccaretsLines1_e11c4.l0 K l_1 does_3 (k_22 + 1) out_21 t_11 = some q_43 := H_47
      rw [carets_each_rgccaretsLines1_e11c4.l0] at H_48
      refine V_run hN hn 3 7 [1, 2, 8, 15, 16, 17, 18] [0, 1, 6] ⟨[(1, cS s_2), (2, .c (.clo 33 [1])), (8, .c (.h 6)), (15, .c (.h 0)), (16, cI (lnI l_1)), (17, cI t_11), (18, cB (decide (t_11 < (lnI l_1))))], [(0, .row kP l_1), (1, .box [.val (.string does_3)]), (6, .row kP out_21)], 7⟩ [] (by kernel_rfl) rfl rfl ap0 ?_
      refine VL_cond ((decide (t_11 < (lnI l_1)))) (by kernel_rfl) ?_ ?_
      · intro b_24; have H_49 := of_t H_48 b_24
        refine V_run hN hn 2 7 [1, 2, 8, 15, 16, 17, 18] [0, 1, 6] ⟨[(1, cS s_2), (2, .c (.clo 33 [1])), (8, .c (.h 6)), (15, .c (.h 0)), (16, cI (lnI l_1)), (17, cI t_11), (18, cB (decide (t_11 < (lnI l_1))))], [(0, .row kP l_1), (1, .box [.val (.string does_3)]), (6, .row kP out_21)], 7⟩ [] (by kernel_rfl) rfl rfl ap0 ?_
        refine VL_block ?_
        obtain ⟨c_26, H_51⟩ := of_if H_49
        refine V_run hN hn 2 7 [1, 2, 8, 10, 15, 16, 17] [0, 1, 6, 7] ⟨[(1, cS s_2), (2, .c (.clo 33 [1])), (8, .c (.h 6)), (10, .c (.h 7)), (15, .c (.h 0)), (16, cI (lnI l_1)), (17, cI t_11)], [(0, .row kP l_1), (1, .box [.val (.string does_3)]), (6, .row kP out_21), (7, .box [.val (.int .i64 (List.getD l_1 (Int.toNat t_11) zP).1), .val (.int .i64 (List.getD l_1 (Int.toNat t_11) zP).2)])], 8⟩ [0 ≤ t_11, t_11 < (lnI l_1)] (by kernel_rfl) rfl rfl (ap2 c_26.1 (ap1 c_26.2)) ?_
        obtain ⟨r_27, h_28, H_52⟩ := of_bind H_51
        obtain ⟨c_29, H_53⟩ := of_if H_52
        refine V_reg hN hn [(3, ⟨33, 1, [.agg [.val (.int .i64 (List.getD l_1 (Int.toNat t_11) zP).1), .val (.int .i64 (List.getD l_1 (Int.toNat t_11) zP).2)], .c (.h 0)], [(0, .box [.val (.string does_3)])], .agg [.val (.int .i64 r_27.1), .val (.int .i64 r_27.2)], [(0, .box [.val (.string does_3)])], [(0, 1)], 8⟩)] [] (calls_cons (carets_Lines_1_sggb_5389a_spec K (List.getD l_1 (Int.toNat t_11) zP).1 (List.getD l_1 (Int.toNat t_11) zP).2 does_3 r_27 h_28) (by kernel_rfl) calls_nil) 8 [1, 2, 8, 15, 16, 17] [0, 1, 9] ⟨[(1, cS s_2), (2, .c (.clo 33 [1])), (8, .c (.h 9)), (15, .c (.h 0)), (16, cI (lnI l_1)), (17, cI t_11)], [(0, .row kP l_1), (1, .box [.val (.string does_3)]), (9, .row kP (out_21 ++ ([(r_27.1, r_27.2)] : List (Int × Int))))], 10⟩ [(List.length out_21 + List.length ([(r_27.1, r_27.2)] : List (Int × Int))) * 16 ≤ 140737488355328] (by kernel_rfl) rfl rfl (ap1 c_29) (by kernel_rfl) (by kernel_rfl) ?_
        refine VL_nil (QB_end ?_)
        refine V_run hN hn 1 10 [1, 2, 8, 15, 16, 17] [0, 1, 9] ⟨[(1, cS s_2), (2, .c (.clo 33 [1])), (8, .c (.h 9)), (15, .c (.h 0)), (16, cI (lnI l_1)), (17, cI (w6 (t_11 + (1 : Int))))], [(0, .row kP l_1), (1, .box [.val (.string does_3)]), (9, .row kP (out_21 ++ ([(r_27.1, r_27.2)] : List (Int × Int))))], 10⟩ [] (by kernel_rfl) rfl rfl ap0 ?_
        refine VL_nil ?_
        exact V_roundEnd ((out_21 ++ ([(r_27.1, r_27.2)] : List (Int × Int))), (w6 (t_11 + (1 : Int)))) H_53 [(6, 9)] hn (by kernel_rfl) (by kernel_rfl) rfl rfl rfl
      · intro b_24; have H_50 := of_f H_48 b_24
        refine VL_exit ?_
        refine QL_exit ?_
        refine QB_here ?_
        have H_54 := Option.some.inj (show some out_21 = some q_43 from H_50); subst H_54
        refine VL_nil ?_
        exact QP_end out_21 rfl [(6, 6)] hn (by kernel_rfl) (by kernel_rfl) rfl rfl rfl
    · intro y_46 hy; subst hy
      skip
      skip
      refine V_run hN hn 1 7 [1, 8] [0, 1, 6] ⟨[(1, cS s_2), (8, .c (.h 6))], [(0, .row kP l_1), (1, .box [.val (.string does_3)]), (6, .row kP y_46)], 7⟩ [] (by kernel_rfl) rfl rfl ap0 ?_
      refine V_ghost [.shut 6] 7 hn [1, 8] [0, 1] ⟨[(1, cS s_2), (8, .c (.imm (.slice kP) y_46))], [(0, .row kP l_1), (1, .box [.val (.string does_3)])], 7⟩ (by kernel_rfl) rfl rfl ?_
      obtain ⟨r_33, h_34, H_55⟩ := of_bind H_45
      refine V_reg hN hn [(2, ⟨39, 0, [.c (.imm (.slice kP) y_46), cS s_2], [], .tup [(false, [.h 3]), (false, [.val (.int .i64 r_33.2)])], [(3, .row kP r_33.1)], [(3, 7)], 8⟩)] [] (calls_cons (region_Make_spec K y_46 s_2 r_33 h_34) (by kernel_rfl) calls_nil) 7 [6, 7] [0, 1, 7] ⟨[(6, .c (.h 7)), (7, cI r_33.2)], [(0, .row kP l_1), (1, .box [.val (.string does_3)]), (7, .row kP r_33.1)], 8⟩ [] (by kernel_rfl) rfl rfl ap0 (by kernel_rfl) (by kernel_rfl) ?_
      have H_56 := Option.some.inj (show some (r_33.1, r_33.2) = some r from H_55); subst H_56
      refine VL_ret ?_
      exact P_to [(6, .c (.h 8)), (7, cI r_33.2)] [(0, .row kP l_1), (1, .box [.val (.string does_3)]), (8, .row kP r_33.1)] [(8, 7)] hn (by kernel_rfl) (by kernel_rfl) rfl rfl rfl (QF_retS (by kernel_rfl) (by kernel_rfl) rfl)

theorem carets_Lines_rg_spec (K : Nat) (l_1 : (List (Int × Int))) (s_2 : ByteArray) (r : ((List (Int × Int)) × Int)) (H : carets_Lines_rg K l_1 s_2 = some r) : Spec Try.prog 12 1 [.c (.h 0), cS s_2] [(0, .row kP l_1)] (.tup [(false, [.h 2]), (false, [.val (.int .i64 r.2)])]) [(0, .row kP l_1), (2, .row kP r.1)] := by
  refine Spec_mk (fn := Try.f12) (c := (Try.f12.body).get!) Try.func12 (by kernel_rfl) rfl ?_
  intro C hN hn
  replace hN : C.N = 12 := hN
  unfold carets_Lines_rg at H
  refine V_run hN hn 3 1 [0, 3] [0, 1] ⟨[(0, .c (.h 0)), (3, .c (.h 1))], [(0, .row kP l_1), (1, .box [.val (.string s_2)])], 2⟩ [] (by kernel_rfl) rfl rfl ap0 ?_
  obtain ⟨r_4, h_5, H_9⟩ := of_bind H
  refine V_reg hN hn [(3, ⟨27, 2, [.c (.h 0), cS s_2, .c (.clo 33 [1])], [(0, .row kP l_1), (1, .box [.val (.string s_2)])], .tup [(false, [.h 8]), (false, [.val (.int .i64 r_4.2)])], [(0, .row kP l_1), (1, .box [.val (.string s_2)]), (8, .row kP r_4.1)], [(0, 0), (1, 1), (8, 2)], 3⟩)] [] (calls_cons (carets_each_rgccaretsLines1_e11c4_spec K l_1 s_2 s_2 r_4 h_5) (by kernel_rfl) calls_nil) 2 [4, 5] [0, 2] ⟨[(4, .c (.h 2)), (5, cI r_4.2)], [(0, .row kP l_1), (2, .row kP r_4.1)], 3⟩ [] (by kernel_rfl) rfl rfl ap0 (by kernel_rfl) (by kernel_rfl) ?_
  have H_10 := Option.some.inj (show some (r_4.1, r_4.2) = some r from H_9); subst H_10
  refine VL_ret ?_
  exact P_to [(4, .c (.h 2)), (5, cI r_4.2)] [(0, .row kP l_1), (2, .row kP r_4.1)] [(2, 2)] hn (by kernel_rfl) (by kernel_rfl) rfl rfl rfl (QF_retS (by kernel_rfl) (by kernel_rfl) rfl)

theorem slices_IndexFunc_ncregionevery1_d20d0_spec (K : Nat) (f_2 : ByteArray) (r : Int) (H : slices_IndexFunc_rcregionevery1_a4c35 K ([] : (List (Int × Int))) f_2 = some r) : Spec Try.prog 68 2 [.c (.val (.slice none 0 0)), .c (.clo 54 [0])] [(0, .box [.clo 55 [1]]), (1, .box [.val (.string f_2)])] (cI r) [(0, .box [.clo 55 [1]]), (1, .box [.val (.string f_2)])] := by
  refine Spec_mk (fn := Try.f68) (c := (Try.f68.body).get!) Try.func68 (by kernel_rfl) rfl ?_
  intro C hN hn
  replace hN : C.N = 19 := hN
  unfold slices_IndexFunc_rcregionevery1_a4c35 at H
  refine V_run hN hn 5 2 [0, 1, 7, 8] [0, 1] ⟨[(0, .c (.val (.slice none 0 0))), (1, .c (.clo 54 [0])), (7, cI (lnI ([] : (List (Int × Int))))), (8, cI (0 : Int))], [(0, .box [.clo 55 [1]]), (1, .box [.val (.string f_2)])], 2⟩ [] (by kernel_rfl) rfl rfl ap0 ?_
  refine VL_block ?_
  refine V_to [(0, .c (.val (.slice none 0 0))), (1, .c (.clo 54 [0])), (7, cI (lnI ([] : (List (Int × Int))))), (8, cI (0 : Int))] [(0, .box [.clo 55 [1]]), (1, .box [.val (.string f_2)])] [] hn (by kernel_rfl) (by kernel_rfl) rfl rfl rfl ?_
  refine VL_loop (X := Int) (fun x => [(0, .c (.val (.slice none 0 0))), (1, .c (.clo 54 [0])), (7, cI (lnI ([] : (List (Int × Int))))), (8, cI x)]) (fun x => [(0, .box [.clo 55 [1]]), (1, .box [.val (.string f_2)])]) (fun k x => slices_IndexFunc_rcregionevery1_a4c35.l0 K ([] : (List (Int × Int))) f_2 k x = some r) K (0 : Int) H (fun _ h => no_none h) ?_
  intro k_5 t_4 H_19
  have H_20 : slices_IndexFunc_rcregionevery1_a4c35.l0 K ([] : (List (Int × Int))) f_2 (k_5 + 1) t_4 = some r := H_19
  rw [slices_IndexFunc_rcregionevery1_a4c35.l0] at H_20
  refine V_run hN hn 3 2 [0, 1, 7, 8, 9] [0, 1] ⟨[(0, .c (.val (.slice none 0 0))), (1, .c (.clo 54 [0])), (7, cI (lnI ([] : (List (Int × Int))))), (8, cI t_4), (9, cB (decide (t_4 < (lnI ([] : (List (Int × Int)))))))], [(0, .box [.clo 55 [1]]), (1, .box [.val (.string f_2)])], 2⟩ [] (by kernel_rfl) rfl rfl ap0 ?_
  refine VL_cond ((decide (t_4 < (lnI ([] : (List (Int × Int))))))) (by kernel_rfl) ?_ ?_
  · intro b_7; have H_21 := of_t H_20 b_7
    refine V_run hN hn 2 2 [0, 1, 7, 8, 9] [0, 1] ⟨[(0, .c (.val (.slice none 0 0))), (1, .c (.clo 54 [0])), (7, cI (lnI ([] : (List (Int × Int))))), (8, cI t_4), (9, cB (decide (t_4 < (lnI ([] : (List (Int × Int)))))))], [(0, .box [.clo 55 [1]]), (1, .box [.val (.string f_2)])], 2⟩ [] (by kernel_rfl) rfl rfl ap0 ?_
    refine VL_block ?_
    refine V_run hN hn 3 2 [0, 1, 5, 7, 8] [0, 1] ⟨[(0, .c (.val (.slice none 0 0))), (1, .c (.clo 54 [0])), (5, cI t_4), (7, cI (lnI ([] : (List (Int × Int))))), (8, cI t_4)], [(0, .box [.clo 55 [1]]), (1, .box [.val (.string f_2)])], 2⟩ [] (by kernel_rfl) rfl rfl ap0 ?_
    obtain ⟨r_10, h_11, H_23⟩ := of_bind H_21
    obtain ⟨c_12, H_24⟩ := of_if H_23
    refine V_reg hN hn [(5, ⟨54, 2, [.agg [.val (.int .i64 (List.getD ([] : (List (Int × Int))) (Int.toNat t_4) zP).1), .val (.int .i64 (List.getD ([] : (List (Int × Int))) (Int.toNat t_4) zP).2)], .c (.h 0)], [(0, .box [.clo 55 [1]]), (1, .box [.val (.string f_2)])], cB r_10, [(0, .box [.clo 55 [1]]), (1, .box [.val (.string f_2)])], [(0, 0), (1, 1)], 2⟩)] [] (calls_cons (region_every_1_sggb_7e816_spec K (List.getD ([] : (List (Int × Int))) (Int.toNat t_4) zP).1 (List.getD ([] : (List (Int × Int))) (Int.toNat t_4) zP).2 f_2 r_10 h_11) (by kernel_rfl) calls_nil) 2 [0, 1, 5, 7, 8, 16] [0, 1] ⟨[(0, .c (.val (.slice none 0 0))), (1, .c (.clo 54 [0])), (5, cI t_4), (7, cI (lnI ([] : (List (Int × Int))))), (8, cI t_4), (16, cB r_10)], [(0, .box [.clo 55 [1]]), (1, .box [.val (.string f_2)])], 2⟩ [0 ≤ t_4, t_4 < (lnI ([] : (List (Int × Int))))] (by kernel_rfl) rfl rfl (ap2 c_12.1 (ap1 c_12.2)) (by kernel_rfl) (by kernel_rfl) ?_
    refine VL_cond (r_10) (by kernel_rfl) ?_ ?_
    · intro b_13; have H_25 := of_t H_24 b_13
      refine V_run hN hn 2 2 [4] [0, 1] ⟨[(4, cI t_4)], [(0, .box [.clo 55 [1]]), (1, .box [.val (.string f_2)])], 2⟩ [] (by kernel_rfl) rfl rfl ap0 ?_
      have H_27 := Option.some.inj (show some t_4 = some r from H_25); subst H_27
      refine VL_ret ?_
      refine QB_ret ?_
      refine QL_ret ?_
      refine QB_ret ?_
      exact P_to [(4, cI t_4)] [(0, .box [.clo 55 [1]]), (1, .box [.val (.string f_2)])] [] hn (by kernel_rfl) (by kernel_rfl) rfl rfl rfl (QF_retS (by kernel_rfl) (by kernel_rfl) rfl)
    · intro b_13; have H_26 := of_f H_24 b_13
      refine V_run hN hn 1 2 [0, 1, 5, 7, 8, 16] [0, 1] ⟨[(0, .c (.val (.slice none 0 0))), (1, .c (.clo 54 [0])), (5, cI t_4), (7, cI (lnI ([] : (List (Int × Int))))), (8, cI t_4), (16, cB r_10)], [(0, .box [.clo 55 [1]]), (1, .box [.val (.string f_2)])], 2⟩ [] (by kernel_rfl) rfl rfl ap0 ?_
      refine VL_nil (QB_end ?_)
      refine V_run hN hn 1 2 [0, 1, 7, 8] [0, 1] ⟨[(0, .c (.val (.slice none 0 0))), (1, .c (.clo 54 [0])), (7, cI (lnI ([] : (List (Int × Int))))), (8, cI (w6 (t_4 + (1 : Int))))], [(0, .box [.clo 55 [1]]), (1, .box [.val (.string f_2)])], 2⟩ [] (by kernel_rfl) rfl rfl ap0 ?_
      refine VL_nil ?_
      exact V_roundEnd (w6 (t_4 + (1 : Int))) H_26 [] hn (by kernel_rfl) (by kernel_rfl) rfl rfl rfl
  · intro b_7; have H_22 := of_f H_20 b_7
    refine VL_exit ?_
    refine QL_exit ?_
    refine QB_here ?_
    refine V_run hN hn 2 2 [4] [0, 1] ⟨[(4, cI (-1 : Int))], [(0, .box [.clo 55 [1]]), (1, .box [.val (.string f_2)])], 2⟩ [] (by kernel_rfl) rfl rfl ap0 ?_
    have H_28 := Option.some.inj (show some (-1 : Int) = some r from H_22); subst H_28
    refine VL_ret ?_
    exact P_to [(4, cI (-1 : Int))] [(0, .box [.clo 55 [1]]), (1, .box [.val (.string f_2)])] [] hn (by kernel_rfl) (by kernel_rfl) rfl rfl rfl (QF_retS (by kernel_rfl) (by kernel_rfl) rfl)

theorem slices_ContainsFunc_ncregionevery1_d20d0_spec (K : Nat) (f_2 : ByteArray) (r : Bool) (H : slices_ContainsFunc_rcregionevery1_a4c35 K ([] : (List (Int × Int))) f_2 = some r) : Spec Try.prog 53 2 [.c (.val (.slice none 0 0)), .c (.clo 54 [0])] [(0, .box [.clo 55 [1]]), (1, .box [.val (.string f_2)])] (cB r) [(0, .box [.clo 55 [1]]), (1, .box [.val (.string f_2)])] := by
  refine Spec_mk (fn := Try.f53) (c := (Try.f53.body).get!) Try.func53 (by kernel_rfl) rfl ?_
  intro C hN hn
  replace hN : C.N = 9 := hN
  unfold slices_ContainsFunc_rcregionevery1_a4c35 at H
  refine V_run hN hn 3 2 [0, 1] [0, 1] ⟨[(0, .c (.val (.slice none 0 0))), (1, .c (.clo 54 [0]))], [(0, .box [.clo 55 [1]]), (1, .box [.val (.string f_2)])], 2⟩ [] (by kernel_rfl) rfl rfl ap0 ?_
  obtain ⟨r_4, h_5, H_8⟩ := of_bind H
  refine V_reg hN hn [(2, ⟨68, 2, [.c (.val (.slice none 0 0)), .c (.clo 54 [0])], [(0, .box [.clo 55 [1]]), (1, .box [.val (.string f_2)])], cI r_4, [(0, .box [.clo 55 [1]]), (1, .box [.val (.string f_2)])], [(0, 0), (1, 1)], 2⟩)] [] (calls_cons (slices_IndexFunc_ncregionevery1_d20d0_spec K f_2 r_4 h_5) (by kernel_rfl) calls_nil) 2 [4] [0, 1] ⟨[(4, cB (decide (r_4 ≥ (0 : Int))))], [(0, .box [.clo 55 [1]]), (1, .box [.val (.string f_2)])], 2⟩ [] (by kernel_rfl) rfl rfl ap0 (by kernel_rfl) (by kernel_rfl) ?_
  have H_9 := Option.some.inj (show some (decide (r_4 ≥ (0 : Int))) = some r from H_8); subst H_9
  refine VL_ret ?_
  exact P_to [(4, cB (decide (r_4 ≥ (0 : Int))))] [(0, .box [.clo 55 [1]]), (1, .box [.val (.string f_2)])] [] hn (by kernel_rfl) (by kernel_rfl) rfl rfl rfl (QF_retS (by kernel_rfl) (by kernel_rfl) rfl)

theorem region_every_ncregioninside1_98415_spec (K : Nat) (is_2 : ByteArray) (r : Bool) (H : region_every_rcregioninside1_2e7a3 K ([] : (List (Int × Int))) is_2 = some r) : Spec Try.prog 44 1 [.c (.val (.slice none 0 0)), .c (.clo 55 [0])] [(0, .box [.val (.string is_2)])] (cB r) [(0, .box [.val (.string is_2)])] := by
  refine Spec_mk (fn := Try.f44) (c := (Try.f44.body).get!) Try.func44 (by kernel_rfl) rfl ?_
  intro C hN hn
  replace hN : C.N = 9 := hN
  unfold region_every_rcregioninside1_2e7a3 at H
  refine V_run hN hn 3 1 [0, 3] [0, 1] ⟨[(0, .c (.val (.slice none 0 0))), (3, .c (.h 1))], [(0, .box [.val (.string is_2)]), (1, .box [.clo 55 [0]])], 2⟩ [] (by kernel_rfl) rfl rfl ap0 ?_
  obtain ⟨r_4, h_5, H_8⟩ := of_bind H
  refine V_reg hN hn [(2, ⟨53, 2, [.c (.val (.slice none 0 0)), .c (.clo 54 [0])], [(0, .box [.clo 55 [1]]), (1, .box [.val (.string is_2)])], cB r_4, [(0, .box [.clo 55 [1]]), (1, .box [.val (.string is_2)])], [(0, 1), (1, 0)], 2⟩)] [] (calls_cons (slices_ContainsFunc_ncregionevery1_d20d0_spec K is_2 r_4 h_5) (by kernel_rfl) calls_nil) 2 [4] [0] ⟨[(4, cB (!r_4))], [(0, .box [.val (.string is_2)])], 2⟩ [] (by kernel_rfl) rfl rfl ap0 (by kernel_rfl) (by kernel_rfl) ?_
  have H_9 := Option.some.inj (show some (!r_4) = some r from H_8); subst H_9
  refine VL_ret ?_
  exact P_to [(4, cB (!r_4))] [(0, .box [.val (.string is_2)])] [] hn (by kernel_rfl) (by kernel_rfl) rfl rfl rfl (QF_retS (by kernel_rfl) (by kernel_rfl) rfl)

theorem slices_IndexFunc_ncregionevery1_a55c1_spec (K : Nat) (f_2 : ByteArray) (r : Int) (H : slices_IndexFunc_rcregionevery1_79479 K ([] : (List (Int × Int))) f_2 = some r) : Spec Try.prog 68 2 [.c (.val (.slice none 0 0)), .c (.clo 54 [0])] [(0, .box [.clo 57 [1]]), (1, .box [.val (.string f_2)])] (cI r) [(0, .box [.clo 57 [1]]), (1, .box [.val (.string f_2)])] := by
  refine Spec_mk (fn := Try.f68) (c := (Try.f68.body).get!) Try.func68 (by kernel_rfl) rfl ?_
  intro C hN hn
  replace hN : C.N = 19 := hN
  unfold slices_IndexFunc_rcregionevery1_79479 at H
  refine V_run hN hn 5 2 [0, 1, 7, 8] [0, 1] ⟨[(0, .c (.val (.slice none 0 0))), (1, .c (.clo 54 [0])), (7, cI (lnI ([] : (List (Int × Int))))), (8, cI (0 : Int))], [(0, .box [.clo 57 [1]]), (1, .box [.val (.string f_2)])], 2⟩ [] (by kernel_rfl) rfl rfl ap0 ?_
  refine VL_block ?_
  refine V_to [(0, .c (.val (.slice none 0 0))), (1, .c (.clo 54 [0])), (7, cI (lnI ([] : (List (Int × Int))))), (8, cI (0 : Int))] [(0, .box [.clo 57 [1]]), (1, .box [.val (.string f_2)])] [] hn (by kernel_rfl) (by kernel_rfl) rfl rfl rfl ?_
  refine VL_loop (X := Int) (fun x => [(0, .c (.val (.slice none 0 0))), (1, .c (.clo 54 [0])), (7, cI (lnI ([] : (List (Int × Int))))), (8, cI x)]) (fun x => [(0, .box [.clo 57 [1]]), (1, .box [.val (.string f_2)])]) (fun k x => slices_IndexFunc_rcregionevery1_79479.l0 K ([] : (List (Int × Int))) f_2 k x = some r) K (0 : Int) H (fun _ h => no_none h) ?_
  intro k_5 t_4 H_19
  have H_20 : slices_IndexFunc_rcregionevery1_79479.l0 K ([] : (List (Int × Int))) f_2 (k_5 + 1) t_4 = some r := H_19
  rw [slices_IndexFunc_rcregionevery1_79479.l0] at H_20
  refine V_run hN hn 3 2 [0, 1, 7, 8, 9] [0, 1] ⟨[(0, .c (.val (.slice none 0 0))), (1, .c (.clo 54 [0])), (7, cI (lnI ([] : (List (Int × Int))))), (8, cI t_4), (9, cB (decide (t_4 < (lnI ([] : (List (Int × Int)))))))], [(0, .box [.clo 57 [1]]), (1, .box [.val (.string f_2)])], 2⟩ [] (by kernel_rfl) rfl rfl ap0 ?_
  refine VL_cond ((decide (t_4 < (lnI ([] : (List (Int × Int))))))) (by kernel_rfl) ?_ ?_
  · intro b_7; have H_21 := of_t H_20 b_7
    refine V_run hN hn 2 2 [0, 1, 7, 8, 9] [0, 1] ⟨[(0, .c (.val (.slice none 0 0))), (1, .c (.clo 54 [0])), (7, cI (lnI ([] : (List (Int × Int))))), (8, cI t_4), (9, cB (decide (t_4 < (lnI ([] : (List (Int × Int)))))))], [(0, .box [.clo 57 [1]]), (1, .box [.val (.string f_2)])], 2⟩ [] (by kernel_rfl) rfl rfl ap0 ?_
    refine VL_block ?_
    refine V_run hN hn 3 2 [0, 1, 5, 7, 8] [0, 1] ⟨[(0, .c (.val (.slice none 0 0))), (1, .c (.clo 54 [0])), (5, cI t_4), (7, cI (lnI ([] : (List (Int × Int))))), (8, cI t_4)], [(0, .box [.clo 57 [1]]), (1, .box [.val (.string f_2)])], 2⟩ [] (by kernel_rfl) rfl rfl ap0 ?_
    obtain ⟨r_10, h_11, H_23⟩ := of_bind H_21
    obtain ⟨c_12, H_24⟩ := of_if H_23
    refine V_reg hN hn [(5, ⟨54, 2, [.agg [.val (.int .i64 (List.getD ([] : (List (Int × Int))) (Int.toNat t_4) zP).1), .val (.int .i64 (List.getD ([] : (List (Int × Int))) (Int.toNat t_4) zP).2)], .c (.h 0)], [(0, .box [.clo 57 [1]]), (1, .box [.val (.string f_2)])], cB r_10, [(0, .box [.clo 57 [1]]), (1, .box [.val (.string f_2)])], [(0, 0), (1, 1)], 2⟩)] [] (calls_cons (region_every_1_sggb_f969f_spec K (List.getD ([] : (List (Int × Int))) (Int.toNat t_4) zP).1 (List.getD ([] : (List (Int × Int))) (Int.toNat t_4) zP).2 f_2 r_10 h_11) (by kernel_rfl) calls_nil) 2 [0, 1, 5, 7, 8, 16] [0, 1] ⟨[(0, .c (.val (.slice none 0 0))), (1, .c (.clo 54 [0])), (5, cI t_4), (7, cI (lnI ([] : (List (Int × Int))))), (8, cI t_4), (16, cB r_10)], [(0, .box [.clo 57 [1]]), (1, .box [.val (.string f_2)])], 2⟩ [0 ≤ t_4, t_4 < (lnI ([] : (List (Int × Int))))] (by kernel_rfl) rfl rfl (ap2 c_12.1 (ap1 c_12.2)) (by kernel_rfl) (by kernel_rfl) ?_
    refine VL_cond (r_10) (by kernel_rfl) ?_ ?_
    · intro b_13; have H_25 := of_t H_24 b_13
      refine V_run hN hn 2 2 [4] [0, 1] ⟨[(4, cI t_4)], [(0, .box [.clo 57 [1]]), (1, .box [.val (.string f_2)])], 2⟩ [] (by kernel_rfl) rfl rfl ap0 ?_
      have H_27 := Option.some.inj (show some t_4 = some r from H_25); subst H_27
      refine VL_ret ?_
      refine QB_ret ?_
      refine QL_ret ?_
      refine QB_ret ?_
      exact P_to [(4, cI t_4)] [(0, .box [.clo 57 [1]]), (1, .box [.val (.string f_2)])] [] hn (by kernel_rfl) (by kernel_rfl) rfl rfl rfl (QF_retS (by kernel_rfl) (by kernel_rfl) rfl)
    · intro b_13; have H_26 := of_f H_24 b_13
      refine V_run hN hn 1 2 [0, 1, 5, 7, 8, 16] [0, 1] ⟨[(0, .c (.val (.slice none 0 0))), (1, .c (.clo 54 [0])), (5, cI t_4), (7, cI (lnI ([] : (List (Int × Int))))), (8, cI t_4), (16, cB r_10)], [(0, .box [.clo 57 [1]]), (1, .box [.val (.string f_2)])], 2⟩ [] (by kernel_rfl) rfl rfl ap0 ?_
      refine VL_nil (QB_end ?_)
      refine V_run hN hn 1 2 [0, 1, 7, 8] [0, 1] ⟨[(0, .c (.val (.slice none 0 0))), (1, .c (.clo 54 [0])), (7, cI (lnI ([] : (List (Int × Int))))), (8, cI (w6 (t_4 + (1 : Int))))], [(0, .box [.clo 57 [1]]), (1, .box [.val (.string f_2)])], 2⟩ [] (by kernel_rfl) rfl rfl ap0 ?_
      refine VL_nil ?_
      exact V_roundEnd (w6 (t_4 + (1 : Int))) H_26 [] hn (by kernel_rfl) (by kernel_rfl) rfl rfl rfl
  · intro b_7; have H_22 := of_f H_20 b_7
    refine VL_exit ?_
    refine QL_exit ?_
    refine QB_here ?_
    refine V_run hN hn 2 2 [4] [0, 1] ⟨[(4, cI (-1 : Int))], [(0, .box [.clo 57 [1]]), (1, .box [.val (.string f_2)])], 2⟩ [] (by kernel_rfl) rfl rfl ap0 ?_
    have H_28 := Option.some.inj (show some (-1 : Int) = some r from H_22); subst H_28
    refine VL_ret ?_
    exact P_to [(4, cI (-1 : Int))] [(0, .box [.clo 57 [1]]), (1, .box [.val (.string f_2)])] [] hn (by kernel_rfl) (by kernel_rfl) rfl rfl rfl (QF_retS (by kernel_rfl) (by kernel_rfl) rfl)

theorem slices_ContainsFunc_ncregionevery1_a55c1_spec (K : Nat) (f_2 : ByteArray) (r : Bool) (H : slices_ContainsFunc_rcregionevery1_79479 K ([] : (List (Int × Int))) f_2 = some r) : Spec Try.prog 53 2 [.c (.val (.slice none 0 0)), .c (.clo 54 [0])] [(0, .box [.clo 57 [1]]), (1, .box [.val (.string f_2)])] (cB r) [(0, .box [.clo 57 [1]]), (1, .box [.val (.string f_2)])] := by
  refine Spec_mk (fn := Try.f53) (c := (Try.f53.body).get!) Try.func53 (by kernel_rfl) rfl ?_
  intro C hN hn
  replace hN : C.N = 9 := hN
  unfold slices_ContainsFunc_rcregionevery1_79479 at H
  refine V_run hN hn 3 2 [0, 1] [0, 1] ⟨[(0, .c (.val (.slice none 0 0))), (1, .c (.clo 54 [0]))], [(0, .box [.clo 57 [1]]), (1, .box [.val (.string f_2)])], 2⟩ [] (by kernel_rfl) rfl rfl ap0 ?_
  obtain ⟨r_4, h_5, H_8⟩ := of_bind H
  refine V_reg hN hn [(2, ⟨68, 2, [.c (.val (.slice none 0 0)), .c (.clo 54 [0])], [(0, .box [.clo 57 [1]]), (1, .box [.val (.string f_2)])], cI r_4, [(0, .box [.clo 57 [1]]), (1, .box [.val (.string f_2)])], [(0, 0), (1, 1)], 2⟩)] [] (calls_cons (slices_IndexFunc_ncregionevery1_a55c1_spec K f_2 r_4 h_5) (by kernel_rfl) calls_nil) 2 [4] [0, 1] ⟨[(4, cB (decide (r_4 ≥ (0 : Int))))], [(0, .box [.clo 57 [1]]), (1, .box [.val (.string f_2)])], 2⟩ [] (by kernel_rfl) rfl rfl ap0 (by kernel_rfl) (by kernel_rfl) ?_
  have H_9 := Option.some.inj (show some (decide (r_4 ≥ (0 : Int))) = some r from H_8); subst H_9
  refine VL_ret ?_
  exact P_to [(4, cB (decide (r_4 ≥ (0 : Int))))] [(0, .box [.clo 57 [1]]), (1, .box [.val (.string f_2)])] [] hn (by kernel_rfl) (by kernel_rfl) rfl rfl rfl (QF_retS (by kernel_rfl) (by kernel_rfl) rfl)

theorem region_every_ncregionedges1_582ed_spec (K : Nat) (is_2 : ByteArray) (r : Bool) (H : region_every_rcregionedges1_83797 K ([] : (List (Int × Int))) is_2 = some r) : Spec Try.prog 44 1 [.c (.val (.slice none 0 0)), .c (.clo 57 [0])] [(0, .box [.val (.string is_2)])] (cB r) [(0, .box [.val (.string is_2)])] := by
  refine Spec_mk (fn := Try.f44) (c := (Try.f44.body).get!) Try.func44 (by kernel_rfl) rfl ?_
  intro C hN hn
  replace hN : C.N = 9 := hN
  unfold region_every_rcregionedges1_83797 at H
  refine V_run hN hn 3 1 [0, 3] [0, 1] ⟨[(0, .c (.val (.slice none 0 0))), (3, .c (.h 1))], [(0, .box [.val (.string is_2)]), (1, .box [.clo 57 [0]])], 2⟩ [] (by kernel_rfl) rfl rfl ap0 ?_
  obtain ⟨r_4, h_5, H_8⟩ := of_bind H
  refine V_reg hN hn [(2, ⟨53, 2, [.c (.val (.slice none 0 0)), .c (.clo 54 [0])], [(0, .box [.clo 57 [1]]), (1, .box [.val (.string is_2)])], cB r_4, [(0, .box [.clo 57 [1]]), (1, .box [.val (.string is_2)])], [(0, 1), (1, 0)], 2⟩)] [] (calls_cons (slices_ContainsFunc_ncregionevery1_a55c1_spec K is_2 r_4 h_5) (by kernel_rfl) calls_nil) 2 [4] [0] ⟨[(4, cB (!r_4))], [(0, .box [.val (.string is_2)])], 2⟩ [] (by kernel_rfl) rfl rfl ap0 (by kernel_rfl) (by kernel_rfl) ?_
  have H_9 := Option.some.inj (show some (!r_4) = some r from H_8); subst H_9
  refine VL_ret ?_
  exact P_to [(4, cB (!r_4))] [(0, .box [.val (.string is_2)])] [] hn (by kernel_rfl) (by kernel_rfl) rfl rfl rfl (QF_retS (by kernel_rfl) (by kernel_rfl) rfl)

theorem region_Is_ng_spec (K : Nat) (s_2 : ByteArray) (r : Bool) (H : region_Is_rg K ([] : (List (Int × Int))) s_2 = some r) : Spec Try.prog 37 0 [.c (.val (.slice none 0 0)), cS s_2] [] (cB r) [] := by
  refine Spec_mk (fn := Try.f37) (c := (Try.f37.body).get!) Try.func37 (by kernel_rfl) rfl ?_
  intro C hN hn
  replace hN : C.N = 48 := hN
  unfold region_Is_rg at H
  refine V_run hN hn 4 0 [0, 1] [] ⟨[(0, .c (.val (.slice none 0 0))), (1, cS s_2)], [], 0⟩ [] (by kernel_rfl) rfl rfl ap0 ?_
  obtain ⟨q_41, H_42, H_43⟩ := of_bind H
  refine V_cut (Y := Bool) (R := Bool) q_41 (fun y => y) (fun y => [(0, .c (.val (.slice none 0 0))), (27, cB y)]) (fun y => []) ?_ ?_
  · skip
    rcases Bool.eq_false_or_eq_true ((decide ((lnI ([] : (List (Int × Int)))) < (1 : Int)))) with b_4 | b_4
    · have H_45 := of_t H_42 b_4
      refine V_reg hN hn [] [(9, true)] calls_nil 0 [0, 27] [] ⟨[(0, .c (.val (.slice none 0 0))), (27, cB true)], [], 0⟩ [(decide ((lnI ([] : (List (Int × Int)))) < (1 : Int))) = true] (by kernel_rfl) rfl rfl (ap1 b_4) (by kernel_rfl) (by kernel_rfl) ?_
      have H_47 := Option.some.inj (show some true = some q_41 from H_45); subst H_47
      refine VL_nil ?_
      exact QP_end true rfl [] hn (by kernel_rfl) (by kernel_rfl) rfl rfl rfl
    · have H_46 := of_f H_42 b_4
      rcases Bool.eq_false_or_eq_true ((decide ((lnI ([] : (List (Int × Int)))) > (8 : Int)))) with b_6 | b_6
      · have H_48 := of_t H_46 b_6
        refine V_reg hN hn [] [(9, false), (14, true)] calls_nil 0 [0, 27] [] ⟨[(0, .c (.val (.slice none 0 0))), (27, cB true)], [], 0⟩ [(decide ((lnI ([] : (List (Int × Int)))) < (1 : Int))) = false, (decide ((lnI ([] : (List (Int × Int)))) > (8 : Int))) = true] (by kernel_rfl) rfl rfl (ap2 b_4 (ap1 b_6)) (by kernel_rfl) (by kernel_rfl) ?_
        have H_50 := Option.some.inj (show some true = some q_41 from H_48); subst H_50
        refine VL_nil ?_
        exact QP_end true rfl [] hn (by kernel_rfl) (by kernel_rfl) rfl rfl rfl
      · have H_49 := of_f H_46 b_6
        obtain ⟨r_8, h_9, H_51⟩ := of_bind H_49
        obtain ⟨r_10, h_11, H_52⟩ := of_bind H_51
        rcases Bool.eq_false_or_eq_true ((!r_10)) with b_12 | b_12
        · have H_53 := of_t H_52 b_12
          refine V_reg hN hn [(11, ⟨45, 0, [cS s_2], [], .c (.clo 55 [0]), [(0, .box [.val (.string s_2)])], [(0, 0)], 1⟩), (12, ⟨44, 1, [.c (.val (.slice none 0 0)), .c (.clo 55 [0])], [(0, .box [.val (.string s_2)])], cB r_10, [(0, .box [.val (.string s_2)])], [(0, 0)], 1⟩)] [(9, false), (14, false), (21, true)] (calls_cons (region_inside_spec K s_2 r_8 h_9) (by kernel_rfl) (calls_cons (region_every_ncregioninside1_98415_spec K s_2 r_10 h_11) (by kernel_rfl) calls_nil)) 0 [0, 27] [] ⟨[(0, .c (.val (.slice none 0 0))), (27, cB true)], [], 1⟩ [(decide ((lnI ([] : (List (Int × Int)))) < (1 : Int))) = false, (decide ((lnI ([] : (List (Int × Int)))) > (8 : Int))) = false, (!r_10) = true] (by kernel_rfl) rfl rfl (ap2 b_4 (ap2 b_6 (ap1 b_12))) (by kernel_rfl) (by kernel_rfl) ?_
          have H_55 := Option.some.inj (show some true = some q_41 from H_53); subst H_55
          refine VL_nil ?_
          exact QP_end true rfl [] hn (by kernel_rfl) (by kernel_rfl) rfl rfl rfl
        · have H_54 := of_f H_52 b_12
          obtain ⟨r_14, h_15, H_56⟩ := of_bind H_54
          obtain ⟨r_16, h_17, H_57⟩ := of_bind H_56
          refine V_reg hN hn [(11, ⟨45, 0, [cS s_2], [], .c (.clo 55 [0]), [(0, .box [.val (.string s_2)])], [(0, 0)], 1⟩), (12, ⟨44, 1, [.c (.val (.slice none 0 0)), .c (.clo 55 [0])], [(0, .box [.val (.string s_2)])], cB r_10, [(0, .box [.val (.string s_2)])], [(0, 0)], 1⟩), (18, ⟨46, 0, [cS s_2], [], .c (.clo 57 [0]), [(0, .box [.val (.string s_2)])], [(0, 1)], 2⟩), (19, ⟨44, 1, [.c (.val (.slice none 0 0)), .c (.clo 57 [0])], [(0, .box [.val (.string s_2)])], cB r_16, [(0, .box [.val (.string s_2)])], [(0, 1)], 2⟩)] [(9, false), (14, false), (21, false)] (calls_cons (region_inside_spec K s_2 r_8 h_9) (by kernel_rfl) (calls_cons (region_every_ncregioninside1_98415_spec K s_2 r_10 h_11) (by kernel_rfl) (calls_cons (region_edges_spec K s_2 r_14 h_15) (by kernel_rfl) (calls_cons (region_every_ncregionedges1_582ed_spec K s_2 r_16 h_17) (by kernel_rfl) calls_nil)))) 0 [0, 27] [] ⟨[(0, .c (.val (.slice none 0 0))), (27, cB (!r_16))], [], 2⟩ [(decide ((lnI ([] : (List (Int × Int)))) < (1 : Int))) = false, (decide ((lnI ([] : (List (Int × Int)))) > (8 : Int))) = false, (!r_10) = false] (by kernel_rfl) rfl rfl (ap2 b_4 (ap2 b_6 (ap1 b_12))) (by kernel_rfl) (by kernel_rfl) ?_
          have H_58 := Option.some.inj (show some (!r_16) = some q_41 from H_57); subst H_58
          refine VL_nil ?_
          exact QP_end (!r_16) rfl [] hn (by kernel_rfl) (by kernel_rfl) rfl rfl rfl
  · intro y_44 hy; subst hy
    skip
    skip
    refine VL_cond (y_44) (by kernel_rfl) ?_ ?_
    · intro b_20; have H_59 := of_t H_43 b_20
      refine V_run hN hn 2 2 [4] [] ⟨[(4, cB false)], [], 2⟩ [] (by kernel_rfl) rfl rfl ap0 ?_
      have H_61 := Option.some.inj (show some false = some r from H_59); subst H_61
      refine VL_ret ?_
      exact P_to [(4, cB false)] [] [] hn (by kernel_rfl) (by kernel_rfl) rfl rfl rfl (QF_retS (by kernel_rfl) (by kernel_rfl) rfl)
    · intro b_20; have H_60 := of_f H_43 b_20
      refine V_run hN hn 4 2 [0, 5] [] ⟨[(0, .c (.val (.slice none 0 0))), (5, cI (1 : Int))], [], 2⟩ [] (by kernel_rfl) rfl rfl ap0 ?_
      refine VL_block ?_
      refine V_to [(0, .c (.val (.slice none 0 0))), (5, cI (1 : Int))] [] [] hn (by kernel_rfl) (by kernel_rfl) rfl rfl rfl ?_
      refine VL_loop (X := Int) (fun x => [(0, .c (.val (.slice none 0 0))), (5, cI x)]) (fun x => []) (fun k x => region_Is_rg.l0 K ([] : (List (Int × Int))) k x = some r) K (1 : Int) H_60 (fun _ h => no_none h) ?_
      intro k_24 i_23 H_62
      have H_63 : region_Is_rg.l0 K ([] : (List (Int × Int))) (k_24 + 1) i_23 = some r := H_62
      rw [region_Is_rg.l0] at H_63
      refine V_run hN hn 3 2 [0, 5, 31] [] ⟨[(0, .c (.val (.slice none 0 0))), (5, cI i_23), (31, cB (decide (i_23 < (lnI ([] : (List (Int × Int)))))))], [], 2⟩ [] (by kernel_rfl) rfl rfl ap0 ?_
      refine VL_cond ((decide (i_23 < (lnI ([] : (List (Int × Int))))))) (by kernel_rfl) ?_ ?_
      · intro b_26; have H_64 := of_t H_63 b_26
        refine V_run hN hn 2 2 [0, 5, 31] [] ⟨[(0, .c (.val (.slice none 0 0))), (5, cI i_23), (31, cB (decide (i_23 < (lnI ([] : (List (Int × Int)))))))], [], 2⟩ [] (by kernel_rfl) rfl rfl ap0 ?_
        refine VL_block ?_
        refine V_run hN hn 1 2 [0, 5, 31] [] ⟨[(0, .c (.val (.slice none 0 0))), (5, cI i_23), (31, cB (decide (i_23 < (lnI ([] : (List (Int × Int)))))))], [], 2⟩ [] (by kernel_rfl) rfl rfl ap0 ?_
        obtain ⟨r_29, h_30, H_66⟩ := of_bind H_64
        obtain ⟨r_31, h_32, H_67⟩ := of_bind H_66
        obtain ⟨c_33, H_68⟩ := of_if H_67
        refine V_draw hN hn (by kernel_rfl) [(4, ⟨34, 0, [.agg [.val (.int .i64 (List.getD ([] : (List (Int × Int))) (Int.toNat i_23) zP).1), .val (.int .i64 (List.getD ([] : (List (Int × Int))) (Int.toNat i_23) zP).2)]], [], .agg [.val (.int .i64 r_29.1), .val (.int .i64 r_29.2)], [], [], 2⟩), (11, ⟨34, 0, [.agg [.val (.int .i64 (List.getD ([] : (List (Int × Int))) (Int.toNat (w6 (i_23 - (1 : Int)))) zP).1), .val (.int .i64 (List.getD ([] : (List (Int × Int))) (Int.toNat (w6 (i_23 - (1 : Int)))) zP).2)]], [], .agg [.val (.int .i64 r_31.1), .val (.int .i64 r_31.2)], [], [], 2⟩)] [] (calls_cons (region_Span_spec K (List.getD ([] : (List (Int × Int))) (Int.toNat i_23) zP).1 (List.getD ([] : (List (Int × Int))) (Int.toNat i_23) zP).2 r_29 h_30) (by kernel_rfl) (calls_cons (region_Span_spec K (List.getD ([] : (List (Int × Int))) (Int.toNat (w6 (i_23 - (1 : Int)))) zP).1 (List.getD ([] : (List (Int × Int))) (Int.toNat (w6 (i_23 - (1 : Int)))) zP).2 r_31 h_32) (by kernel_rfl) calls_nil)) 2 [0, 5, 47] [] ⟨[(0, .c (.val (.slice none 0 0))), (5, cI i_23), (47, cB (decide (r_29.1 ≤ r_31.2)))], [], 2⟩ [0 ≤ i_23, i_23 < (lnI ([] : (List (Int × Int)))), 0 ≤ (w6 (i_23 - (1 : Int))), (w6 (i_23 - (1 : Int))) < (lnI ([] : (List (Int × Int))))] (by kernel_rfl) rfl rfl (ap2 c_33.1 (ap2 c_33.2.1 (ap2 c_33.2.2.1 (ap1 c_33.2.2.2)))) (by kernel_rfl) (by kernel_rfl) ?_
        refine VL_cond ((decide (r_29.1 ≤ r_31.2))) (by kernel_rfl) ?_ ?_
        · intro b_34; have H_69 := of_t H_68 b_34
          refine V_run hN hn 2 2 [4] [] ⟨[(4, cB false)], [], 2⟩ [] (by kernel_rfl) rfl rfl ap0 ?_
          have H_71 := Option.some.inj (show some false = some r from H_69); subst H_71
          refine VL_ret ?_
          refine QB_ret ?_
          refine QL_ret ?_
          refine QB_ret ?_
          exact P_to [(4, cB false)] [] [] hn (by kernel_rfl) (by kernel_rfl) rfl rfl rfl (QF_retS (by kernel_rfl) (by kernel_rfl) rfl)
        · intro b_34; have H_70 := of_f H_68 b_34
          refine V_run hN hn 1 2 [0, 5, 47] [] ⟨[(0, .c (.val (.slice none 0 0))), (5, cI i_23), (47, cB (decide (r_29.1 ≤ r_31.2)))], [], 2⟩ [] (by kernel_rfl) rfl rfl ap0 ?_
          refine VL_nil (QB_end ?_)
          refine V_run hN hn 1 2 [0, 5] [] ⟨[(0, .c (.val (.slice none 0 0))), (5, cI (w6 (i_23 + (1 : Int))))], [], 2⟩ [] (by kernel_rfl) rfl rfl ap0 ?_
          refine VL_nil ?_
          exact V_roundEnd (w6 (i_23 + (1 : Int))) H_70 [] hn (by kernel_rfl) (by kernel_rfl) rfl rfl rfl
      · intro b_26; have H_65 := of_f H_63 b_26
        refine VL_exit ?_
        refine QL_exit ?_
        refine QB_here ?_
        refine V_run hN hn 2 2 [4] [] ⟨[(4, cB true)], [], 2⟩ [] (by kernel_rfl) rfl rfl ap0 ?_
        have H_72 := Option.some.inj (show some true = some r from H_65); subst H_72
        refine VL_ret ?_
        exact P_to [(4, cB true)] [] [] hn (by kernel_rfl) (by kernel_rfl) rfl rfl rfl (QF_retS (by kernel_rfl) (by kernel_rfl) rfl)

theorem carets_each_ngccaretsLines1_c8987_spec (K : Nat) (s_2 : ByteArray) (does_3 : ByteArray) (r : ((List (Int × Int)) × Int)) (H : carets_each_rgccaretsLines1_e11c4 K ([] : (List (Int × Int))) s_2 does_3 = some r) : Spec Try.prog 27 1 [.c (.val (.slice none 0 0)), cS s_2, .c (.clo 33 [0])] [(0, .box [.val (.string does_3)])] (.tup [(false, [.h 7]), (false, [.val (.int .i64 r.2)])]) [(0, .box [.val (.string does_3)]), (7, .row kP r.1)] := by
  refine Spec_mk (fn := Try.f27) (c := (Try.f27.body).get!) Try.func27 (by kernel_rfl) rfl ?_
  intro C hN hn
  replace hN : C.N = 33 := hN
  unfold carets_each_rgccaretsLines1_e11c4 at H
  refine V_run hN hn 4 1 [0, 1, 2] [0] ⟨[(0, .c (.val (.slice none 0 0))), (1, cS s_2), (2, .c (.clo 33 [0]))], [(0, .box [.val (.string does_3)])], 1⟩ [] (by kernel_rfl) rfl rfl ap0 ?_
  obtain ⟨r_5, h_6, H_39⟩ := of_bind H
  refine V_reg hN hn [(2, ⟨37, 0, [.c (.val (.slice none 0 0)), cS s_2], [], cB r_5, [], [], 1⟩)] [] (calls_cons (region_Is_ng_spec K s_2 r_5 h_6) (by kernel_rfl) calls_nil) 1 [0, 1, 2, 14] [0] ⟨[(0, .c (.val (.slice none 0 0))), (1, cS s_2), (2, .c (.clo 33 [0])), (14, cB (!r_5))], [(0, .box [.val (.string does_3)])], 1⟩ [] (by kernel_rfl) rfl rfl ap0 (by kernel_rfl) (by kernel_rfl) ?_
  refine VL_cond ((!r_5)) (by kernel_rfl) ?_ ?_
  · intro b_8; have H_40 := of_t H_39 b_8
    refine V_run hN hn 2 1 [6, 7] [0] ⟨[(6, .c (.val (.slice none 0 0))), (7, cI (12 : Int))], [(0, .box [.val (.string does_3)])], 1⟩ [] (by kernel_rfl) rfl rfl ap0 ?_
    have H_42 := Option.some.inj (show some (([] : List (Int × Int)), (12 : Int)) = some r from H_40); subst H_42
    refine VL_ret ?_
    refine P_ghost [.nilSlot 6 kP] 1 hn [6, 7] [0, 1] ⟨[(6, .c (.h 1)), (7, cI (12 : Int))], [(0, .box [.val (.string does_3)]), (1, .row kP ([] : List (Int × Int)))], 2⟩ (by kernel_rfl) rfl rfl ?_
    exact P_to [(6, .c (.h 7)), (7, cI (12 : Int))] [(0, .box [.val (.string does_3)]), (7, .row kP ([] : List (Int × Int)))] [(7, 1)] hn (by kernel_rfl) (by kernel_rfl) rfl rfl rfl (QF_retS (by kernel_rfl) (by kernel_rfl) rfl)
  · intro b_8; have H_41 := of_f H_39 b_8
    refine V_run hN hn 6 1 [1, 2, 8, 15, 16, 17] [0] ⟨[(1, cS s_2), (2, .c (.clo 33 [0])), (8, .c (.val (.slice none 0 0))), (15, .c (.val (.slice none 0 0))), (16, cI (lnI ([] : (List (Int × Int))))), (17, cI (0 : Int))], [(0, .box [.val (.string does_3)])], 1⟩ [] (by kernel_rfl) rfl rfl ap0 ?_
    obtain ⟨q_43, H_44, H_45⟩ := of_bind H_41
    refine V_cut (Y := (List (Int × Int))) (R := (List (Int × Int))) q_43 (fun y => y) (fun y => [(1, cS s_2), (8, .c (.h 5))]) (fun y => [(0, .box [.val (.string does_3)]), (5, .row kP y)]) ?_ ?_
    · skip
      refine VL_block ?_
      refine V_ghost [.nilSlot 8 kP] 1 hn [1, 2, 8, 15, 16, 17] [0, 1] ⟨[(1, cS s_2), (2, .c (.clo 33 [0])), (8, .c (.h 1)), (15, .c (.val (.slice none 0 0))), (16, cI (lnI ([] : (List (Int × Int))))), (17, cI (0 : Int))], [(0, .box [.val (.string does_3)]), (1, .row kP ([] : List (Int × Int)))], 2⟩ (by kernel_rfl) rfl rfl ?_
      refine V_to [(1, cS s_2), (2, .c (.clo 33 [0])), (8, .c (.h 5)), (15, .c (.val (.slice none 0 0))), (16, cI (lnI ([] : (List (Int × Int))))), (17, cI (0 : Int))] [(0, .box [.val (.string does_3)]), (5, .row kP ([] : List (Int × Int)))] [(5, 1)] hn (by kernel_rfl) (by kernel_rfl) rfl rfl rfl ?_
      refine VL_loop (X := ((List (Int × Int)) × Int)) (fun x => [(1, cS s_2), (2, .c (.clo 33 [0])), (8, .c (.h 5)), (15, .c (.val (.slice none 0 0))), (16, cI (lnI ([] : (List (Int × Int))))), (17, cI x.2)]) (fun x => [(0, .box [.val (.string does_3)]), (5, .row kP x.1)]) (fun k x => carets_each_rgccaretsLines1_e11c4.l0 K ([] : (List (Int × Int))) does_3 k x.1 x.2 = some q_43) K (([] : List (Int × Int)), (0 : Int)) H_44 (fun _ h => no_none h) ?_
      intro k_22 x_22 H_47
      obtain ⟨out_21, t_11⟩ := x_22
      have H_48 : carets_each_rgccaretsLines1_e11c4.l0 K ([] : (List (Int × Int))) does_3 (k_22 + 1) out_21 t_11 = some q_43 := H_47
      rw [carets_each_rgccaretsLines1_e11c4.l0] at H_48
      refine V_run hN hn 3 6 [1, 2, 8, 15, 16, 17, 18] [0, 5] ⟨[(1, cS s_2), (2, .c (.clo 33 [0])), (8, .c (.h 5)), (15, .c (.val (.slice none 0 0))), (16, cI (lnI ([] : (List (Int × Int))))), (17, cI t_11), (18, cB (decide (t_11 < (lnI ([] : (List (Int × Int)))))))], [(0, .box [.val (.string does_3)]), (5, .row kP out_21)], 6⟩ [] (by kernel_rfl) rfl rfl ap0 ?_
      refine VL_cond ((decide (t_11 < (lnI ([] : (List (Int × Int))))))) (by kernel_rfl) ?_ ?_
      · intro b_24; have H_49 := of_t H_48 b_24
        refine V_run hN hn 2 6 [1, 2, 8, 15, 16, 17, 18] [0, 5] ⟨[(1, cS s_2), (2, .c (.clo 33 [0])), (8, .c (.h 5)), (15, .c (.val (.slice none 0 0))), (16, cI (lnI ([] : (List (Int × Int))))), (17, cI t_11), (18, cB (decide (t_11 < (lnI ([] : (List (Int × Int)))))))], [(0, .box [.val (.string does_3)]), (5, .row kP out_21)], 6⟩ [] (by kernel_rfl) rfl rfl ap0 ?_
        refine VL_block ?_
        obtain ⟨c_26, H_51⟩ := of_if H_49
        refine V_run hN hn 2 6 [1, 2, 8, 10, 15, 16, 17] [0, 5, 6] ⟨[(1, cS s_2), (2, .c (.clo 33 [0])), (8, .c (.h 5)), (10, .c (.h 6)), (15, .c (.val (.slice none 0 0))), (16, cI (lnI ([] : (List (Int × Int))))), (17, cI t_11)], [(0, .box [.val (.string does_3)]), (5, .row kP out_21), (6, .box [.val (.int .i64 (List.getD ([] : (List (Int × Int))) (Int.toNat t_11) zP).1), .val (.int .i64 (List.getD ([] : (List (Int × Int))) (Int.toNat t_11) zP).2)])], 7⟩ [0 ≤ t_11, t_11 < (lnI ([] : (List (Int × Int))))] (by kernel_rfl) rfl rfl (ap2 c_26.1 (ap1 c_26.2)) ?_
        obtain ⟨r_27, h_28, H_52⟩ := of_bind H_51
        obtain ⟨c_29, H_53⟩ := of_if H_52
        refine V_reg hN hn [(3, ⟨33, 1, [.agg [.val (.int .i64 (List.getD ([] : (List (Int × Int))) (Int.toNat t_11) zP).1), .val (.int .i64 (List.getD ([] : (List (Int × Int))) (Int.toNat t_11) zP).2)], .c (.h 0)], [(0, .box [.val (.string does_3)])], .agg [.val (.int .i64 r_27.1), .val (.int .i64 r_27.2)], [(0, .box [.val (.string does_3)])], [(0, 0)], 7⟩)] [] (calls_cons (carets_Lines_1_sggb_5389a_spec K (List.getD ([] : (List (Int × Int))) (Int.toNat t_11) zP).1 (List.getD ([] : (List (Int × Int))) (Int.toNat t_11) zP).2 does_3 r_27 h_28) (by kernel_rfl) calls_nil) 7 [1, 2, 8, 15, 16, 17] [0, 8] ⟨[(1, cS s_2), (2, .c (.clo 33 [0])), (8, .c (.h 8)), (15, .c (.val (.slice none 0 0))), (16, cI (lnI ([] : (List (Int × Int))))), (17, cI t_11)], [(0, .box [.val (.string does_3)]), (8, .row kP (out_21 ++ ([(r_27.1, r_27.2)] : List (Int × Int))))], 9⟩ [(List.length out_21 + List.length ([(r_27.1, r_27.2)] : List (Int × Int))) * 16 ≤ 140737488355328] (by kernel_rfl) rfl rfl (ap1 c_29) (by kernel_rfl) (by kernel_rfl) ?_
        refine VL_nil (QB_end ?_)
        refine V_run hN hn 1 9 [1, 2, 8, 15, 16, 17] [0, 8] ⟨[(1, cS s_2), (2, .c (.clo 33 [0])), (8, .c (.h 8)), (15, .c (.val (.slice none 0 0))), (16, cI (lnI ([] : (List (Int × Int))))), (17, cI (w6 (t_11 + (1 : Int))))], [(0, .box [.val (.string does_3)]), (8, .row kP (out_21 ++ ([(r_27.1, r_27.2)] : List (Int × Int))))], 9⟩ [] (by kernel_rfl) rfl rfl ap0 ?_
        refine VL_nil ?_
        exact V_roundEnd ((out_21 ++ ([(r_27.1, r_27.2)] : List (Int × Int))), (w6 (t_11 + (1 : Int)))) H_53 [(5, 8)] hn (by kernel_rfl) (by kernel_rfl) rfl rfl rfl
      · intro b_24; have H_50 := of_f H_48 b_24
        refine VL_exit ?_
        refine QL_exit ?_
        refine QB_here ?_
        have H_54 := Option.some.inj (show some out_21 = some q_43 from H_50); subst H_54
        refine VL_nil ?_
        exact QP_end out_21 rfl [(5, 5)] hn (by kernel_rfl) (by kernel_rfl) rfl rfl rfl
    · intro y_46 hy; subst hy
      skip
      skip
      refine V_run hN hn 1 6 [1, 8] [0, 5] ⟨[(1, cS s_2), (8, .c (.h 5))], [(0, .box [.val (.string does_3)]), (5, .row kP y_46)], 6⟩ [] (by kernel_rfl) rfl rfl ap0 ?_
      refine V_ghost [.shut 5] 6 hn [1, 8] [0] ⟨[(1, cS s_2), (8, .c (.imm (.slice kP) y_46))], [(0, .box [.val (.string does_3)])], 6⟩ (by kernel_rfl) rfl rfl ?_
      obtain ⟨r_33, h_34, H_55⟩ := of_bind H_45
      refine V_reg hN hn [(2, ⟨39, 0, [.c (.imm (.slice kP) y_46), cS s_2], [], .tup [(false, [.h 3]), (false, [.val (.int .i64 r_33.2)])], [(3, .row kP r_33.1)], [(3, 6)], 7⟩)] [] (calls_cons (region_Make_spec K y_46 s_2 r_33 h_34) (by kernel_rfl) calls_nil) 6 [6, 7] [0, 6] ⟨[(6, .c (.h 6)), (7, cI r_33.2)], [(0, .box [.val (.string does_3)]), (6, .row kP r_33.1)], 7⟩ [] (by kernel_rfl) rfl rfl ap0 (by kernel_rfl) (by kernel_rfl) ?_
      have H_56 := Option.some.inj (show some (r_33.1, r_33.2) = some r from H_55); subst H_56
      refine VL_ret ?_
      exact P_to [(6, .c (.h 7)), (7, cI r_33.2)] [(0, .box [.val (.string does_3)]), (7, .row kP r_33.1)] [(7, 6)] hn (by kernel_rfl) (by kernel_rfl) rfl rfl rfl (QF_retS (by kernel_rfl) (by kernel_rfl) rfl)

theorem carets_Lines_ng_spec (K : Nat) (s_2 : ByteArray) (r : ((List (Int × Int)) × Int)) (H : carets_Lines_rg K ([] : (List (Int × Int))) s_2 = some r) : Spec Try.prog 12 0 [.c (.val (.slice none 0 0)), cS s_2] [] (.tup [(false, [.h 1]), (false, [.val (.int .i64 r.2)])]) [(1, .row kP r.1)] := by
  refine Spec_mk (fn := Try.f12) (c := (Try.f12.body).get!) Try.func12 (by kernel_rfl) rfl ?_
  intro C hN hn
  replace hN : C.N = 12 := hN
  unfold carets_Lines_rg at H
  refine V_run hN hn 3 0 [0, 3] [0] ⟨[(0, .c (.val (.slice none 0 0))), (3, .c (.h 0))], [(0, .box [.val (.string s_2)])], 1⟩ [] (by kernel_rfl) rfl rfl ap0 ?_
  obtain ⟨r_4, h_5, H_9⟩ := of_bind H
  refine V_reg hN hn [(3, ⟨27, 1, [.c (.val (.slice none 0 0)), cS s_2, .c (.clo 33 [0])], [(0, .box [.val (.string s_2)])], .tup [(false, [.h 7]), (false, [.val (.int .i64 r_4.2)])], [(0, .box [.val (.string s_2)]), (7, .row kP r_4.1)], [(0, 0), (7, 1)], 2⟩)] [] (calls_cons (carets_each_ngccaretsLines1_c8987_spec K s_2 s_2 r_4 h_5) (by kernel_rfl) calls_nil) 1 [4, 5] [1] ⟨[(4, .c (.h 1)), (5, cI r_4.2)], [(1, .row kP r_4.1)], 2⟩ [] (by kernel_rfl) rfl rfl ap0 (by kernel_rfl) (by kernel_rfl) ?_
  have H_10 := Option.some.inj (show some (r_4.1, r_4.2) = some r from H_9); subst H_10
  refine VL_ret ?_
  exact P_to [(4, .c (.h 1)), (5, cI r_4.2)] [(1, .row kP r_4.1)] [(1, 1)] hn (by kernel_rfl) (by kernel_rfl) rfl rfl rfl (QF_retS (by kernel_rfl) (by kernel_rfl) rfl)

theorem palinodelaw25_known_spec (K : Nat) (r : Bool) (H : palinodelaw25_known K  = some r) : Spec Try.prog 9 0 [] [] (cB r) [] := by
  refine Spec_mk (fn := Try.f9) (c := (Try.f9.body).get!) Try.func9 (by kernel_rfl) rfl ?_
  intro C hN hn
  replace hN : C.N = 96 := hN
  unfold palinodelaw25_known at H
  refine V_run hN hn 5 0 [1] [0] ⟨[(1, .c (.h 0))], [(0, .row kP ([((2 : Int), (2 : Int)), ((3 : Int), (3 : Int))] : List (Int × Int)))], 1⟩ [] (by kernel_rfl) rfl rfl ap0 ?_
  obtain ⟨r_2, h_3, H_46⟩ := of_bind H
  refine V_reg hN hn [(1, ⟨15, 1, [.c (.h 0), cS (ByteArray.mk #[120])], [(0, .row kP ([((2 : Int), (2 : Int)), ((3 : Int), (3 : Int))] : List (Int × Int)))], .c (.h 6), [(0, .row kP ([((2 : Int), (2 : Int)), ((3 : Int), (3 : Int))] : List (Int × Int))), (6, .row kE r_2)], [(0, 0), (6, 1)], 2⟩)] [] (calls_cons (carets_Type_rg_spec K ([((2 : Int), (2 : Int)), ((3 : Int), (3 : Int))] : List (Int × Int)) (ByteArray.mk #[120]) r_2 h_3) (by kernel_rfl) calls_nil) 1 [1, 2] [0, 1] ⟨[(1, .c (.h 0)), (2, .c (.h 1))], [(0, .row kP ([((2 : Int), (2 : Int)), ((3 : Int), (3 : Int))] : List (Int × Int))), (1, .row kE r_2)], 2⟩ [] (by kernel_rfl) rfl rfl ap0 (by kernel_rfl) (by kernel_rfl) ?_
  refine V_run hN hn 1 2 [1, 2] [0, 1] ⟨[(1, .c (.h 0)), (2, .c (.h 1))], [(0, .row kP ([((2 : Int), (2 : Int)), ((3 : Int), (3 : Int))] : List (Int × Int))), (1, .row kE r_2)], 2⟩ [] (by kernel_rfl) rfl rfl ap0 ?_
  obtain ⟨r_6, h_7, H_47⟩ := of_bind H_46
  refine V_reg hN hn [(1, ⟨17, 1, [.c (.h 0), cS (ByteArray.mk #[97, 98, 99, 100])], [(0, .row kP ([((2 : Int), (2 : Int)), ((3 : Int), (3 : Int))] : List (Int × Int)))], .c (.h 7), [(0, .row kP ([((2 : Int), (2 : Int)), ((3 : Int), (3 : Int))] : List (Int × Int))), (7, .row kE r_6)], [(0, 0), (7, 2)], 3⟩)] [] (calls_cons (carets_Erase_rg_spec K ([((2 : Int), (2 : Int)), ((3 : Int), (3 : Int))] : List (Int × Int)) (ByteArray.mk #[97, 98, 99, 100]) r_6 h_7) (by kernel_rfl) calls_nil) 2 [1, 2, 3] [0, 1, 2] ⟨[(1, .c (.h 0)), (2, .c (.h 1)), (3, .c (.h 2))], [(0, .row kP ([((2 : Int), (2 : Int)), ((3 : Int), (3 : Int))] : List (Int × Int))), (1, .row kE r_2), (2, .row kE r_6)], 3⟩ [] (by kernel_rfl) rfl rfl ap0 (by kernel_rfl) (by kernel_rfl) ?_
  refine V_run hN hn 1 3 [1, 2, 3] [0, 1, 2] ⟨[(1, .c (.h 0)), (2, .c (.h 1)), (3, .c (.h 2))], [(0, .row kP ([((2 : Int), (2 : Int)), ((3 : Int), (3 : Int))] : List (Int × Int))), (1, .row kE r_2), (2, .row kE r_6)], 3⟩ [] (by kernel_rfl) rfl rfl ap0 ?_
  obtain ⟨r_10, h_11, H_48⟩ := of_bind H_47
  refine V_reg hN hn [(1, ⟨10, 1, [.c (.h 0), cS (ByteArray.mk #[97, 98, 99, 100]), cB true, cB false], [(0, .row kP ([((2 : Int), (2 : Int)), ((3 : Int), (3 : Int))] : List (Int × Int)))], .tup [(false, [.h 4]), (false, [.val (.int .i64 r_10.2)])], [(0, .row kP ([((2 : Int), (2 : Int)), ((3 : Int), (3 : Int))] : List (Int × Int))), (4, .row kP r_10.1)], [(0, 0), (4, 3)], 4⟩)] [] (calls_cons (carets_Step_rggg_spec K ([((2 : Int), (2 : Int)), ((3 : Int), (3 : Int))] : List (Int × Int)) (ByteArray.mk #[97, 98, 99, 100]) true false r_10 h_11) (by kernel_rfl) calls_nil) 3 [1, 2, 3, 4, 5] [0, 1, 2, 3] ⟨[(1, .c (.h 0)), (2, .c (.h 1)), (3, .c (.h 2)), (4, .c (.h 3)), (5, cI r_10.2)], [(0, .row kP ([((2 : Int), (2 : Int)), ((3 : Int), (3 : Int))] : List (Int × Int))), (1, .row kE r_2), (2, .row kE r_6), (3, .row kP r_10.1)], 4⟩ [] (by kernel_rfl) rfl rfl ap0 (by kernel_rfl) (by kernel_rfl) ?_
  refine V_run hN hn 1 4 [1, 2, 3, 4, 5] [0, 1, 2, 3] ⟨[(1, .c (.h 0)), (2, .c (.h 1)), (3, .c (.h 2)), (4, .c (.h 3)), (5, cI r_10.2)], [(0, .row kP ([((2 : Int), (2 : Int)), ((3 : Int), (3 : Int))] : List (Int × Int))), (1, .row kE r_2), (2, .row kE r_6), (3, .row kP r_10.1)], 4⟩ [] (by kernel_rfl) rfl rfl ap0 ?_
  obtain ⟨r_14, h_15, H_49⟩ := of_bind H_48
  refine V_reg hN hn [(1, ⟨12, 1, [.c (.h 0), cS (ByteArray.mk #[97, 10, 98, 99])], [(0, .row kP ([((2 : Int), (2 : Int)), ((3 : Int), (3 : Int))] : List (Int × Int)))], .tup [(false, [.h 2]), (false, [.val (.int .i64 r_14.2)])], [(0, .row kP ([((2 : Int), (2 : Int)), ((3 : Int), (3 : Int))] : List (Int × Int))), (2, .row kP r_14.1)], [(0, 0), (2, 4)], 5⟩)] [] (calls_cons (carets_Lines_rg_spec K ([((2 : Int), (2 : Int)), ((3 : Int), (3 : Int))] : List (Int × Int)) (ByteArray.mk #[97, 10, 98, 99]) r_14 h_15) (by kernel_rfl) calls_nil) 4 [2, 3, 4, 5, 6, 7] [1, 2, 3, 4] ⟨[(2, .c (.h 1)), (3, .c (.h 2)), (4, .c (.h 3)), (5, cI r_10.2), (6, .c (.h 4)), (7, cI r_14.2)], [(1, .row kE r_2), (2, .row kE r_6), (3, .row kP r_10.1), (4, .row kP r_14.1)], 5⟩ [] (by kernel_rfl) rfl rfl ap0 (by kernel_rfl) (by kernel_rfl) ?_
  refine V_run hN hn 1 5 [2, 3, 4, 5, 6, 7] [1, 2, 3, 4] ⟨[(2, .c (.h 1)), (3, .c (.h 2)), (4, .c (.h 3)), (5, cI r_10.2), (6, .c (.h 4)), (7, cI r_14.2)], [(1, .row kE r_2), (2, .row kE r_6), (3, .row kP r_10.1), (4, .row kP r_14.1)], 5⟩ [] (by kernel_rfl) rfl rfl ap0 ?_
  obtain ⟨r_18, h_19, H_50⟩ := of_bind H_49
  refine V_reg hN hn [(0, ⟨12, 0, [.c (.val (.slice none 0 0)), cS (ByteArray.mk #[])], [], .tup [(false, [.h 1]), (false, [.val (.int .i64 r_18.2)])], [(1, .row kP r_18.1)], [(1, 5)], 6⟩)] [] (calls_cons (carets_Lines_ng_spec K (ByteArray.mk #[]) r_18 h_19) (by kernel_rfl) calls_nil) 5 [2, 3, 4, 5, 6, 7, 9] [1, 2, 3, 4] ⟨[(2, .c (.h 1)), (3, .c (.h 2)), (4, .c (.h 3)), (5, cI r_10.2), (6, .c (.h 4)), (7, cI r_14.2), (9, cI r_18.2)], [(1, .row kE r_2), (2, .row kE r_6), (3, .row kP r_10.1), (4, .row kP r_14.1)], 6⟩ [] (by kernel_rfl) rfl rfl ap0 (by kernel_rfl) (by kernel_rfl) ?_
  refine V_run hN hn 1 6 [2, 3, 4, 5, 6, 7, 9] [1, 2, 3, 4] ⟨[(2, .c (.h 1)), (3, .c (.h 2)), (4, .c (.h 3)), (5, cI r_10.2), (6, .c (.h 4)), (7, cI r_14.2), (9, cI r_18.2)], [(1, .row kE r_2), (2, .row kE r_6), (3, .row kP r_10.1), (4, .row kP r_14.1)], 6⟩ [] (by kernel_rfl) rfl rfl ap0 ?_
  rcases Bool.eq_false_or_eq_true (((lnI r_2) == (2 : Int))) with b_22 | b_22
  · have H_51 := of_t H_50 b_22
    rcases Bool.eq_false_or_eq_true ((((List.getD r_2 1 zE).1 == (3 : Int)) && (((List.getD r_2 1 zE).2.1 == (3 : Int)) && (ByteArray.toList (List.getD r_2 1 zE).2.2 == ByteArray.toList (ByteArray.mk #[120]))))) with b_23 | b_23
    · have H_53 := of_t H_51 b_23
      rcases Bool.eq_false_or_eq_true (((lnI r_6) == (2 : Int))) with b_24 | b_24
      · have H_55 := of_t H_53 b_24
        rcases Bool.eq_false_or_eq_true ((((List.getD r_6 0 zE).1 == (1 : Int)) && (((List.getD r_6 0 zE).2.1 == (2 : Int)) && (ByteArray.toList (List.getD r_6 0 zE).2.2 == ByteArray.toList ByteArray.empty)))) with b_25 | b_25
        · have H_57 := of_t H_55 b_25
          rcases Bool.eq_false_or_eq_true ((((List.getD r_6 1 zE).1 == (2 : Int)) && (((List.getD r_6 1 zE).2.1 == (3 : Int)) && (ByteArray.toList (List.getD r_6 1 zE).2.2 == ByteArray.toList ByteArray.empty)))) with b_26 | b_26
          · have H_59 := of_t H_57 b_26
            rcases Bool.eq_false_or_eq_true ((r_10.2 == (0 : Int))) with b_27 | b_27
            · have H_61 := of_t H_59 b_27
              rcases Bool.eq_false_or_eq_true (((lnI r_10.1) == (2 : Int))) with b_28 | b_28
              · have H_63 := of_t H_61 b_28
                rcases Bool.eq_false_or_eq_true (((List.getD r_10.1 0 zP).2 == (3 : Int))) with b_29 | b_29
                · have H_65 := of_t H_63 b_29
                  rcases Bool.eq_false_or_eq_true ((r_14.2 == (0 : Int))) with b_30 | b_30
                  · have H_67 := of_t H_65 b_30
                    rcases Bool.eq_false_or_eq_true (((lnI r_14.1) == (1 : Int))) with b_31 | b_31
                    · have H_69 := of_t H_67 b_31
                      rcases Bool.eq_false_or_eq_true ((((List.getD r_14.1 0 zP).1 == (2 : Int)) && ((List.getD r_14.1 0 zP).2 == (4 : Int)))) with b_32 | b_32
                      · have H_71 := of_t H_69 b_32
                        obtain ⟨c_33, H_73⟩ := of_if H_71
                        refine V_reg hN hn [] [(34, true), (41, true), (46, true), (53, true), (60, true), (64, true), (69, true), (76, true), (80, true), (85, true), (92, true)] calls_nil 6 [0] [] ⟨[(0, cB (r_18.2 == (12 : Int)))], [], 6⟩ [((lnI r_2) == (2 : Int)) = true, (0 : Int) ≤ (1 : Int), (1 : Int) < (lnI r_2), (((List.getD r_2 1 zE).1 == (3 : Int)) && (((List.getD r_2 1 zE).2.1 == (3 : Int)) && (ByteArray.toList (List.getD r_2 1 zE).2.2 == ByteArray.toList (ByteArray.mk #[120])))) = true, ((lnI r_6) == (2 : Int)) = true, (0 : Int) ≤ (0 : Int), (0 : Int) < (lnI r_6), (((List.getD r_6 0 zE).1 == (1 : Int)) && (((List.getD r_6 0 zE).2.1 == (2 : Int)) && (ByteArray.toList (List.getD r_6 0 zE).2.2 == ByteArray.toList ByteArray.empty))) = true, (0 : Int) ≤ (1 : Int), (1 : Int) < (lnI r_6), (((List.getD r_6 1 zE).1 == (2 : Int)) && (((List.getD r_6 1 zE).2.1 == (3 : Int)) && (ByteArray.toList (List.getD r_6 1 zE).2.2 == ByteArray.toList ByteArray.empty))) = true, (r_10.2 == (0 : Int)) = true, ((lnI r_10.1) == (2 : Int)) = true, (0 : Int) ≤ (0 : Int), (0 : Int) < (lnI r_10.1), ((List.getD r_10.1 0 zP).2 == (3 : Int)) = true, (r_14.2 == (0 : Int)) = true, ((lnI r_14.1) == (1 : Int)) = true, (0 : Int) ≤ (0 : Int), (0 : Int) < (lnI r_14.1), (((List.getD r_14.1 0 zP).1 == (2 : Int)) && ((List.getD r_14.1 0 zP).2 == (4 : Int))) = true] (by kernel_rfl) rfl rfl (ap2 b_22 (ap2 (by decide) (ap2 c_33.1 (ap2 b_23 (ap2 b_24 (ap2 (by decide) (ap2 c_33.2.1 (ap2 b_25 (ap2 (by decide) (ap2 c_33.2.2.1 (ap2 b_26 (ap2 b_27 (ap2 b_28 (ap2 (by decide) (ap2 c_33.2.2.2.1 (ap2 b_29 (ap2 b_30 (ap2 b_31 (ap2 (by decide) (ap2 c_33.2.2.2.2 (ap1 b_32))))))))))))))))))))) (by kernel_rfl) (by kernel_rfl) ?_
                        have H_74 := Option.some.inj (show some (r_18.2 == (12 : Int)) = some r from H_73); subst H_74
                        refine VL_ret ?_
                        exact P_to [(0, cB (r_18.2 == (12 : Int)))] [] [] hn (by kernel_rfl) (by kernel_rfl) rfl rfl rfl (QF_retS (by kernel_rfl) (by kernel_rfl) rfl)
                      · have H_72 := of_f H_69 b_32
                        obtain ⟨c_34, H_75⟩ := of_if H_72
                        refine V_reg hN hn [] [(34, true), (41, true), (46, true), (53, true), (60, true), (64, true), (69, true), (76, true), (80, true), (85, true), (92, false)] calls_nil 6 [0] [] ⟨[(0, cB false)], [], 6⟩ [((lnI r_2) == (2 : Int)) = true, (0 : Int) ≤ (1 : Int), (1 : Int) < (lnI r_2), (((List.getD r_2 1 zE).1 == (3 : Int)) && (((List.getD r_2 1 zE).2.1 == (3 : Int)) && (ByteArray.toList (List.getD r_2 1 zE).2.2 == ByteArray.toList (ByteArray.mk #[120])))) = true, ((lnI r_6) == (2 : Int)) = true, (0 : Int) ≤ (0 : Int), (0 : Int) < (lnI r_6), (((List.getD r_6 0 zE).1 == (1 : Int)) && (((List.getD r_6 0 zE).2.1 == (2 : Int)) && (ByteArray.toList (List.getD r_6 0 zE).2.2 == ByteArray.toList ByteArray.empty))) = true, (0 : Int) ≤ (1 : Int), (1 : Int) < (lnI r_6), (((List.getD r_6 1 zE).1 == (2 : Int)) && (((List.getD r_6 1 zE).2.1 == (3 : Int)) && (ByteArray.toList (List.getD r_6 1 zE).2.2 == ByteArray.toList ByteArray.empty))) = true, (r_10.2 == (0 : Int)) = true, ((lnI r_10.1) == (2 : Int)) = true, (0 : Int) ≤ (0 : Int), (0 : Int) < (lnI r_10.1), ((List.getD r_10.1 0 zP).2 == (3 : Int)) = true, (r_14.2 == (0 : Int)) = true, ((lnI r_14.1) == (1 : Int)) = true, (0 : Int) ≤ (0 : Int), (0 : Int) < (lnI r_14.1), (((List.getD r_14.1 0 zP).1 == (2 : Int)) && ((List.getD r_14.1 0 zP).2 == (4 : Int))) = false] (by kernel_rfl) rfl rfl (ap2 b_22 (ap2 (by decide) (ap2 c_34.1 (ap2 b_23 (ap2 b_24 (ap2 (by decide) (ap2 c_34.2.1 (ap2 b_25 (ap2 (by decide) (ap2 c_34.2.2.1 (ap2 b_26 (ap2 b_27 (ap2 b_28 (ap2 (by decide) (ap2 c_34.2.2.2.1 (ap2 b_29 (ap2 b_30 (ap2 b_31 (ap2 (by decide) (ap2 c_34.2.2.2.2 (ap1 b_32))))))))))))))))))))) (by kernel_rfl) (by kernel_rfl) ?_
                        have H_76 := Option.some.inj (show some false = some r from H_75); subst H_76
                        refine VL_ret ?_
                        exact P_to [(0, cB false)] [] [] hn (by kernel_rfl) (by kernel_rfl) rfl rfl rfl (QF_retS (by kernel_rfl) (by kernel_rfl) rfl)
                    · have H_70 := of_f H_67 b_31
                      obtain ⟨c_35, H_77⟩ := of_if H_70
                      refine V_reg hN hn [] [(34, true), (41, true), (46, true), (53, true), (60, true), (64, true), (69, true), (76, true), (80, true), (85, false)] calls_nil 6 [0] [] ⟨[(0, cB false)], [], 6⟩ [((lnI r_2) == (2 : Int)) = true, (0 : Int) ≤ (1 : Int), (1 : Int) < (lnI r_2), (((List.getD r_2 1 zE).1 == (3 : Int)) && (((List.getD r_2 1 zE).2.1 == (3 : Int)) && (ByteArray.toList (List.getD r_2 1 zE).2.2 == ByteArray.toList (ByteArray.mk #[120])))) = true, ((lnI r_6) == (2 : Int)) = true, (0 : Int) ≤ (0 : Int), (0 : Int) < (lnI r_6), (((List.getD r_6 0 zE).1 == (1 : Int)) && (((List.getD r_6 0 zE).2.1 == (2 : Int)) && (ByteArray.toList (List.getD r_6 0 zE).2.2 == ByteArray.toList ByteArray.empty))) = true, (0 : Int) ≤ (1 : Int), (1 : Int) < (lnI r_6), (((List.getD r_6 1 zE).1 == (2 : Int)) && (((List.getD r_6 1 zE).2.1 == (3 : Int)) && (ByteArray.toList (List.getD r_6 1 zE).2.2 == ByteArray.toList ByteArray.empty))) = true, (r_10.2 == (0 : Int)) = true, ((lnI r_10.1) == (2 : Int)) = true, (0 : Int) ≤ (0 : Int), (0 : Int) < (lnI r_10.1), ((List.getD r_10.1 0 zP).2 == (3 : Int)) = true, (r_14.2 == (0 : Int)) = true, ((lnI r_14.1) == (1 : Int)) = false] (by kernel_rfl) rfl rfl (ap2 b_22 (ap2 (by decide) (ap2 c_35.1 (ap2 b_23 (ap2 b_24 (ap2 (by decide) (ap2 c_35.2.1 (ap2 b_25 (ap2 (by decide) (ap2 c_35.2.2.1 (ap2 b_26 (ap2 b_27 (ap2 b_28 (ap2 (by decide) (ap2 c_35.2.2.2 (ap2 b_29 (ap2 b_30 (ap1 b_31)))))))))))))))))) (by kernel_rfl) (by kernel_rfl) ?_
                      have H_78 := Option.some.inj (show some false = some r from H_77); subst H_78
                      refine VL_ret ?_
                      exact P_to [(0, cB false)] [] [] hn (by kernel_rfl) (by kernel_rfl) rfl rfl rfl (QF_retS (by kernel_rfl) (by kernel_rfl) rfl)
                  · have H_68 := of_f H_65 b_30
                    obtain ⟨c_36, H_79⟩ := of_if H_68
                    refine V_reg hN hn [] [(34, true), (41, true), (46, true), (53, true), (60, true), (64, true), (69, true), (76, true), (80, false)] calls_nil 6 [0] [] ⟨[(0, cB false)], [], 6⟩ [((lnI r_2) == (2 : Int)) = true, (0 : Int) ≤ (1 : Int), (1 : Int) < (lnI r_2), (((List.getD r_2 1 zE).1 == (3 : Int)) && (((List.getD r_2 1 zE).2.1 == (3 : Int)) && (ByteArray.toList (List.getD r_2 1 zE).2.2 == ByteArray.toList (ByteArray.mk #[120])))) = true, ((lnI r_6) == (2 : Int)) = true, (0 : Int) ≤ (0 : Int), (0 : Int) < (lnI r_6), (((List.getD r_6 0 zE).1 == (1 : Int)) && (((List.getD r_6 0 zE).2.1 == (2 : Int)) && (ByteArray.toList (List.getD r_6 0 zE).2.2 == ByteArray.toList ByteArray.empty))) = true, (0 : Int) ≤ (1 : Int), (1 : Int) < (lnI r_6), (((List.getD r_6 1 zE).1 == (2 : Int)) && (((List.getD r_6 1 zE).2.1 == (3 : Int)) && (ByteArray.toList (List.getD r_6 1 zE).2.2 == ByteArray.toList ByteArray.empty))) = true, (r_10.2 == (0 : Int)) = true, ((lnI r_10.1) == (2 : Int)) = true, (0 : Int) ≤ (0 : Int), (0 : Int) < (lnI r_10.1), ((List.getD r_10.1 0 zP).2 == (3 : Int)) = true, (r_14.2 == (0 : Int)) = false] (by kernel_rfl) rfl rfl (ap2 b_22 (ap2 (by decide) (ap2 c_36.1 (ap2 b_23 (ap2 b_24 (ap2 (by decide) (ap2 c_36.2.1 (ap2 b_25 (ap2 (by decide) (ap2 c_36.2.2.1 (ap2 b_26 (ap2 b_27 (ap2 b_28 (ap2 (by decide) (ap2 c_36.2.2.2 (ap2 b_29 (ap1 b_30))))))))))))))))) (by kernel_rfl) (by kernel_rfl) ?_
                    have H_80 := Option.some.inj (show some false = some r from H_79); subst H_80
                    refine VL_ret ?_
                    exact P_to [(0, cB false)] [] [] hn (by kernel_rfl) (by kernel_rfl) rfl rfl rfl (QF_retS (by kernel_rfl) (by kernel_rfl) rfl)
                · have H_66 := of_f H_63 b_29
                  obtain ⟨c_37, H_81⟩ := of_if H_66
                  refine V_reg hN hn [] [(34, true), (41, true), (46, true), (53, true), (60, true), (64, true), (69, true), (76, false)] calls_nil 6 [0] [] ⟨[(0, cB false)], [], 6⟩ [((lnI r_2) == (2 : Int)) = true, (0 : Int) ≤ (1 : Int), (1 : Int) < (lnI r_2), (((List.getD r_2 1 zE).1 == (3 : Int)) && (((List.getD r_2 1 zE).2.1 == (3 : Int)) && (ByteArray.toList (List.getD r_2 1 zE).2.2 == ByteArray.toList (ByteArray.mk #[120])))) = true, ((lnI r_6) == (2 : Int)) = true, (0 : Int) ≤ (0 : Int), (0 : Int) < (lnI r_6), (((List.getD r_6 0 zE).1 == (1 : Int)) && (((List.getD r_6 0 zE).2.1 == (2 : Int)) && (ByteArray.toList (List.getD r_6 0 zE).2.2 == ByteArray.toList ByteArray.empty))) = true, (0 : Int) ≤ (1 : Int), (1 : Int) < (lnI r_6), (((List.getD r_6 1 zE).1 == (2 : Int)) && (((List.getD r_6 1 zE).2.1 == (3 : Int)) && (ByteArray.toList (List.getD r_6 1 zE).2.2 == ByteArray.toList ByteArray.empty))) = true, (r_10.2 == (0 : Int)) = true, ((lnI r_10.1) == (2 : Int)) = true, (0 : Int) ≤ (0 : Int), (0 : Int) < (lnI r_10.1), ((List.getD r_10.1 0 zP).2 == (3 : Int)) = false] (by kernel_rfl) rfl rfl (ap2 b_22 (ap2 (by decide) (ap2 c_37.1 (ap2 b_23 (ap2 b_24 (ap2 (by decide) (ap2 c_37.2.1 (ap2 b_25 (ap2 (by decide) (ap2 c_37.2.2.1 (ap2 b_26 (ap2 b_27 (ap2 b_28 (ap2 (by decide) (ap2 c_37.2.2.2 (ap1 b_29)))))))))))))))) (by kernel_rfl) (by kernel_rfl) ?_
                  have H_82 := Option.some.inj (show some false = some r from H_81); subst H_82
                  refine VL_ret ?_
                  exact P_to [(0, cB false)] [] [] hn (by kernel_rfl) (by kernel_rfl) rfl rfl rfl (QF_retS (by kernel_rfl) (by kernel_rfl) rfl)
              · have H_64 := of_f H_61 b_28
                obtain ⟨c_38, H_83⟩ := of_if H_64
                refine V_reg hN hn [] [(34, true), (41, true), (46, true), (53, true), (60, true), (64, true), (69, false)] calls_nil 6 [0] [] ⟨[(0, cB false)], [], 6⟩ [((lnI r_2) == (2 : Int)) = true, (0 : Int) ≤ (1 : Int), (1 : Int) < (lnI r_2), (((List.getD r_2 1 zE).1 == (3 : Int)) && (((List.getD r_2 1 zE).2.1 == (3 : Int)) && (ByteArray.toList (List.getD r_2 1 zE).2.2 == ByteArray.toList (ByteArray.mk #[120])))) = true, ((lnI r_6) == (2 : Int)) = true, (0 : Int) ≤ (0 : Int), (0 : Int) < (lnI r_6), (((List.getD r_6 0 zE).1 == (1 : Int)) && (((List.getD r_6 0 zE).2.1 == (2 : Int)) && (ByteArray.toList (List.getD r_6 0 zE).2.2 == ByteArray.toList ByteArray.empty))) = true, (0 : Int) ≤ (1 : Int), (1 : Int) < (lnI r_6), (((List.getD r_6 1 zE).1 == (2 : Int)) && (((List.getD r_6 1 zE).2.1 == (3 : Int)) && (ByteArray.toList (List.getD r_6 1 zE).2.2 == ByteArray.toList ByteArray.empty))) = true, (r_10.2 == (0 : Int)) = true, ((lnI r_10.1) == (2 : Int)) = false] (by kernel_rfl) rfl rfl (ap2 b_22 (ap2 (by decide) (ap2 c_38.1 (ap2 b_23 (ap2 b_24 (ap2 (by decide) (ap2 c_38.2.1 (ap2 b_25 (ap2 (by decide) (ap2 c_38.2.2 (ap2 b_26 (ap2 b_27 (ap1 b_28))))))))))))) (by kernel_rfl) (by kernel_rfl) ?_
                have H_84 := Option.some.inj (show some false = some r from H_83); subst H_84
                refine VL_ret ?_
                exact P_to [(0, cB false)] [] [] hn (by kernel_rfl) (by kernel_rfl) rfl rfl rfl (QF_retS (by kernel_rfl) (by kernel_rfl) rfl)
            · have H_62 := of_f H_59 b_27
              obtain ⟨c_39, H_85⟩ := of_if H_62
              refine V_reg hN hn [] [(34, true), (41, true), (46, true), (53, true), (60, true), (64, false)] calls_nil 6 [0] [] ⟨[(0, cB false)], [], 6⟩ [((lnI r_2) == (2 : Int)) = true, (0 : Int) ≤ (1 : Int), (1 : Int) < (lnI r_2), (((List.getD r_2 1 zE).1 == (3 : Int)) && (((List.getD r_2 1 zE).2.1 == (3 : Int)) && (ByteArray.toList (List.getD r_2 1 zE).2.2 == ByteArray.toList (ByteArray.mk #[120])))) = true, ((lnI r_6) == (2 : Int)) = true, (0 : Int) ≤ (0 : Int), (0 : Int) < (lnI r_6), (((List.getD r_6 0 zE).1 == (1 : Int)) && (((List.getD r_6 0 zE).2.1 == (2 : Int)) && (ByteArray.toList (List.getD r_6 0 zE).2.2 == ByteArray.toList ByteArray.empty))) = true, (0 : Int) ≤ (1 : Int), (1 : Int) < (lnI r_6), (((List.getD r_6 1 zE).1 == (2 : Int)) && (((List.getD r_6 1 zE).2.1 == (3 : Int)) && (ByteArray.toList (List.getD r_6 1 zE).2.2 == ByteArray.toList ByteArray.empty))) = true, (r_10.2 == (0 : Int)) = false] (by kernel_rfl) rfl rfl (ap2 b_22 (ap2 (by decide) (ap2 c_39.1 (ap2 b_23 (ap2 b_24 (ap2 (by decide) (ap2 c_39.2.1 (ap2 b_25 (ap2 (by decide) (ap2 c_39.2.2 (ap2 b_26 (ap1 b_27)))))))))))) (by kernel_rfl) (by kernel_rfl) ?_
              have H_86 := Option.some.inj (show some false = some r from H_85); subst H_86
              refine VL_ret ?_
              exact P_to [(0, cB false)] [] [] hn (by kernel_rfl) (by kernel_rfl) rfl rfl rfl (QF_retS (by kernel_rfl) (by kernel_rfl) rfl)
          · have H_60 := of_f H_57 b_26
            obtain ⟨c_40, H_87⟩ := of_if H_60
            refine V_reg hN hn [] [(34, true), (41, true), (46, true), (53, true), (60, false)] calls_nil 6 [0] [] ⟨[(0, cB false)], [], 6⟩ [((lnI r_2) == (2 : Int)) = true, (0 : Int) ≤ (1 : Int), (1 : Int) < (lnI r_2), (((List.getD r_2 1 zE).1 == (3 : Int)) && (((List.getD r_2 1 zE).2.1 == (3 : Int)) && (ByteArray.toList (List.getD r_2 1 zE).2.2 == ByteArray.toList (ByteArray.mk #[120])))) = true, ((lnI r_6) == (2 : Int)) = true, (0 : Int) ≤ (0 : Int), (0 : Int) < (lnI r_6), (((List.getD r_6 0 zE).1 == (1 : Int)) && (((List.getD r_6 0 zE).2.1 == (2 : Int)) && (ByteArray.toList (List.getD r_6 0 zE).2.2 == ByteArray.toList ByteArray.empty))) = true, (0 : Int) ≤ (1 : Int), (1 : Int) < (lnI r_6), (((List.getD r_6 1 zE).1 == (2 : Int)) && (((List.getD r_6 1 zE).2.1 == (3 : Int)) && (ByteArray.toList (List.getD r_6 1 zE).2.2 == ByteArray.toList ByteArray.empty))) = false] (by kernel_rfl) rfl rfl (ap2 b_22 (ap2 (by decide) (ap2 c_40.1 (ap2 b_23 (ap2 b_24 (ap2 (by decide) (ap2 c_40.2.1 (ap2 b_25 (ap2 (by decide) (ap2 c_40.2.2 (ap1 b_26))))))))))) (by kernel_rfl) (by kernel_rfl) ?_
            have H_88 := Option.some.inj (show some false = some r from H_87); subst H_88
            refine VL_ret ?_
            exact P_to [(0, cB false)] [] [] hn (by kernel_rfl) (by kernel_rfl) rfl rfl rfl (QF_retS (by kernel_rfl) (by kernel_rfl) rfl)
        · have H_58 := of_f H_55 b_25
          obtain ⟨c_41, H_89⟩ := of_if H_58
          refine V_reg hN hn [] [(34, true), (41, true), (46, true), (53, false)] calls_nil 6 [0] [] ⟨[(0, cB false)], [], 6⟩ [((lnI r_2) == (2 : Int)) = true, (0 : Int) ≤ (1 : Int), (1 : Int) < (lnI r_2), (((List.getD r_2 1 zE).1 == (3 : Int)) && (((List.getD r_2 1 zE).2.1 == (3 : Int)) && (ByteArray.toList (List.getD r_2 1 zE).2.2 == ByteArray.toList (ByteArray.mk #[120])))) = true, ((lnI r_6) == (2 : Int)) = true, (0 : Int) ≤ (0 : Int), (0 : Int) < (lnI r_6), (((List.getD r_6 0 zE).1 == (1 : Int)) && (((List.getD r_6 0 zE).2.1 == (2 : Int)) && (ByteArray.toList (List.getD r_6 0 zE).2.2 == ByteArray.toList ByteArray.empty))) = false] (by kernel_rfl) rfl rfl (ap2 b_22 (ap2 (by decide) (ap2 c_41.1 (ap2 b_23 (ap2 b_24 (ap2 (by decide) (ap2 c_41.2 (ap1 b_25)))))))) (by kernel_rfl) (by kernel_rfl) ?_
          have H_90 := Option.some.inj (show some false = some r from H_89); subst H_90
          refine VL_ret ?_
          exact P_to [(0, cB false)] [] [] hn (by kernel_rfl) (by kernel_rfl) rfl rfl rfl (QF_retS (by kernel_rfl) (by kernel_rfl) rfl)
      · have H_56 := of_f H_53 b_24
        obtain ⟨c_42, H_91⟩ := of_if H_56
        refine V_reg hN hn [] [(34, true), (41, true), (46, false)] calls_nil 6 [0] [] ⟨[(0, cB false)], [], 6⟩ [((lnI r_2) == (2 : Int)) = true, (0 : Int) ≤ (1 : Int), (1 : Int) < (lnI r_2), (((List.getD r_2 1 zE).1 == (3 : Int)) && (((List.getD r_2 1 zE).2.1 == (3 : Int)) && (ByteArray.toList (List.getD r_2 1 zE).2.2 == ByteArray.toList (ByteArray.mk #[120])))) = true, ((lnI r_6) == (2 : Int)) = false] (by kernel_rfl) rfl rfl (ap2 b_22 (ap2 (by decide) (ap2 c_42 (ap2 b_23 (ap1 b_24))))) (by kernel_rfl) (by kernel_rfl) ?_
        have H_92 := Option.some.inj (show some false = some r from H_91); subst H_92
        refine VL_ret ?_
        exact P_to [(0, cB false)] [] [] hn (by kernel_rfl) (by kernel_rfl) rfl rfl rfl (QF_retS (by kernel_rfl) (by kernel_rfl) rfl)
    · have H_54 := of_f H_51 b_23
      obtain ⟨c_43, H_93⟩ := of_if H_54
      refine V_reg hN hn [] [(34, true), (41, false)] calls_nil 6 [0] [] ⟨[(0, cB false)], [], 6⟩ [((lnI r_2) == (2 : Int)) = true, (0 : Int) ≤ (1 : Int), (1 : Int) < (lnI r_2), (((List.getD r_2 1 zE).1 == (3 : Int)) && (((List.getD r_2 1 zE).2.1 == (3 : Int)) && (ByteArray.toList (List.getD r_2 1 zE).2.2 == ByteArray.toList (ByteArray.mk #[120])))) = false] (by kernel_rfl) rfl rfl (ap2 b_22 (ap2 (by decide) (ap2 c_43 (ap1 b_23)))) (by kernel_rfl) (by kernel_rfl) ?_
      have H_94 := Option.some.inj (show some false = some r from H_93); subst H_94
      refine VL_ret ?_
      exact P_to [(0, cB false)] [] [] hn (by kernel_rfl) (by kernel_rfl) rfl rfl rfl (QF_retS (by kernel_rfl) (by kernel_rfl) rfl)
  · have H_52 := of_f H_50 b_22
    refine V_reg hN hn [] [(34, false)] calls_nil 6 [0] [] ⟨[(0, cB false)], [], 6⟩ [((lnI r_2) == (2 : Int)) = false] (by kernel_rfl) rfl rfl (ap1 b_22) (by kernel_rfl) (by kernel_rfl) ?_
    have H_95 := Option.some.inj (show some false = some r from H_52); subst H_95
    refine VL_ret ?_
    exact P_to [(0, cB false)] [] [] hn (by kernel_rfl) (by kernel_rfl) rfl rfl rfl (QF_retS (by kernel_rfl) (by kernel_rfl) rfl)

theorem palinoderef1_Size_spec (K : Nat) (s_1 : ByteArray) (at_2 : Int) (r : Int) (H : palinoderef1_Size K s_1 at_2 = some r) : Spec Try.prog 31 0 [cS s_1, cI at_2] [] (cI r) [] := by
  refine Spec_mk (fn := Try.f31) (c := (Try.f31.body).get!) Try.func31 (by kernel_rfl) rfl ?_
  intro C hN hn
  replace hN : C.N = 94 := hN
  unfold palinoderef1_Size at H
  refine V_run hN hn 4 0 [0, 1] [] ⟨[(0, cS s_1), (1, cI at_2)], [], 0⟩ [] (by kernel_rfl) rfl rfl ap0 ?_
  obtain ⟨q_77, H_78, H_79⟩ := of_bind H
  refine V_cut (Y := Bool) (R := Bool) q_77 (fun y => y) (fun y => [(0, cS s_1), (1, cI at_2), (18, cB y)]) (fun y => []) ?_ ?_
  · skip
    rcases Bool.eq_false_or_eq_true ((decide (at_2 < (0 : Int)))) with b_4 | b_4
    · have H_81 := of_t H_78 b_4
      refine V_reg hN hn [] [(13, true)] calls_nil 0 [0, 1, 18] [] ⟨[(0, cS s_1), (1, cI at_2), (18, cB true)], [], 0⟩ [(decide (at_2 < (0 : Int))) = true] (by kernel_rfl) rfl rfl (ap1 b_4) (by kernel_rfl) (by kernel_rfl) ?_
      have H_83 := Option.some.inj (show some true = some q_77 from H_81); subst H_83
      refine VL_nil ?_
      exact QP_end true rfl [] hn (by kernel_rfl) (by kernel_rfl) rfl rfl rfl
    · have H_82 := of_f H_78 b_4
      refine V_reg hN hn [] [(13, false)] calls_nil 0 [0, 1, 18] [] ⟨[(0, cS s_1), (1, cI at_2), (18, cB (decide (at_2 ≥ (((ByteArray.size s_1) : Nat) : Int))))], [], 0⟩ [(decide (at_2 < (0 : Int))) = false] (by kernel_rfl) rfl rfl (ap1 b_4) (by kernel_rfl) (by kernel_rfl) ?_
      have H_84 := Option.some.inj (show some (decide (at_2 ≥ (((ByteArray.size s_1) : Nat) : Int))) = some q_77 from H_82); subst H_84
      refine VL_nil ?_
      exact QP_end (decide (at_2 ≥ (((ByteArray.size s_1) : Nat) : Int))) rfl [] hn (by kernel_rfl) (by kernel_rfl) rfl rfl rfl
  · intro y_80 hy; subst hy
    skip
    skip
    refine VL_cond (y_80) (by kernel_rfl) ?_ ?_
    · intro b_8; have H_85 := of_t H_79 b_8
      refine V_run hN hn 2 0 [4] [] ⟨[(4, cI (0 : Int))], [], 0⟩ [] (by kernel_rfl) rfl rfl ap0 ?_
      have H_87 := Option.some.inj (show some (0 : Int) = some r from H_85); subst H_87
      refine VL_ret ?_
      exact P_to [(4, cI (0 : Int))] [] [] hn (by kernel_rfl) (by kernel_rfl) rfl rfl rfl (QF_retS (by kernel_rfl) (by kernel_rfl) rfl)
    · intro b_8; have H_86 := of_f H_79 b_8
      obtain ⟨c_10, H_88⟩ := of_if H_86
      refine V_run hN hn 6 0 [0, 1, 5] [] ⟨[(0, cS s_1), (1, cI at_2), (5, cI (w6 (bt s_1 at_2)))], [], 0⟩ [0 ≤ at_2, at_2 < (((ByteArray.size s_1) : Nat) : Int)] (by kernel_rfl) rfl rfl (ap2 c_10.1 (ap1 c_10.2)) ?_
      refine VL_block ?_
      refine V_run hN hn 2 0 [0, 1, 5, 23] [] ⟨[(0, cS s_1), (1, cI at_2), (5, cI (w6 (bt s_1 at_2))), (23, cB (decide ((w6 (bt s_1 at_2)) < (128 : Int))))], [], 0⟩ [] (by kernel_rfl) rfl rfl ap0 ?_
      refine VL_cond ((decide ((w6 (bt s_1 at_2)) < (128 : Int)))) (by kernel_rfl) ?_ ?_
      · intro b_12; have H_89 := of_t H_88 b_12
        refine V_run hN hn 2 0 [4] [] ⟨[(4, cI (1 : Int))], [], 0⟩ [] (by kernel_rfl) rfl rfl ap0 ?_
        have H_91 := Option.some.inj (show some (1 : Int) = some r from H_89); subst H_91
        refine VL_ret ?_
        refine QB_ret ?_
        exact P_to [(4, cI (1 : Int))] [] [] hn (by kernel_rfl) (by kernel_rfl) rfl rfl rfl (QF_retS (by kernel_rfl) (by kernel_rfl) rfl)
      · intro b_12; have H_90 := of_f H_88 b_12
        refine V_run hN hn 1 0 [0, 1, 5, 23] [] ⟨[(0, cS s_1), (1, cI at_2), (5, cI (w6 (bt s_1 at_2))), (23, cB (decide ((w6 (bt s_1 at_2)) < (128 : Int))))], [], 0⟩ [] (by kernel_rfl) rfl rfl ap0 ?_
        obtain ⟨q_92, H_93, H_94⟩ := of_bind H_90
        refine V_cut (Y := Bool) (R := Bool) q_92 (fun y => y) (fun y => [(0, cS s_1), (1, cI at_2), (5, cI (w6 (bt s_1 at_2))), (26, cB y)]) (fun y => []) ?_ ?_
        · skip
          rcases Bool.eq_false_or_eq_true ((decide ((w6 (bt s_1 at_2)) ≥ (192 : Int)))) with b_15 | b_15
          · have H_96 := of_t H_93 b_15
            refine V_reg hN hn [] [(29, true)] calls_nil 0 [0, 1, 5, 26] [] ⟨[(0, cS s_1), (1, cI at_2), (5, cI (w6 (bt s_1 at_2))), (26, cB (decide ((w6 (bt s_1 at_2)) < (224 : Int))))], [], 0⟩ [(decide ((w6 (bt s_1 at_2)) ≥ (192 : Int))) = true] (by kernel_rfl) rfl rfl (ap1 b_15) (by kernel_rfl) (by kernel_rfl) ?_
            have H_98 := Option.some.inj (show some (decide ((w6 (bt s_1 at_2)) < (224 : Int))) = some q_92 from H_96); subst H_98
            refine VL_nil ?_
            exact QP_end (decide ((w6 (bt s_1 at_2)) < (224 : Int))) rfl [] hn (by kernel_rfl) (by kernel_rfl) rfl rfl rfl
          · have H_97 := of_f H_93 b_15
            refine V_reg hN hn [] [(29, false)] calls_nil 0 [0, 1, 5, 26] [] ⟨[(0, cS s_1), (1, cI at_2), (5, cI (w6 (bt s_1 at_2))), (26, cB false)], [], 0⟩ [(decide ((w6 (bt s_1 at_2)) ≥ (192 : Int))) = false] (by kernel_rfl) rfl rfl (ap1 b_15) (by kernel_rfl) (by kernel_rfl) ?_
            have H_99 := Option.some.inj (show some false = some q_92 from H_97); subst H_99
            refine VL_nil ?_
            exact QP_end false rfl [] hn (by kernel_rfl) (by kernel_rfl) rfl rfl rfl
        · intro y_95 hy; subst hy
          skip
          skip
          obtain ⟨q_100, H_101, H_102⟩ := of_bind H_94
          refine V_cut (Y := (Int × Int × Int)) (R := (Int ⊕ (Int × Int × Int))) q_100 (fun y => (Sum.inr y)) (fun y => [(0, cS s_1), (1, cI at_2), (6, cI y.1), (7, cI y.2.1), (8, cI y.2.2)]) (fun y => []) ?_ ?_
          · skip
            refine VL_cond (y_95) (by kernel_rfl) ?_ ?_
            · intro b_19; have H_104 := of_t H_101 b_19
              refine V_run hN hn 1 0 [0, 1, 6, 7, 8] [] ⟨[(0, cS s_1), (1, cI at_2), (6, cI (2 : Int)), (7, cI (w6 (BitVec.toNat (BitVec.ofInt (IntKind.bits .i64) (w6 (bt s_1 at_2)) &&& BitVec.ofInt (IntKind.bits .i64) (31 : Int))))), (8, cI (128 : Int))], [], 0⟩ [] (by kernel_rfl) rfl rfl ap0 ?_
              have H_106 := Option.some.inj (show some (Sum.inr ((2 : Int), (w6 (BitVec.toNat (BitVec.ofInt (IntKind.bits .i64) (w6 (bt s_1 at_2)) &&& BitVec.ofInt (IntKind.bits .i64) (31 : Int)))), (128 : Int))) = some q_100 from H_104); subst H_106
              refine VL_nil ?_
              exact QP_end ((2 : Int), (w6 (BitVec.toNat (BitVec.ofInt (IntKind.bits .i64) (w6 (bt s_1 at_2)) &&& BitVec.ofInt (IntKind.bits .i64) (31 : Int)))), (128 : Int)) rfl [] hn (by kernel_rfl) (by kernel_rfl) rfl rfl rfl
            · intro b_19; have H_105 := of_f H_101 b_19
              refine V_run hN hn 1 0 [0, 1, 5, 26] [] ⟨[(0, cS s_1), (1, cI at_2), (5, cI (w6 (bt s_1 at_2))), (26, cB y_95)], [], 0⟩ [] (by kernel_rfl) rfl rfl ap0 ?_
              obtain ⟨q_107, H_108, H_109⟩ := of_bind H_105
              refine V_cut (Y := Bool) (R := Bool) q_107 (fun y => y) (fun y => [(0, cS s_1), (1, cI at_2), (5, cI (w6 (bt s_1 at_2))), (35, cB y)]) (fun y => []) ?_ ?_
              · skip
                rcases Bool.eq_false_or_eq_true ((decide ((w6 (bt s_1 at_2)) ≥ (224 : Int)))) with b_22 | b_22
                · have H_111 := of_t H_108 b_22
                  refine V_reg hN hn [] [(38, true)] calls_nil 0 [0, 1, 5, 35] [] ⟨[(0, cS s_1), (1, cI at_2), (5, cI (w6 (bt s_1 at_2))), (35, cB (decide ((w6 (bt s_1 at_2)) < (240 : Int))))], [], 0⟩ [(decide ((w6 (bt s_1 at_2)) ≥ (224 : Int))) = true] (by kernel_rfl) rfl rfl (ap1 b_22) (by kernel_rfl) (by kernel_rfl) ?_
                  have H_113 := Option.some.inj (show some (decide ((w6 (bt s_1 at_2)) < (240 : Int))) = some q_107 from H_111); subst H_113
                  refine VL_nil ?_
                  exact QP_end (decide ((w6 (bt s_1 at_2)) < (240 : Int))) rfl [] hn (by kernel_rfl) (by kernel_rfl) rfl rfl rfl
                · have H_112 := of_f H_108 b_22
                  refine V_reg hN hn [] [(38, false)] calls_nil 0 [0, 1, 5, 35] [] ⟨[(0, cS s_1), (1, cI at_2), (5, cI (w6 (bt s_1 at_2))), (35, cB false)], [], 0⟩ [(decide ((w6 (bt s_1 at_2)) ≥ (224 : Int))) = false] (by kernel_rfl) rfl rfl (ap1 b_22) (by kernel_rfl) (by kernel_rfl) ?_
                  have H_114 := Option.some.inj (show some false = some q_107 from H_112); subst H_114
                  refine VL_nil ?_
                  exact QP_end false rfl [] hn (by kernel_rfl) (by kernel_rfl) rfl rfl rfl
              · intro y_110 hy; subst hy
                skip
                skip
                refine VL_cond (y_110) (by kernel_rfl) ?_ ?_
                · intro b_26; have H_115 := of_t H_109 b_26
                  refine V_run hN hn 1 0 [0, 1, 6, 7, 8] [] ⟨[(0, cS s_1), (1, cI at_2), (6, cI (3 : Int)), (7, cI (w6 (BitVec.toNat (BitVec.ofInt (IntKind.bits .i64) (w6 (bt s_1 at_2)) &&& BitVec.ofInt (IntKind.bits .i64) (15 : Int))))), (8, cI (2048 : Int))], [], 0⟩ [] (by kernel_rfl) rfl rfl ap0 ?_
                  have H_117 := Option.some.inj (show some (Sum.inr ((3 : Int), (w6 (BitVec.toNat (BitVec.ofInt (IntKind.bits .i64) (w6 (bt s_1 at_2)) &&& BitVec.ofInt (IntKind.bits .i64) (15 : Int)))), (2048 : Int))) = some q_100 from H_115); subst H_117
                  refine VL_nil ?_
                  exact QP_end ((3 : Int), (w6 (BitVec.toNat (BitVec.ofInt (IntKind.bits .i64) (w6 (bt s_1 at_2)) &&& BitVec.ofInt (IntKind.bits .i64) (15 : Int)))), (2048 : Int)) rfl [] hn (by kernel_rfl) (by kernel_rfl) rfl rfl rfl
                · intro b_26; have H_116 := of_f H_109 b_26
                  refine V_run hN hn 1 0 [0, 1, 5, 35] [] ⟨[(0, cS s_1), (1, cI at_2), (5, cI (w6 (bt s_1 at_2))), (35, cB y_110)], [], 0⟩ [] (by kernel_rfl) rfl rfl ap0 ?_
                  obtain ⟨q_118, H_119, H_120⟩ := of_bind H_116
                  refine V_cut (Y := Bool) (R := Bool) q_118 (fun y => y) (fun y => [(0, cS s_1), (1, cI at_2), (5, cI (w6 (bt s_1 at_2))), (44, cB y)]) (fun y => []) ?_ ?_
                  · skip
                    rcases Bool.eq_false_or_eq_true ((decide ((w6 (bt s_1 at_2)) ≥ (240 : Int)))) with b_29 | b_29
                    · have H_122 := of_t H_119 b_29
                      refine V_reg hN hn [] [(47, true)] calls_nil 0 [0, 1, 5, 44] [] ⟨[(0, cS s_1), (1, cI at_2), (5, cI (w6 (bt s_1 at_2))), (44, cB (decide ((w6 (bt s_1 at_2)) < (248 : Int))))], [], 0⟩ [(decide ((w6 (bt s_1 at_2)) ≥ (240 : Int))) = true] (by kernel_rfl) rfl rfl (ap1 b_29) (by kernel_rfl) (by kernel_rfl) ?_
                      have H_124 := Option.some.inj (show some (decide ((w6 (bt s_1 at_2)) < (248 : Int))) = some q_118 from H_122); subst H_124
                      refine VL_nil ?_
                      exact QP_end (decide ((w6 (bt s_1 at_2)) < (248 : Int))) rfl [] hn (by kernel_rfl) (by kernel_rfl) rfl rfl rfl
                    · have H_123 := of_f H_119 b_29
                      refine V_reg hN hn [] [(47, false)] calls_nil 0 [0, 1, 5, 44] [] ⟨[(0, cS s_1), (1, cI at_2), (5, cI (w6 (bt s_1 at_2))), (44, cB false)], [], 0⟩ [(decide ((w6 (bt s_1 at_2)) ≥ (240 : Int))) = false] (by kernel_rfl) rfl rfl (ap1 b_29) (by kernel_rfl) (by kernel_rfl) ?_
                      have H_125 := Option.some.inj (show some false = some q_118 from H_123); subst H_125
                      refine VL_nil ?_
                      exact QP_end false rfl [] hn (by kernel_rfl) (by kernel_rfl) rfl rfl rfl
                  · intro y_121 hy; subst hy
                    skip
                    skip
                    refine VL_cond (y_121) (by kernel_rfl) ?_ ?_
                    · intro b_33; have H_126 := of_t H_120 b_33
                      refine V_run hN hn 1 0 [0, 1, 6, 7, 8] [] ⟨[(0, cS s_1), (1, cI at_2), (6, cI (4 : Int)), (7, cI (w6 (BitVec.toNat (BitVec.ofInt (IntKind.bits .i64) (w6 (bt s_1 at_2)) &&& BitVec.ofInt (IntKind.bits .i64) (7 : Int))))), (8, cI (65536 : Int))], [], 0⟩ [] (by kernel_rfl) rfl rfl ap0 ?_
                      have H_128 := Option.some.inj (show some (Sum.inr ((4 : Int), (w6 (BitVec.toNat (BitVec.ofInt (IntKind.bits .i64) (w6 (bt s_1 at_2)) &&& BitVec.ofInt (IntKind.bits .i64) (7 : Int)))), (65536 : Int))) = some q_100 from H_126); subst H_128
                      refine VL_nil ?_
                      exact QP_end ((4 : Int), (w6 (BitVec.toNat (BitVec.ofInt (IntKind.bits .i64) (w6 (bt s_1 at_2)) &&& BitVec.ofInt (IntKind.bits .i64) (7 : Int)))), (65536 : Int)) rfl [] hn (by kernel_rfl) (by kernel_rfl) rfl rfl rfl
                    · intro b_33; have H_127 := of_f H_120 b_33
                      refine V_run hN hn 2 0 [4] [] ⟨[(4, cI (0 : Int))], [], 0⟩ [] (by kernel_rfl) rfl rfl ap0 ?_
                      have H_129 := Option.some.inj (show some (Sum.inl (0 : Int)) = some q_100 from H_127); subst H_129
                      have H_130 := Option.some.inj (show some (0 : Int) = some r from H_102); subst H_130
                      refine VL_ret ?_
                      refine QP_ret ?_
                      refine QB_ret ?_
                      exact P_to [(4, cI (0 : Int))] [] [] hn (by kernel_rfl) (by kernel_rfl) rfl rfl rfl (QF_retS (by kernel_rfl) (by kernel_rfl) rfl)
          · intro y_103 hy; subst hy
            obtain ⟨n_36, v_37, least_38⟩ := y_103
            refine VL_nil (QB_end ?_)
            refine V_run hN hn 3 0 [0, 1, 6, 7, 8, 58] [] ⟨[(0, cS s_1), (1, cI at_2), (6, cI n_36), (7, cI v_37), (8, cI least_38), (58, cB (decide ((w6 ((((ByteArray.size s_1) : Nat) : Int) - at_2)) < n_36)))], [], 0⟩ [] (by kernel_rfl) rfl rfl ap0 ?_
            refine VL_cond ((decide ((w6 ((((ByteArray.size s_1) : Nat) : Int) - at_2)) < n_36))) (by kernel_rfl) ?_ ?_
            · intro b_40; have H_131 := of_t H_102 b_40
              refine V_run hN hn 2 0 [4] [] ⟨[(4, cI (0 : Int))], [], 0⟩ [] (by kernel_rfl) rfl rfl ap0 ?_
              have H_133 := Option.some.inj (show some (0 : Int) = some r from H_131); subst H_133
              refine VL_ret ?_
              exact P_to [(4, cI (0 : Int))] [] [] hn (by kernel_rfl) (by kernel_rfl) rfl rfl rfl (QF_retS (by kernel_rfl) (by kernel_rfl) rfl)
            · intro b_40; have H_132 := of_f H_102 b_40
              refine V_run hN hn 4 0 [0, 1, 6, 7, 8, 9] [] ⟨[(0, cS s_1), (1, cI at_2), (6, cI n_36), (7, cI v_37), (8, cI least_38), (9, cI (1 : Int))], [], 0⟩ [] (by kernel_rfl) rfl rfl ap0 ?_
              obtain ⟨q_134, H_135, H_136⟩ := of_bind H_132
              refine V_cut (Y := Int) (R := (Int ⊕ Int)) q_134 (fun y => (Sum.inr y)) (fun y => [(6, cI n_36), (7, cI y), (8, cI least_38)]) (fun y => []) ?_ ?_
              · skip
                refine VL_block ?_
                refine V_to [(0, cS s_1), (1, cI at_2), (6, cI n_36), (7, cI v_37), (8, cI least_38), (9, cI (1 : Int))] [] [] hn (by kernel_rfl) (by kernel_rfl) rfl rfl rfl ?_
                refine VL_loop (X := (Int × Int)) (fun x => [(0, cS s_1), (1, cI at_2), (6, cI n_36), (7, cI x.1), (8, cI least_38), (9, cI x.2)]) (fun x => []) (fun k x => palinoderef1_Size.l0 K n_36 at_2 s_1 k x.1 x.2 = some q_134) K (v_37, (1 : Int)) H_135 (fun _ h => no_none h) ?_
                intro k_45 x_45 H_138
                obtain ⟨v_43, i_44⟩ := x_45
                have H_139 : palinoderef1_Size.l0 K n_36 at_2 s_1 (k_45 + 1) v_43 i_44 = some q_134 := H_138
                rw [palinoderef1_Size.l0] at H_139
                refine V_run hN hn 3 0 [0, 1, 6, 7, 8, 9, 61] [] ⟨[(0, cS s_1), (1, cI at_2), (6, cI n_36), (7, cI v_43), (8, cI least_38), (9, cI i_44), (61, cB (decide (i_44 < n_36)))], [], 0⟩ [] (by kernel_rfl) rfl rfl ap0 ?_
                refine VL_cond ((decide (i_44 < n_36))) (by kernel_rfl) ?_ ?_
                · intro b_47; have H_140 := of_t H_139 b_47
                  refine V_run hN hn 2 0 [0, 1, 6, 7, 8, 9, 61] [] ⟨[(0, cS s_1), (1, cI at_2), (6, cI n_36), (7, cI v_43), (8, cI least_38), (9, cI i_44), (61, cB (decide (i_44 < n_36)))], [], 0⟩ [] (by kernel_rfl) rfl rfl ap0 ?_
                  refine VL_block ?_
                  obtain ⟨c_49, H_142⟩ := of_if H_140
                  refine V_run hN hn 5 0 [0, 1, 6, 7, 8, 9, 10, 72] [] ⟨[(0, cS s_1), (1, cI at_2), (6, cI n_36), (7, cI v_43), (8, cI least_38), (9, cI i_44), (10, cI (w6 (bt s_1 (w6 (at_2 + i_44))))), (72, cB ((Int.fdiv (w6 (bt s_1 (w6 (at_2 + i_44)))) (64 : Int)) != (2 : Int)))], [], 0⟩ [0 ≤ (w6 (at_2 + i_44)), (w6 (at_2 + i_44)) < (((ByteArray.size s_1) : Nat) : Int), (0 : Int) ≤ (6 : Int)] (by kernel_rfl) rfl rfl (ap2 c_49.1 (ap2 c_49.2 (ap1 (by decide)))) ?_
                  refine VL_cond (((Int.fdiv (w6 (bt s_1 (w6 (at_2 + i_44)))) (64 : Int)) != (2 : Int))) (by kernel_rfl) ?_ ?_
                  · intro b_50; have H_143 := of_t H_142 b_50
                    refine V_run hN hn 2 0 [4] [] ⟨[(4, cI (0 : Int))], [], 0⟩ [] (by kernel_rfl) rfl rfl ap0 ?_
                    have H_145 := Option.some.inj (show some (Sum.inl (0 : Int)) = some q_134 from H_143); subst H_145
                    have H_146 := Option.some.inj (show some (0 : Int) = some r from H_136); subst H_146
                    refine VL_ret ?_
                    refine QB_ret ?_
                    refine QL_ret ?_
                    refine QB_ret ?_
                    refine QP_ret ?_
                    exact P_to [(4, cI (0 : Int))] [] [] hn (by kernel_rfl) (by kernel_rfl) rfl rfl rfl (QF_retS (by kernel_rfl) (by kernel_rfl) rfl)
                  · intro b_50; have H_144 := of_f H_142 b_50
                    refine V_run hN hn 2 0 [0, 1, 6, 7, 8, 9] [] ⟨[(0, cS s_1), (1, cI at_2), (6, cI n_36), (7, cI (w6 (BitVec.toNat (BitVec.ofInt (IntKind.bits .i64) (w6 (v_43 * (64 : Int))) ||| BitVec.ofInt (IntKind.bits .i64) (w6 (BitVec.toNat (BitVec.ofInt (IntKind.bits .i64) (w6 (bt s_1 (w6 (at_2 + i_44)))) &&& BitVec.ofInt (IntKind.bits .i64) (63 : Int)))))))), (8, cI least_38), (9, cI i_44)], [], 0⟩ [(0 : Int) ≤ (6 : Int)] (by kernel_rfl) rfl rfl (ap1 (by decide)) ?_
                    refine VL_nil (QB_end ?_)
                    refine V_run hN hn 1 0 [0, 1, 6, 7, 8, 9] [] ⟨[(0, cS s_1), (1, cI at_2), (6, cI n_36), (7, cI (w6 (BitVec.toNat (BitVec.ofInt (IntKind.bits .i64) (w6 (v_43 * (64 : Int))) ||| BitVec.ofInt (IntKind.bits .i64) (w6 (BitVec.toNat (BitVec.ofInt (IntKind.bits .i64) (w6 (bt s_1 (w6 (at_2 + i_44)))) &&& BitVec.ofInt (IntKind.bits .i64) (63 : Int)))))))), (8, cI least_38), (9, cI (w6 (i_44 + (1 : Int))))], [], 0⟩ [] (by kernel_rfl) rfl rfl ap0 ?_
                    refine VL_nil ?_
                    exact V_roundEnd ((w6 (BitVec.toNat (BitVec.ofInt (IntKind.bits .i64) (w6 (v_43 * (64 : Int))) ||| BitVec.ofInt (IntKind.bits .i64) (w6 (BitVec.toNat (BitVec.ofInt (IntKind.bits .i64) (w6 (bt s_1 (w6 (at_2 + i_44)))) &&& BitVec.ofInt (IntKind.bits .i64) (63 : Int))))))), (w6 (i_44 + (1 : Int)))) H_144 [] hn (by kernel_rfl) (by kernel_rfl) rfl rfl rfl
                · intro b_47; have H_141 := of_f H_139 b_47
                  refine VL_exit ?_
                  refine QL_exit ?_
                  refine QB_here ?_
                  have H_147 := Option.some.inj (show some (Sum.inr v_43) = some q_134 from H_141); subst H_147
                  refine VL_nil ?_
                  exact QP_end v_43 rfl [] hn (by kernel_rfl) (by kernel_rfl) rfl rfl rfl
              · intro y_137 hy; subst hy
                skip
                skip
                refine V_run hN hn 2 0 [6, 7, 8] [] ⟨[(6, cI n_36), (7, cI y_137), (8, cI least_38)], [], 0⟩ [] (by kernel_rfl) rfl rfl ap0 ?_
                obtain ⟨q_148, H_149, H_150⟩ := of_bind H_136
                refine V_cut (Y := Bool) (R := Bool) q_148 (fun y => y) (fun y => [(6, cI n_36), (92, cB y)]) (fun y => []) ?_ ?_
                · skip
                  rcases Bool.eq_false_or_eq_true ((decide (y_137 < least_38))) with b_56 | b_56
                  · have H_152 := of_t H_149 b_56
                    refine V_reg hN hn [] [(81, true)] calls_nil 0 [6, 92] [] ⟨[(6, cI n_36), (92, cB true)], [], 0⟩ [(decide (y_137 < least_38)) = true] (by kernel_rfl) rfl rfl (ap1 b_56) (by kernel_rfl) (by kernel_rfl) ?_
                    have H_154 := Option.some.inj (show some true = some q_148 from H_152); subst H_154
                    refine VL_nil ?_
                    exact QP_end true rfl [] hn (by kernel_rfl) (by kernel_rfl) rfl rfl rfl
                  · have H_153 := of_f H_149 b_56
                    rcases Bool.eq_false_or_eq_true ((decide (y_137 > (1114111 : Int)))) with b_58 | b_58
                    · have H_155 := of_t H_153 b_58
                      refine V_reg hN hn [] [(81, false), (85, true)] calls_nil 0 [6, 92] [] ⟨[(6, cI n_36), (92, cB true)], [], 0⟩ [(decide (y_137 < least_38)) = false, (decide (y_137 > (1114111 : Int))) = true] (by kernel_rfl) rfl rfl (ap2 b_56 (ap1 b_58)) (by kernel_rfl) (by kernel_rfl) ?_
                      have H_157 := Option.some.inj (show some true = some q_148 from H_155); subst H_157
                      refine VL_nil ?_
                      exact QP_end true rfl [] hn (by kernel_rfl) (by kernel_rfl) rfl rfl rfl
                    · have H_156 := of_f H_153 b_58
                      rcases Bool.eq_false_or_eq_true ((decide (y_137 ≥ (55296 : Int)))) with b_60 | b_60
                      · have H_158 := of_t H_156 b_60
                        refine V_reg hN hn [] [(81, false), (85, false), (88, true)] calls_nil 0 [6, 92] [] ⟨[(6, cI n_36), (92, cB (decide (y_137 < (57344 : Int))))], [], 0⟩ [(decide (y_137 < least_38)) = false, (decide (y_137 > (1114111 : Int))) = false, (decide (y_137 ≥ (55296 : Int))) = true] (by kernel_rfl) rfl rfl (ap2 b_56 (ap2 b_58 (ap1 b_60))) (by kernel_rfl) (by kernel_rfl) ?_
                        have H_160 := Option.some.inj (show some (decide (y_137 < (57344 : Int))) = some q_148 from H_158); subst H_160
                        refine VL_nil ?_
                        exact QP_end (decide (y_137 < (57344 : Int))) rfl [] hn (by kernel_rfl) (by kernel_rfl) rfl rfl rfl
                      · have H_159 := of_f H_156 b_60
                        refine V_reg hN hn [] [(81, false), (85, false), (88, false)] calls_nil 0 [6, 92] [] ⟨[(6, cI n_36), (92, cB false)], [], 0⟩ [(decide (y_137 < least_38)) = false, (decide (y_137 > (1114111 : Int))) = false, (decide (y_137 ≥ (55296 : Int))) = false] (by kernel_rfl) rfl rfl (ap2 b_56 (ap2 b_58 (ap1 b_60))) (by kernel_rfl) (by kernel_rfl) ?_
                        have H_161 := Option.some.inj (show some false = some q_148 from H_159); subst H_161
                        refine VL_nil ?_
                        exact QP_end false rfl [] hn (by kernel_rfl) (by kernel_rfl) rfl rfl rfl
                · intro y_151 hy; subst hy
                  skip
                  skip
                  refine VL_cond (y_151) (by kernel_rfl) ?_ ?_
                  · intro b_64; have H_162 := of_t H_150 b_64
                    refine V_run hN hn 2 0 [4] [] ⟨[(4, cI (0 : Int))], [], 0⟩ [] (by kernel_rfl) rfl rfl ap0 ?_
                    have H_164 := Option.some.inj (show some (0 : Int) = some r from H_162); subst H_164
                    refine VL_ret ?_
                    exact P_to [(4, cI (0 : Int))] [] [] hn (by kernel_rfl) (by kernel_rfl) rfl rfl rfl (QF_retS (by kernel_rfl) (by kernel_rfl) rfl)
                  · intro b_64; have H_163 := of_f H_150 b_64
                    refine V_run hN hn 3 0 [4] [] ⟨[(4, cI n_36)], [], 0⟩ [] (by kernel_rfl) rfl rfl ap0 ?_
                    have H_165 := Option.some.inj (show some n_36 = some r from H_163); subst H_165
                    refine VL_ret ?_
                    exact P_to [(4, cI n_36)] [] [] hn (by kernel_rfl) (by kernel_rfl) rfl rfl rfl (QF_retS (by kernel_rfl) (by kernel_rfl) rfl)

theorem palinoderef1_Valid_spec (K : Nat) (s_1 : ByteArray) (r : Bool) (H : palinoderef1_Valid K s_1 = some r) : Spec Try.prog 25 0 [cS s_1] [] (cB r) [] := by
  refine Spec_mk (fn := Try.f25) (c := (Try.f25.body).get!) Try.func25 (by kernel_rfl) rfl ?_
  intro C hN hn
  replace hN : C.N = 17 := hN
  unfold palinoderef1_Valid at H
  refine V_run hN hn 5 0 [0, 3] [] ⟨[(0, cS s_1), (3, cI (0 : Int))], [], 0⟩ [] (by kernel_rfl) rfl rfl ap0 ?_
  refine VL_block ?_
  refine V_to [(0, cS s_1), (3, cI (0 : Int))] [] [] hn (by kernel_rfl) (by kernel_rfl) rfl rfl rfl ?_
  refine VL_loop (X := Int) (fun x => [(0, cS s_1), (3, cI x)]) (fun x => []) (fun k x => palinoderef1_Valid.l0 K s_1 k x = some r) K (0 : Int) H (fun _ h => no_none h) ?_
  intro k_4 at_3 H_18
  have H_19 : palinoderef1_Valid.l0 K s_1 (k_4 + 1) at_3 = some r := H_18
  rw [palinoderef1_Valid.l0] at H_19
  refine V_run hN hn 3 0 [0, 3, 8] [] ⟨[(0, cS s_1), (3, cI at_3), (8, cB (decide (at_3 < (((ByteArray.size s_1) : Nat) : Int))))], [], 0⟩ [] (by kernel_rfl) rfl rfl ap0 ?_
  refine VL_cond ((decide (at_3 < (((ByteArray.size s_1) : Nat) : Int)))) (by kernel_rfl) ?_ ?_
  · intro b_6; have H_20 := of_t H_19 b_6
    refine V_run hN hn 1 0 [0, 3, 8] [] ⟨[(0, cS s_1), (3, cI at_3), (8, cB (decide (at_3 < (((ByteArray.size s_1) : Nat) : Int))))], [], 0⟩ [] (by kernel_rfl) rfl rfl ap0 ?_
    refine VL_block ?_
    refine V_run hN hn 1 0 [0, 3, 8] [] ⟨[(0, cS s_1), (3, cI at_3), (8, cB (decide (at_3 < (((ByteArray.size s_1) : Nat) : Int))))], [], 0⟩ [] (by kernel_rfl) rfl rfl ap0 ?_
    obtain ⟨r_9, h_10, H_22⟩ := of_bind H_20
    refine V_reg hN hn [(2, ⟨31, 0, [cS s_1, cI at_3], [], cI r_9, [], [], 0⟩)] [] (calls_cons (palinoderef1_Size_spec K s_1 at_3 r_9 h_10) (by kernel_rfl) calls_nil) 0 [0, 3, 4] [] ⟨[(0, cS s_1), (3, cI at_3), (4, cI r_9)], [], 0⟩ [] (by kernel_rfl) rfl rfl ap0 (by kernel_rfl) (by kernel_rfl) ?_
    refine V_run hN hn 3 0 [0, 3, 4, 13] [] ⟨[(0, cS s_1), (3, cI at_3), (4, cI r_9), (13, cB (r_9 == (0 : Int)))], [], 0⟩ [] (by kernel_rfl) rfl rfl ap0 ?_
    refine VL_cond ((r_9 == (0 : Int))) (by kernel_rfl) ?_ ?_
    · intro b_13; have H_23 := of_t H_22 b_13
      refine V_run hN hn 2 0 [2] [] ⟨[(2, cB false)], [], 0⟩ [] (by kernel_rfl) rfl rfl ap0 ?_
      have H_25 := Option.some.inj (show some false = some r from H_23); subst H_25
      refine VL_ret ?_
      refine QB_ret ?_
      refine QL_ret ?_
      refine QB_ret ?_
      exact P_to [(2, cB false)] [] [] hn (by kernel_rfl) (by kernel_rfl) rfl rfl rfl (QF_retS (by kernel_rfl) (by kernel_rfl) rfl)
    · intro b_13; have H_24 := of_f H_22 b_13
      refine V_run hN hn 2 0 [0, 3] [] ⟨[(0, cS s_1), (3, cI (w6 (at_3 + r_9)))], [], 0⟩ [] (by kernel_rfl) rfl rfl ap0 ?_
      refine VL_nil (QB_end ?_)
      refine VL_nil ?_
      exact V_roundEnd (w6 (at_3 + r_9)) H_24 [] hn (by kernel_rfl) (by kernel_rfl) rfl rfl rfl
  · intro b_6; have H_21 := of_f H_19 b_6
    refine VL_exit ?_
    refine QL_exit ?_
    refine QB_here ?_
    refine V_run hN hn 2 0 [2] [] ⟨[(2, cB true)], [], 0⟩ [] (by kernel_rfl) rfl rfl ap0 ?_
    have H_26 := Option.some.inj (show some true = some r from H_21); subst H_26
    refine VL_ret ?_
    exact P_to [(2, cB true)] [] [] hn (by kernel_rfl) (by kernel_rfl) rfl rfl rfl (QF_retS (by kernel_rfl) (by kernel_rfl) rfl)

theorem palinoderef1_IsEdge_spec (K : Nat) (s_1 : ByteArray) (at_2 : Int) (r : Bool) (H : palinoderef1_IsEdge K s_1 at_2 = some r) : Spec Try.prog 26 0 [cS s_1, cI at_2] [] (cB r) [] := by
  refine Spec_mk (fn := Try.f26) (c := (Try.f26.body).get!) Try.func26 (by kernel_rfl) rfl ?_
  intro C hN hn
  replace hN : C.N = 30 := hN
  unfold palinoderef1_IsEdge at H
  refine V_run hN hn 4 0 [0, 1] [] ⟨[(0, cS s_1), (1, cI at_2)], [], 0⟩ [] (by kernel_rfl) rfl rfl ap0 ?_
  obtain ⟨q_20, H_21, H_22⟩ := of_bind H
  refine V_cut (Y := Bool) (R := Bool) q_20 (fun y => y) (fun y => [(0, cS s_1), (1, cI at_2), (17, cB y)]) (fun y => []) ?_ ?_
  · skip
    rcases Bool.eq_false_or_eq_true ((decide (at_2 < (0 : Int)))) with b_4 | b_4
    · have H_24 := of_t H_21 b_4
      refine V_reg hN hn [] [(7, true)] calls_nil 0 [0, 1, 17] [] ⟨[(0, cS s_1), (1, cI at_2), (17, cB true)], [], 0⟩ [(decide (at_2 < (0 : Int))) = true] (by kernel_rfl) rfl rfl (ap1 b_4) (by kernel_rfl) (by kernel_rfl) ?_
      have H_26 := Option.some.inj (show some true = some q_20 from H_24); subst H_26
      refine VL_nil ?_
      exact QP_end true rfl [] hn (by kernel_rfl) (by kernel_rfl) rfl rfl rfl
    · have H_25 := of_f H_21 b_4
      rcases Bool.eq_false_or_eq_true ((decide (at_2 > (((ByteArray.size s_1) : Nat) : Int)))) with b_6 | b_6
      · have H_27 := of_t H_25 b_6
        refine V_reg hN hn [] [(7, false), (13, true)] calls_nil 0 [0, 1, 17] [] ⟨[(0, cS s_1), (1, cI at_2), (17, cB true)], [], 0⟩ [(decide (at_2 < (0 : Int))) = false, (decide (at_2 > (((ByteArray.size s_1) : Nat) : Int))) = true] (by kernel_rfl) rfl rfl (ap2 b_4 (ap1 b_6)) (by kernel_rfl) (by kernel_rfl) ?_
        have H_29 := Option.some.inj (show some true = some q_20 from H_27); subst H_29
        refine VL_nil ?_
        exact QP_end true rfl [] hn (by kernel_rfl) (by kernel_rfl) rfl rfl rfl
      · have H_28 := of_f H_25 b_6
        obtain ⟨r_8, h_9, H_30⟩ := of_bind H_28
        refine V_reg hN hn [(10, ⟨25, 0, [cS s_1], [], cB r_8, [], [], 0⟩)] [(7, false), (13, false)] (calls_cons (palinoderef1_Valid_spec K s_1 r_8 h_9) (by kernel_rfl) calls_nil) 0 [0, 1, 17] [] ⟨[(0, cS s_1), (1, cI at_2), (17, cB (!r_8))], [], 0⟩ [(decide (at_2 < (0 : Int))) = false, (decide (at_2 > (((ByteArray.size s_1) : Nat) : Int))) = false] (by kernel_rfl) rfl rfl (ap2 b_4 (ap1 b_6)) (by kernel_rfl) (by kernel_rfl) ?_
        have H_31 := Option.some.inj (show some (!r_8) = some q_20 from H_30); subst H_31
        refine VL_nil ?_
        exact QP_end (!r_8) rfl [] hn (by kernel_rfl) (by kernel_rfl) rfl rfl rfl
  · intro y_23 hy; subst hy
    skip
    skip
    refine VL_cond (y_23) (by kernel_rfl) ?_ ?_
    · intro b_12; have H_32 := of_t H_22 b_12
      refine V_run hN hn 2 0 [4] [] ⟨[(4, cB false)], [], 0⟩ [] (by kernel_rfl) rfl rfl ap0 ?_
      have H_34 := Option.some.inj (show some false = some r from H_32); subst H_34
      refine VL_ret ?_
      exact P_to [(4, cB false)] [] [] hn (by kernel_rfl) (by kernel_rfl) rfl rfl rfl (QF_retS (by kernel_rfl) (by kernel_rfl) rfl)
    · intro b_12; have H_33 := of_f H_22 b_12
      refine V_run hN hn 2 0 [0, 1, 17] [] ⟨[(0, cS s_1), (1, cI at_2), (17, cB y_23)], [], 0⟩ [] (by kernel_rfl) rfl rfl ap0 ?_
      rcases Bool.eq_false_or_eq_true ((at_2 == (((ByteArray.size s_1) : Nat) : Int))) with b_15 | b_15
      · have H_35 := of_t H_33 b_15
        refine V_reg hN hn [] [(22, true)] calls_nil 0 [4] [] ⟨[(4, cB true)], [], 0⟩ [(at_2 == (((ByteArray.size s_1) : Nat) : Int)) = true] (by kernel_rfl) rfl rfl (ap1 b_15) (by kernel_rfl) (by kernel_rfl) ?_
        have H_37 := Option.some.inj (show some true = some r from H_35); subst H_37
        refine VL_ret ?_
        exact P_to [(4, cB true)] [] [] hn (by kernel_rfl) (by kernel_rfl) rfl rfl rfl (QF_retS (by kernel_rfl) (by kernel_rfl) rfl)
      · have H_36 := of_f H_33 b_15
        obtain ⟨c_17, H_38⟩ := of_if H_36
        refine V_reg hN hn [] [(22, false)] calls_nil 0 [4] [] ⟨[(4, cB ((Int.fdiv (w6 (bt s_1 at_2)) (64 : Int)) != (2 : Int)))], [], 0⟩ [(at_2 == (((ByteArray.size s_1) : Nat) : Int)) = false, 0 ≤ at_2, at_2 < (((ByteArray.size s_1) : Nat) : Int), (0 : Int) ≤ (6 : Int)] (by kernel_rfl) rfl rfl (ap2 b_15 (ap2 c_17.1 (ap2 c_17.2 (ap1 (by decide))))) (by kernel_rfl) (by kernel_rfl) ?_
        have H_39 := Option.some.inj (show some ((Int.fdiv (w6 (bt s_1 at_2)) (64 : Int)) != (2 : Int)) = some r from H_38); subst H_39
        refine VL_ret ?_
        exact P_to [(4, cB ((Int.fdiv (w6 (bt s_1 at_2)) (64 : Int)) != (2 : Int)))] [] [] hn (by kernel_rfl) (by kernel_rfl) rfl rfl rfl (QF_retS (by kernel_rfl) (by kernel_rfl) rfl)

theorem palinoderef1_Back_spec (K : Nat) (s_1 : ByteArray) (at_2 : Int) (r : Int) (H : palinoderef1_Back K s_1 at_2 = some r) : Spec Try.prog 23 0 [cS s_1, cI at_2] [] (cI r) [] := by
  refine Spec_mk (fn := Try.f23) (c := (Try.f23.body).get!) Try.func23 (by kernel_rfl) rfl ?_
  intro C hN hn
  replace hN : C.N = 36 := hN
  unfold palinoderef1_Back at H
  refine V_run hN hn 4 0 [0, 1] [] ⟨[(0, cS s_1), (1, cI at_2)], [], 0⟩ [] (by kernel_rfl) rfl rfl ap0 ?_
  obtain ⟨q_30, H_31, H_32⟩ := of_bind H
  refine V_cut (Y := Bool) (R := Bool) q_30 (fun y => y) (fun y => [(0, cS s_1), (1, cI at_2), (19, cB y)]) (fun y => []) ?_ ?_
  · skip
    rcases Bool.eq_false_or_eq_true ((decide (at_2 < (1 : Int)))) with b_4 | b_4
    · have H_34 := of_t H_31 b_4
      refine V_reg hN hn [] [(8, true)] calls_nil 0 [0, 1, 19] [] ⟨[(0, cS s_1), (1, cI at_2), (19, cB true)], [], 0⟩ [(decide (at_2 < (1 : Int))) = true] (by kernel_rfl) rfl rfl (ap1 b_4) (by kernel_rfl) (by kernel_rfl) ?_
      have H_36 := Option.some.inj (show some true = some q_30 from H_34); subst H_36
      refine VL_nil ?_
      exact QP_end true rfl [] hn (by kernel_rfl) (by kernel_rfl) rfl rfl rfl
    · have H_35 := of_f H_31 b_4
      rcases Bool.eq_false_or_eq_true ((decide (at_2 > (((ByteArray.size s_1) : Nat) : Int)))) with b_6 | b_6
      · have H_37 := of_t H_35 b_6
        refine V_reg hN hn [] [(8, false), (14, true)] calls_nil 0 [0, 1, 19] [] ⟨[(0, cS s_1), (1, cI at_2), (19, cB true)], [], 0⟩ [(decide (at_2 < (1 : Int))) = false, (decide (at_2 > (((ByteArray.size s_1) : Nat) : Int))) = true] (by kernel_rfl) rfl rfl (ap2 b_4 (ap1 b_6)) (by kernel_rfl) (by kernel_rfl) ?_
        have H_39 := Option.some.inj (show some true = some q_30 from H_37); subst H_39
        refine VL_nil ?_
        exact QP_end true rfl [] hn (by kernel_rfl) (by kernel_rfl) rfl rfl rfl
      · have H_38 := of_f H_35 b_6
        obtain ⟨r_8, h_9, H_40⟩ := of_bind H_38
        refine V_reg hN hn [(11, ⟨26, 0, [cS s_1, cI at_2], [], cB r_8, [], [], 0⟩)] [(8, false), (14, false)] (calls_cons (palinoderef1_IsEdge_spec K s_1 at_2 r_8 h_9) (by kernel_rfl) calls_nil) 0 [0, 1, 19] [] ⟨[(0, cS s_1), (1, cI at_2), (19, cB (!r_8))], [], 0⟩ [(decide (at_2 < (1 : Int))) = false, (decide (at_2 > (((ByteArray.size s_1) : Nat) : Int))) = false] (by kernel_rfl) rfl rfl (ap2 b_4 (ap1 b_6)) (by kernel_rfl) (by kernel_rfl) ?_
        have H_41 := Option.some.inj (show some (!r_8) = some q_30 from H_40); subst H_41
        refine VL_nil ?_
        exact QP_end (!r_8) rfl [] hn (by kernel_rfl) (by kernel_rfl) rfl rfl rfl
  · intro y_33 hy; subst hy
    skip
    skip
    refine VL_cond (y_33) (by kernel_rfl) ?_ ?_
    · intro b_12; have H_42 := of_t H_32 b_12
      refine V_run hN hn 2 0 [4] [] ⟨[(4, cI at_2)], [], 0⟩ [] (by kernel_rfl) rfl rfl ap0 ?_
      have H_44 := Option.some.inj (show some at_2 = some r from H_42); subst H_44
      refine VL_ret ?_
      exact P_to [(4, cI at_2)] [] [] hn (by kernel_rfl) (by kernel_rfl) rfl rfl rfl (QF_retS (by kernel_rfl) (by kernel_rfl) rfl)
    · intro b_12; have H_43 := of_f H_32 b_12
      refine V_run hN hn 4 0 [0, 5] [] ⟨[(0, cS s_1), (5, cI (w6 (at_2 - (1 : Int))))], [], 0⟩ [] (by kernel_rfl) rfl rfl ap0 ?_
      refine VL_block ?_
      refine V_to [(0, cS s_1), (5, cI (w6 (at_2 - (1 : Int))))] [] [] hn (by kernel_rfl) (by kernel_rfl) rfl rfl rfl ?_
      refine VL_loop (X := Int) (fun x => [(0, cS s_1), (5, cI x)]) (fun x => []) (fun k x => palinoderef1_Back.l0 K s_1 k x = some r) K (w6 (at_2 - (1 : Int))) H_43 (fun _ h => no_none h) ?_
      intro k_16 k_15 H_45
      have H_46 : palinoderef1_Back.l0 K s_1 (k_16 + 1) k_15 = some r := H_45
      rw [palinoderef1_Back.l0] at H_46
      refine V_run hN hn 2 0 [0, 5] [] ⟨[(0, cS s_1), (5, cI k_15)], [], 0⟩ [] (by kernel_rfl) rfl rfl ap0 ?_
      obtain ⟨q_47, H_48, H_49⟩ := of_bind H_46
      refine V_cut (Y := Bool) (R := Bool) q_47 (fun y => y) (fun y => [(0, cS s_1), (5, cI k_15), (32, cB y)]) (fun y => []) ?_ ?_
      · skip
        rcases Bool.eq_false_or_eq_true ((decide (k_15 > (0 : Int)))) with b_18 | b_18
        · have H_51 := of_t H_48 b_18
          obtain ⟨c_19, H_53⟩ := of_if H_51
          refine V_reg hN hn [] [(25, true)] calls_nil 0 [0, 5, 32] [] ⟨[(0, cS s_1), (5, cI k_15), (32, cB ((Int.fdiv (w6 (bt s_1 k_15)) (64 : Int)) == (2 : Int)))], [], 0⟩ [(decide (k_15 > (0 : Int))) = true, 0 ≤ k_15, k_15 < (((ByteArray.size s_1) : Nat) : Int), (0 : Int) ≤ (6 : Int)] (by kernel_rfl) rfl rfl (ap2 b_18 (ap2 c_19.1 (ap2 c_19.2 (ap1 (by decide))))) (by kernel_rfl) (by kernel_rfl) ?_
          have H_54 := Option.some.inj (show some ((Int.fdiv (w6 (bt s_1 k_15)) (64 : Int)) == (2 : Int)) = some q_47 from H_53); subst H_54
          refine VL_nil ?_
          exact QP_end ((Int.fdiv (w6 (bt s_1 k_15)) (64 : Int)) == (2 : Int)) rfl [] hn (by kernel_rfl) (by kernel_rfl) rfl rfl rfl
        · have H_52 := of_f H_48 b_18
          refine V_reg hN hn [] [(25, false)] calls_nil 0 [0, 5, 32] [] ⟨[(0, cS s_1), (5, cI k_15), (32, cB false)], [], 0⟩ [(decide (k_15 > (0 : Int))) = false] (by kernel_rfl) rfl rfl (ap1 b_18) (by kernel_rfl) (by kernel_rfl) ?_
          have H_55 := Option.some.inj (show some false = some q_47 from H_52); subst H_55
          refine VL_nil ?_
          exact QP_end false rfl [] hn (by kernel_rfl) (by kernel_rfl) rfl rfl rfl
      · intro y_50 hy; subst hy
        skip
        skip
        refine VL_cond (y_50) (by kernel_rfl) ?_ ?_
        · intro b_22; have H_56 := of_t H_49 b_22
          refine V_run hN hn 1 0 [0, 5, 32] [] ⟨[(0, cS s_1), (5, cI k_15), (32, cB y_50)], [], 0⟩ [] (by kernel_rfl) rfl rfl ap0 ?_
          refine VL_block ?_
          refine V_run hN hn 1 0 [0, 5] [] ⟨[(0, cS s_1), (5, cI (w6 (k_15 - (1 : Int))))], [], 0⟩ [] (by kernel_rfl) rfl rfl ap0 ?_
          refine VL_nil (QB_end ?_)
          refine VL_nil ?_
          exact V_roundEnd (w6 (k_15 - (1 : Int))) H_56 [] hn (by kernel_rfl) (by kernel_rfl) rfl rfl rfl
        · intro b_22; have H_57 := of_f H_49 b_22
          refine VL_exit ?_
          refine QL_exit ?_
          refine QB_here ?_
          refine V_run hN hn 2 0 [4] [] ⟨[(4, cI k_15)], [], 0⟩ [] (by kernel_rfl) rfl rfl ap0 ?_
          have H_58 := Option.some.inj (show some k_15 = some r from H_57); subst H_58
          refine VL_ret ?_
          exact P_to [(4, cI k_15)] [] [] hn (by kernel_rfl) (by kernel_rfl) rfl rfl rfl (QF_retS (by kernel_rfl) (by kernel_rfl) rfl)

theorem palinoderef11_Ordered_r_spec (K : Nat) (l_1 : (List (Int × (Int × ByteArray)))) (r : Bool) (H : palinoderef11_Ordered_r K l_1 = some r) : Spec Try.prog 38 1 [.c (.h 0)] [(0, .row kE l_1)] (cB r) [(0, .row kE l_1)] := by
  refine Spec_mk (fn := Try.f38) (c := (Try.f38.body).get!) Try.func38 (by kernel_rfl) rfl ?_
  intro C hN hn
  replace hN : C.N = 40 := hN
  unfold palinoderef11_Ordered_r at H
  refine V_run hN hn 5 1 [0, 3] [0] ⟨[(0, .c (.h 0)), (3, cI (1 : Int))], [(0, .row kE l_1)], 1⟩ [] (by kernel_rfl) rfl rfl ap0 ?_
  refine VL_block ?_
  refine V_to [(0, .c (.h 0)), (3, cI (1 : Int))] [(0, .row kE l_1)] [] hn (by kernel_rfl) (by kernel_rfl) rfl rfl rfl ?_
  refine VL_loop (X := Int) (fun x => [(0, .c (.h 0)), (3, cI x)]) (fun x => [(0, .row kE l_1)]) (fun k x => palinoderef11_Ordered_r.l0 K l_1 k x = some r) K (1 : Int) H (fun _ h => no_none h) ?_
  intro k_4 i_3 H_25
  have H_26 : palinoderef11_Ordered_r.l0 K l_1 (k_4 + 1) i_3 = some r := H_25
  rw [palinoderef11_Ordered_r.l0] at H_26
  refine V_run hN hn 3 1 [0, 3, 9] [0] ⟨[(0, .c (.h 0)), (3, cI i_3), (9, cB (decide (i_3 < (lnI l_1))))], [(0, .row kE l_1)], 1⟩ [] (by kernel_rfl) rfl rfl ap0 ?_
  refine VL_cond ((decide (i_3 < (lnI l_1)))) (by kernel_rfl) ?_ ?_
  · intro b_6; have H_27 := of_t H_26 b_6
    refine V_run hN hn 2 1 [0, 3, 9] [0] ⟨[(0, .c (.h 0)), (3, cI i_3), (9, cB (decide (i_3 < (lnI l_1))))], [(0, .row kE l_1)], 1⟩ [] (by kernel_rfl) rfl rfl ap0 ?_
    refine VL_block ?_
    refine V_run hN hn 1 1 [0, 3, 9] [0] ⟨[(0, .c (.h 0)), (3, cI i_3), (9, cB (decide (i_3 < (lnI l_1))))], [(0, .row kE l_1)], 1⟩ [] (by kernel_rfl) rfl rfl ap0 ?_
    obtain ⟨c_9, H_29⟩ := of_if H_27
    refine V_draw hN hn (by kernel_rfl) [] [] calls_nil 1 [0, 3, 4, 5] [0, 1, 2] ⟨[(0, .c (.h 0)), (3, cI i_3), (4, .c (.h 1)), (5, .c (.h 2))], [(0, .row kE l_1), (1, .box [.val (.int .i64 (List.getD l_1 (Int.toNat (w6 (i_3 - (1 : Int)))) zE).1), .val (.int .i64 (List.getD l_1 (Int.toNat (w6 (i_3 - (1 : Int)))) zE).2.1), .val (.string (List.getD l_1 (Int.toNat (w6 (i_3 - (1 : Int)))) zE).2.2)]), (2, .box [.val (.int .i64 (List.getD l_1 (Int.toNat i_3) zE).1), .val (.int .i64 (List.getD l_1 (Int.toNat i_3) zE).2.1), .val (.string (List.getD l_1 (Int.toNat i_3) zE).2.2)])], 3⟩ [0 ≤ (w6 (i_3 - (1 : Int))), (w6 (i_3 - (1 : Int))) < (lnI l_1), 0 ≤ (w6 (i_3 - (1 : Int))), (w6 (i_3 - (1 : Int))) < (lnI l_1), 0 ≤ (w6 (i_3 - (1 : Int))), (w6 (i_3 - (1 : Int))) < (lnI l_1), 0 ≤ (w6 (i_3 - (1 : Int))), (w6 (i_3 - (1 : Int))) < (lnI l_1), 0 ≤ i_3, i_3 < (lnI l_1), 0 ≤ i_3, i_3 < (lnI l_1), 0 ≤ i_3, i_3 < (lnI l_1), 0 ≤ i_3, i_3 < (lnI l_1), 0 ≤ i_3, i_3 < (lnI l_1)] (by kernel_rfl) rfl rfl (ap2 c_9.1 (ap2 c_9.2.1 (ap2 c_9.1 (ap2 c_9.2.1 (ap2 c_9.1 (ap2 c_9.2.1 (ap2 c_9.1 (ap2 c_9.2.1 (ap2 c_9.2.2.1 (ap2 c_9.2.2.2 (ap2 c_9.2.2.1 (ap2 c_9.2.2.2 (ap2 c_9.2.2.1 (ap2 c_9.2.2.2 (ap2 c_9.2.2.1 (ap2 c_9.2.2.2 (ap2 c_9.2.2.1 (ap1 c_9.2.2.2)))))))))))))))))) (by kernel_rfl) (by kernel_rfl) ?_
    refine V_run hN hn 1 3 [0, 3, 4, 5] [0, 1, 2] ⟨[(0, .c (.h 0)), (3, cI i_3), (4, .c (.h 1)), (5, .c (.h 2))], [(0, .row kE l_1), (1, .box [.val (.int .i64 (List.getD l_1 (Int.toNat (w6 (i_3 - (1 : Int)))) zE).1), .val (.int .i64 (List.getD l_1 (Int.toNat (w6 (i_3 - (1 : Int)))) zE).2.1), .val (.string (List.getD l_1 (Int.toNat (w6 (i_3 - (1 : Int)))) zE).2.2)]), (2, .box [.val (.int .i64 (List.getD l_1 (Int.toNat i_3) zE).1), .val (.int .i64 (List.getD l_1 (Int.toNat i_3) zE).2.1), .val (.string (List.getD l_1 (Int.toNat i_3) zE).2.2)])], 3⟩ [] (by kernel_rfl) rfl rfl ap0 ?_
    obtain ⟨q_30, H_31, H_32⟩ := of_bind H_29
    refine V_cut (Y := Bool) (R := Bool) q_30 (fun y => y) (fun y => [(0, .c (.h 0)), (3, cI i_3), (39, cB y)]) (fun y => [(0, .row kE l_1)]) ?_ ?_
    · skip
      rcases Bool.eq_false_or_eq_true ((decide ((List.getD l_1 (Int.toNat i_3) zE).1 < (List.getD l_1 (Int.toNat (w6 (i_3 - (1 : Int)))) zE).2.1))) with b_11 | b_11
      · have H_34 := of_t H_31 b_11
        refine V_reg hN hn [] [(26, true)] calls_nil 3 [0, 3, 39] [0] ⟨[(0, .c (.h 0)), (3, cI i_3), (39, cB true)], [(0, .row kE l_1)], 3⟩ [(decide ((List.getD l_1 (Int.toNat i_3) zE).1 < (List.getD l_1 (Int.toNat (w6 (i_3 - (1 : Int)))) zE).2.1)) = true] (by kernel_rfl) rfl rfl (ap1 b_11) (by kernel_rfl) (by kernel_rfl) ?_
        have H_36 := Option.some.inj (show some true = some q_30 from H_34); subst H_36
        refine VL_nil ?_
        exact QP_end true rfl [] hn (by kernel_rfl) (by kernel_rfl) rfl rfl rfl
      · have H_35 := of_f H_31 b_11
        rcases Bool.eq_false_or_eq_true (((List.getD l_1 (Int.toNat i_3) zE).1 == (List.getD l_1 (Int.toNat (w6 (i_3 - (1 : Int)))) zE).1)) with b_13 | b_13
        · have H_37 := of_t H_35 b_13
          refine V_reg hN hn [] [(26, false), (32, true)] calls_nil 3 [0, 3, 39] [0] ⟨[(0, .c (.h 0)), (3, cI i_3), (39, cB ((List.getD l_1 (Int.toNat (w6 (i_3 - (1 : Int)))) zE).1 == (List.getD l_1 (Int.toNat (w6 (i_3 - (1 : Int)))) zE).2.1))], [(0, .row kE l_1)], 3⟩ [(decide ((List.getD l_1 (Int.toNat i_3) zE).1 < (List.getD l_1 (Int.toNat (w6 (i_3 - (1 : Int)))) zE).2.1)) = false, ((List.getD l_1 (Int.toNat i_3) zE).1 == (List.getD l_1 (Int.toNat (w6 (i_3 - (1 : Int)))) zE).1) = true] (by kernel_rfl) rfl rfl (ap2 b_11 (ap1 b_13)) (by kernel_rfl) (by kernel_rfl) ?_
          have H_39 := Option.some.inj (show some ((List.getD l_1 (Int.toNat (w6 (i_3 - (1 : Int)))) zE).1 == (List.getD l_1 (Int.toNat (w6 (i_3 - (1 : Int)))) zE).2.1) = some q_30 from H_37); subst H_39
          refine VL_nil ?_
          exact QP_end ((List.getD l_1 (Int.toNat (w6 (i_3 - (1 : Int)))) zE).1 == (List.getD l_1 (Int.toNat (w6 (i_3 - (1 : Int)))) zE).2.1) rfl [] hn (by kernel_rfl) (by kernel_rfl) rfl rfl rfl
        · have H_38 := of_f H_35 b_13
          refine V_reg hN hn [] [(26, false), (32, false)] calls_nil 3 [0, 3, 39] [0] ⟨[(0, .c (.h 0)), (3, cI i_3), (39, cB false)], [(0, .row kE l_1)], 3⟩ [(decide ((List.getD l_1 (Int.toNat i_3) zE).1 < (List.getD l_1 (Int.toNat (w6 (i_3 - (1 : Int)))) zE).2.1)) = false, ((List.getD l_1 (Int.toNat i_3) zE).1 == (List.getD l_1 (Int.toNat (w6 (i_3 - (1 : Int)))) zE).1) = false] (by kernel_rfl) rfl rfl (ap2 b_11 (ap1 b_13)) (by kernel_rfl) (by kernel_rfl) ?_
          have H_40 := Option.some.inj (show some false = some q_30 from H_38); subst H_40
          refine VL_nil ?_
          exact QP_end false rfl [] hn (by kernel_rfl) (by kernel_rfl) rfl rfl rfl
    · intro y_33 hy; subst hy
      skip
      skip
      refine VL_cond (y_33) (by kernel_rfl) ?_ ?_
      · intro b_17; have H_41 := of_t H_32 b_17
        refine V_run hN hn 2 3 [2] [0] ⟨[(2, cB false)], [(0, .row kE l_1)], 3⟩ [] (by kernel_rfl) rfl rfl ap0 ?_
        have H_43 := Option.some.inj (show some false = some r from H_41); subst H_43
        refine VL_ret ?_
        refine QB_ret ?_
        refine QL_ret ?_
        refine QB_ret ?_
        exact P_to [(2, cB false)] [(0, .row kE l_1)] [] hn (by kernel_rfl) (by kernel_rfl) rfl rfl rfl (QF_retS (by kernel_rfl) (by kernel_rfl) rfl)
      · intro b_17; have H_42 := of_f H_32 b_17
        refine V_run hN hn 1 3 [0, 3, 39] [0] ⟨[(0, .c (.h 0)), (3, cI i_3), (39, cB y_33)], [(0, .row kE l_1)], 3⟩ [] (by kernel_rfl) rfl rfl ap0 ?_
        refine VL_nil (QB_end ?_)
        refine V_run hN hn 1 3 [0, 3] [0] ⟨[(0, .c (.h 0)), (3, cI (w6 (i_3 + (1 : Int))))], [(0, .row kE l_1)], 3⟩ [] (by kernel_rfl) rfl rfl ap0 ?_
        refine VL_nil ?_
        exact V_roundEnd (w6 (i_3 + (1 : Int))) H_42 [] hn (by kernel_rfl) (by kernel_rfl) rfl rfl rfl
  · intro b_6; have H_28 := of_f H_26 b_6
    refine VL_exit ?_
    refine QL_exit ?_
    refine QB_here ?_
    refine V_run hN hn 2 1 [2] [0] ⟨[(2, cB true)], [(0, .row kE l_1)], 1⟩ [] (by kernel_rfl) rfl rfl ap0 ?_
    have H_44 := Option.some.inj (show some true = some r from H_28); subst H_44
    refine VL_ret ?_
    exact P_to [(2, cB true)] [(0, .row kE l_1)] [] hn (by kernel_rfl) (by kernel_rfl) rfl rfl rfl (QF_retS (by kernel_rfl) (by kernel_rfl) rfl)

theorem palinoderef17_Check_gr_spec (K : Nat) (s_1 : ByteArray) (l_2 : (List (Int × (Int × ByteArray)))) (r : Int) (H : palinoderef17_Check_gr K s_1 l_2 = some r) : Spec Try.prog 21 1 [cS s_1, .c (.h 0)] [(0, .row kE l_2)] (cI r) [(0, .row kE l_2)] := by
  refine Spec_mk (fn := Try.f21) (c := (Try.f21.body).get!) Try.func21 (by kernel_rfl) rfl ?_
  intro C hN hn
  replace hN : C.N = 138 := hN
  unfold palinoderef17_Check_gr at H
  refine V_run hN hn 4 1 [0, 1] [0] ⟨[(0, cS s_1), (1, .c (.h 0))], [(0, .row kE l_2)], 1⟩ [] (by kernel_rfl) rfl rfl ap0 ?_
  obtain ⟨r_4, h_5, H_106⟩ := of_bind H
  refine V_reg hN hn [(1, ⟨25, 0, [cS s_1], [], cB r_4, [], [], 1⟩)] [] (calls_cons (palinoderef1_Valid_spec K s_1 r_4 h_5) (by kernel_rfl) calls_nil) 1 [0, 1, 13] [0] ⟨[(0, cS s_1), (1, .c (.h 0)), (13, cB (!r_4))], [(0, .row kE l_2)], 1⟩ [] (by kernel_rfl) rfl rfl ap0 (by kernel_rfl) (by kernel_rfl) ?_
  refine VL_cond ((!r_4)) (by kernel_rfl) ?_ ?_
  · intro b_7; have H_107 := of_t H_106 b_7
    refine V_run hN hn 2 1 [4] [0] ⟨[(4, cI (12 : Int))], [(0, .row kE l_2)], 1⟩ [] (by kernel_rfl) rfl rfl ap0 ?_
    have H_109 := Option.some.inj (show some (12 : Int) = some r from H_107); subst H_109
    refine VL_ret ?_
    exact P_to [(4, cI (12 : Int))] [(0, .row kE l_2)] [] hn (by kernel_rfl) (by kernel_rfl) rfl rfl rfl (QF_retS (by kernel_rfl) (by kernel_rfl) rfl)
  · intro b_7; have H_108 := of_f H_106 b_7
    refine V_run hN hn 4 1 [0, 1, 16] [0] ⟨[(0, cS s_1), (1, .c (.h 0)), (16, cB (decide ((lnI l_2) > (8 : Int))))], [(0, .row kE l_2)], 1⟩ [] (by kernel_rfl) rfl rfl ap0 ?_
    refine VL_cond ((decide ((lnI l_2) > (8 : Int)))) (by kernel_rfl) ?_ ?_
    · intro b_10; have H_110 := of_t H_108 b_10
      refine V_run hN hn 2 1 [4] [0] ⟨[(4, cI (70 : Int))], [(0, .row kE l_2)], 1⟩ [] (by kernel_rfl) rfl rfl ap0 ?_
      have H_112 := Option.some.inj (show some (70 : Int) = some r from H_110); subst H_112
      refine VL_ret ?_
      exact P_to [(4, cI (70 : Int))] [(0, .row kE l_2)] [] hn (by kernel_rfl) (by kernel_rfl) rfl rfl rfl (QF_retS (by kernel_rfl) (by kernel_rfl) rfl)
    · intro b_10; have H_111 := of_f H_108 b_10
      refine V_run hN hn 4 1 [0, 1, 5] [0] ⟨[(0, cS s_1), (1, .c (.h 0)), (5, cI (0 : Int))], [(0, .row kE l_2)], 1⟩ [] (by kernel_rfl) rfl rfl ap0 ?_
      obtain ⟨q_113, H_114, H_115⟩ := of_bind H_111
      refine V_cut (Y := Unit) (R := (Int ⊕ Unit)) q_113 (fun y => (Sum.inr y)) (fun y => [(0, cS s_1), (1, .c (.h 0))]) (fun y => [(0, .row kE l_2)]) ?_ ?_
      · skip
        refine VL_block ?_
        refine V_to [(0, cS s_1), (1, .c (.h 0)), (5, cI (0 : Int))] [(0, .row kE l_2)] [] hn (by kernel_rfl) (by kernel_rfl) rfl rfl rfl ?_
        refine VL_loop (X := Int) (fun x => [(0, cS s_1), (1, .c (.h 0)), (5, cI x)]) (fun x => [(0, .row kE l_2)]) (fun k x => palinoderef17_Check_gr.l0 K l_2 s_1 k x = some q_113) K (0 : Int) H_114 (fun _ h => no_none h) ?_
        intro k_14 i_13 H_117
        have H_118 : palinoderef17_Check_gr.l0 K l_2 s_1 (k_14 + 1) i_13 = some q_113 := H_117
        rw [palinoderef17_Check_gr.l0] at H_118
        refine V_run hN hn 3 1 [0, 1, 5, 20] [0] ⟨[(0, cS s_1), (1, .c (.h 0)), (5, cI i_13), (20, cB (decide (i_13 < (lnI l_2))))], [(0, .row kE l_2)], 1⟩ [] (by kernel_rfl) rfl rfl ap0 ?_
        refine VL_cond ((decide (i_13 < (lnI l_2)))) (by kernel_rfl) ?_ ?_
        · intro b_16; have H_119 := of_t H_118 b_16
          refine V_run hN hn 2 1 [0, 1, 5, 20] [0] ⟨[(0, cS s_1), (1, .c (.h 0)), (5, cI i_13), (20, cB (decide (i_13 < (lnI l_2))))], [(0, .row kE l_2)], 1⟩ [] (by kernel_rfl) rfl rfl ap0 ?_
          refine VL_block ?_
          refine V_run hN hn 1 1 [0, 1, 5, 20] [0] ⟨[(0, cS s_1), (1, .c (.h 0)), (5, cI i_13), (20, cB (decide (i_13 < (lnI l_2))))], [(0, .row kE l_2)], 1⟩ [] (by kernel_rfl) rfl rfl ap0 ?_
          obtain ⟨q_121, H_122, H_123⟩ := of_bind H_119
          refine V_cut (Y := Bool) (R := Bool) q_121 (fun y => y) (fun y => [(0, cS s_1), (1, .c (.h 0)), (5, cI i_13), (51, cB y)]) (fun y => [(0, .row kE l_2)]) ?_ ?_
          · skip
            rcases Bool.eq_false_or_eq_true ((decide ((List.getD l_2 (Int.toNat i_13) zE).1 < (0 : Int)))) with b_19 | b_19
            · have H_125 := of_t H_122 b_19
              obtain ⟨c_20, H_127⟩ := of_if H_125
              refine V_draw hN hn (by kernel_rfl) [] [(29, true)] calls_nil 1 [0, 1, 5, 51] [0] ⟨[(0, cS s_1), (1, .c (.h 0)), (5, cI i_13), (51, cB true)], [(0, .row kE l_2)], 1⟩ [0 ≤ i_13, i_13 < (lnI l_2), (decide ((List.getD l_2 (Int.toNat i_13) zE).1 < (0 : Int))) = true] (by kernel_rfl) rfl rfl (ap2 c_20.1 (ap2 c_20.2 (ap1 b_19))) (by kernel_rfl) (by kernel_rfl) ?_
              have H_128 := Option.some.inj (show some true = some q_121 from H_127); subst H_128
              refine VL_nil ?_
              exact QP_end true rfl [] hn (by kernel_rfl) (by kernel_rfl) rfl rfl rfl
            · have H_126 := of_f H_122 b_19
              rcases Bool.eq_false_or_eq_true ((decide ((List.getD l_2 (Int.toNat i_13) zE).2.1 < (List.getD l_2 (Int.toNat i_13) zE).1))) with b_21 | b_21
              · have H_129 := of_t H_126 b_21
                obtain ⟨c_22, H_131⟩ := of_if H_129
                refine V_draw hN hn (by kernel_rfl) [] [(29, false), (42, true)] calls_nil 1 [0, 1, 5, 51] [0] ⟨[(0, cS s_1), (1, .c (.h 0)), (5, cI i_13), (51, cB true)], [(0, .row kE l_2)], 1⟩ [0 ≤ i_13, i_13 < (lnI l_2), (decide ((List.getD l_2 (Int.toNat i_13) zE).1 < (0 : Int))) = false, 0 ≤ i_13, i_13 < (lnI l_2), 0 ≤ i_13, i_13 < (lnI l_2), (decide ((List.getD l_2 (Int.toNat i_13) zE).2.1 < (List.getD l_2 (Int.toNat i_13) zE).1)) = true] (by kernel_rfl) rfl rfl (ap2 c_22.1 (ap2 c_22.2 (ap2 b_19 (ap2 c_22.1 (ap2 c_22.2 (ap2 c_22.1 (ap2 c_22.2 (ap1 b_21)))))))) (by kernel_rfl) (by kernel_rfl) ?_
                have H_132 := Option.some.inj (show some true = some q_121 from H_131); subst H_132
                refine VL_nil ?_
                exact QP_end true rfl [] hn (by kernel_rfl) (by kernel_rfl) rfl rfl rfl
              · have H_130 := of_f H_126 b_21
                obtain ⟨c_23, H_133⟩ := of_if H_130
                refine V_draw hN hn (by kernel_rfl) [] [(29, false), (42, false)] calls_nil 1 [0, 1, 5, 51] [0] ⟨[(0, cS s_1), (1, .c (.h 0)), (5, cI i_13), (51, cB (decide ((List.getD l_2 (Int.toNat i_13) zE).2.1 > (((ByteArray.size s_1) : Nat) : Int))))], [(0, .row kE l_2)], 1⟩ [0 ≤ i_13, i_13 < (lnI l_2), (decide ((List.getD l_2 (Int.toNat i_13) zE).1 < (0 : Int))) = false, 0 ≤ i_13, i_13 < (lnI l_2), 0 ≤ i_13, i_13 < (lnI l_2), (decide ((List.getD l_2 (Int.toNat i_13) zE).2.1 < (List.getD l_2 (Int.toNat i_13) zE).1)) = false, 0 ≤ i_13, i_13 < (lnI l_2)] (by kernel_rfl) rfl rfl (ap2 c_23.1 (ap2 c_23.2 (ap2 b_19 (ap2 c_23.1 (ap2 c_23.2 (ap2 c_23.1 (ap2 c_23.2 (ap2 b_21 (ap2 c_23.1 (ap1 c_23.2)))))))))) (by kernel_rfl) (by kernel_rfl) ?_
                have H_134 := Option.some.inj (show some (decide ((List.getD l_2 (Int.toNat i_13) zE).2.1 > (((ByteArray.size s_1) : Nat) : Int))) = some q_121 from H_133); subst H_134
                refine VL_nil ?_
                exact QP_end (decide ((List.getD l_2 (Int.toNat i_13) zE).2.1 > (((ByteArray.size s_1) : Nat) : Int))) rfl [] hn (by kernel_rfl) (by kernel_rfl) rfl rfl rfl
          · intro y_124 hy; subst hy
            skip
            skip
            refine VL_cond (y_124) (by kernel_rfl) ?_ ?_
            · intro b_25; have H_135 := of_t H_123 b_25
              refine V_run hN hn 2 1 [4] [0] ⟨[(4, cI (10 : Int))], [(0, .row kE l_2)], 1⟩ [] (by kernel_rfl) rfl rfl ap0 ?_
              have H_137 := Option.some.inj (show some (Sum.inl (10 : Int)) = some q_113 from H_135); subst H_137
              have H_138 := Option.some.inj (show some (10 : Int) = some r from H_115); subst H_138
              refine VL_ret ?_
              refine QB_ret ?_
              refine QL_ret ?_
              refine QB_ret ?_
              refine QP_ret ?_
              exact P_to [(4, cI (10 : Int))] [(0, .row kE l_2)] [] hn (by kernel_rfl) (by kernel_rfl) rfl rfl rfl (QF_retS (by kernel_rfl) (by kernel_rfl) rfl)
            · intro b_25; have H_136 := of_f H_123 b_25
              refine V_run hN hn 1 1 [0, 1, 5, 51] [0] ⟨[(0, cS s_1), (1, .c (.h 0)), (5, cI i_13), (51, cB y_124)], [(0, .row kE l_2)], 1⟩ [] (by kernel_rfl) rfl rfl ap0 ?_
              refine VL_nil (QB_end ?_)
              refine V_run hN hn 1 1 [0, 1, 5] [0] ⟨[(0, cS s_1), (1, .c (.h 0)), (5, cI (w6 (i_13 + (1 : Int))))], [(0, .row kE l_2)], 1⟩ [] (by kernel_rfl) rfl rfl ap0 ?_
              refine VL_nil ?_
              exact V_roundEnd (w6 (i_13 + (1 : Int))) H_136 [] hn (by kernel_rfl) (by kernel_rfl) rfl rfl rfl
        · intro b_16; have H_120 := of_f H_118 b_16
          refine VL_exit ?_
          refine QL_exit ?_
          refine QB_here ?_
          have H_139 := Option.some.inj (show some (Sum.inr ()) = some q_113 from H_120); subst H_139
          refine VL_nil ?_
          exact QP_end () rfl [] hn (by kernel_rfl) (by kernel_rfl) rfl rfl rfl
      · intro y_116 hy; subst hy
        skip
        refine V_run hN hn 3 1 [0, 1, 6] [0] ⟨[(0, cS s_1), (1, .c (.h 0)), (6, cI (0 : Int))], [(0, .row kE l_2)], 1⟩ [] (by kernel_rfl) rfl rfl ap0 ?_
        obtain ⟨q_140, H_141, H_142⟩ := of_bind H_115
        refine V_cut (Y := Unit) (R := (Int ⊕ Unit)) q_140 (fun y => (Sum.inr y)) (fun y => [(0, cS s_1), (1, .c (.h 0))]) (fun y => [(0, .row kE l_2)]) ?_ ?_
        · skip
          refine VL_block ?_
          refine V_to [(0, cS s_1), (1, .c (.h 0)), (6, cI (0 : Int))] [(0, .row kE l_2)] [] hn (by kernel_rfl) (by kernel_rfl) rfl rfl rfl ?_
          refine VL_loop (X := Int) (fun x => [(0, cS s_1), (1, .c (.h 0)), (6, cI x)]) (fun x => [(0, .row kE l_2)]) (fun k x => palinoderef17_Check_gr.l1 K l_2 s_1 k x = some q_140) K (0 : Int) H_141 (fun _ h => no_none h) ?_
          intro k_31 i_30 H_144
          have H_145 : palinoderef17_Check_gr.l1 K l_2 s_1 (k_31 + 1) i_30 = some q_140 := H_144
          rw [palinoderef17_Check_gr.l1] at H_145
          refine V_run hN hn 3 1 [0, 1, 6, 55] [0] ⟨[(0, cS s_1), (1, .c (.h 0)), (6, cI i_30), (55, cB (decide (i_30 < (lnI l_2))))], [(0, .row kE l_2)], 1⟩ [] (by kernel_rfl) rfl rfl ap0 ?_
          refine VL_cond ((decide (i_30 < (lnI l_2)))) (by kernel_rfl) ?_ ?_
          · intro b_33; have H_146 := of_t H_145 b_33
            refine V_run hN hn 2 1 [0, 1, 6, 55] [0] ⟨[(0, cS s_1), (1, .c (.h 0)), (6, cI i_30), (55, cB (decide (i_30 < (lnI l_2))))], [(0, .row kE l_2)], 1⟩ [] (by kernel_rfl) rfl rfl ap0 ?_
            refine VL_block ?_
            refine V_run hN hn 1 1 [0, 1, 6, 55] [0] ⟨[(0, cS s_1), (1, .c (.h 0)), (6, cI i_30), (55, cB (decide (i_30 < (lnI l_2))))], [(0, .row kE l_2)], 1⟩ [] (by kernel_rfl) rfl rfl ap0 ?_
            obtain ⟨q_148, H_149, H_150⟩ := of_bind H_146
            refine V_cut (Y := Bool) (R := Bool) q_148 (fun y => y) (fun y => [(0, cS s_1), (1, .c (.h 0)), (6, cI i_30), (75, cB y)]) (fun y => [(0, .row kE l_2)]) ?_ ?_
            · skip
              obtain ⟨r_36, h_37, H_152⟩ := of_bind H_149
              rcases Bool.eq_false_or_eq_true ((!r_36)) with b_38 | b_38
              · have H_153 := of_t H_152 b_38
                obtain ⟨c_39, H_155⟩ := of_if H_153
                refine V_reg hN hn [(6, ⟨26, 0, [cS s_1, .c (.val (.int .i64 (List.getD l_2 (Int.toNat i_30) zE).1))], [], cB r_36, [], [], 1⟩)] [(66, true)] (calls_cons (palinoderef1_IsEdge_spec K s_1 (List.getD l_2 (Int.toNat i_30) zE).1 r_36 h_37) (by kernel_rfl) calls_nil) 1 [0, 1, 6, 75] [0] ⟨[(0, cS s_1), (1, .c (.h 0)), (6, cI i_30), (75, cB true)], [(0, .row kE l_2)], 1⟩ [0 ≤ i_30, i_30 < (lnI l_2), (!r_36) = true] (by kernel_rfl) rfl rfl (ap2 c_39.1 (ap2 c_39.2 (ap1 b_38))) (by kernel_rfl) (by kernel_rfl) ?_
                have H_156 := Option.some.inj (show some true = some q_148 from H_155); subst H_156
                refine VL_nil ?_
                exact QP_end true rfl [] hn (by kernel_rfl) (by kernel_rfl) rfl rfl rfl
              · have H_154 := of_f H_152 b_38
                obtain ⟨r_40, h_41, H_157⟩ := of_bind H_154
                obtain ⟨c_42, H_158⟩ := of_if H_157
                refine V_reg hN hn [(6, ⟨26, 0, [cS s_1, .c (.val (.int .i64 (List.getD l_2 (Int.toNat i_30) zE).1))], [], cB r_36, [], [], 1⟩), (15, ⟨26, 0, [cS s_1, .c (.val (.int .i64 (List.getD l_2 (Int.toNat i_30) zE).2.1))], [], cB r_40, [], [], 1⟩)] [(66, false)] (calls_cons (palinoderef1_IsEdge_spec K s_1 (List.getD l_2 (Int.toNat i_30) zE).1 r_36 h_37) (by kernel_rfl) (calls_cons (palinoderef1_IsEdge_spec K s_1 (List.getD l_2 (Int.toNat i_30) zE).2.1 r_40 h_41) (by kernel_rfl) calls_nil)) 1 [0, 1, 6, 75] [0] ⟨[(0, cS s_1), (1, .c (.h 0)), (6, cI i_30), (75, cB (!r_40))], [(0, .row kE l_2)], 1⟩ [0 ≤ i_30, i_30 < (lnI l_2), (!r_36) = false, 0 ≤ i_30, i_30 < (lnI l_2)] (by kernel_rfl) rfl rfl (ap2 c_42.1 (ap2 c_42.2 (ap2 b_38 (ap2 c_42.1 (ap1 c_42.2))))) (by kernel_rfl) (by kernel_rfl) ?_
                have H_159 := Option.some.inj (show some (!r_40) = some q_148 from H_158); subst H_159
                refine VL_nil ?_
                exact QP_end (!r_40) rfl [] hn (by kernel_rfl) (by kernel_rfl) rfl rfl rfl
            · intro y_151 hy; subst hy
              skip
              skip
              refine VL_cond (y_151) (by kernel_rfl) ?_ ?_
              · intro b_44; have H_160 := of_t H_150 b_44
                refine V_run hN hn 2 1 [4] [0] ⟨[(4, cI (11 : Int))], [(0, .row kE l_2)], 1⟩ [] (by kernel_rfl) rfl rfl ap0 ?_
                have H_162 := Option.some.inj (show some (Sum.inl (11 : Int)) = some q_140 from H_160); subst H_162
                have H_163 := Option.some.inj (show some (11 : Int) = some r from H_142); subst H_163
                refine VL_ret ?_
                refine QB_ret ?_
                refine QL_ret ?_
                refine QB_ret ?_
                refine QP_ret ?_
                exact P_to [(4, cI (11 : Int))] [(0, .row kE l_2)] [] hn (by kernel_rfl) (by kernel_rfl) rfl rfl rfl (QF_retS (by kernel_rfl) (by kernel_rfl) rfl)
              · intro b_44; have H_161 := of_f H_150 b_44
                refine V_run hN hn 1 1 [0, 1, 6, 75] [0] ⟨[(0, cS s_1), (1, .c (.h 0)), (6, cI i_30), (75, cB y_151)], [(0, .row kE l_2)], 1⟩ [] (by kernel_rfl) rfl rfl ap0 ?_
                refine VL_nil (QB_end ?_)
                refine V_run hN hn 1 1 [0, 1, 6] [0] ⟨[(0, cS s_1), (1, .c (.h 0)), (6, cI (w6 (i_30 + (1 : Int))))], [(0, .row kE l_2)], 1⟩ [] (by kernel_rfl) rfl rfl ap0 ?_
                refine VL_nil ?_
                exact V_roundEnd (w6 (i_30 + (1 : Int))) H_161 [] hn (by kernel_rfl) (by kernel_rfl) rfl rfl rfl
          · intro b_33; have H_147 := of_f H_145 b_33
            refine VL_exit ?_
            refine QL_exit ?_
            refine QB_here ?_
            have H_164 := Option.some.inj (show some (Sum.inr ()) = some q_140 from H_147); subst H_164
            refine VL_nil ?_
            exact QP_end () rfl [] hn (by kernel_rfl) (by kernel_rfl) rfl rfl rfl
        · intro y_143 hy; subst hy
          skip
          refine V_run hN hn 2 1 [0, 1] [0] ⟨[(0, cS s_1), (1, .c (.h 0))], [(0, .row kE l_2)], 1⟩ [] (by kernel_rfl) rfl rfl ap0 ?_
          obtain ⟨r_49, h_50, H_165⟩ := of_bind H_142
          refine V_reg hN hn [(1, ⟨38, 1, [.c (.h 0)], [(0, .row kE l_2)], cB r_49, [(0, .row kE l_2)], [(0, 0)], 1⟩)] [] (calls_cons (palinoderef11_Ordered_r_spec K l_2 r_49 h_50) (by kernel_rfl) calls_nil) 1 [0, 1, 78] [0] ⟨[(0, cS s_1), (1, .c (.h 0)), (78, cB (!r_49))], [(0, .row kE l_2)], 1⟩ [] (by kernel_rfl) rfl rfl ap0 (by kernel_rfl) (by kernel_rfl) ?_
          refine VL_cond ((!r_49)) (by kernel_rfl) ?_ ?_
          · intro b_52; have H_166 := of_t H_165 b_52
            refine V_run hN hn 2 1 [4] [0] ⟨[(4, cI (180 : Int))], [(0, .row kE l_2)], 1⟩ [] (by kernel_rfl) rfl rfl ap0 ?_
            have H_168 := Option.some.inj (show some (180 : Int) = some r from H_166); subst H_168
            refine VL_ret ?_
            exact P_to [(4, cI (180 : Int))] [(0, .row kE l_2)] [] hn (by kernel_rfl) (by kernel_rfl) rfl rfl rfl (QF_retS (by kernel_rfl) (by kernel_rfl) rfl)
          · intro b_52; have H_167 := of_f H_165 b_52
            refine V_run hN hn 6 1 [1, 7, 8] [0] ⟨[(1, .c (.h 0)), (7, cI (((ByteArray.size s_1) : Nat) : Int)), (8, cI (0 : Int))], [(0, .row kE l_2)], 1⟩ [] (by kernel_rfl) rfl rfl ap0 ?_
            obtain ⟨q_169, H_170, H_171⟩ := of_bind H_167
            refine V_cut (Y := Unit) (R := (Int ⊕ Unit)) q_169 (fun y => (Sum.inr y)) (fun y => [(1, .c (.h 0)), (7, cI (((ByteArray.size s_1) : Nat) : Int))]) (fun y => [(0, .row kE l_2)]) ?_ ?_
            · skip
              refine VL_block ?_
              refine V_to [(1, .c (.h 0)), (7, cI (((ByteArray.size s_1) : Nat) : Int)), (8, cI (0 : Int))] [(0, .row kE l_2)] [] hn (by kernel_rfl) (by kernel_rfl) rfl rfl rfl ?_
              refine VL_loop (X := Int) (fun x => [(1, .c (.h 0)), (7, cI (((ByteArray.size s_1) : Nat) : Int)), (8, cI x)]) (fun x => [(0, .row kE l_2)]) (fun k x => palinoderef17_Check_gr.l2 K l_2 k x = some q_169) K (0 : Int) H_170 (fun _ h => no_none h) ?_
              intro k_56 i_55 H_173
              have H_174 : palinoderef17_Check_gr.l2 K l_2 (k_56 + 1) i_55 = some q_169 := H_173
              rw [palinoderef17_Check_gr.l2] at H_174
              refine V_run hN hn 3 1 [1, 7, 8, 84] [0] ⟨[(1, .c (.h 0)), (7, cI (((ByteArray.size s_1) : Nat) : Int)), (8, cI i_55), (84, cB (decide (i_55 < (lnI l_2))))], [(0, .row kE l_2)], 1⟩ [] (by kernel_rfl) rfl rfl ap0 ?_
              refine VL_cond ((decide (i_55 < (lnI l_2)))) (by kernel_rfl) ?_ ?_
              · intro b_58; have H_175 := of_t H_174 b_58
                refine V_run hN hn 2 1 [1, 7, 8, 84] [0] ⟨[(1, .c (.h 0)), (7, cI (((ByteArray.size s_1) : Nat) : Int)), (8, cI i_55), (84, cB (decide (i_55 < (lnI l_2))))], [(0, .row kE l_2)], 1⟩ [] (by kernel_rfl) rfl rfl ap0 ?_
                refine VL_block ?_
                refine V_run hN hn 1 1 [1, 7, 8, 84] [0] ⟨[(1, .c (.h 0)), (7, cI (((ByteArray.size s_1) : Nat) : Int)), (8, cI i_55), (84, cB (decide (i_55 < (lnI l_2))))], [(0, .row kE l_2)], 1⟩ [] (by kernel_rfl) rfl rfl ap0 ?_
                obtain ⟨r_61, h_62, H_177⟩ := of_bind H_175
                obtain ⟨c_63, H_178⟩ := of_if H_177
                refine V_reg hN hn [(5, ⟨25, 0, [.c (.val (.string (List.getD l_2 (Int.toNat i_55) zE).2.2))], [], cB r_61, [], [], 1⟩)] [] (calls_cons (palinoderef1_Valid_spec K (List.getD l_2 (Int.toNat i_55) zE).2.2 r_61 h_62) (by kernel_rfl) calls_nil) 1 [1, 7, 8, 93] [0] ⟨[(1, .c (.h 0)), (7, cI (((ByteArray.size s_1) : Nat) : Int)), (8, cI i_55), (93, cB (!r_61))], [(0, .row kE l_2)], 1⟩ [0 ≤ i_55, i_55 < (lnI l_2)] (by kernel_rfl) rfl rfl (ap2 c_63.1 (ap1 c_63.2)) (by kernel_rfl) (by kernel_rfl) ?_
                refine VL_cond ((!r_61)) (by kernel_rfl) ?_ ?_
                · intro b_64; have H_179 := of_t H_178 b_64
                  refine V_run hN hn 2 1 [4] [0] ⟨[(4, cI (12 : Int))], [(0, .row kE l_2)], 1⟩ [] (by kernel_rfl) rfl rfl ap0 ?_
                  have H_181 := Option.some.inj (show some (Sum.inl (12 : Int)) = some q_169 from H_179); subst H_181
                  have H_182 := Option.some.inj (show some (12 : Int) = some r from H_171); subst H_182
                  refine VL_ret ?_
                  refine QB_ret ?_
                  refine QL_ret ?_
                  refine QB_ret ?_
                  refine QP_ret ?_
                  exact P_to [(4, cI (12 : Int))] [(0, .row kE l_2)] [] hn (by kernel_rfl) (by kernel_rfl) rfl rfl rfl (QF_retS (by kernel_rfl) (by kernel_rfl) rfl)
                · intro b_64; have H_180 := of_f H_178 b_64
                  refine V_run hN hn 1 1 [1, 7, 8, 93] [0] ⟨[(1, .c (.h 0)), (7, cI (((ByteArray.size s_1) : Nat) : Int)), (8, cI i_55), (93, cB (!r_61))], [(0, .row kE l_2)], 1⟩ [] (by kernel_rfl) rfl rfl ap0 ?_
                  refine VL_nil (QB_end ?_)
                  refine V_run hN hn 1 1 [1, 7, 8] [0] ⟨[(1, .c (.h 0)), (7, cI (((ByteArray.size s_1) : Nat) : Int)), (8, cI (w6 (i_55 + (1 : Int))))], [(0, .row kE l_2)], 1⟩ [] (by kernel_rfl) rfl rfl ap0 ?_
                  refine VL_nil ?_
                  exact V_roundEnd (w6 (i_55 + (1 : Int))) H_180 [] hn (by kernel_rfl) (by kernel_rfl) rfl rfl rfl
              · intro b_58; have H_176 := of_f H_174 b_58
                refine VL_exit ?_
                refine QL_exit ?_
                refine QB_here ?_
                have H_183 := Option.some.inj (show some (Sum.inr ()) = some q_169 from H_176); subst H_183
                refine VL_nil ?_
                exact QP_end () rfl [] hn (by kernel_rfl) (by kernel_rfl) rfl rfl rfl
            · intro y_172 hy; subst hy
              skip
              refine V_run hN hn 3 1 [1, 7, 9] [0] ⟨[(1, .c (.h 0)), (7, cI (((ByteArray.size s_1) : Nat) : Int)), (9, cI (0 : Int))], [(0, .row kE l_2)], 1⟩ [] (by kernel_rfl) rfl rfl ap0 ?_
              obtain ⟨q_184, H_185, H_186⟩ := of_bind H_171
              refine V_cut (Y := Int) (R := Int) q_184 (fun y => y) (fun y => [(1, .c (.h 0)), (7, cI y)]) (fun y => [(0, .row kE l_2)]) ?_ ?_
              · skip
                refine VL_block ?_
                refine V_to [(1, .c (.h 0)), (7, cI (((ByteArray.size s_1) : Nat) : Int)), (9, cI (0 : Int))] [(0, .row kE l_2)] [] hn (by kernel_rfl) (by kernel_rfl) rfl rfl rfl ?_
                refine VL_loop (X := (Int × Int)) (fun x => [(1, .c (.h 0)), (7, cI x.1), (9, cI x.2)]) (fun x => [(0, .row kE l_2)]) (fun k x => palinoderef17_Check_gr.l3 K l_2 k x.1 x.2 = some q_184) K ((((ByteArray.size s_1) : Nat) : Int), (0 : Int)) H_185 (fun _ h => no_none h) ?_
                intro k_71 x_71 H_188
                obtain ⟨n_69, i_70⟩ := x_71
                have H_189 : palinoderef17_Check_gr.l3 K l_2 (k_71 + 1) n_69 i_70 = some q_184 := H_188
                rw [palinoderef17_Check_gr.l3] at H_189
                refine V_run hN hn 3 1 [1, 7, 9, 97] [0] ⟨[(1, .c (.h 0)), (7, cI n_69), (9, cI i_70), (97, cB (decide (i_70 < (lnI l_2))))], [(0, .row kE l_2)], 1⟩ [] (by kernel_rfl) rfl rfl ap0 ?_
                refine VL_cond ((decide (i_70 < (lnI l_2)))) (by kernel_rfl) ?_ ?_
                · intro b_73; have H_190 := of_t H_189 b_73
                  refine V_run hN hn 2 1 [1, 7, 9, 97] [0] ⟨[(1, .c (.h 0)), (7, cI n_69), (9, cI i_70), (97, cB (decide (i_70 < (lnI l_2))))], [(0, .row kE l_2)], 1⟩ [] (by kernel_rfl) rfl rfl ap0 ?_
                  refine VL_block ?_
                  obtain ⟨c_75, H_192⟩ := of_if H_190
                  refine V_draw hN hn (by kernel_rfl) [] [] calls_nil 1 [1, 7, 9] [0] ⟨[(1, .c (.h 0)), (7, cI (w6 (n_69 - (w6 ((List.getD l_2 (Int.toNat i_70) zE).2.1 - (List.getD l_2 (Int.toNat i_70) zE).1))))), (9, cI i_70)], [(0, .row kE l_2)], 1⟩ [0 ≤ i_70, i_70 < (lnI l_2), 0 ≤ i_70, i_70 < (lnI l_2)] (by kernel_rfl) rfl rfl (ap2 c_75.1 (ap2 c_75.2 (ap2 c_75.1 (ap1 c_75.2)))) (by kernel_rfl) (by kernel_rfl) ?_
                  refine VL_nil (QB_end ?_)
                  refine V_run hN hn 1 1 [1, 7, 9] [0] ⟨[(1, .c (.h 0)), (7, cI (w6 (n_69 - (w6 ((List.getD l_2 (Int.toNat i_70) zE).2.1 - (List.getD l_2 (Int.toNat i_70) zE).1))))), (9, cI (w6 (i_70 + (1 : Int))))], [(0, .row kE l_2)], 1⟩ [] (by kernel_rfl) rfl rfl ap0 ?_
                  refine VL_nil ?_
                  exact V_roundEnd ((w6 (n_69 - (w6 ((List.getD l_2 (Int.toNat i_70) zE).2.1 - (List.getD l_2 (Int.toNat i_70) zE).1)))), (w6 (i_70 + (1 : Int)))) H_192 [] hn (by kernel_rfl) (by kernel_rfl) rfl rfl rfl
                · intro b_73; have H_191 := of_f H_189 b_73
                  refine VL_exit ?_
                  refine QL_exit ?_
                  refine QB_here ?_
                  have H_193 := Option.some.inj (show some n_69 = some q_184 from H_191); subst H_193
                  refine VL_nil ?_
                  exact QP_end n_69 rfl [] hn (by kernel_rfl) (by kernel_rfl) rfl rfl rfl
              · intro y_187 hy; subst hy
                skip
                skip
                refine V_run hN hn 3 1 [1, 7, 114] [0] ⟨[(1, .c (.h 0)), (7, cI y_187), (114, cB (decide (y_187 > (20000 : Int))))], [(0, .row kE l_2)], 1⟩ [] (by kernel_rfl) rfl rfl ap0 ?_
                refine VL_cond ((decide (y_187 > (20000 : Int)))) (by kernel_rfl) ?_ ?_
                · intro b_79; have H_194 := of_t H_186 b_79
                  refine V_run hN hn 2 1 [4] [0] ⟨[(4, cI (13 : Int))], [(0, .row kE l_2)], 1⟩ [] (by kernel_rfl) rfl rfl ap0 ?_
                  have H_196 := Option.some.inj (show some (13 : Int) = some r from H_194); subst H_196
                  refine VL_ret ?_
                  exact P_to [(4, cI (13 : Int))] [(0, .row kE l_2)] [] hn (by kernel_rfl) (by kernel_rfl) rfl rfl rfl (QF_retS (by kernel_rfl) (by kernel_rfl) rfl)
                · intro b_79; have H_195 := of_f H_186 b_79
                  refine V_run hN hn 4 1 [1, 7, 10] [0] ⟨[(1, .c (.h 0)), (7, cI y_187), (10, cI (0 : Int))], [(0, .row kE l_2)], 1⟩ [] (by kernel_rfl) rfl rfl ap0 ?_
                  refine VL_block ?_
                  refine V_to [(1, .c (.h 0)), (7, cI y_187), (10, cI (0 : Int))] [(0, .row kE l_2)] [] hn (by kernel_rfl) (by kernel_rfl) rfl rfl rfl ?_
                  refine VL_loop (X := (Int × Int)) (fun x => [(1, .c (.h 0)), (7, cI x.1), (10, cI x.2)]) (fun x => [(0, .row kE l_2)]) (fun k x => palinoderef17_Check_gr.l4 K l_2 k x.1 x.2 = some r) K (y_187, (0 : Int)) H_195 (fun _ h => no_none h) ?_
                  intro k_84 x_84 H_197
                  obtain ⟨n_82, i_83⟩ := x_84
                  have H_198 : palinoderef17_Check_gr.l4 K l_2 (k_84 + 1) n_82 i_83 = some r := H_197
                  rw [palinoderef17_Check_gr.l4] at H_198
                  refine V_run hN hn 3 1 [1, 7, 10, 118] [0] ⟨[(1, .c (.h 0)), (7, cI n_82), (10, cI i_83), (118, cB (decide (i_83 < (lnI l_2))))], [(0, .row kE l_2)], 1⟩ [] (by kernel_rfl) rfl rfl ap0 ?_
                  refine VL_cond ((decide (i_83 < (lnI l_2)))) (by kernel_rfl) ?_ ?_
                  · intro b_86; have H_199 := of_t H_198 b_86
                    refine V_run hN hn 2 1 [1, 7, 10, 118] [0] ⟨[(1, .c (.h 0)), (7, cI n_82), (10, cI i_83), (118, cB (decide (i_83 < (lnI l_2))))], [(0, .row kE l_2)], 1⟩ [] (by kernel_rfl) rfl rfl ap0 ?_
                    refine VL_block ?_
                    obtain ⟨c_88, H_201⟩ := of_if H_199
                    refine V_run hN hn 3 1 [1, 7, 10, 129] [0] ⟨[(1, .c (.h 0)), (7, cI n_82), (10, cI i_83), (129, cB (decide ((((ByteArray.size (List.getD l_2 (Int.toNat i_83) zE).2.2) : Nat) : Int) > (w6 ((20000 : Int) - n_82)))))], [(0, .row kE l_2)], 1⟩ [0 ≤ i_83, i_83 < (lnI l_2)] (by kernel_rfl) rfl rfl (ap2 c_88.1 (ap1 c_88.2)) ?_
                    refine VL_cond ((decide ((((ByteArray.size (List.getD l_2 (Int.toNat i_83) zE).2.2) : Nat) : Int) > (w6 ((20000 : Int) - n_82))))) (by kernel_rfl) ?_ ?_
                    · intro b_89; have H_202 := of_t H_201 b_89
                      refine V_run hN hn 2 1 [4] [0] ⟨[(4, cI (13 : Int))], [(0, .row kE l_2)], 1⟩ [] (by kernel_rfl) rfl rfl ap0 ?_
                      have H_204 := Option.some.inj (show some (13 : Int) = some r from H_202); subst H_204
                      refine VL_ret ?_
                      refine QB_ret ?_
                      refine QL_ret ?_
                      refine QB_ret ?_
                      exact P_to [(4, cI (13 : Int))] [(0, .row kE l_2)] [] hn (by kernel_rfl) (by kernel_rfl) rfl rfl rfl (QF_retS (by kernel_rfl) (by kernel_rfl) rfl)
                    · intro b_89; have H_203 := of_f H_201 b_89
                      refine V_run hN hn 2 1 [1, 7, 10] [0] ⟨[(1, .c (.h 0)), (7, cI (w6 (n_82 + (((ByteArray.size (List.getD l_2 (Int.toNat i_83) zE).2.2) : Nat) : Int)))), (10, cI i_83)], [(0, .row kE l_2)], 1⟩ [0 ≤ i_83, i_83 < (lnI l_2)] (by kernel_rfl) rfl rfl (ap2 c_88.1 (ap1 c_88.2)) ?_
                      refine VL_nil (QB_end ?_)
                      refine V_run hN hn 1 1 [1, 7, 10] [0] ⟨[(1, .c (.h 0)), (7, cI (w6 (n_82 + (((ByteArray.size (List.getD l_2 (Int.toNat i_83) zE).2.2) : Nat) : Int)))), (10, cI (w6 (i_83 + (1 : Int))))], [(0, .row kE l_2)], 1⟩ [] (by kernel_rfl) rfl rfl ap0 ?_
                      refine VL_nil ?_
                      exact V_roundEnd ((w6 (n_82 + (((ByteArray.size (List.getD l_2 (Int.toNat i_83) zE).2.2) : Nat) : Int))), (w6 (i_83 + (1 : Int)))) H_203 [] hn (by kernel_rfl) (by kernel_rfl) rfl rfl rfl
                  · intro b_86; have H_200 := of_f H_198 b_86
                    refine VL_exit ?_
                    refine QL_exit ?_
                    refine QB_here ?_
                    refine V_run hN hn 2 1 [4] [0] ⟨[(4, cI (0 : Int))], [(0, .row kE l_2)], 1⟩ [] (by kernel_rfl) rfl rfl ap0 ?_
                    have H_205 := Option.some.inj (show some (0 : Int) = some r from H_200); subst H_205
                    refine VL_ret ?_
                    exact P_to [(4, cI (0 : Int))] [(0, .row kE l_2)] [] hn (by kernel_rfl) (by kernel_rfl) rfl rfl rfl (QF_retS (by kernel_rfl) (by kernel_rfl) rfl)

theorem palinoderef17_Do_gr_spec (K : Nat) (s_1 : ByteArray) (l_2 : (List (Int × (Int × ByteArray)))) (r : ByteArray) (H : palinoderef17_Do_gr K s_1 l_2 = some r) : Spec Try.prog 24 1 [cS s_1, .c (.h 0)] [(0, .row kE l_2)] (cS r) [(0, .row kE l_2)] := by
  refine Spec_mk (fn := Try.f24) (c := (Try.f24.body).get!) Try.func24 (by kernel_rfl) rfl ?_
  intro C hN hn
  replace hN : C.N = 45 := hN
  unfold palinoderef17_Do_gr at H
  refine V_run hN hn 4 1 [0, 1] [0] ⟨[(0, cS s_1), (1, .c (.h 0))], [(0, .row kE l_2)], 1⟩ [] (by kernel_rfl) rfl rfl ap0 ?_
  obtain ⟨r_4, h_5, H_23⟩ := of_bind H
  refine V_reg hN hn [(2, ⟨21, 1, [cS s_1, .c (.h 0)], [(0, .row kE l_2)], cI r_4, [(0, .row kE l_2)], [(0, 0)], 1⟩)] [] (calls_cons (palinoderef17_Check_gr_spec K s_1 l_2 r_4 h_5) (by kernel_rfl) calls_nil) 1 [0, 1, 11] [0] ⟨[(0, cS s_1), (1, .c (.h 0)), (11, cB (r_4 != (0 : Int)))], [(0, .row kE l_2)], 1⟩ [] (by kernel_rfl) rfl rfl ap0 (by kernel_rfl) (by kernel_rfl) ?_
  refine VL_cond ((r_4 != (0 : Int))) (by kernel_rfl) ?_ ?_
  · intro b_7; have H_24 := of_t H_23 b_7
    refine V_run hN hn 2 1 [4] [0] ⟨[(4, cS s_1)], [(0, .row kE l_2)], 1⟩ [] (by kernel_rfl) rfl rfl ap0 ?_
    have H_26 := Option.some.inj (show some s_1 = some r from H_24); subst H_26
    refine VL_ret ?_
    exact P_to [(4, cS s_1)] [(0, .row kE l_2)] [] hn (by kernel_rfl) (by kernel_rfl) rfl rfl rfl (QF_retS (by kernel_rfl) (by kernel_rfl) rfl)
  · intro b_7; have H_25 := of_f H_23 b_7
    refine V_run hN hn 8 1 [0, 1, 5, 6, 7] [0] ⟨[(0, cS s_1), (1, .c (.h 0)), (5, cS (ByteArray.mk #[])), (6, cI (0 : Int)), (7, cI (0 : Int))], [(0, .row kE l_2)], 1⟩ [] (by kernel_rfl) rfl rfl ap0 ?_
    refine VL_block ?_
    refine V_to [(0, cS s_1), (1, .c (.h 0)), (5, cS (ByteArray.mk #[])), (6, cI (0 : Int)), (7, cI (0 : Int))] [(0, .row kE l_2)] [] hn (by kernel_rfl) (by kernel_rfl) rfl rfl rfl ?_
    refine VL_loop (X := (ByteArray × Int × Int)) (fun x => [(0, cS s_1), (1, .c (.h 0)), (5, cS x.1), (6, cI x.2.1), (7, cI x.2.2)]) (fun x => [(0, .row kE l_2)]) (fun k x => palinoderef17_Do_gr.l0 K l_2 s_1 k x.1 x.2.1 x.2.2 = some r) K ((ByteArray.mk #[]), (0 : Int), (0 : Int)) H_25 (fun _ h => no_none h) ?_
    intro k_13 x_13 H_27
    obtain ⟨t_10, at_11, i_12⟩ := x_13
    have H_28 : palinoderef17_Do_gr.l0 K l_2 s_1 (k_13 + 1) t_10 at_11 i_12 = some r := H_27
    rw [palinoderef17_Do_gr.l0] at H_28
    refine V_run hN hn 3 1 [0, 1, 5, 6, 7, 16] [0] ⟨[(0, cS s_1), (1, .c (.h 0)), (5, cS t_10), (6, cI at_11), (7, cI i_12), (16, cB (decide (i_12 < (lnI l_2))))], [(0, .row kE l_2)], 1⟩ [] (by kernel_rfl) rfl rfl ap0 ?_
    refine VL_cond ((decide (i_12 < (lnI l_2)))) (by kernel_rfl) ?_ ?_
    · intro b_15; have H_29 := of_t H_28 b_15
      refine V_run hN hn 2 1 [0, 1, 5, 6, 7, 16] [0] ⟨[(0, cS s_1), (1, .c (.h 0)), (5, cS t_10), (6, cI at_11), (7, cI i_12), (16, cB (decide (i_12 < (lnI l_2))))], [(0, .row kE l_2)], 1⟩ [] (by kernel_rfl) rfl rfl ap0 ?_
      refine VL_block ?_
      refine V_run hN hn 1 1 [0, 1, 5, 6, 7, 16] [0] ⟨[(0, cS s_1), (1, .c (.h 0)), (5, cS t_10), (6, cI at_11), (7, cI i_12), (16, cB (decide (i_12 < (lnI l_2))))], [(0, .row kE l_2)], 1⟩ [] (by kernel_rfl) rfl rfl ap0 ?_
      obtain ⟨c_18, H_31⟩ := of_if H_29
      refine V_draw hN hn (by kernel_rfl) [] [] calls_nil 1 [0, 1, 5, 7] [0] ⟨[(0, cS s_1), (1, .c (.h 0)), (5, cS ((t_10 ++ (ByteArray.extract s_1 (Int.toNat at_11) (Int.toNat (List.getD l_2 (Int.toNat i_12) zE).1))) ++ (List.getD l_2 (Int.toNat i_12) zE).2.2)), (7, cI i_12)], [(0, .row kE l_2)], 1⟩ [0 ≤ i_12, i_12 < (lnI l_2), (0 : Int) ≤ at_11, at_11 ≤ (List.getD l_2 (Int.toNat i_12) zE).1, (List.getD l_2 (Int.toNat i_12) zE).1 ≤ (((ByteArray.size s_1) : Nat) : Int), ByteArray.size t_10 + ByteArray.size (ByteArray.extract s_1 (Int.toNat at_11) (Int.toNat (List.getD l_2 (Int.toNat i_12) zE).1)) ≤ 9223372036854775807, 0 ≤ i_12, i_12 < (lnI l_2), ByteArray.size (t_10 ++ (ByteArray.extract s_1 (Int.toNat at_11) (Int.toNat (List.getD l_2 (Int.toNat i_12) zE).1))) + ByteArray.size (List.getD l_2 (Int.toNat i_12) zE).2.2 ≤ 9223372036854775807] (by kernel_rfl) rfl rfl (ap2 c_18.1 (ap2 c_18.2.1 (ap2 c_18.2.2.1 (ap2 c_18.2.2.2.1 (ap2 c_18.2.2.2.2.1 (ap2 c_18.2.2.2.2.2.1 (ap2 c_18.1 (ap2 c_18.2.1 (ap1 c_18.2.2.2.2.2.2))))))))) (by kernel_rfl) (by kernel_rfl) ?_
      refine V_run hN hn 1 1 [0, 1, 5, 6, 7] [0] ⟨[(0, cS s_1), (1, .c (.h 0)), (5, cS ((t_10 ++ (ByteArray.extract s_1 (Int.toNat at_11) (Int.toNat (List.getD l_2 (Int.toNat i_12) zE).1))) ++ (List.getD l_2 (Int.toNat i_12) zE).2.2)), (6, .c (.val (.int .i64 (List.getD l_2 (Int.toNat i_12) zE).2.1))), (7, cI i_12)], [(0, .row kE l_2)], 1⟩ [0 ≤ i_12, i_12 < (lnI l_2)] (by kernel_rfl) rfl rfl (ap2 c_18.1 (ap1 c_18.2.1)) ?_
      refine VL_nil (QB_end ?_)
      refine V_run hN hn 1 1 [0, 1, 5, 6, 7] [0] ⟨[(0, cS s_1), (1, .c (.h 0)), (5, cS ((t_10 ++ (ByteArray.extract s_1 (Int.toNat at_11) (Int.toNat (List.getD l_2 (Int.toNat i_12) zE).1))) ++ (List.getD l_2 (Int.toNat i_12) zE).2.2)), (6, .c (.val (.int .i64 (List.getD l_2 (Int.toNat i_12) zE).2.1))), (7, cI (w6 (i_12 + (1 : Int))))], [(0, .row kE l_2)], 1⟩ [] (by kernel_rfl) rfl rfl ap0 ?_
      refine VL_nil ?_
      exact V_roundEnd (((t_10 ++ (ByteArray.extract s_1 (Int.toNat at_11) (Int.toNat (List.getD l_2 (Int.toNat i_12) zE).1))) ++ (List.getD l_2 (Int.toNat i_12) zE).2.2), (List.getD l_2 (Int.toNat i_12) zE).2.1, (w6 (i_12 + (1 : Int)))) H_31 [] hn (by kernel_rfl) (by kernel_rfl) rfl rfl rfl
    · intro b_15; have H_30 := of_f H_28 b_15
      refine VL_exit ?_
      refine QL_exit ?_
      refine QB_here ?_
      obtain ⟨c_21, H_32⟩ := of_if H_30
      refine V_run hN hn 2 1 [4] [0] ⟨[(4, cS (t_10 ++ (ByteArray.extract s_1 (Int.toNat at_11) (ByteArray.size s_1))))], [(0, .row kE l_2)], 1⟩ [(0 : Int) ≤ at_11, at_11 ≤ (((ByteArray.size s_1) : Nat) : Int), ByteArray.size t_10 + ByteArray.size (ByteArray.extract s_1 (Int.toNat at_11) (ByteArray.size s_1)) ≤ 9223372036854775807] (by kernel_rfl) rfl rfl (ap2 c_21.1 (ap2 c_21.2.1 (ap1 c_21.2.2))) ?_
      have H_33 := Option.some.inj (show some (t_10 ++ (ByteArray.extract s_1 (Int.toNat at_11) (ByteArray.size s_1))) = some r from H_32); subst H_33
      refine VL_ret ?_
      exact P_to [(4, cS (t_10 ++ (ByteArray.extract s_1 (Int.toNat at_11) (ByteArray.size s_1))))] [(0, .row kE l_2)] [] hn (by kernel_rfl) (by kernel_rfl) rfl rfl rfl (QF_retS (by kernel_rfl) (by kernel_rfl) rfl)

theorem palinodelaw25_CaretsWords_spec (K : Nat) (s_1 : ByteArray) (r : Bool) (H : palinodelaw25_CaretsWords K s_1 = some r) : Spec Try.prog 8 0 [cS s_1] [] (cB r) [] := by
  refine Spec_mk (fn := Try.f8) (c := (Try.f8.body).get!) Try.func8 (by kernel_rfl) rfl ?_
  intro C hN hn
  replace hN : C.N = 100 := hN
  unfold palinodelaw25_CaretsWords at H
  refine V_run hN hn 4 0 [0] [] ⟨[(0, cS s_1)], [], 0⟩ [] (by kernel_rfl) rfl rfl ap0 ?_
  obtain ⟨r_3, h_4, H_77⟩ := of_bind H
  refine V_reg hN hn [(0, ⟨9, 0, [], [], cB r_3, [], [], 0⟩)] [] (calls_cons (palinodelaw25_known_spec K  r_3 h_4) (by kernel_rfl) calls_nil) 0 [0, 9] [] ⟨[(0, cS s_1), (9, cB (!r_3))], [], 0⟩ [] (by kernel_rfl) rfl rfl ap0 (by kernel_rfl) (by kernel_rfl) ?_
  refine VL_cond ((!r_3)) (by kernel_rfl) ?_ ?_
  · intro b_6; have H_78 := of_t H_77 b_6
    refine V_run hN hn 2 0 [2] [] ⟨[(2, cB false)], [], 0⟩ [] (by kernel_rfl) rfl rfl ap0 ?_
    have H_80 := Option.some.inj (show some false = some r from H_78); subst H_80
    refine VL_ret ?_
    exact P_to [(2, cB false)] [] [] hn (by kernel_rfl) (by kernel_rfl) rfl rfl rfl (QF_retS (by kernel_rfl) (by kernel_rfl) rfl)
  · intro b_6; have H_79 := of_f H_77 b_6
    refine V_run hN hn 3 0 [0, 9] [] ⟨[(0, cS s_1), (9, cB (!r_3))], [], 0⟩ [] (by kernel_rfl) rfl rfl ap0 ?_
    obtain ⟨q_81, H_82, H_83⟩ := of_bind H_79
    refine V_cut (Y := Bool) (R := Bool) q_81 (fun y => y) (fun y => [(0, cS s_1), (17, cB y)]) (fun y => []) ?_ ?_
    · skip
      rcases Bool.eq_false_or_eq_true ((decide ((((ByteArray.size s_1) : Nat) : Int) > (60 : Int)))) with b_9 | b_9
      · have H_85 := of_t H_82 b_9
        refine V_reg hN hn [] [(13, true)] calls_nil 0 [0, 17] [] ⟨[(0, cS s_1), (17, cB true)], [], 0⟩ [(decide ((((ByteArray.size s_1) : Nat) : Int) > (60 : Int))) = true] (by kernel_rfl) rfl rfl (ap1 b_9) (by kernel_rfl) (by kernel_rfl) ?_
        have H_87 := Option.some.inj (show some true = some q_81 from H_85); subst H_87
        refine VL_nil ?_
        exact QP_end true rfl [] hn (by kernel_rfl) (by kernel_rfl) rfl rfl rfl
      · have H_86 := of_f H_82 b_9
        obtain ⟨r_11, h_12, H_88⟩ := of_bind H_86
        refine V_reg hN hn [(5, ⟨25, 0, [cS s_1], [], cB r_11, [], [], 0⟩)] [(13, false)] (calls_cons (palinoderef1_Valid_spec K s_1 r_11 h_12) (by kernel_rfl) calls_nil) 0 [0, 17] [] ⟨[(0, cS s_1), (17, cB (!r_11))], [], 0⟩ [(decide ((((ByteArray.size s_1) : Nat) : Int) > (60 : Int))) = false] (by kernel_rfl) rfl rfl (ap1 b_9) (by kernel_rfl) (by kernel_rfl) ?_
        have H_89 := Option.some.inj (show some (!r_11) = some q_81 from H_88); subst H_89
        refine VL_nil ?_
        exact QP_end (!r_11) rfl [] hn (by kernel_rfl) (by kernel_rfl) rfl rfl rfl
    · intro y_84 hy; subst hy
      skip
      skip
      refine VL_cond (y_84) (by kernel_rfl) ?_ ?_
      · intro b_15; have H_90 := of_t H_83 b_15
        refine V_run hN hn 2 0 [2] [] ⟨[(2, cB true)], [], 0⟩ [] (by kernel_rfl) rfl rfl ap0 ?_
        have H_92 := Option.some.inj (show some true = some r from H_90); subst H_92
        refine VL_ret ?_
        exact P_to [(2, cB true)] [] [] hn (by kernel_rfl) (by kernel_rfl) rfl rfl rfl (QF_retS (by kernel_rfl) (by kernel_rfl) rfl)
      · intro b_15; have H_91 := of_f H_83 b_15
        refine V_run hN hn 6 0 [0, 3, 4] [] ⟨[(0, cS s_1), (3, cS s_1), (4, cI (0 : Int))], [], 0⟩ [] (by kernel_rfl) rfl rfl ap0 ?_
        obtain ⟨q_93, H_94, H_95⟩ := of_bind H_91
        refine V_cut (Y := ByteArray) (R := (Bool ⊕ ByteArray)) q_93 (fun y => (Sum.inr y)) (fun y => [(0, cS s_1), (3, cS y)]) (fun y => []) ?_ ?_
        · skip
          refine VL_block ?_
          refine V_to [(0, cS s_1), (3, cS s_1), (4, cI (0 : Int))] [] [] hn (by kernel_rfl) (by kernel_rfl) rfl rfl rfl ?_
          refine VL_loop (X := (ByteArray × Int)) (fun x => [(0, cS s_1), (3, cS x.1), (4, cI x.2)]) (fun x => []) (fun k x => palinodelaw25_CaretsWords.l0 K k x.1 x.2 = some q_93) K (s_1, (0 : Int)) H_94 (fun _ h => no_none h) ?_
          intro k_20 x_20 H_97
          obtain ⟨t_18, i_19⟩ := x_20
          have H_98 : palinodelaw25_CaretsWords.l0 K (k_20 + 1) t_18 i_19 = some q_93 := H_97
          rw [palinodelaw25_CaretsWords.l0] at H_98
          refine V_run hN hn 2 0 [0, 3, 4] [] ⟨[(0, cS s_1), (3, cS t_18), (4, cI i_19)], [], 0⟩ [] (by kernel_rfl) rfl rfl ap0 ?_
          obtain ⟨q_99, H_100, H_101⟩ := of_bind H_98
          refine V_cut (Y := Bool) (R := Bool) q_99 (fun y => y) (fun y => [(0, cS s_1), (3, cS t_18), (4, cI i_19), (24, cB y)]) (fun y => []) ?_ ?_
          · skip
            rcases Bool.eq_false_or_eq_true ((decide (i_19 ≤ (60 : Int)))) with b_22 | b_22
            · have H_103 := of_t H_100 b_22
              refine V_reg hN hn [] [(21, true)] calls_nil 0 [0, 3, 4, 24] [] ⟨[(0, cS s_1), (3, cS t_18), (4, cI i_19), (24, cB (!(ByteArray.toList t_18 == ByteArray.toList (ByteArray.mk #[]))))], [], 0⟩ [(decide (i_19 ≤ (60 : Int))) = true] (by kernel_rfl) rfl rfl (ap1 b_22) (by kernel_rfl) (by kernel_rfl) ?_
              have H_105 := Option.some.inj (show some (!(ByteArray.toList t_18 == ByteArray.toList (ByteArray.mk #[]))) = some q_99 from H_103); subst H_105
              refine VL_nil ?_
              exact QP_end (!(ByteArray.toList t_18 == ByteArray.toList (ByteArray.mk #[]))) rfl [] hn (by kernel_rfl) (by kernel_rfl) rfl rfl rfl
            · have H_104 := of_f H_100 b_22
              refine V_reg hN hn [] [(21, false)] calls_nil 0 [0, 3, 4, 24] [] ⟨[(0, cS s_1), (3, cS t_18), (4, cI i_19), (24, cB false)], [], 0⟩ [(decide (i_19 ≤ (60 : Int))) = false] (by kernel_rfl) rfl rfl (ap1 b_22) (by kernel_rfl) (by kernel_rfl) ?_
              have H_106 := Option.some.inj (show some false = some q_99 from H_104); subst H_106
              refine VL_nil ?_
              exact QP_end false rfl [] hn (by kernel_rfl) (by kernel_rfl) rfl rfl rfl
          · intro y_102 hy; subst hy
            skip
            skip
            refine VL_cond (y_102) (by kernel_rfl) ?_ ?_
            · intro b_26; have H_107 := of_t H_101 b_26
              refine V_run hN hn 2 0 [0, 3, 4, 24] [] ⟨[(0, cS s_1), (3, cS t_18), (4, cI i_19), (24, cB y_102)], [], 0⟩ [] (by kernel_rfl) rfl rfl ap0 ?_
              refine VL_block ?_
              refine V_run hN hn 3 0 [0, 3, 4, 5] [0] ⟨[(0, cS s_1), (3, cS t_18), (4, cI i_19), (5, .c (.h 0))], [(0, .row kP ([((((ByteArray.size t_18) : Nat) : Int), (((ByteArray.size t_18) : Nat) : Int))] : List (Int × Int)))], 1⟩ [] (by kernel_rfl) rfl rfl ap0 ?_
              obtain ⟨r_29, h_30, H_109⟩ := of_bind H_107
              refine V_reg hN hn [(2, ⟨17, 1, [.c (.h 0), cS t_18], [(0, .row kP ([((((ByteArray.size t_18) : Nat) : Int), (((ByteArray.size t_18) : Nat) : Int))] : List (Int × Int)))], .c (.h 7), [(0, .row kP ([((((ByteArray.size t_18) : Nat) : Int), (((ByteArray.size t_18) : Nat) : Int))] : List (Int × Int))), (7, .row kE r_29)], [(0, 0), (7, 1)], 2⟩)] [] (calls_cons (carets_Erase_rg_spec K ([((((ByteArray.size t_18) : Nat) : Int), (((ByteArray.size t_18) : Nat) : Int))] : List (Int × Int)) t_18 r_29 h_30) (by kernel_rfl) calls_nil) 1 [0, 3, 4, 6] [1] ⟨[(0, cS s_1), (3, cS t_18), (4, cI i_19), (6, .c (.h 1))], [(1, .row kE r_29)], 2⟩ [] (by kernel_rfl) rfl rfl ap0 (by kernel_rfl) (by kernel_rfl) ?_
              refine V_run hN hn 2 2 [0, 3, 4, 6] [1] ⟨[(0, cS s_1), (3, cS t_18), (4, cI i_19), (6, .c (.h 1))], [(1, .row kE r_29)], 2⟩ [] (by kernel_rfl) rfl rfl ap0 ?_
              obtain ⟨q_110, H_111, H_112⟩ := of_bind H_109
              refine V_cut (Y := Bool) (R := Bool) q_110 (fun y => y) (fun y => [(0, cS s_1), (3, cS t_18), (4, cI i_19), (6, .c (.h 1)), (58, cB y)]) (fun y => [(1, .row kE r_29)]) ?_ ?_
              · skip
                rcases Bool.eq_false_or_eq_true (((lnI r_29) != (1 : Int))) with b_33 | b_33
                · have H_114 := of_t H_111 b_33
                  refine V_draw hN hn (by kernel_rfl) [] [(39, true)] calls_nil 2 [0, 3, 4, 6, 58] [1] ⟨[(0, cS s_1), (3, cS t_18), (4, cI i_19), (6, .c (.h 1)), (58, cB true)], [(1, .row kE r_29)], 2⟩ [((lnI r_29) != (1 : Int)) = true] (by kernel_rfl) rfl rfl (ap1 b_33) (by kernel_rfl) (by kernel_rfl) ?_
                  have H_116 := Option.some.inj (show some true = some q_110 from H_114); subst H_116
                  refine VL_nil ?_
                  exact QP_end true rfl [(1, 1)] hn (by kernel_rfl) (by kernel_rfl) rfl rfl rfl
                · have H_115 := of_f H_111 b_33
                  rcases Bool.eq_false_or_eq_true (((List.getD r_29 0 zE).2.1 != (((ByteArray.size t_18) : Nat) : Int))) with b_35 | b_35
                  · have H_117 := of_t H_115 b_35
                    obtain ⟨c_36, H_119⟩ := of_if H_117
                    refine V_draw hN hn (by kernel_rfl) [] [(39, false), (48, true)] calls_nil 2 [0, 3, 4, 6, 58] [1] ⟨[(0, cS s_1), (3, cS t_18), (4, cI i_19), (6, .c (.h 1)), (58, cB true)], [(1, .row kE r_29)], 2⟩ [((lnI r_29) != (1 : Int)) = false, (0 : Int) ≤ (0 : Int), (0 : Int) < (lnI r_29), ((List.getD r_29 0 zE).2.1 != (((ByteArray.size t_18) : Nat) : Int)) = true] (by kernel_rfl) rfl rfl (ap2 b_33 (ap2 (by decide) (ap2 c_36 (ap1 b_35)))) (by kernel_rfl) (by kernel_rfl) ?_
                    have H_120 := Option.some.inj (show some true = some q_110 from H_119); subst H_120
                    refine VL_nil ?_
                    exact QP_end true rfl [(1, 1)] hn (by kernel_rfl) (by kernel_rfl) rfl rfl rfl
                  · have H_118 := of_f H_115 b_35
                    obtain ⟨r_37, h_38, H_121⟩ := of_bind H_118
                    obtain ⟨c_39, H_122⟩ := of_if H_121
                    refine V_draw hN hn (by kernel_rfl) [(20, ⟨23, 0, [cS t_18, cI (((ByteArray.size t_18) : Nat) : Int)], [], cI r_37, [], [], 2⟩)] [(39, false), (48, false)] (calls_cons (palinoderef1_Back_spec K t_18 (((ByteArray.size t_18) : Nat) : Int) r_37 h_38) (by kernel_rfl) calls_nil) 2 [0, 3, 4, 6, 58] [1] ⟨[(0, cS s_1), (3, cS t_18), (4, cI i_19), (6, .c (.h 1)), (58, cB ((List.getD r_29 0 zE).1 != r_37))], [(1, .row kE r_29)], 2⟩ [((lnI r_29) != (1 : Int)) = false, (0 : Int) ≤ (0 : Int), (0 : Int) < (lnI r_29), ((List.getD r_29 0 zE).2.1 != (((ByteArray.size t_18) : Nat) : Int)) = false, (0 : Int) ≤ (0 : Int), (0 : Int) < (lnI r_29)] (by kernel_rfl) rfl rfl (ap2 b_33 (ap2 (by decide) (ap2 c_39 (ap2 b_35 (ap2 (by decide) (ap1 c_39)))))) (by kernel_rfl) (by kernel_rfl) ?_
                    have H_123 := Option.some.inj (show some ((List.getD r_29 0 zE).1 != r_37) = some q_110 from H_122); subst H_123
                    refine VL_nil ?_
                    exact QP_end ((List.getD r_29 0 zE).1 != r_37) rfl [(1, 1)] hn (by kernel_rfl) (by kernel_rfl) rfl rfl rfl
              · intro y_113 hy; subst hy
                skip
                skip
                refine VL_cond (y_113) (by kernel_rfl) ?_ ?_
                · intro b_41; have H_124 := of_t H_112 b_41
                  refine V_run hN hn 2 2 [2] [] ⟨[(2, cB false)], [], 2⟩ [] (by kernel_rfl) rfl rfl ap0 ?_
                  have H_126 := Option.some.inj (show some (Sum.inl false) = some q_93 from H_124); subst H_126
                  have H_127 := Option.some.inj (show some false = some r from H_95); subst H_127
                  refine VL_ret ?_
                  refine QB_ret ?_
                  refine QL_ret ?_
                  refine QB_ret ?_
                  refine QP_ret ?_
                  exact P_to [(2, cB false)] [] [] hn (by kernel_rfl) (by kernel_rfl) rfl rfl rfl (QF_retS (by kernel_rfl) (by kernel_rfl) rfl)
                · intro b_41; have H_125 := of_f H_112 b_41
                  refine V_run hN hn 1 2 [0, 3, 4, 6, 58] [1] ⟨[(0, cS s_1), (3, cS t_18), (4, cI i_19), (6, .c (.h 1)), (58, cB y_113)], [(1, .row kE r_29)], 2⟩ [] (by kernel_rfl) rfl rfl ap0 ?_
                  obtain ⟨r_44, h_45, H_128⟩ := of_bind H_125
                  refine V_reg hN hn [(2, ⟨24, 1, [cS t_18, .c (.h 0)], [(0, .row kE r_29)], cS r_44, [(0, .row kE r_29)], [(0, 1)], 2⟩)] [] (calls_cons (palinoderef17_Do_gr_spec K t_18 r_29 r_44 h_45) (by kernel_rfl) calls_nil) 2 [0, 3, 4] [] ⟨[(0, cS s_1), (3, cS r_44), (4, cI i_19)], [], 2⟩ [] (by kernel_rfl) rfl rfl ap0 (by kernel_rfl) (by kernel_rfl) ?_
                  refine VL_nil (QB_end ?_)
                  refine V_run hN hn 1 2 [0, 3, 4] [] ⟨[(0, cS s_1), (3, cS r_44), (4, cI (w6 (i_19 + (1 : Int))))], [], 2⟩ [] (by kernel_rfl) rfl rfl ap0 ?_
                  refine VL_nil ?_
                  exact V_roundEnd (r_44, (w6 (i_19 + (1 : Int)))) H_128 [] hn (by kernel_rfl) (by kernel_rfl) rfl rfl rfl
            · intro b_26; have H_108 := of_f H_101 b_26
              refine VL_exit ?_
              refine QL_exit ?_
              refine QB_here ?_
              have H_129 := Option.some.inj (show some (Sum.inr t_18) = some q_93 from H_108); subst H_129
              refine VL_nil ?_
              exact QP_end t_18 rfl [] hn (by kernel_rfl) (by kernel_rfl) rfl rfl rfl
        · intro y_96 hy; subst hy
          skip
          skip
          refine V_run hN hn 1 0 [0, 3] [] ⟨[(0, cS s_1), (3, cS y_96)], [], 0⟩ [] (by kernel_rfl) rfl rfl ap0 ?_
          obtain ⟨r_50, h_51, H_130⟩ := of_bind H_95
          refine V_reg hN hn [(5, ⟨17, 1, [.c (.h 0), cS s_1], [(0, .row kP ([((((ByteArray.size s_1) : Nat) : Int), (0 : Int))] : List (Int × Int)))], .c (.h 7), [(0, .row kP ([((((ByteArray.size s_1) : Nat) : Int), (0 : Int))] : List (Int × Int))), (7, .row kE r_50)], [(0, 0), (7, 1)], 2⟩)] [] (calls_cons (carets_Erase_rg_spec K ([((((ByteArray.size s_1) : Nat) : Int), (0 : Int))] : List (Int × Int)) s_1 r_50 h_51) (by kernel_rfl) calls_nil) 0 [0, 3, 7] [1] ⟨[(0, cS s_1), (3, cS y_96), (7, .c (.h 1))], [(1, .row kE r_50)], 2⟩ [] (by kernel_rfl) rfl rfl ap0 (by kernel_rfl) (by kernel_rfl) ?_
          refine V_run hN hn 1 2 [0, 3, 7] [1] ⟨[(0, cS s_1), (3, cS y_96), (7, .c (.h 1))], [(1, .row kE r_50)], 2⟩ [] (by kernel_rfl) rfl rfl ap0 ?_
          rcases Bool.eq_false_or_eq_true ((ByteArray.toList y_96 == ByteArray.toList (ByteArray.mk #[]))) with b_54 | b_54
          · have H_131 := of_t H_130 b_54
            obtain ⟨r_55, h_56, H_133⟩ := of_bind H_131
            rcases Bool.eq_false_or_eq_true (((lnI r_55) == (0 : Int))) with b_57 | b_57
            · have H_134 := of_t H_133 b_57
              rcases Bool.eq_false_or_eq_true ((ByteArray.toList s_1 == ByteArray.toList (ByteArray.mk #[]))) with b_58 | b_58
              · have H_136 := of_t H_134 b_58
                rcases Bool.eq_false_or_eq_true (((lnI r_50) == (0 : Int))) with b_59 | b_59
                · have H_138 := of_t H_136 b_59
                  refine V_reg hN hn [(5, ⟨17, 1, [.c (.h 0), cS (ByteArray.mk #[])], [(0, .row kP ([zP] : List (Int × Int)))], .c (.h 7), [(0, .row kP ([zP] : List (Int × Int))), (7, .row kE r_55)], [(0, 2), (7, 3)], 4⟩)] [(70, true), (77, true), (80, true), (85, true)] (calls_cons (carets_Erase_rg_spec K ([zP] : List (Int × Int)) (ByteArray.mk #[]) r_55 h_56) (by kernel_rfl) calls_nil) 2 [2] [] ⟨[(2, cB true)], [], 4⟩ [(ByteArray.toList y_96 == ByteArray.toList (ByteArray.mk #[])) = true, ((lnI r_55) == (0 : Int)) = true, (ByteArray.toList s_1 == ByteArray.toList (ByteArray.mk #[])) = true, ((lnI r_50) == (0 : Int)) = true] (by kernel_rfl) rfl rfl (ap2 b_54 (ap2 b_57 (ap2 b_58 (ap1 b_59)))) (by kernel_rfl) (by kernel_rfl) ?_
                  have H_140 := Option.some.inj (show some true = some r from H_138); subst H_140
                  refine VL_ret ?_
                  exact P_to [(2, cB true)] [] [] hn (by kernel_rfl) (by kernel_rfl) rfl rfl rfl (QF_retS (by kernel_rfl) (by kernel_rfl) rfl)
                · have H_139 := of_f H_136 b_59
                  rcases Bool.eq_false_or_eq_true (((lnI r_50) == (1 : Int))) with b_61 | b_61
                  · have H_141 := of_t H_139 b_61
                    obtain ⟨c_62, H_143⟩ := of_if H_141
                    refine V_reg hN hn [(5, ⟨17, 1, [.c (.h 0), cS (ByteArray.mk #[])], [(0, .row kP ([zP] : List (Int × Int)))], .c (.h 7), [(0, .row kP ([zP] : List (Int × Int))), (7, .row kE r_55)], [(0, 2), (7, 3)], 4⟩)] [(70, true), (77, true), (80, true), (85, false), (89, true)] (calls_cons (carets_Erase_rg_spec K ([zP] : List (Int × Int)) (ByteArray.mk #[]) r_55 h_56) (by kernel_rfl) calls_nil) 2 [2] [] ⟨[(2, cB (((List.getD r_50 0 zE).1 == (0 : Int)) && (((List.getD r_50 0 zE).2.1 == (((ByteArray.size s_1) : Nat) : Int)) && (ByteArray.toList (List.getD r_50 0 zE).2.2 == ByteArray.toList ByteArray.empty))))], [], 4⟩ [(ByteArray.toList y_96 == ByteArray.toList (ByteArray.mk #[])) = true, ((lnI r_55) == (0 : Int)) = true, (ByteArray.toList s_1 == ByteArray.toList (ByteArray.mk #[])) = true, ((lnI r_50) == (0 : Int)) = false, ((lnI r_50) == (1 : Int)) = true, (0 : Int) ≤ (0 : Int), (0 : Int) < (lnI r_50)] (by kernel_rfl) rfl rfl (ap2 b_54 (ap2 b_57 (ap2 b_58 (ap2 b_59 (ap2 b_61 (ap2 (by decide) (ap1 c_62))))))) (by kernel_rfl) (by kernel_rfl) ?_
                    have H_144 := Option.some.inj (show some (((List.getD r_50 0 zE).1 == (0 : Int)) && (((List.getD r_50 0 zE).2.1 == (((ByteArray.size s_1) : Nat) : Int)) && (ByteArray.toList (List.getD r_50 0 zE).2.2 == ByteArray.toList ByteArray.empty))) = some r from H_143); subst H_144
                    refine VL_ret ?_
                    exact P_to [(2, cB (((List.getD r_50 0 zE).1 == (0 : Int)) && (((List.getD r_50 0 zE).2.1 == (((ByteArray.size s_1) : Nat) : Int)) && (ByteArray.toList (List.getD r_50 0 zE).2.2 == ByteArray.toList ByteArray.empty))))] [] [] hn (by kernel_rfl) (by kernel_rfl) rfl rfl rfl (QF_retS (by kernel_rfl) (by kernel_rfl) rfl)
                  · have H_142 := of_f H_139 b_61
                    refine V_reg hN hn [(5, ⟨17, 1, [.c (.h 0), cS (ByteArray.mk #[])], [(0, .row kP ([zP] : List (Int × Int)))], .c (.h 7), [(0, .row kP ([zP] : List (Int × Int))), (7, .row kE r_55)], [(0, 2), (7, 3)], 4⟩)] [(70, true), (77, true), (80, true), (85, false), (89, false)] (calls_cons (carets_Erase_rg_spec K ([zP] : List (Int × Int)) (ByteArray.mk #[]) r_55 h_56) (by kernel_rfl) calls_nil) 2 [2] [] ⟨[(2, cB false)], [], 4⟩ [(ByteArray.toList y_96 == ByteArray.toList (ByteArray.mk #[])) = true, ((lnI r_55) == (0 : Int)) = true, (ByteArray.toList s_1 == ByteArray.toList (ByteArray.mk #[])) = true, ((lnI r_50) == (0 : Int)) = false, ((lnI r_50) == (1 : Int)) = false] (by kernel_rfl) rfl rfl (ap2 b_54 (ap2 b_57 (ap2 b_58 (ap2 b_59 (ap1 b_61))))) (by kernel_rfl) (by kernel_rfl) ?_
                    have H_145 := Option.some.inj (show some false = some r from H_142); subst H_145
                    refine VL_ret ?_
                    exact P_to [(2, cB false)] [] [] hn (by kernel_rfl) (by kernel_rfl) rfl rfl rfl (QF_retS (by kernel_rfl) (by kernel_rfl) rfl)
              · have H_137 := of_f H_134 b_58
                rcases Bool.eq_false_or_eq_true (((lnI r_50) == (1 : Int))) with b_64 | b_64
                · have H_146 := of_t H_137 b_64
                  obtain ⟨c_65, H_148⟩ := of_if H_146
                  refine V_reg hN hn [(5, ⟨17, 1, [.c (.h 0), cS (ByteArray.mk #[])], [(0, .row kP ([zP] : List (Int × Int)))], .c (.h 7), [(0, .row kP ([zP] : List (Int × Int))), (7, .row kE r_55)], [(0, 2), (7, 3)], 4⟩)] [(70, true), (77, true), (80, false), (89, true)] (calls_cons (carets_Erase_rg_spec K ([zP] : List (Int × Int)) (ByteArray.mk #[]) r_55 h_56) (by kernel_rfl) calls_nil) 2 [2] [] ⟨[(2, cB (((List.getD r_50 0 zE).1 == (0 : Int)) && (((List.getD r_50 0 zE).2.1 == (((ByteArray.size s_1) : Nat) : Int)) && (ByteArray.toList (List.getD r_50 0 zE).2.2 == ByteArray.toList ByteArray.empty))))], [], 4⟩ [(ByteArray.toList y_96 == ByteArray.toList (ByteArray.mk #[])) = true, ((lnI r_55) == (0 : Int)) = true, (ByteArray.toList s_1 == ByteArray.toList (ByteArray.mk #[])) = false, ((lnI r_50) == (1 : Int)) = true, (0 : Int) ≤ (0 : Int), (0 : Int) < (lnI r_50)] (by kernel_rfl) rfl rfl (ap2 b_54 (ap2 b_57 (ap2 b_58 (ap2 b_64 (ap2 (by decide) (ap1 c_65)))))) (by kernel_rfl) (by kernel_rfl) ?_
                  have H_149 := Option.some.inj (show some (((List.getD r_50 0 zE).1 == (0 : Int)) && (((List.getD r_50 0 zE).2.1 == (((ByteArray.size s_1) : Nat) : Int)) && (ByteArray.toList (List.getD r_50 0 zE).2.2 == ByteArray.toList ByteArray.empty))) = some r from H_148); subst H_149
                  refine VL_ret ?_
                  exact P_to [(2, cB (((List.getD r_50 0 zE).1 == (0 : Int)) && (((List.getD r_50 0 zE).2.1 == (((ByteArray.size s_1) : Nat) : Int)) && (ByteArray.toList (List.getD r_50 0 zE).2.2 == ByteArray.toList ByteArray.empty))))] [] [] hn (by kernel_rfl) (by kernel_rfl) rfl rfl rfl (QF_retS (by kernel_rfl) (by kernel_rfl) rfl)
                · have H_147 := of_f H_137 b_64
                  refine V_reg hN hn [(5, ⟨17, 1, [.c (.h 0), cS (ByteArray.mk #[])], [(0, .row kP ([zP] : List (Int × Int)))], .c (.h 7), [(0, .row kP ([zP] : List (Int × Int))), (7, .row kE r_55)], [(0, 2), (7, 3)], 4⟩)] [(70, true), (77, true), (80, false), (89, false)] (calls_cons (carets_Erase_rg_spec K ([zP] : List (Int × Int)) (ByteArray.mk #[]) r_55 h_56) (by kernel_rfl) calls_nil) 2 [2] [] ⟨[(2, cB false)], [], 4⟩ [(ByteArray.toList y_96 == ByteArray.toList (ByteArray.mk #[])) = true, ((lnI r_55) == (0 : Int)) = true, (ByteArray.toList s_1 == ByteArray.toList (ByteArray.mk #[])) = false, ((lnI r_50) == (1 : Int)) = false] (by kernel_rfl) rfl rfl (ap2 b_54 (ap2 b_57 (ap2 b_58 (ap1 b_64)))) (by kernel_rfl) (by kernel_rfl) ?_
                  have H_150 := Option.some.inj (show some false = some r from H_147); subst H_150
                  refine VL_ret ?_
                  exact P_to [(2, cB false)] [] [] hn (by kernel_rfl) (by kernel_rfl) rfl rfl rfl (QF_retS (by kernel_rfl) (by kernel_rfl) rfl)
            · have H_135 := of_f H_133 b_57
              refine V_reg hN hn [(5, ⟨17, 1, [.c (.h 0), cS (ByteArray.mk #[])], [(0, .row kP ([zP] : List (Int × Int)))], .c (.h 7), [(0, .row kP ([zP] : List (Int × Int))), (7, .row kE r_55)], [(0, 2), (7, 3)], 4⟩)] [(70, true), (77, false)] (calls_cons (carets_Erase_rg_spec K ([zP] : List (Int × Int)) (ByteArray.mk #[]) r_55 h_56) (by kernel_rfl) calls_nil) 2 [2] [] ⟨[(2, cB false)], [], 4⟩ [(ByteArray.toList y_96 == ByteArray.toList (ByteArray.mk #[])) = true, ((lnI r_55) == (0 : Int)) = false] (by kernel_rfl) rfl rfl (ap2 b_54 (ap1 b_57)) (by kernel_rfl) (by kernel_rfl) ?_
              have H_151 := Option.some.inj (show some false = some r from H_135); subst H_151
              refine VL_ret ?_
              exact P_to [(2, cB false)] [] [] hn (by kernel_rfl) (by kernel_rfl) rfl rfl rfl (QF_retS (by kernel_rfl) (by kernel_rfl) rfl)
          · have H_132 := of_f H_130 b_54
            refine V_reg hN hn [] [(70, false)] calls_nil 2 [2] [] ⟨[(2, cB false)], [], 2⟩ [(ByteArray.toList y_96 == ByteArray.toList (ByteArray.mk #[])) = false] (by kernel_rfl) rfl rfl (ap1 b_54) (by kernel_rfl) (by kernel_rfl) ?_
            have H_152 := Option.some.inj (show some false = some r from H_132); subst H_152
            refine VL_ret ?_
            exact P_to [(2, cB false)] [] [] hn (by kernel_rfl) (by kernel_rfl) rfl rfl rfl (QF_retS (by kernel_rfl) (by kernel_rfl) rfl)

end Go.Pal
