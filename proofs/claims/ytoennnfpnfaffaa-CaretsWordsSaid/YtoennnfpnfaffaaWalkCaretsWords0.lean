/- The Go functions that CaretsWords reaches compute what the plain functions say: part 0, printed by a program of this workplace. -/
import Derived.Test.YtoennnfpnfaffaaChecked
import Derived.Test.YtoennnfpnfaffaaFunCaretsWords
namespace Go.Pal
open Go Go.Proofs
set_option maxRecDepth 100000
set_option linter.unusedVariables false

theorem region_Span_spec (K : Nat) (r_1 : Int) (r_2 : Int) (r : (Int × Int)) (H : region_Span K r_1 r_2 = some r) : Spec Try.prog 34 0 [.agg [.val (.int .i64 r_1), .val (.int .i64 r_2)]] [] (.agg [.val (.int .i64 r.1), .val (.int .i64 r.2)]) [] := by
  refine Spec_mk (fn := Try.f34) (c := (Try.f34.body).get!) Try.func34 (by kernel_rfl) rfl ?_
  intro C hN hn
  replace hN : C.N = 14 := hN
  unfold region_Span at H
  refine V_run hN hn 4 0 [2] [1] ⟨[(2, .c (.h 1))], [(1, .box [.val (.int .i64 (mn2 r_1 r_2)), .val (.int .i64 (mx2 r_1 r_2))])], 2⟩ [] (by kernel_rfl) rfl rfl ap0 ?_
  have H_6 := Option.some.inj (show some ((mn2 r_1 r_2), (mx2 r_1 r_2)) = some r from H); subst H_6
  refine VL_ret ?_
  exact P_to [(2, .c (.h 1))] [(1, .box [.val (.int .i64 (mn2 r_1 r_2)), .val (.int .i64 (mx2 r_1 r_2))])] [(1, 1)] hn (by kernel_rfl) (by kernel_rfl) rfl rfl rfl (QF_retS (by kernel_rfl) (by kernel_rfl) rfl)

theorem carets_Type_rg_spec (K : Nat) (l_1 : (List (Int × Int))) (text_2 : ByteArray) (r : (List (Int × (Int × ByteArray)))) (H : carets_Type_rg K l_1 text_2 = some r) : Spec Try.prog 15 1 [.c (.h 0), cS text_2] [(0, .row kP l_1)] (.c (.h 6)) [(0, .row kP l_1), (6, .row kE r)] := by
  refine Spec_mk (fn := Try.f15) (c := (Try.f15.body).get!) Try.func15 (by kernel_rfl) rfl ?_
  intro C hN hn
  replace hN : C.N = 28 := hN
  unfold carets_Type_rg at H
  refine V_run hN hn 7 1 [1, 5, 9, 10, 11] [0] ⟨[(1, cS text_2), (5, .c (.val (.slice none 0 0))), (9, .c (.h 0)), (10, cI (lnI l_1)), (11, cI (0 : Int))], [(0, .row kP l_1)], 1⟩ [] (by kernel_rfl) rfl rfl ap0 ?_
  refine VL_block ?_
  refine V_ghost [.nilSlot 5 kE] 1 hn [1, 5, 9, 10, 11] [0, 1] ⟨[(1, cS text_2), (5, .c (.h 1)), (9, .c (.h 0)), (10, cI (lnI l_1)), (11, cI (0 : Int))], [(0, .row kP l_1), (1, .row kE ([] : List (Int × (Int × ByteArray))))], 2⟩ (by kernel_rfl) rfl rfl ?_
  refine V_to [(1, cS text_2), (5, .c (.h 6)), (9, .c (.h 0)), (10, cI (lnI l_1)), (11, cI (0 : Int))] [(0, .row kP l_1), (6, .row kE ([] : List (Int × (Int × ByteArray))))] [(6, 1)] hn (by kernel_rfl) (by kernel_rfl) rfl rfl rfl ?_
  refine VL_loop (X := ((List (Int × (Int × ByteArray))) × Int)) (fun x => [(1, cS text_2), (5, .c (.h 6)), (9, .c (.h 0)), (10, cI (lnI l_1)), (11, cI x.2)]) (fun x => [(0, .row kP l_1), (6, .row kE x.1)]) (fun k x => carets_Type_rg.l0 K l_1 text_2 k x.1 x.2 = some r) K (([] : List (Int × (Int × ByteArray))), (0 : Int)) H (fun _ h => no_none h) ?_
  intro k_17 x_17 H_29
  obtain ⟨out_16, t_4⟩ := x_17
  have H_30 : carets_Type_rg.l0 K l_1 text_2 (k_17 + 1) out_16 t_4 = some r := H_29
  rw [carets_Type_rg.l0] at H_30
  refine V_run hN hn 3 7 [1, 5, 9, 10, 11, 12] [0, 6] ⟨[(1, cS text_2), (5, .c (.h 6)), (9, .c (.h 0)), (10, cI (lnI l_1)), (11, cI t_4), (12, cB (decide (t_4 < (lnI l_1))))], [(0, .row kP l_1), (6, .row kE out_16)], 7⟩ [] (by kernel_rfl) rfl rfl ap0 ?_
  refine VL_cond ((decide (t_4 < (lnI l_1)))) (by kernel_rfl) ?_ ?_
  · intro b_19; have H_31 := of_t H_30 b_19
    refine V_run hN hn 2 7 [1, 5, 9, 10, 11, 12] [0, 6] ⟨[(1, cS text_2), (5, .c (.h 6)), (9, .c (.h 0)), (10, cI (lnI l_1)), (11, cI t_4), (12, cB (decide (t_4 < (lnI l_1))))], [(0, .row kP l_1), (6, .row kE out_16)], 7⟩ [] (by kernel_rfl) rfl rfl ap0 ?_
    refine VL_block ?_
    obtain ⟨c_21, H_33⟩ := of_if H_31
    refine V_run hN hn 3 7 [1, 5, 7, 9, 10, 11] [0, 6, 7] ⟨[(1, cS text_2), (5, .c (.h 6)), (7, .c (.h 7)), (9, .c (.h 0)), (10, cI (lnI l_1)), (11, cI t_4)], [(0, .row kP l_1), (6, .row kE out_16), (7, .box [.val (.int .i64 (List.getD l_1 (Int.toNat t_4) zP).1), .val (.int .i64 (List.getD l_1 (Int.toNat t_4) zP).2)])], 8⟩ [0 ≤ t_4, t_4 < (lnI l_1)] (by kernel_rfl) rfl rfl (ap2 c_21.1 (ap1 c_21.2)) ?_
    obtain ⟨r_22, h_23, H_34⟩ := of_bind H_33
    refine V_reg hN hn [(1, ⟨34, 0, [.agg [.val (.int .i64 (List.getD l_1 (Int.toNat t_4) zP).1), .val (.int .i64 (List.getD l_1 (Int.toNat t_4) zP).2)]], [], .agg [.val (.int .i64 r_22.1), .val (.int .i64 r_22.2)], [], [], 8⟩)] [] (calls_cons (region_Span_spec K (List.getD l_1 (Int.toNat t_4) zP).1 (List.getD l_1 (Int.toNat t_4) zP).2 r_22 h_23) (by kernel_rfl) calls_nil) 8 [1, 5, 8, 9, 10, 11] [0, 6, 8] ⟨[(1, cS text_2), (5, .c (.h 6)), (8, .c (.h 8)), (9, .c (.h 0)), (10, cI (lnI l_1)), (11, cI t_4)], [(0, .row kP l_1), (6, .row kE out_16), (8, .box [.val (.int .i64 r_22.1), .val (.int .i64 r_22.2)])], 9⟩ [] (by kernel_rfl) rfl rfl ap0 (by kernel_rfl) (by kernel_rfl) ?_
    obtain ⟨c_25, H_35⟩ := of_if H_34
    refine V_run hN hn 1 9 [1, 5, 9, 10, 11] [0, 10] ⟨[(1, cS text_2), (5, .c (.h 10)), (9, .c (.h 0)), (10, cI (lnI l_1)), (11, cI t_4)], [(0, .row kP l_1), (10, .row kE (out_16 ++ ([(r_22.1, (r_22.2, text_2))] : List (Int × (Int × ByteArray)))))], 11⟩ [(List.length out_16 + List.length ([(r_22.1, (r_22.2, text_2))] : List (Int × (Int × ByteArray)))) * 32 ≤ 140737488355328] (by kernel_rfl) rfl rfl (ap1 c_25) ?_
    refine VL_nil (QB_end ?_)
    refine V_run hN hn 1 11 [1, 5, 9, 10, 11] [0, 10] ⟨[(1, cS text_2), (5, .c (.h 10)), (9, .c (.h 0)), (10, cI (lnI l_1)), (11, cI (w6 (t_4 + (1 : Int))))], [(0, .row kP l_1), (10, .row kE (out_16 ++ ([(r_22.1, (r_22.2, text_2))] : List (Int × (Int × ByteArray)))))], 11⟩ [] (by kernel_rfl) rfl rfl ap0 ?_
    refine VL_nil ?_
    exact V_roundEnd ((out_16 ++ ([(r_22.1, (r_22.2, text_2))] : List (Int × (Int × ByteArray)))), (w6 (t_4 + (1 : Int)))) H_35 [(6, 10)] hn (by kernel_rfl) (by kernel_rfl) rfl rfl rfl
  · intro b_19; have H_32 := of_f H_30 b_19
    refine VL_exit ?_
    refine QL_exit ?_
    refine QB_here ?_
    refine V_run hN hn 2 7 [4] [0, 6] ⟨[(4, .c (.h 6))], [(0, .row kP l_1), (6, .row kE out_16)], 7⟩ [] (by kernel_rfl) rfl rfl ap0 ?_
    have H_36 := Option.some.inj (show some out_16 = some r from H_32); subst H_36
    refine VL_ret ?_
    exact P_to [(4, .c (.h 6))] [(0, .row kP l_1), (6, .row kE out_16)] [(6, 6)] hn (by kernel_rfl) (by kernel_rfl) rfl rfl rfl (QF_retS (by kernel_rfl) (by kernel_rfl) rfl)

theorem region_inside_spec (K : Nat) (s_1 : ByteArray) (r : Unit) (H : region_inside K s_1 = some r) : Spec Try.prog 45 0 [cS s_1] [] (.c (.clo 55 [0])) [(0, .box [.val (.string s_1)])] := by
  refine Spec_mk (fn := Try.f45) (c := (Try.f45.body).get!) Try.func45 (by kernel_rfl) rfl ?_
  intro C hN hn
  replace hN : C.N = 4 := hN
  unfold region_inside at H
  refine V_run hN hn 4 0 [2] [0] ⟨[(2, .c (.clo 55 [0]))], [(0, .box [.val (.string s_1)])], 1⟩ [] (by kernel_rfl) rfl rfl ap0 ?_
  have H_3 := Option.some.inj (show some () = some r from H); subst H_3
  refine VL_ret ?_
  exact P_to [(2, .c (.clo 55 [0]))] [(0, .box [.val (.string s_1)])] [(0, 0)] hn (by kernel_rfl) (by kernel_rfl) rfl rfl rfl (QF_retS (by kernel_rfl) (by kernel_rfl) rfl)

theorem interval_Is_spec (K : Nat) (i_1 : Int) (i_2 : Int) (n_3 : Int) (r : Bool) (H : interval_Is K i_1 i_2 n_3 = some r) : Spec Try.prog 56 0 [.agg [.val (.int .i64 i_1), .val (.int .i64 i_2)], cI n_3] [] (cB r) [] := by
  refine Spec_mk (fn := Try.f56) (c := (Try.f56.body).get!) Try.func56 (by kernel_rfl) rfl ?_
  intro C hN hn
  replace hN : C.N = 21 := hN
  unfold interval_Is at H
  refine V_run hN hn 3 0 [1, 2] [0] ⟨[(1, cI n_3), (2, .c (.h 0))], [(0, .box [.val (.int .i64 i_1), .val (.int .i64 i_2)])], 1⟩ [] (by kernel_rfl) rfl rfl ap0 ?_
  rcases Bool.eq_false_or_eq_true ((decide (i_1 ≥ (0 : Int)))) with b_5 | b_5
  · have H_11 := of_t H b_5
    rcases Bool.eq_false_or_eq_true ((decide (i_1 ≤ i_2))) with b_6 | b_6
    · have H_13 := of_t H_11 b_6
      refine V_reg hN hn [] [(8, true), (15, true)] calls_nil 1 [4] [] ⟨[(4, cB (decide (i_2 ≤ n_3)))], [], 1⟩ [(decide (i_1 ≥ (0 : Int))) = true, (decide (i_1 ≤ i_2)) = true] (by kernel_rfl) rfl rfl (ap2 b_5 (ap1 b_6)) (by kernel_rfl) (by kernel_rfl) ?_
      have H_15 := Option.some.inj (show some (decide (i_2 ≤ n_3)) = some r from H_13); subst H_15
      refine VL_ret ?_
      exact P_to [(4, cB (decide (i_2 ≤ n_3)))] [] [] hn (by kernel_rfl) (by kernel_rfl) rfl rfl rfl (QF_retS (by kernel_rfl) (by kernel_rfl) rfl)
    · have H_14 := of_f H_11 b_6
      refine V_reg hN hn [] [(8, true), (15, false)] calls_nil 1 [4] [] ⟨[(4, cB false)], [], 1⟩ [(decide (i_1 ≥ (0 : Int))) = true, (decide (i_1 ≤ i_2)) = false] (by kernel_rfl) rfl rfl (ap2 b_5 (ap1 b_6)) (by kernel_rfl) (by kernel_rfl) ?_
      have H_16 := Option.some.inj (show some false = some r from H_14); subst H_16
      refine VL_ret ?_
      exact P_to [(4, cB false)] [] [] hn (by kernel_rfl) (by kernel_rfl) rfl rfl rfl (QF_retS (by kernel_rfl) (by kernel_rfl) rfl)
  · have H_12 := of_f H b_5
    refine V_reg hN hn [] [(8, false)] calls_nil 1 [4] [] ⟨[(4, cB false)], [], 1⟩ [(decide (i_1 ≥ (0 : Int))) = false] (by kernel_rfl) rfl rfl (ap1 b_5) (by kernel_rfl) (by kernel_rfl) ?_
    have H_17 := Option.some.inj (show some false = some r from H_12); subst H_17
    refine VL_ret ?_
    exact P_to [(4, cB false)] [] [] hn (by kernel_rfl) (by kernel_rfl) rfl rfl rfl (QF_retS (by kernel_rfl) (by kernel_rfl) rfl)

theorem region_inside_1_sggb_5389a_spec (K : Nat) (r_1 : Int) (r_2 : Int) (p_3 : ByteArray) (r : Bool) (H : region_inside_1_sggb_5389a K r_1 r_2 p_3 = some r) : Spec Try.prog 55 1 [.agg [.val (.int .i64 r_1), .val (.int .i64 r_2)], .c (.h 0)] [(0, .box [.val (.string p_3)])] (cB r) [(0, .box [.val (.string p_3)])] := by
  refine Spec_mk (fn := Try.f55) (c := (Try.f55.body).get!) Try.func55 (by kernel_rfl) rfl ?_
  intro C hN hn
  replace hN : C.N = 9 := hN
  unfold region_inside_1_sggb_5389a at H
  refine V_run hN hn 3 1 [1, 2] [0, 1] ⟨[(1, .c (.h 0)), (2, .c (.h 1))], [(0, .box [.val (.string p_3)]), (1, .box [.val (.int .i64 r_1), .val (.int .i64 r_2)])], 2⟩ [] (by kernel_rfl) rfl rfl ap0 ?_
  obtain ⟨r_5, h_6, H_11⟩ := of_bind H
  obtain ⟨r_7, h_8, H_12⟩ := of_bind H_11
  refine V_draw hN hn (by kernel_rfl) [(1, ⟨34, 0, [.agg [.val (.int .i64 r_1), .val (.int .i64 r_2)]], [], .agg [.val (.int .i64 r_5.1), .val (.int .i64 r_5.2)], [], [], 2⟩), (4, ⟨56, 0, [.agg [.val (.int .i64 r_5.1), .val (.int .i64 r_5.2)], cI (((ByteArray.size p_3) : Nat) : Int)], [], cB r_7, [], [], 2⟩)] [] (calls_cons (region_Span_spec K r_1 r_2 r_5 h_6) (by kernel_rfl) (calls_cons (interval_Is_spec K r_5.1 r_5.2 (((ByteArray.size p_3) : Nat) : Int) r_7 h_8) (by kernel_rfl) calls_nil)) 2 [3] [0] ⟨[(3, cB r_7)], [(0, .box [.val (.string p_3)])], 2⟩ [] (by kernel_rfl) rfl rfl ap0 (by kernel_rfl) (by kernel_rfl) ?_
  have H_13 := Option.some.inj (show some r_7 = some r from H_12); subst H_13
  refine VL_ret ?_
  exact P_to [(3, cB r_7)] [(0, .box [.val (.string p_3)])] [] hn (by kernel_rfl) (by kernel_rfl) rfl rfl rfl (QF_retS (by kernel_rfl) (by kernel_rfl) rfl)

theorem region_every_1_sggb_7e816_spec (K : Nat) (x_1 : Int) (x_2 : Int) (p_3 : ByteArray) (r : Bool) (H : region_every_1_sggb_7e816 K x_1 x_2 p_3 = some r) : Spec Try.prog 54 2 [.agg [.val (.int .i64 x_1), .val (.int .i64 x_2)], .c (.h 0)] [(0, .box [.clo 55 [1]]), (1, .box [.val (.string p_3)])] (cB r) [(0, .box [.clo 55 [1]]), (1, .box [.val (.string p_3)])] := by
  refine Spec_mk (fn := Try.f54) (c := (Try.f54.body).get!) Try.func54 (by kernel_rfl) rfl ?_
  intro C hN hn
  replace hN : C.N = 8 := hN
  unfold region_every_1_sggb_7e816 at H
  refine V_run hN hn 3 2 [1, 2] [0, 1, 2] ⟨[(1, .c (.h 0)), (2, .c (.h 2))], [(0, .box [.clo 55 [1]]), (1, .box [.val (.string p_3)]), (2, .box [.val (.int .i64 x_1), .val (.int .i64 x_2)])], 3⟩ [] (by kernel_rfl) rfl rfl ap0 ?_
  obtain ⟨r_5, h_6, H_9⟩ := of_bind H
  refine V_reg hN hn [(2, ⟨55, 1, [.agg [.val (.int .i64 x_1), .val (.int .i64 x_2)], .c (.h 0)], [(0, .box [.val (.string p_3)])], cB r_5, [(0, .box [.val (.string p_3)])], [(0, 1)], 3⟩)] [] (calls_cons (region_inside_1_sggb_5389a_spec K x_1 x_2 p_3 r_5 h_6) (by kernel_rfl) calls_nil) 3 [3] [0, 1] ⟨[(3, cB (!r_5))], [(0, .box [.clo 55 [1]]), (1, .box [.val (.string p_3)])], 3⟩ [] (by kernel_rfl) rfl rfl ap0 (by kernel_rfl) (by kernel_rfl) ?_
  have H_10 := Option.some.inj (show some (!r_5) = some r from H_9); subst H_10
  refine VL_ret ?_
  exact P_to [(3, cB (!r_5))] [(0, .box [.clo 55 [1]]), (1, .box [.val (.string p_3)])] [] hn (by kernel_rfl) (by kernel_rfl) rfl rfl rfl (QF_retS (by kernel_rfl) (by kernel_rfl) rfl)

theorem slices_IndexFunc_rcregionevery1_a4c35_spec (K : Nat) (s_1 : (List (Int × Int))) (f_2 : ByteArray) (r : Int) (H : slices_IndexFunc_rcregionevery1_a4c35 K s_1 f_2 = some r) : Spec Try.prog 68 3 [.c (.h 0), .c (.clo 54 [1])] [(0, .row kP s_1), (1, .box [.clo 55 [2]]), (2, .box [.val (.string f_2)])] (cI r) [(0, .row kP s_1), (1, .box [.clo 55 [2]]), (2, .box [.val (.string f_2)])] := by
  refine Spec_mk (fn := Try.f68) (c := (Try.f68.body).get!) Try.func68 (by kernel_rfl) rfl ?_
  intro C hN hn
  replace hN : C.N = 19 := hN
  unfold slices_IndexFunc_rcregionevery1_a4c35 at H
  refine V_run hN hn 5 3 [0, 1, 7, 8] [0, 1, 2] ⟨[(0, .c (.h 0)), (1, .c (.clo 54 [1])), (7, cI (lnI s_1)), (8, cI (0 : Int))], [(0, .row kP s_1), (1, .box [.clo 55 [2]]), (2, .box [.val (.string f_2)])], 3⟩ [] (by kernel_rfl) rfl rfl ap0 ?_
  refine VL_block ?_
  refine V_to [(0, .c (.h 0)), (1, .c (.clo 54 [1])), (7, cI (lnI s_1)), (8, cI (0 : Int))] [(0, .row kP s_1), (1, .box [.clo 55 [2]]), (2, .box [.val (.string f_2)])] [] hn (by kernel_rfl) (by kernel_rfl) rfl rfl rfl ?_
  refine VL_loop (X := Int) (fun x => [(0, .c (.h 0)), (1, .c (.clo 54 [1])), (7, cI (lnI s_1)), (8, cI x)]) (fun x => [(0, .row kP s_1), (1, .box [.clo 55 [2]]), (2, .box [.val (.string f_2)])]) (fun k x => slices_IndexFunc_rcregionevery1_a4c35.l0 K s_1 f_2 k x = some r) K (0 : Int) H (fun _ h => no_none h) ?_
  intro k_5 t_4 H_19
  have H_20 : slices_IndexFunc_rcregionevery1_a4c35.l0 K s_1 f_2 (k_5 + 1) t_4 = some r := H_19
  rw [slices_IndexFunc_rcregionevery1_a4c35.l0] at H_20
  refine V_run hN hn 3 3 [0, 1, 7, 8, 9] [0, 1, 2] ⟨[(0, .c (.h 0)), (1, .c (.clo 54 [1])), (7, cI (lnI s_1)), (8, cI t_4), (9, cB (decide (t_4 < (lnI s_1))))], [(0, .row kP s_1), (1, .box [.clo 55 [2]]), (2, .box [.val (.string f_2)])], 3⟩ [] (by kernel_rfl) rfl rfl ap0 ?_
  refine VL_cond ((decide (t_4 < (lnI s_1)))) (by kernel_rfl) ?_ ?_
  · intro b_7; have H_21 := of_t H_20 b_7
    refine V_run hN hn 2 3 [0, 1, 7, 8, 9] [0, 1, 2] ⟨[(0, .c (.h 0)), (1, .c (.clo 54 [1])), (7, cI (lnI s_1)), (8, cI t_4), (9, cB (decide (t_4 < (lnI s_1))))], [(0, .row kP s_1), (1, .box [.clo 55 [2]]), (2, .box [.val (.string f_2)])], 3⟩ [] (by kernel_rfl) rfl rfl ap0 ?_
    refine VL_block ?_
    refine V_run hN hn 3 3 [0, 1, 5, 7, 8] [0, 1, 2] ⟨[(0, .c (.h 0)), (1, .c (.clo 54 [1])), (5, cI t_4), (7, cI (lnI s_1)), (8, cI t_4)], [(0, .row kP s_1), (1, .box [.clo 55 [2]]), (2, .box [.val (.string f_2)])], 3⟩ [] (by kernel_rfl) rfl rfl ap0 ?_
    obtain ⟨r_10, h_11, H_23⟩ := of_bind H_21
    obtain ⟨c_12, H_24⟩ := of_if H_23
    refine V_reg hN hn [(5, ⟨54, 2, [.agg [.val (.int .i64 (List.getD s_1 (Int.toNat t_4) zP).1), .val (.int .i64 (List.getD s_1 (Int.toNat t_4) zP).2)], .c (.h 0)], [(0, .box [.clo 55 [1]]), (1, .box [.val (.string f_2)])], cB r_10, [(0, .box [.clo 55 [1]]), (1, .box [.val (.string f_2)])], [(0, 1), (1, 2)], 3⟩)] [] (calls_cons (region_every_1_sggb_7e816_spec K (List.getD s_1 (Int.toNat t_4) zP).1 (List.getD s_1 (Int.toNat t_4) zP).2 f_2 r_10 h_11) (by kernel_rfl) calls_nil) 3 [0, 1, 5, 7, 8, 16] [0, 1, 2] ⟨[(0, .c (.h 0)), (1, .c (.clo 54 [1])), (5, cI t_4), (7, cI (lnI s_1)), (8, cI t_4), (16, cB r_10)], [(0, .row kP s_1), (1, .box [.clo 55 [2]]), (2, .box [.val (.string f_2)])], 3⟩ [0 ≤ t_4, t_4 < (lnI s_1)] (by kernel_rfl) rfl rfl (ap2 c_12.1 (ap1 c_12.2)) (by kernel_rfl) (by kernel_rfl) ?_
    refine VL_cond (r_10) (by kernel_rfl) ?_ ?_
    · intro b_13; have H_25 := of_t H_24 b_13
      refine V_run hN hn 2 3 [4] [0, 1, 2] ⟨[(4, cI t_4)], [(0, .row kP s_1), (1, .box [.clo 55 [2]]), (2, .box [.val (.string f_2)])], 3⟩ [] (by kernel_rfl) rfl rfl ap0 ?_
      have H_27 := Option.some.inj (show some t_4 = some r from H_25); subst H_27
      refine VL_ret ?_
      refine QB_ret ?_
      refine QL_ret ?_
      refine QB_ret ?_
      exact P_to [(4, cI t_4)] [(0, .row kP s_1), (1, .box [.clo 55 [2]]), (2, .box [.val (.string f_2)])] [] hn (by kernel_rfl) (by kernel_rfl) rfl rfl rfl (QF_retS (by kernel_rfl) (by kernel_rfl) rfl)
    · intro b_13; have H_26 := of_f H_24 b_13
      refine V_run hN hn 1 3 [0, 1, 5, 7, 8, 16] [0, 1, 2] ⟨[(0, .c (.h 0)), (1, .c (.clo 54 [1])), (5, cI t_4), (7, cI (lnI s_1)), (8, cI t_4), (16, cB r_10)], [(0, .row kP s_1), (1, .box [.clo 55 [2]]), (2, .box [.val (.string f_2)])], 3⟩ [] (by kernel_rfl) rfl rfl ap0 ?_
      refine VL_nil (QB_end ?_)
      refine V_run hN hn 1 3 [0, 1, 7, 8] [0, 1, 2] ⟨[(0, .c (.h 0)), (1, .c (.clo 54 [1])), (7, cI (lnI s_1)), (8, cI (w6 (t_4 + (1 : Int))))], [(0, .row kP s_1), (1, .box [.clo 55 [2]]), (2, .box [.val (.string f_2)])], 3⟩ [] (by kernel_rfl) rfl rfl ap0 ?_
      refine VL_nil ?_
      exact V_roundEnd (w6 (t_4 + (1 : Int))) H_26 [] hn (by kernel_rfl) (by kernel_rfl) rfl rfl rfl
  · intro b_7; have H_22 := of_f H_20 b_7
    refine VL_exit ?_
    refine QL_exit ?_
    refine QB_here ?_
    refine V_run hN hn 2 3 [4] [0, 1, 2] ⟨[(4, cI (-1 : Int))], [(0, .row kP s_1), (1, .box [.clo 55 [2]]), (2, .box [.val (.string f_2)])], 3⟩ [] (by kernel_rfl) rfl rfl ap0 ?_
    have H_28 := Option.some.inj (show some (-1 : Int) = some r from H_22); subst H_28
    refine VL_ret ?_
    exact P_to [(4, cI (-1 : Int))] [(0, .row kP s_1), (1, .box [.clo 55 [2]]), (2, .box [.val (.string f_2)])] [] hn (by kernel_rfl) (by kernel_rfl) rfl rfl rfl (QF_retS (by kernel_rfl) (by kernel_rfl) rfl)

theorem slices_ContainsFunc_rcregionevery1_a4c35_spec (K : Nat) (s_1 : (List (Int × Int))) (f_2 : ByteArray) (r : Bool) (H : slices_ContainsFunc_rcregionevery1_a4c35 K s_1 f_2 = some r) : Spec Try.prog 53 3 [.c (.h 0), .c (.clo 54 [1])] [(0, .row kP s_1), (1, .box [.clo 55 [2]]), (2, .box [.val (.string f_2)])] (cB r) [(0, .row kP s_1), (1, .box [.clo 55 [2]]), (2, .box [.val (.string f_2)])] := by
  refine Spec_mk (fn := Try.f53) (c := (Try.f53.body).get!) Try.func53 (by kernel_rfl) rfl ?_
  intro C hN hn
  replace hN : C.N = 9 := hN
  unfold slices_ContainsFunc_rcregionevery1_a4c35 at H
  refine V_run hN hn 3 3 [0, 1] [0, 1, 2] ⟨[(0, .c (.h 0)), (1, .c (.clo 54 [1]))], [(0, .row kP s_1), (1, .box [.clo 55 [2]]), (2, .box [.val (.string f_2)])], 3⟩ [] (by kernel_rfl) rfl rfl ap0 ?_
  obtain ⟨r_4, h_5, H_8⟩ := of_bind H
  refine V_reg hN hn [(2, ⟨68, 3, [.c (.h 0), .c (.clo 54 [1])], [(0, .row kP s_1), (1, .box [.clo 55 [2]]), (2, .box [.val (.string f_2)])], cI r_4, [(0, .row kP s_1), (1, .box [.clo 55 [2]]), (2, .box [.val (.string f_2)])], [(0, 0), (1, 1), (2, 2)], 3⟩)] [] (calls_cons (slices_IndexFunc_rcregionevery1_a4c35_spec K s_1 f_2 r_4 h_5) (by kernel_rfl) calls_nil) 3 [4] [0, 1, 2] ⟨[(4, cB (decide (r_4 ≥ (0 : Int))))], [(0, .row kP s_1), (1, .box [.clo 55 [2]]), (2, .box [.val (.string f_2)])], 3⟩ [] (by kernel_rfl) rfl rfl ap0 (by kernel_rfl) (by kernel_rfl) ?_
  have H_9 := Option.some.inj (show some (decide (r_4 ≥ (0 : Int))) = some r from H_8); subst H_9
  refine VL_ret ?_
  exact P_to [(4, cB (decide (r_4 ≥ (0 : Int))))] [(0, .row kP s_1), (1, .box [.clo 55 [2]]), (2, .box [.val (.string f_2)])] [] hn (by kernel_rfl) (by kernel_rfl) rfl rfl rfl (QF_retS (by kernel_rfl) (by kernel_rfl) rfl)

theorem region_every_rcregioninside1_2e7a3_spec (K : Nat) (l_1 : (List (Int × Int))) (is_2 : ByteArray) (r : Bool) (H : region_every_rcregioninside1_2e7a3 K l_1 is_2 = some r) : Spec Try.prog 44 2 [.c (.h 0), .c (.clo 55 [1])] [(0, .row kP l_1), (1, .box [.val (.string is_2)])] (cB r) [(0, .row kP l_1), (1, .box [.val (.string is_2)])] := by
  refine Spec_mk (fn := Try.f44) (c := (Try.f44.body).get!) Try.func44 (by kernel_rfl) rfl ?_
  intro C hN hn
  replace hN : C.N = 9 := hN
  unfold region_every_rcregioninside1_2e7a3 at H
  refine V_run hN hn 3 2 [0, 3] [0, 1, 2] ⟨[(0, .c (.h 0)), (3, .c (.h 2))], [(0, .row kP l_1), (1, .box [.val (.string is_2)]), (2, .box [.clo 55 [1]])], 3⟩ [] (by kernel_rfl) rfl rfl ap0 ?_
  obtain ⟨r_4, h_5, H_8⟩ := of_bind H
  refine V_reg hN hn [(2, ⟨53, 3, [.c (.h 0), .c (.clo 54 [1])], [(0, .row kP l_1), (1, .box [.clo 55 [2]]), (2, .box [.val (.string is_2)])], cB r_4, [(0, .row kP l_1), (1, .box [.clo 55 [2]]), (2, .box [.val (.string is_2)])], [(0, 0), (1, 2), (2, 1)], 3⟩)] [] (calls_cons (slices_ContainsFunc_rcregionevery1_a4c35_spec K l_1 is_2 r_4 h_5) (by kernel_rfl) calls_nil) 3 [4] [0, 1] ⟨[(4, cB (!r_4))], [(0, .row kP l_1), (1, .box [.val (.string is_2)])], 3⟩ [] (by kernel_rfl) rfl rfl ap0 (by kernel_rfl) (by kernel_rfl) ?_
  have H_9 := Option.some.inj (show some (!r_4) = some r from H_8); subst H_9
  refine VL_ret ?_
  exact P_to [(4, cB (!r_4))] [(0, .row kP l_1), (1, .box [.val (.string is_2)])] [] hn (by kernel_rfl) (by kernel_rfl) rfl rfl rfl (QF_retS (by kernel_rfl) (by kernel_rfl) rfl)

theorem region_edges_spec (K : Nat) (s_1 : ByteArray) (r : Unit) (H : region_edges K s_1 = some r) : Spec Try.prog 46 0 [cS s_1] [] (.c (.clo 57 [0])) [(0, .box [.val (.string s_1)])] := by
  refine Spec_mk (fn := Try.f46) (c := (Try.f46.body).get!) Try.func46 (by kernel_rfl) rfl ?_
  intro C hN hn
  replace hN : C.N = 4 := hN
  unfold region_edges at H
  refine V_run hN hn 4 0 [2] [0] ⟨[(2, .c (.clo 57 [0]))], [(0, .box [.val (.string s_1)])], 1⟩ [] (by kernel_rfl) rfl rfl ap0 ?_
  have H_3 := Option.some.inj (show some () = some r from H); subst H_3
  refine VL_ret ?_
  exact P_to [(2, .c (.clo 57 [0]))] [(0, .box [.val (.string s_1)])] [(0, 0)] hn (by kernel_rfl) (by kernel_rfl) rfl rfl rfl (QF_retS (by kernel_rfl) (by kernel_rfl) rfl)

theorem utf_forms_spec (K : Nat) (r : (Int × Int × Int × Int × Int × Int × Int × Int × Int × Int × Int × Int)) (H : utf_forms K  = some r) : Spec Try.prog 49 0 [] [] (.agg [.val (.int .u8 r.1), .val (.int .u8 r.2.1), .val (.int .i32 r.2.2.1), .val (.int .u8 r.2.2.2.1), .val (.int .u8 r.2.2.2.2.1), .val (.int .i32 r.2.2.2.2.2.1), .val (.int .u8 r.2.2.2.2.2.2.1), .val (.int .u8 r.2.2.2.2.2.2.2.1), .val (.int .i32 r.2.2.2.2.2.2.2.2.1), .val (.int .u8 r.2.2.2.2.2.2.2.2.2.1), .val (.int .u8 r.2.2.2.2.2.2.2.2.2.2.1), .val (.int .i32 r.2.2.2.2.2.2.2.2.2.2.2)]) [] := by
  refine Spec_mk (fn := Try.f49) (c := (Try.f49.body).get!) Try.func49 (by kernel_rfl) rfl ?_
  intro C hN hn
  replace hN : C.N = 6 := hN
  unfold utf_forms at H
  refine V_run hN hn 4 0 [0] [0] ⟨[(0, .c (.h 0))], [(0, .box [.val (.int .u8 (128 : Int)), .val (.int .u8 (0 : Int)), .val (.int .i32 (0 : Int)), .val (.int .u8 (224 : Int)), .val (.int .u8 (192 : Int)), .val (.int .i32 (128 : Int)), .val (.int .u8 (240 : Int)), .val (.int .u8 (224 : Int)), .val (.int .i32 (2048 : Int)), .val (.int .u8 (248 : Int)), .val (.int .u8 (240 : Int)), .val (.int .i32 (65536 : Int))])], 1⟩ [] (by kernel_rfl) rfl rfl ap0 ?_
  have H_14 := Option.some.inj (show some ((128 : Int), (0 : Int), (0 : Int), (224 : Int), (192 : Int), (128 : Int), (240 : Int), (224 : Int), (2048 : Int), (248 : Int), (240 : Int), (65536 : Int)) = some r from H); subst H_14
  refine VL_ret ?_
  exact P_to [(0, .c (.h 0))] [(0, .box [.val (.int .u8 (128 : Int)), .val (.int .u8 (0 : Int)), .val (.int .i32 (0 : Int)), .val (.int .u8 (224 : Int)), .val (.int .u8 (192 : Int)), .val (.int .i32 (128 : Int)), .val (.int .u8 (240 : Int)), .val (.int .u8 (224 : Int)), .val (.int .i32 (2048 : Int)), .val (.int .u8 (248 : Int)), .val (.int .u8 (240 : Int)), .val (.int .i32 (65536 : Int))])] [(0, 0)] hn (by kernel_rfl) (by kernel_rfl) rfl rfl rfl (QF_retS (by kernel_rfl) (by kernel_rfl) rfl)

theorem utf_isPoint_spec (K : Nat) (r_1 : Int) (r : Bool) (H : utf_isPoint K r_1 = some r) : Spec Try.prog 67 0 [.c (.val (.int .i32 r_1))] [] (cB r) [] := by
  refine Spec_mk (fn := Try.f67) (c := (Try.f67.body).get!) Try.func67 (by kernel_rfl) rfl ?_
  intro C hN hn
  replace hN : C.N = 17 := hN
  unfold utf_isPoint at H
  refine V_run hN hn 3 0 [0] [] ⟨[(0, .c (.val (.int .i32 r_1)))], [], 0⟩ [] (by kernel_rfl) rfl rfl ap0 ?_
  rcases Bool.eq_false_or_eq_true ((decide (r_1 ≥ (0 : Int)))) with b_3 | b_3
  · have H_11 := of_t H b_3
    rcases Bool.eq_false_or_eq_true ((decide (r_1 ≤ (1114111 : Int)))) with b_4 | b_4
    · have H_13 := of_t H_11 b_4
      rcases Bool.eq_false_or_eq_true ((decide (r_1 < (55296 : Int)))) with b_5 | b_5
      · have H_15 := of_t H_13 b_5
        refine V_reg hN hn [] [(5, true), (9, true), (12, true)] calls_nil 0 [2] [] ⟨[(2, cB true)], [], 0⟩ [(decide (r_1 ≥ (0 : Int))) = true, (decide (r_1 ≤ (1114111 : Int))) = true, (decide (r_1 < (55296 : Int))) = true] (by kernel_rfl) rfl rfl (ap2 b_3 (ap2 b_4 (ap1 b_5))) (by kernel_rfl) (by kernel_rfl) ?_
        have H_17 := Option.some.inj (show some true = some r from H_15); subst H_17
        refine VL_ret ?_
        exact P_to [(2, cB true)] [] [] hn (by kernel_rfl) (by kernel_rfl) rfl rfl rfl (QF_retS (by kernel_rfl) (by kernel_rfl) rfl)
      · have H_16 := of_f H_13 b_5
        refine V_reg hN hn [] [(5, true), (9, true), (12, false)] calls_nil 0 [2] [] ⟨[(2, cB (decide (r_1 > (57343 : Int))))], [], 0⟩ [(decide (r_1 ≥ (0 : Int))) = true, (decide (r_1 ≤ (1114111 : Int))) = true, (decide (r_1 < (55296 : Int))) = false] (by kernel_rfl) rfl rfl (ap2 b_3 (ap2 b_4 (ap1 b_5))) (by kernel_rfl) (by kernel_rfl) ?_
        have H_18 := Option.some.inj (show some (decide (r_1 > (57343 : Int))) = some r from H_16); subst H_18
        refine VL_ret ?_
        exact P_to [(2, cB (decide (r_1 > (57343 : Int))))] [] [] hn (by kernel_rfl) (by kernel_rfl) rfl rfl rfl (QF_retS (by kernel_rfl) (by kernel_rfl) rfl)
    · have H_14 := of_f H_11 b_4
      refine V_reg hN hn [] [(5, true), (9, false)] calls_nil 0 [2] [] ⟨[(2, cB false)], [], 0⟩ [(decide (r_1 ≥ (0 : Int))) = true, (decide (r_1 ≤ (1114111 : Int))) = false] (by kernel_rfl) rfl rfl (ap2 b_3 (ap1 b_4)) (by kernel_rfl) (by kernel_rfl) ?_
      have H_19 := Option.some.inj (show some false = some r from H_14); subst H_19
      refine VL_ret ?_
      exact P_to [(2, cB false)] [] [] hn (by kernel_rfl) (by kernel_rfl) rfl rfl rfl (QF_retS (by kernel_rfl) (by kernel_rfl) rfl)
  · have H_12 := of_f H b_3
    refine V_reg hN hn [] [(5, false)] calls_nil 0 [2] [] ⟨[(2, cB false)], [], 0⟩ [(decide (r_1 ≥ (0 : Int))) = false] (by kernel_rfl) rfl rfl (ap1 b_3) (by kernel_rfl) (by kernel_rfl) ?_
    have H_20 := Option.some.inj (show some false = some r from H_12); subst H_20
    refine VL_ret ?_
    exact P_to [(2, cB false)] [] [] hn (by kernel_rfl) (by kernel_rfl) rfl rfl rfl (QF_retS (by kernel_rfl) (by kernel_rfl) rfl)

theorem utf_long_spec (K : Nat) (s_1 : ByteArray) (at_2 : Int) (n_3 : Int) (f_4 : Int) (f_5 : Int) (f_6 : Int) (r : (Int × Int)) (H : utf_long K s_1 at_2 n_3 f_4 f_5 f_6 = some r) : Spec Try.prog 50 0 [cS s_1, cI at_2, cI n_3, .agg [.val (.int .u8 f_4), .val (.int .u8 f_5), .val (.int .i32 f_6)]] [] (.tup [(false, [.val (.int .i32 r.1)]), (false, [.val (.int .i64 r.2)])]) [] := by
  refine Spec_mk (fn := Try.f50) (c := (Try.f50.body).get!) Try.func50 (by kernel_rfl) rfl ?_
  intro C hN hn
  replace hN : C.N = 56 := hN
  unfold utf_long at H
  refine V_run hN hn 5 0 [0, 1, 2, 7, 18] [0] ⟨[(0, cS s_1), (1, cI at_2), (2, cI n_3), (7, .c (.h 0)), (18, cB (decide ((w6 ((((ByteArray.size s_1) : Nat) : Int) - at_2)) < n_3)))], [(0, .box [.val (.int .u8 f_4), .val (.int .u8 f_5), .val (.int .i32 f_6)])], 1⟩ [] (by kernel_rfl) rfl rfl ap0 ?_
  refine VL_cond ((decide ((w6 ((((ByteArray.size s_1) : Nat) : Int) - at_2)) < n_3))) (by kernel_rfl) ?_ ?_
  · intro b_8; have H_40 := of_t H b_8
    refine V_run hN hn 2 1 [8, 9] [] ⟨[(8, .c (.val (.int .i32 (0 : Int)))), (9, cI (0 : Int))], [], 1⟩ [] (by kernel_rfl) rfl rfl ap0 ?_
    have H_42 := Option.some.inj (show some zP = some r from H_40); subst H_42
    refine VL_ret ?_
    exact P_to [(8, .c (.val (.int .i32 (0 : Int)))), (9, cI (0 : Int))] [] [] hn (by kernel_rfl) (by kernel_rfl) rfl rfl rfl (QF_retS (by kernel_rfl) (by kernel_rfl) rfl)
  · intro b_8; have H_41 := of_f H b_8
    refine V_run hN hn 2 1 [0, 1, 2, 7, 18] [0] ⟨[(0, cS s_1), (1, cI at_2), (2, cI n_3), (7, .c (.h 0)), (18, cB (decide ((w6 ((((ByteArray.size s_1) : Nat) : Int) - at_2)) < n_3)))], [(0, .box [.val (.int .u8 f_4), .val (.int .u8 f_5), .val (.int .i32 f_6)])], 1⟩ [] (by kernel_rfl) rfl rfl ap0 ?_
    obtain ⟨c_11, H_43⟩ := of_if H_41
    refine V_draw hN hn (by kernel_rfl) [] [] calls_nil 1 [0, 1, 2, 7, 10] [0] ⟨[(0, cS s_1), (1, cI at_2), (2, cI n_3), (7, .c (.h 0)), (10, .c (.val (.int .i32 (IntKind.wrap .i32 (IntKind.wrap .u8 (BitVec.toNat (BitVec.ofInt (IntKind.bits .u8) (bt s_1 at_2) &&& ~~~BitVec.ofInt (IntKind.bits .u8) f_4)))))))], [(0, .box [.val (.int .u8 f_4), .val (.int .u8 f_5), .val (.int .i32 f_6)])], 1⟩ [0 ≤ at_2, at_2 < (((ByteArray.size s_1) : Nat) : Int)] (by kernel_rfl) rfl rfl (ap2 c_11.1 (ap1 c_11.2)) (by kernel_rfl) (by kernel_rfl) ?_
    refine V_run hN hn 3 1 [0, 1, 2, 7, 10, 11] [0] ⟨[(0, cS s_1), (1, cI at_2), (2, cI n_3), (7, .c (.h 0)), (10, .c (.val (.int .i32 (IntKind.wrap .i32 (IntKind.wrap .u8 (BitVec.toNat (BitVec.ofInt (IntKind.bits .u8) (bt s_1 at_2) &&& ~~~BitVec.ofInt (IntKind.bits .u8) f_4))))))), (11, cI (1 : Int))], [(0, .box [.val (.int .u8 f_4), .val (.int .u8 f_5), .val (.int .i32 f_6)])], 1⟩ [] (by kernel_rfl) rfl rfl ap0 ?_
    obtain ⟨q_44, H_45, H_46⟩ := of_bind H_43
    refine V_cut (Y := Int) (R := ((Int × Int) ⊕ Int)) q_44 (fun y => (Sum.inr y)) (fun y => [(2, cI n_3), (7, .c (.h 0)), (10, .c (.val (.int .i32 y)))]) (fun y => [(0, .box [.val (.int .u8 f_4), .val (.int .u8 f_5), .val (.int .i32 f_6)])]) ?_ ?_
    · skip
      refine VL_block ?_
      refine V_to [(0, cS s_1), (1, cI at_2), (2, cI n_3), (7, .c (.h 0)), (10, .c (.val (.int .i32 (IntKind.wrap .i32 (IntKind.wrap .u8 (BitVec.toNat (BitVec.ofInt (IntKind.bits .u8) (bt s_1 at_2) &&& ~~~BitVec.ofInt (IntKind.bits .u8) f_4))))))), (11, cI (1 : Int))] [(0, .box [.val (.int .u8 f_4), .val (.int .u8 f_5), .val (.int .i32 f_6)])] [(0, 0)] hn (by kernel_rfl) (by kernel_rfl) rfl rfl rfl ?_
      refine VL_loop (X := (Int × Int)) (fun x => [(0, cS s_1), (1, cI at_2), (2, cI n_3), (7, .c (.h 0)), (10, .c (.val (.int .i32 x.1))), (11, cI x.2)]) (fun x => [(0, .box [.val (.int .u8 f_4), .val (.int .u8 f_5), .val (.int .i32 f_6)])]) (fun k x => utf_long.l0 K n_3 at_2 s_1 k x.1 x.2 = some q_44) K ((IntKind.wrap .i32 (IntKind.wrap .u8 (BitVec.toNat (BitVec.ofInt (IntKind.bits .u8) (bt s_1 at_2) &&& ~~~BitVec.ofInt (IntKind.bits .u8) f_4)))), (1 : Int)) H_45 (fun _ h => no_none h) ?_
      intro k_15 x_15 H_48
      obtain ⟨r_13, i_14⟩ := x_15
      have H_49 : utf_long.l0 K n_3 at_2 s_1 (k_15 + 1) r_13 i_14 = some q_44 := H_48
      rw [utf_long.l0] at H_49
      refine V_run hN hn 3 1 [0, 1, 2, 7, 10, 11, 28] [0] ⟨[(0, cS s_1), (1, cI at_2), (2, cI n_3), (7, .c (.h 0)), (10, .c (.val (.int .i32 r_13))), (11, cI i_14), (28, cB (decide (i_14 < n_3)))], [(0, .box [.val (.int .u8 f_4), .val (.int .u8 f_5), .val (.int .i32 f_6)])], 1⟩ [] (by kernel_rfl) rfl rfl ap0 ?_
      refine VL_cond ((decide (i_14 < n_3))) (by kernel_rfl) ?_ ?_
      · intro b_17; have H_50 := of_t H_49 b_17
        refine V_run hN hn 2 1 [0, 1, 2, 7, 10, 11, 28] [0] ⟨[(0, cS s_1), (1, cI at_2), (2, cI n_3), (7, .c (.h 0)), (10, .c (.val (.int .i32 r_13))), (11, cI i_14), (28, cB (decide (i_14 < n_3)))], [(0, .box [.val (.int .u8 f_4), .val (.int .u8 f_5), .val (.int .i32 f_6)])], 1⟩ [] (by kernel_rfl) rfl rfl ap0 ?_
        refine VL_block ?_
        obtain ⟨c_19, H_52⟩ := of_if H_50
        refine V_run hN hn 5 1 [0, 1, 2, 7, 10, 11, 12, 38] [0] ⟨[(0, cS s_1), (1, cI at_2), (2, cI n_3), (7, .c (.h 0)), (10, .c (.val (.int .i32 r_13))), (11, cI i_14), (12, .c (.val (.int .u8 (bt s_1 (w6 (at_2 + i_14)))))), (38, cB ((IntKind.wrap .u8 (BitVec.toNat (BitVec.ofInt (IntKind.bits .u8) (bt s_1 (w6 (at_2 + i_14))) &&& BitVec.ofInt (IntKind.bits .u8) (192 : Int)))) != (128 : Int)))], [(0, .box [.val (.int .u8 f_4), .val (.int .u8 f_5), .val (.int .i32 f_6)])], 1⟩ [0 ≤ (w6 (at_2 + i_14)), (w6 (at_2 + i_14)) < (((ByteArray.size s_1) : Nat) : Int)] (by kernel_rfl) rfl rfl (ap2 c_19.1 (ap1 c_19.2)) ?_
        refine VL_cond (((IntKind.wrap .u8 (BitVec.toNat (BitVec.ofInt (IntKind.bits .u8) (bt s_1 (w6 (at_2 + i_14))) &&& BitVec.ofInt (IntKind.bits .u8) (192 : Int)))) != (128 : Int))) (by kernel_rfl) ?_ ?_
        · intro b_20; have H_53 := of_t H_52 b_20
          refine V_run hN hn 2 1 [8, 9] [] ⟨[(8, .c (.val (.int .i32 (0 : Int)))), (9, cI (0 : Int))], [], 1⟩ [] (by kernel_rfl) rfl rfl ap0 ?_
          have H_55 := Option.some.inj (show some (Sum.inl zP) = some q_44 from H_53); subst H_55
          have H_56 := Option.some.inj (show some zP = some r from H_46); subst H_56
          refine VL_ret ?_
          refine QB_ret ?_
          refine QL_ret ?_
          refine QB_ret ?_
          refine QP_ret ?_
          exact P_to [(8, .c (.val (.int .i32 (0 : Int)))), (9, cI (0 : Int))] [] [] hn (by kernel_rfl) (by kernel_rfl) rfl rfl rfl (QF_retS (by kernel_rfl) (by kernel_rfl) rfl)
        · intro b_20; have H_54 := of_f H_52 b_20
          refine V_run hN hn 2 1 [0, 1, 2, 7, 10, 11] [0] ⟨[(0, cS s_1), (1, cI at_2), (2, cI n_3), (7, .c (.h 0)), (10, .c (.val (.int .i32 (IntKind.wrap .i32 (BitVec.toNat (BitVec.ofInt (IntKind.bits .i32) (IntKind.wrap .i32 (r_13 * (64 : Int))) ||| BitVec.ofInt (IntKind.bits .i32) (IntKind.wrap .i32 (IntKind.wrap .u8 (BitVec.toNat (BitVec.ofInt (IntKind.bits .u8) (bt s_1 (w6 (at_2 + i_14))) &&& ~~~BitVec.ofInt (IntKind.bits .u8) (192 : Int))))))))))), (11, cI i_14)], [(0, .box [.val (.int .u8 f_4), .val (.int .u8 f_5), .val (.int .i32 f_6)])], 1⟩ [(0 : Int) ≤ (6 : Int)] (by kernel_rfl) rfl rfl (ap1 (by decide)) ?_
          refine VL_nil (QB_end ?_)
          refine V_run hN hn 1 1 [0, 1, 2, 7, 10, 11] [0] ⟨[(0, cS s_1), (1, cI at_2), (2, cI n_3), (7, .c (.h 0)), (10, .c (.val (.int .i32 (IntKind.wrap .i32 (BitVec.toNat (BitVec.ofInt (IntKind.bits .i32) (IntKind.wrap .i32 (r_13 * (64 : Int))) ||| BitVec.ofInt (IntKind.bits .i32) (IntKind.wrap .i32 (IntKind.wrap .u8 (BitVec.toNat (BitVec.ofInt (IntKind.bits .u8) (bt s_1 (w6 (at_2 + i_14))) &&& ~~~BitVec.ofInt (IntKind.bits .u8) (192 : Int))))))))))), (11, cI (w6 (i_14 + (1 : Int))))], [(0, .box [.val (.int .u8 f_4), .val (.int .u8 f_5), .val (.int .i32 f_6)])], 1⟩ [] (by kernel_rfl) rfl rfl ap0 ?_
          refine VL_nil ?_
          exact V_roundEnd ((IntKind.wrap .i32 (BitVec.toNat (BitVec.ofInt (IntKind.bits .i32) (IntKind.wrap .i32 (r_13 * (64 : Int))) ||| BitVec.ofInt (IntKind.bits .i32) (IntKind.wrap .i32 (IntKind.wrap .u8 (BitVec.toNat (BitVec.ofInt (IntKind.bits .u8) (bt s_1 (w6 (at_2 + i_14))) &&& ~~~BitVec.ofInt (IntKind.bits .u8) (192 : Int)))))))), (w6 (i_14 + (1 : Int)))) H_54 [(0, 0)] hn (by kernel_rfl) (by kernel_rfl) rfl rfl rfl
      · intro b_17; have H_51 := of_f H_49 b_17
        refine VL_exit ?_
        refine QL_exit ?_
        refine QB_here ?_
        have H_57 := Option.some.inj (show some (Sum.inr r_13) = some q_44 from H_51); subst H_57
        refine VL_nil ?_
        exact QP_end r_13 rfl [(0, 0)] hn (by kernel_rfl) (by kernel_rfl) rfl rfl rfl
    · intro y_47 hy; subst hy
      skip
      skip
      refine V_run hN hn 2 1 [2, 7, 10] [0] ⟨[(2, cI n_3), (7, .c (.h 0)), (10, .c (.val (.int .i32 y_47)))], [(0, .box [.val (.int .u8 f_4), .val (.int .u8 f_5), .val (.int .i32 f_6)])], 1⟩ [] (by kernel_rfl) rfl rfl ap0 ?_
      obtain ⟨q_58, H_59, H_60⟩ := of_bind H_46
      refine V_cut (Y := Bool) (R := Bool) q_58 (fun y => y) (fun y => [(2, cI n_3), (10, .c (.val (.int .i32 y_47))), (53, cB y)]) (fun y => []) ?_ ?_
      · skip
        rcases Bool.eq_false_or_eq_true ((decide (y_47 < f_6))) with b_26 | b_26
        · have H_62 := of_t H_59 b_26
          refine V_reg hN hn [] [(49, true)] calls_nil 1 [2, 10, 53] [] ⟨[(2, cI n_3), (10, .c (.val (.int .i32 y_47))), (53, cB true)], [], 1⟩ [(decide (y_47 < f_6)) = true] (by kernel_rfl) rfl rfl (ap1 b_26) (by kernel_rfl) (by kernel_rfl) ?_
          have H_64 := Option.some.inj (show some true = some q_58 from H_62); subst H_64
          refine VL_nil ?_
          exact QP_end true rfl [] hn (by kernel_rfl) (by kernel_rfl) rfl rfl rfl
        · have H_63 := of_f H_59 b_26
          obtain ⟨r_28, h_29, H_65⟩ := of_bind H_63
          refine V_reg hN hn [(6, ⟨67, 0, [.c (.val (.int .i32 y_47))], [], cB r_28, [], [], 1⟩)] [(49, false)] (calls_cons (utf_isPoint_spec K y_47 r_28 h_29) (by kernel_rfl) calls_nil) 1 [2, 10, 53] [] ⟨[(2, cI n_3), (10, .c (.val (.int .i32 y_47))), (53, cB (!r_28))], [], 1⟩ [(decide (y_47 < f_6)) = false] (by kernel_rfl) rfl rfl (ap1 b_26) (by kernel_rfl) (by kernel_rfl) ?_
          have H_66 := Option.some.inj (show some (!r_28) = some q_58 from H_65); subst H_66
          refine VL_nil ?_
          exact QP_end (!r_28) rfl [] hn (by kernel_rfl) (by kernel_rfl) rfl rfl rfl
      · intro y_61 hy; subst hy
        skip
        skip
        refine VL_cond (y_61) (by kernel_rfl) ?_ ?_
        · intro b_32; have H_67 := of_t H_60 b_32
          refine V_run hN hn 2 1 [8, 9] [] ⟨[(8, .c (.val (.int .i32 (0 : Int)))), (9, cI (0 : Int))], [], 1⟩ [] (by kernel_rfl) rfl rfl ap0 ?_
          have H_69 := Option.some.inj (show some zP = some r from H_67); subst H_69
          refine VL_ret ?_
          exact P_to [(8, .c (.val (.int .i32 (0 : Int)))), (9, cI (0 : Int))] [] [] hn (by kernel_rfl) (by kernel_rfl) rfl rfl rfl (QF_retS (by kernel_rfl) (by kernel_rfl) rfl)
        · intro b_32; have H_68 := of_f H_60 b_32
          refine V_run hN hn 3 1 [8, 9] [] ⟨[(8, .c (.val (.int .i32 y_47))), (9, cI n_3)], [], 1⟩ [] (by kernel_rfl) rfl rfl ap0 ?_
          have H_70 := Option.some.inj (show some (y_47, n_3) = some r from H_68); subst H_70
          refine VL_ret ?_
          exact P_to [(8, .c (.val (.int .i32 y_47))), (9, cI n_3)] [] [] hn (by kernel_rfl) (by kernel_rfl) rfl rfl rfl (QF_retS (by kernel_rfl) (by kernel_rfl) rfl)

theorem utf_point_spec (K : Nat) (s_1 : ByteArray) (at_2 : Int) (r : (Int × Int)) (H : utf_point K s_1 at_2 = some r) : Spec Try.prog 40 0 [cS s_1, cI at_2] [] (.tup [(false, [.val (.int .i32 r.1)]), (false, [.val (.int .i64 r.2)])]) [] := by
  refine Spec_mk (fn := Try.f40) (c := (Try.f40.body).get!) Try.func40 (by kernel_rfl) rfl ?_
  intro C hN hn
  replace hN : C.N = 39 := hN
  unfold utf_point at H
  refine V_run hN hn 4 0 [0, 1] [] ⟨[(0, cS s_1), (1, cI at_2)], [], 0⟩ [] (by kernel_rfl) rfl rfl ap0 ?_
  obtain ⟨q_32, H_33, H_34⟩ := of_bind H
  refine V_cut (Y := Bool) (R := Bool) q_32 (fun y => y) (fun y => [(0, cS s_1), (1, cI at_2), (15, cB y)]) (fun y => []) ?_ ?_
  · skip
    rcases Bool.eq_false_or_eq_true ((decide (at_2 < (0 : Int)))) with b_4 | b_4
    · have H_36 := of_t H_33 b_4
      refine V_reg hN hn [] [(10, true)] calls_nil 0 [0, 1, 15] [] ⟨[(0, cS s_1), (1, cI at_2), (15, cB true)], [], 0⟩ [(decide (at_2 < (0 : Int))) = true] (by kernel_rfl) rfl rfl (ap1 b_4) (by kernel_rfl) (by kernel_rfl) ?_
      have H_38 := Option.some.inj (show some true = some q_32 from H_36); subst H_38
      refine VL_nil ?_
      exact QP_end true rfl [] hn (by kernel_rfl) (by kernel_rfl) rfl rfl rfl
    · have H_37 := of_f H_33 b_4
      refine V_reg hN hn [] [(10, false)] calls_nil 0 [0, 1, 15] [] ⟨[(0, cS s_1), (1, cI at_2), (15, cB (decide (at_2 ≥ (((ByteArray.size s_1) : Nat) : Int))))], [], 0⟩ [(decide (at_2 < (0 : Int))) = false] (by kernel_rfl) rfl rfl (ap1 b_4) (by kernel_rfl) (by kernel_rfl) ?_
      have H_39 := Option.some.inj (show some (decide (at_2 ≥ (((ByteArray.size s_1) : Nat) : Int))) = some q_32 from H_37); subst H_39
      refine VL_nil ?_
      exact QP_end (decide (at_2 ≥ (((ByteArray.size s_1) : Nat) : Int))) rfl [] hn (by kernel_rfl) (by kernel_rfl) rfl rfl rfl
  · intro y_35 hy; subst hy
    skip
    skip
    refine VL_cond (y_35) (by kernel_rfl) ?_ ?_
    · intro b_8; have H_40 := of_t H_34 b_8
      refine V_run hN hn 2 0 [4, 5] [] ⟨[(4, .c (.val (.int .i32 (0 : Int)))), (5, cI (0 : Int))], [], 0⟩ [] (by kernel_rfl) rfl rfl ap0 ?_
      have H_42 := Option.some.inj (show some zP = some r from H_40); subst H_42
      refine VL_ret ?_
      exact P_to [(4, .c (.val (.int .i32 (0 : Int)))), (5, cI (0 : Int))] [] [] hn (by kernel_rfl) (by kernel_rfl) rfl rfl rfl (QF_retS (by kernel_rfl) (by kernel_rfl) rfl)
    · intro b_8; have H_41 := of_f H_34 b_8
      refine V_run hN hn 3 0 [0, 1, 15] [] ⟨[(0, cS s_1), (1, cI at_2), (15, cB y_35)], [], 0⟩ [] (by kernel_rfl) rfl rfl ap0 ?_
      obtain ⟨r_11, h_12, H_43⟩ := of_bind H_41
      refine V_reg hN hn [(0, ⟨49, 0, [], [], .agg [.val (.int .u8 r_11.1), .val (.int .u8 r_11.2.1), .val (.int .i32 r_11.2.2.1), .val (.int .u8 r_11.2.2.2.1), .val (.int .u8 r_11.2.2.2.2.1), .val (.int .i32 r_11.2.2.2.2.2.1), .val (.int .u8 r_11.2.2.2.2.2.2.1), .val (.int .u8 r_11.2.2.2.2.2.2.2.1), .val (.int .i32 r_11.2.2.2.2.2.2.2.2.1), .val (.int .u8 r_11.2.2.2.2.2.2.2.2.2.1), .val (.int .u8 r_11.2.2.2.2.2.2.2.2.2.2.1), .val (.int .i32 r_11.2.2.2.2.2.2.2.2.2.2.2)], [], [], 0⟩)] [] (calls_cons (utf_forms_spec K  r_11 h_12) (by kernel_rfl) calls_nil) 0 [0, 1, 16, 17] [] ⟨[(0, cS s_1), (1, cI at_2), (16, .agg [.val (.int .u8 r_11.1), .val (.int .u8 r_11.2.1), .val (.int .i32 r_11.2.2.1), .val (.int .u8 r_11.2.2.2.1), .val (.int .u8 r_11.2.2.2.2.1), .val (.int .i32 r_11.2.2.2.2.2.1), .val (.int .u8 r_11.2.2.2.2.2.2.1), .val (.int .u8 r_11.2.2.2.2.2.2.2.1), .val (.int .i32 r_11.2.2.2.2.2.2.2.2.1), .val (.int .u8 r_11.2.2.2.2.2.2.2.2.2.1), .val (.int .u8 r_11.2.2.2.2.2.2.2.2.2.2.1), .val (.int .i32 r_11.2.2.2.2.2.2.2.2.2.2.2)]), (17, cI (0 : Int))], [], 0⟩ [] (by kernel_rfl) rfl rfl ap0 (by kernel_rfl) (by kernel_rfl) ?_
      refine VL_block ?_
      refine V_to [(0, cS s_1), (1, cI at_2), (16, .agg [.val (.int .u8 r_11.1), .val (.int .u8 r_11.2.1), .val (.int .i32 r_11.2.2.1), .val (.int .u8 r_11.2.2.2.1), .val (.int .u8 r_11.2.2.2.2.1), .val (.int .i32 r_11.2.2.2.2.2.1), .val (.int .u8 r_11.2.2.2.2.2.2.1), .val (.int .u8 r_11.2.2.2.2.2.2.2.1), .val (.int .i32 r_11.2.2.2.2.2.2.2.2.1), .val (.int .u8 r_11.2.2.2.2.2.2.2.2.2.1), .val (.int .u8 r_11.2.2.2.2.2.2.2.2.2.2.1), .val (.int .i32 r_11.2.2.2.2.2.2.2.2.2.2.2)]), (17, cI (0 : Int))] [] [] hn (by kernel_rfl) (by kernel_rfl) rfl rfl rfl ?_
      refine VL_loop (X := Int) (fun x => [(0, cS s_1), (1, cI at_2), (16, .agg [.val (.int .u8 r_11.1), .val (.int .u8 r_11.2.1), .val (.int .i32 r_11.2.2.1), .val (.int .u8 r_11.2.2.2.1), .val (.int .u8 r_11.2.2.2.2.1), .val (.int .i32 r_11.2.2.2.2.2.1), .val (.int .u8 r_11.2.2.2.2.2.2.1), .val (.int .u8 r_11.2.2.2.2.2.2.2.1), .val (.int .i32 r_11.2.2.2.2.2.2.2.2.1), .val (.int .u8 r_11.2.2.2.2.2.2.2.2.2.1), .val (.int .u8 r_11.2.2.2.2.2.2.2.2.2.2.1), .val (.int .i32 r_11.2.2.2.2.2.2.2.2.2.2.2)]), (17, cI x)]) (fun x => []) (fun k x => utf_point.l0 K at_2 s_1 r_11 k x = some r) K (0 : Int) H_43 (fun _ h => no_none h) ?_
      intro k_15 t_14 H_44
      have H_45 : utf_point.l0 K at_2 s_1 r_11 (k_15 + 1) t_14 = some r := H_44
      rw [utf_point.l0] at H_45
      refine V_run hN hn 3 0 [0, 1, 16, 17, 18] [] ⟨[(0, cS s_1), (1, cI at_2), (16, .agg [.val (.int .u8 r_11.1), .val (.int .u8 r_11.2.1), .val (.int .i32 r_11.2.2.1), .val (.int .u8 r_11.2.2.2.1), .val (.int .u8 r_11.2.2.2.2.1), .val (.int .i32 r_11.2.2.2.2.2.1), .val (.int .u8 r_11.2.2.2.2.2.2.1), .val (.int .u8 r_11.2.2.2.2.2.2.2.1), .val (.int .i32 r_11.2.2.2.2.2.2.2.2.1), .val (.int .u8 r_11.2.2.2.2.2.2.2.2.2.1), .val (.int .u8 r_11.2.2.2.2.2.2.2.2.2.2.1), .val (.int .i32 r_11.2.2.2.2.2.2.2.2.2.2.2)]), (17, cI t_14), (18, cB (decide (t_14 < (4 : Int))))], [], 0⟩ [] (by kernel_rfl) rfl rfl ap0 ?_
      refine VL_cond ((decide (t_14 < (4 : Int)))) (by kernel_rfl) ?_ ?_
      · intro b_17; have H_46 := of_t H_45 b_17
        refine V_run hN hn 2 0 [0, 1, 16, 17, 18] [] ⟨[(0, cS s_1), (1, cI at_2), (16, .agg [.val (.int .u8 r_11.1), .val (.int .u8 r_11.2.1), .val (.int .i32 r_11.2.2.1), .val (.int .u8 r_11.2.2.2.1), .val (.int .u8 r_11.2.2.2.2.1), .val (.int .i32 r_11.2.2.2.2.2.1), .val (.int .u8 r_11.2.2.2.2.2.2.1), .val (.int .u8 r_11.2.2.2.2.2.2.2.1), .val (.int .i32 r_11.2.2.2.2.2.2.2.2.1), .val (.int .u8 r_11.2.2.2.2.2.2.2.2.2.1), .val (.int .u8 r_11.2.2.2.2.2.2.2.2.2.2.1), .val (.int .i32 r_11.2.2.2.2.2.2.2.2.2.2.2)]), (17, cI t_14), (18, cB (decide (t_14 < (4 : Int))))], [], 0⟩ [] (by kernel_rfl) rfl rfl ap0 ?_
        refine VL_block ?_
        obtain ⟨c_19, H_48⟩ := of_if H_46
        refine V_run hN hn 3 0 [0, 1, 6, 7, 16, 17] [0] ⟨[(0, cS s_1), (1, cI at_2), (6, cI t_14), (7, .c (.h 0)), (16, .agg [.val (.int .u8 r_11.1), .val (.int .u8 r_11.2.1), .val (.int .i32 r_11.2.2.1), .val (.int .u8 r_11.2.2.2.1), .val (.int .u8 r_11.2.2.2.2.1), .val (.int .i32 r_11.2.2.2.2.2.1), .val (.int .u8 r_11.2.2.2.2.2.2.1), .val (.int .u8 r_11.2.2.2.2.2.2.2.1), .val (.int .i32 r_11.2.2.2.2.2.2.2.2.1), .val (.int .u8 r_11.2.2.2.2.2.2.2.2.2.1), .val (.int .u8 r_11.2.2.2.2.2.2.2.2.2.2.1), .val (.int .i32 r_11.2.2.2.2.2.2.2.2.2.2.2)]), (17, cI t_14)], [(0, .box [.val (.int .u8 (List.getD ([(r_11.1, (r_11.2.1, r_11.2.2.1)), (r_11.2.2.2.1, (r_11.2.2.2.2.1, r_11.2.2.2.2.2.1)), (r_11.2.2.2.2.2.2.1, (r_11.2.2.2.2.2.2.2.1, r_11.2.2.2.2.2.2.2.2.1)), (r_11.2.2.2.2.2.2.2.2.2.1, (r_11.2.2.2.2.2.2.2.2.2.2.1, r_11.2.2.2.2.2.2.2.2.2.2.2))] : List (Int × (Int × Int))) (Int.toNat t_14) zS).1), .val (.int .u8 (List.getD ([(r_11.1, (r_11.2.1, r_11.2.2.1)), (r_11.2.2.2.1, (r_11.2.2.2.2.1, r_11.2.2.2.2.2.1)), (r_11.2.2.2.2.2.2.1, (r_11.2.2.2.2.2.2.2.1, r_11.2.2.2.2.2.2.2.2.1)), (r_11.2.2.2.2.2.2.2.2.2.1, (r_11.2.2.2.2.2.2.2.2.2.2.1, r_11.2.2.2.2.2.2.2.2.2.2.2))] : List (Int × (Int × Int))) (Int.toNat t_14) zS).2.1), .val (.int .i32 (List.getD ([(r_11.1, (r_11.2.1, r_11.2.2.1)), (r_11.2.2.2.1, (r_11.2.2.2.2.1, r_11.2.2.2.2.2.1)), (r_11.2.2.2.2.2.2.1, (r_11.2.2.2.2.2.2.2.1, r_11.2.2.2.2.2.2.2.2.1)), (r_11.2.2.2.2.2.2.2.2.2.1, (r_11.2.2.2.2.2.2.2.2.2.2.1, r_11.2.2.2.2.2.2.2.2.2.2.2))] : List (Int × (Int × Int))) (Int.toNat t_14) zS).2.2)])], 1⟩ [0 ≤ t_14, t_14 < ((4 : Nat) : Int)] (by kernel_rfl) rfl rfl (ap2 c_19.1 (ap1 c_19.2)) ?_
        obtain ⟨c_20, H_49⟩ := of_if H_48
        refine V_draw hN hn (by kernel_rfl) [] [] calls_nil 1 [0, 1, 6, 7, 16, 17, 29] [0] ⟨[(0, cS s_1), (1, cI at_2), (6, cI t_14), (7, .c (.h 0)), (16, .agg [.val (.int .u8 r_11.1), .val (.int .u8 r_11.2.1), .val (.int .i32 r_11.2.2.1), .val (.int .u8 r_11.2.2.2.1), .val (.int .u8 r_11.2.2.2.2.1), .val (.int .i32 r_11.2.2.2.2.2.1), .val (.int .u8 r_11.2.2.2.2.2.2.1), .val (.int .u8 r_11.2.2.2.2.2.2.2.1), .val (.int .i32 r_11.2.2.2.2.2.2.2.2.1), .val (.int .u8 r_11.2.2.2.2.2.2.2.2.2.1), .val (.int .u8 r_11.2.2.2.2.2.2.2.2.2.2.1), .val (.int .i32 r_11.2.2.2.2.2.2.2.2.2.2.2)]), (17, cI t_14), (29, cB ((IntKind.wrap .u8 (BitVec.toNat (BitVec.ofInt (IntKind.bits .u8) (bt s_1 at_2) &&& BitVec.ofInt (IntKind.bits .u8) (List.getD ([(r_11.1, (r_11.2.1, r_11.2.2.1)), (r_11.2.2.2.1, (r_11.2.2.2.2.1, r_11.2.2.2.2.2.1)), (r_11.2.2.2.2.2.2.1, (r_11.2.2.2.2.2.2.2.1, r_11.2.2.2.2.2.2.2.2.1)), (r_11.2.2.2.2.2.2.2.2.2.1, (r_11.2.2.2.2.2.2.2.2.2.2.1, r_11.2.2.2.2.2.2.2.2.2.2.2))] : List (Int × (Int × Int))) (Int.toNat t_14) zS).1))) == (List.getD ([(r_11.1, (r_11.2.1, r_11.2.2.1)), (r_11.2.2.2.1, (r_11.2.2.2.2.1, r_11.2.2.2.2.2.1)), (r_11.2.2.2.2.2.2.1, (r_11.2.2.2.2.2.2.2.1, r_11.2.2.2.2.2.2.2.2.1)), (r_11.2.2.2.2.2.2.2.2.2.1, (r_11.2.2.2.2.2.2.2.2.2.2.1, r_11.2.2.2.2.2.2.2.2.2.2.2))] : List (Int × (Int × Int))) (Int.toNat t_14) zS).2.1))], [(0, .box [.val (.int .u8 (List.getD ([(r_11.1, (r_11.2.1, r_11.2.2.1)), (r_11.2.2.2.1, (r_11.2.2.2.2.1, r_11.2.2.2.2.2.1)), (r_11.2.2.2.2.2.2.1, (r_11.2.2.2.2.2.2.2.1, r_11.2.2.2.2.2.2.2.2.1)), (r_11.2.2.2.2.2.2.2.2.2.1, (r_11.2.2.2.2.2.2.2.2.2.2.1, r_11.2.2.2.2.2.2.2.2.2.2.2))] : List (Int × (Int × Int))) (Int.toNat t_14) zS).1), .val (.int .u8 (List.getD ([(r_11.1, (r_11.2.1, r_11.2.2.1)), (r_11.2.2.2.1, (r_11.2.2.2.2.1, r_11.2.2.2.2.2.1)), (r_11.2.2.2.2.2.2.1, (r_11.2.2.2.2.2.2.2.1, r_11.2.2.2.2.2.2.2.2.1)), (r_11.2.2.2.2.2.2.2.2.2.1, (r_11.2.2.2.2.2.2.2.2.2.2.1, r_11.2.2.2.2.2.2.2.2.2.2.2))] : List (Int × (Int × Int))) (Int.toNat t_14) zS).2.1), .val (.int .i32 (List.getD ([(r_11.1, (r_11.2.1, r_11.2.2.1)), (r_11.2.2.2.1, (r_11.2.2.2.2.1, r_11.2.2.2.2.2.1)), (r_11.2.2.2.2.2.2.1, (r_11.2.2.2.2.2.2.2.1, r_11.2.2.2.2.2.2.2.2.1)), (r_11.2.2.2.2.2.2.2.2.2.1, (r_11.2.2.2.2.2.2.2.2.2.2.1, r_11.2.2.2.2.2.2.2.2.2.2.2))] : List (Int × (Int × Int))) (Int.toNat t_14) zS).2.2)])], 1⟩ [0 ≤ at_2, at_2 < (((ByteArray.size s_1) : Nat) : Int)] (by kernel_rfl) rfl rfl (ap2 c_20.1 (ap1 c_20.2)) (by kernel_rfl) (by kernel_rfl) ?_
        refine VL_cond (((IntKind.wrap .u8 (BitVec.toNat (BitVec.ofInt (IntKind.bits .u8) (bt s_1 at_2) &&& BitVec.ofInt (IntKind.bits .u8) (List.getD ([(r_11.1, (r_11.2.1, r_11.2.2.1)), (r_11.2.2.2.1, (r_11.2.2.2.2.1, r_11.2.2.2.2.2.1)), (r_11.2.2.2.2.2.2.1, (r_11.2.2.2.2.2.2.2.1, r_11.2.2.2.2.2.2.2.2.1)), (r_11.2.2.2.2.2.2.2.2.2.1, (r_11.2.2.2.2.2.2.2.2.2.2.1, r_11.2.2.2.2.2.2.2.2.2.2.2))] : List (Int × (Int × Int))) (Int.toNat t_14) zS).1))) == (List.getD ([(r_11.1, (r_11.2.1, r_11.2.2.1)), (r_11.2.2.2.1, (r_11.2.2.2.2.1, r_11.2.2.2.2.2.1)), (r_11.2.2.2.2.2.2.1, (r_11.2.2.2.2.2.2.2.1, r_11.2.2.2.2.2.2.2.2.1)), (r_11.2.2.2.2.2.2.2.2.2.1, (r_11.2.2.2.2.2.2.2.2.2.2.1, r_11.2.2.2.2.2.2.2.2.2.2.2))] : List (Int × (Int × Int))) (Int.toNat t_14) zS).2.1)) (by kernel_rfl) ?_ ?_
        · intro b_21; have H_50 := of_t H_49 b_21
          refine V_run hN hn 1 1 [0, 1, 6, 7, 16, 17, 29] [0] ⟨[(0, cS s_1), (1, cI at_2), (6, cI t_14), (7, .c (.h 0)), (16, .agg [.val (.int .u8 r_11.1), .val (.int .u8 r_11.2.1), .val (.int .i32 r_11.2.2.1), .val (.int .u8 r_11.2.2.2.1), .val (.int .u8 r_11.2.2.2.2.1), .val (.int .i32 r_11.2.2.2.2.2.1), .val (.int .u8 r_11.2.2.2.2.2.2.1), .val (.int .u8 r_11.2.2.2.2.2.2.2.1), .val (.int .i32 r_11.2.2.2.2.2.2.2.2.1), .val (.int .u8 r_11.2.2.2.2.2.2.2.2.2.1), .val (.int .u8 r_11.2.2.2.2.2.2.2.2.2.2.1), .val (.int .i32 r_11.2.2.2.2.2.2.2.2.2.2.2)]), (17, cI t_14), (29, cB ((IntKind.wrap .u8 (BitVec.toNat (BitVec.ofInt (IntKind.bits .u8) (bt s_1 at_2) &&& BitVec.ofInt (IntKind.bits .u8) (List.getD ([(r_11.1, (r_11.2.1, r_11.2.2.1)), (r_11.2.2.2.1, (r_11.2.2.2.2.1, r_11.2.2.2.2.2.1)), (r_11.2.2.2.2.2.2.1, (r_11.2.2.2.2.2.2.2.1, r_11.2.2.2.2.2.2.2.2.1)), (r_11.2.2.2.2.2.2.2.2.2.1, (r_11.2.2.2.2.2.2.2.2.2.2.1, r_11.2.2.2.2.2.2.2.2.2.2.2))] : List (Int × (Int × Int))) (Int.toNat t_14) zS).1))) == (List.getD ([(r_11.1, (r_11.2.1, r_11.2.2.1)), (r_11.2.2.2.1, (r_11.2.2.2.2.1, r_11.2.2.2.2.2.1)), (r_11.2.2.2.2.2.2.1, (r_11.2.2.2.2.2.2.2.1, r_11.2.2.2.2.2.2.2.2.1)), (r_11.2.2.2.2.2.2.2.2.2.1, (r_11.2.2.2.2.2.2.2.2.2.2.1, r_11.2.2.2.2.2.2.2.2.2.2.2))] : List (Int × (Int × Int))) (Int.toNat t_14) zS).2.1))], [(0, .box [.val (.int .u8 (List.getD ([(r_11.1, (r_11.2.1, r_11.2.2.1)), (r_11.2.2.2.1, (r_11.2.2.2.2.1, r_11.2.2.2.2.2.1)), (r_11.2.2.2.2.2.2.1, (r_11.2.2.2.2.2.2.2.1, r_11.2.2.2.2.2.2.2.2.1)), (r_11.2.2.2.2.2.2.2.2.2.1, (r_11.2.2.2.2.2.2.2.2.2.2.1, r_11.2.2.2.2.2.2.2.2.2.2.2))] : List (Int × (Int × Int))) (Int.toNat t_14) zS).1), .val (.int .u8 (List.getD ([(r_11.1, (r_11.2.1, r_11.2.2.1)), (r_11.2.2.2.1, (r_11.2.2.2.2.1, r_11.2.2.2.2.2.1)), (r_11.2.2.2.2.2.2.1, (r_11.2.2.2.2.2.2.2.1, r_11.2.2.2.2.2.2.2.2.1)), (r_11.2.2.2.2.2.2.2.2.2.1, (r_11.2.2.2.2.2.2.2.2.2.2.1, r_11.2.2.2.2.2.2.2.2.2.2.2))] : List (Int × (Int × Int))) (Int.toNat t_14) zS).2.1), .val (.int .i32 (List.getD ([(r_11.1, (r_11.2.1, r_11.2.2.1)), (r_11.2.2.2.1, (r_11.2.2.2.2.1, r_11.2.2.2.2.2.1)), (r_11.2.2.2.2.2.2.1, (r_11.2.2.2.2.2.2.2.1, r_11.2.2.2.2.2.2.2.2.1)), (r_11.2.2.2.2.2.2.2.2.2.1, (r_11.2.2.2.2.2.2.2.2.2.2.1, r_11.2.2.2.2.2.2.2.2.2.2.2))] : List (Int × (Int × Int))) (Int.toNat t_14) zS).2.2)])], 1⟩ [] (by kernel_rfl) rfl rfl ap0 ?_
          obtain ⟨r_23, h_24, H_52⟩ := of_bind H_50
          refine V_reg hN hn [(5, ⟨50, 0, [cS s_1, cI at_2, cI (w6 (t_14 + (1 : Int))), .agg [.val (.int .u8 (List.getD ([(r_11.1, (r_11.2.1, r_11.2.2.1)), (r_11.2.2.2.1, (r_11.2.2.2.2.1, r_11.2.2.2.2.2.1)), (r_11.2.2.2.2.2.2.1, (r_11.2.2.2.2.2.2.2.1, r_11.2.2.2.2.2.2.2.2.1)), (r_11.2.2.2.2.2.2.2.2.2.1, (r_11.2.2.2.2.2.2.2.2.2.2.1, r_11.2.2.2.2.2.2.2.2.2.2.2))] : List (Int × (Int × Int))) (Int.toNat t_14) zS).1), .val (.int .u8 (List.getD ([(r_11.1, (r_11.2.1, r_11.2.2.1)), (r_11.2.2.2.1, (r_11.2.2.2.2.1, r_11.2.2.2.2.2.1)), (r_11.2.2.2.2.2.2.1, (r_11.2.2.2.2.2.2.2.1, r_11.2.2.2.2.2.2.2.2.1)), (r_11.2.2.2.2.2.2.2.2.2.1, (r_11.2.2.2.2.2.2.2.2.2.2.1, r_11.2.2.2.2.2.2.2.2.2.2.2))] : List (Int × (Int × Int))) (Int.toNat t_14) zS).2.1), .val (.int .i32 (List.getD ([(r_11.1, (r_11.2.1, r_11.2.2.1)), (r_11.2.2.2.1, (r_11.2.2.2.2.1, r_11.2.2.2.2.2.1)), (r_11.2.2.2.2.2.2.1, (r_11.2.2.2.2.2.2.2.1, r_11.2.2.2.2.2.2.2.2.1)), (r_11.2.2.2.2.2.2.2.2.2.1, (r_11.2.2.2.2.2.2.2.2.2.2.1, r_11.2.2.2.2.2.2.2.2.2.2.2))] : List (Int × (Int × Int))) (Int.toNat t_14) zS).2.2)]], [], .tup [(false, [.val (.int .i32 r_23.1)]), (false, [.val (.int .i64 r_23.2)])], [], [], 1⟩)] [] (calls_cons (utf_long_spec K s_1 at_2 (w6 (t_14 + (1 : Int))) (List.getD ([(r_11.1, (r_11.2.1, r_11.2.2.1)), (r_11.2.2.2.1, (r_11.2.2.2.2.1, r_11.2.2.2.2.2.1)), (r_11.2.2.2.2.2.2.1, (r_11.2.2.2.2.2.2.2.1, r_11.2.2.2.2.2.2.2.2.1)), (r_11.2.2.2.2.2.2.2.2.2.1, (r_11.2.2.2.2.2.2.2.2.2.2.1, r_11.2.2.2.2.2.2.2.2.2.2.2))] : List (Int × (Int × Int))) (Int.toNat t_14) zS).1 (List.getD ([(r_11.1, (r_11.2.1, r_11.2.2.1)), (r_11.2.2.2.1, (r_11.2.2.2.2.1, r_11.2.2.2.2.2.1)), (r_11.2.2.2.2.2.2.1, (r_11.2.2.2.2.2.2.2.1, r_11.2.2.2.2.2.2.2.2.1)), (r_11.2.2.2.2.2.2.2.2.2.1, (r_11.2.2.2.2.2.2.2.2.2.2.1, r_11.2.2.2.2.2.2.2.2.2.2.2))] : List (Int × (Int × Int))) (Int.toNat t_14) zS).2.1 (List.getD ([(r_11.1, (r_11.2.1, r_11.2.2.1)), (r_11.2.2.2.1, (r_11.2.2.2.2.1, r_11.2.2.2.2.2.1)), (r_11.2.2.2.2.2.2.1, (r_11.2.2.2.2.2.2.2.1, r_11.2.2.2.2.2.2.2.2.1)), (r_11.2.2.2.2.2.2.2.2.2.1, (r_11.2.2.2.2.2.2.2.2.2.2.1, r_11.2.2.2.2.2.2.2.2.2.2.2))] : List (Int × (Int × Int))) (Int.toNat t_14) zS).2.2 r_23 h_24) (by kernel_rfl) calls_nil) 1 [4, 5] [] ⟨[(4, .c (.val (.int .i32 r_23.1))), (5, cI r_23.2)], [], 1⟩ [] (by kernel_rfl) rfl rfl ap0 (by kernel_rfl) (by kernel_rfl) ?_
          have H_53 := Option.some.inj (show some (r_23.1, r_23.2) = some r from H_52); subst H_53
          refine VL_ret ?_
          refine QB_ret ?_
          refine QL_ret ?_
          refine QB_ret ?_
          exact P_to [(4, .c (.val (.int .i32 r_23.1))), (5, cI r_23.2)] [] [] hn (by kernel_rfl) (by kernel_rfl) rfl rfl rfl (QF_retS (by kernel_rfl) (by kernel_rfl) rfl)
        · intro b_21; have H_51 := of_f H_49 b_21
          refine V_run hN hn 1 1 [0, 1, 6, 7, 16, 17, 29] [0] ⟨[(0, cS s_1), (1, cI at_2), (6, cI t_14), (7, .c (.h 0)), (16, .agg [.val (.int .u8 r_11.1), .val (.int .u8 r_11.2.1), .val (.int .i32 r_11.2.2.1), .val (.int .u8 r_11.2.2.2.1), .val (.int .u8 r_11.2.2.2.2.1), .val (.int .i32 r_11.2.2.2.2.2.1), .val (.int .u8 r_11.2.2.2.2.2.2.1), .val (.int .u8 r_11.2.2.2.2.2.2.2.1), .val (.int .i32 r_11.2.2.2.2.2.2.2.2.1), .val (.int .u8 r_11.2.2.2.2.2.2.2.2.2.1), .val (.int .u8 r_11.2.2.2.2.2.2.2.2.2.2.1), .val (.int .i32 r_11.2.2.2.2.2.2.2.2.2.2.2)]), (17, cI t_14), (29, cB ((IntKind.wrap .u8 (BitVec.toNat (BitVec.ofInt (IntKind.bits .u8) (bt s_1 at_2) &&& BitVec.ofInt (IntKind.bits .u8) (List.getD ([(r_11.1, (r_11.2.1, r_11.2.2.1)), (r_11.2.2.2.1, (r_11.2.2.2.2.1, r_11.2.2.2.2.2.1)), (r_11.2.2.2.2.2.2.1, (r_11.2.2.2.2.2.2.2.1, r_11.2.2.2.2.2.2.2.2.1)), (r_11.2.2.2.2.2.2.2.2.2.1, (r_11.2.2.2.2.2.2.2.2.2.2.1, r_11.2.2.2.2.2.2.2.2.2.2.2))] : List (Int × (Int × Int))) (Int.toNat t_14) zS).1))) == (List.getD ([(r_11.1, (r_11.2.1, r_11.2.2.1)), (r_11.2.2.2.1, (r_11.2.2.2.2.1, r_11.2.2.2.2.2.1)), (r_11.2.2.2.2.2.2.1, (r_11.2.2.2.2.2.2.2.1, r_11.2.2.2.2.2.2.2.2.1)), (r_11.2.2.2.2.2.2.2.2.2.1, (r_11.2.2.2.2.2.2.2.2.2.2.1, r_11.2.2.2.2.2.2.2.2.2.2.2))] : List (Int × (Int × Int))) (Int.toNat t_14) zS).2.1))], [(0, .box [.val (.int .u8 (List.getD ([(r_11.1, (r_11.2.1, r_11.2.2.1)), (r_11.2.2.2.1, (r_11.2.2.2.2.1, r_11.2.2.2.2.2.1)), (r_11.2.2.2.2.2.2.1, (r_11.2.2.2.2.2.2.2.1, r_11.2.2.2.2.2.2.2.2.1)), (r_11.2.2.2.2.2.2.2.2.2.1, (r_11.2.2.2.2.2.2.2.2.2.2.1, r_11.2.2.2.2.2.2.2.2.2.2.2))] : List (Int × (Int × Int))) (Int.toNat t_14) zS).1), .val (.int .u8 (List.getD ([(r_11.1, (r_11.2.1, r_11.2.2.1)), (r_11.2.2.2.1, (r_11.2.2.2.2.1, r_11.2.2.2.2.2.1)), (r_11.2.2.2.2.2.2.1, (r_11.2.2.2.2.2.2.2.1, r_11.2.2.2.2.2.2.2.2.1)), (r_11.2.2.2.2.2.2.2.2.2.1, (r_11.2.2.2.2.2.2.2.2.2.2.1, r_11.2.2.2.2.2.2.2.2.2.2.2))] : List (Int × (Int × Int))) (Int.toNat t_14) zS).2.1), .val (.int .i32 (List.getD ([(r_11.1, (r_11.2.1, r_11.2.2.1)), (r_11.2.2.2.1, (r_11.2.2.2.2.1, r_11.2.2.2.2.2.1)), (r_11.2.2.2.2.2.2.1, (r_11.2.2.2.2.2.2.2.1, r_11.2.2.2.2.2.2.2.2.1)), (r_11.2.2.2.2.2.2.2.2.2.1, (r_11.2.2.2.2.2.2.2.2.2.2.1, r_11.2.2.2.2.2.2.2.2.2.2.2))] : List (Int × (Int × Int))) (Int.toNat t_14) zS).2.2)])], 1⟩ [] (by kernel_rfl) rfl rfl ap0 ?_
          refine VL_nil (QB_end ?_)
          refine V_run hN hn 1 1 [0, 1, 16, 17] [] ⟨[(0, cS s_1), (1, cI at_2), (16, .agg [.val (.int .u8 r_11.1), .val (.int .u8 r_11.2.1), .val (.int .i32 r_11.2.2.1), .val (.int .u8 r_11.2.2.2.1), .val (.int .u8 r_11.2.2.2.2.1), .val (.int .i32 r_11.2.2.2.2.2.1), .val (.int .u8 r_11.2.2.2.2.2.2.1), .val (.int .u8 r_11.2.2.2.2.2.2.2.1), .val (.int .i32 r_11.2.2.2.2.2.2.2.2.1), .val (.int .u8 r_11.2.2.2.2.2.2.2.2.2.1), .val (.int .u8 r_11.2.2.2.2.2.2.2.2.2.2.1), .val (.int .i32 r_11.2.2.2.2.2.2.2.2.2.2.2)]), (17, cI (w6 (t_14 + (1 : Int))))], [], 1⟩ [] (by kernel_rfl) rfl rfl ap0 ?_
          refine VL_nil ?_
          exact V_roundEnd (w6 (t_14 + (1 : Int))) H_51 [] hn (by kernel_rfl) (by kernel_rfl) rfl rfl rfl
      · intro b_17; have H_47 := of_f H_45 b_17
        refine VL_exit ?_
        refine QL_exit ?_
        refine QB_here ?_
        refine V_run hN hn 2 0 [4, 5] [] ⟨[(4, .c (.val (.int .i32 (0 : Int)))), (5, cI (0 : Int))], [], 0⟩ [] (by kernel_rfl) rfl rfl ap0 ?_
        have H_54 := Option.some.inj (show some zP = some r from H_47); subst H_54
        refine VL_ret ?_
        exact P_to [(4, .c (.val (.int .i32 (0 : Int)))), (5, cI (0 : Int))] [] [] hn (by kernel_rfl) (by kernel_rfl) rfl rfl rfl (QF_retS (by kernel_rfl) (by kernel_rfl) rfl)

theorem utf_Size_spec (K : Nat) (s_1 : ByteArray) (at_2 : Int) (r : Int) (H : utf_Size K s_1 at_2 = some r) : Spec Try.prog 29 0 [cS s_1, cI at_2] [] (cI r) [] := by
  refine Spec_mk (fn := Try.f29) (c := (Try.f29.body).get!) Try.func29 (by kernel_rfl) rfl ?_
  intro C hN hn
  replace hN : C.N = 14 := hN
  unfold utf_Size at H
  refine V_run hN hn 3 0 [0, 1] [] ⟨[(0, cS s_1), (1, cI at_2)], [], 0⟩ [] (by kernel_rfl) rfl rfl ap0 ?_
  obtain ⟨r_4, h_5, H_9⟩ := of_bind H
  refine V_reg hN hn [(2, ⟨40, 0, [cS s_1, cI at_2], [], .tup [(false, [.val (.int .i32 r_4.1)]), (false, [.val (.int .i64 r_4.2)])], [], [], 0⟩)] [] (calls_cons (utf_point_spec K s_1 at_2 r_4 h_5) (by kernel_rfl) calls_nil) 0 [6] [] ⟨[(6, cI r_4.2)], [], 0⟩ [] (by kernel_rfl) rfl rfl ap0 (by kernel_rfl) (by kernel_rfl) ?_
  refine V_run hN hn 2 0 [4] [] ⟨[(4, cI r_4.2)], [], 0⟩ [] (by kernel_rfl) rfl rfl ap0 ?_
  have H_10 := Option.some.inj (show some r_4.2 = some r from H_9); subst H_10
  refine VL_ret ?_
  exact P_to [(4, cI r_4.2)] [] [] hn (by kernel_rfl) (by kernel_rfl) rfl rfl rfl (QF_retS (by kernel_rfl) (by kernel_rfl) rfl)

theorem utf_Valid_spec (K : Nat) (s_1 : ByteArray) (r : Bool) (H : utf_Valid K s_1 = some r) : Spec Try.prog 51 0 [cS s_1] [] (cB r) [] := by
  refine Spec_mk (fn := Try.f51) (c := (Try.f51.body).get!) Try.func51 (by kernel_rfl) rfl ?_
  intro C hN hn
  replace hN : C.N = 17 := hN
  unfold utf_Valid at H
  refine V_run hN hn 5 0 [0, 3] [] ⟨[(0, cS s_1), (3, cI (0 : Int))], [], 0⟩ [] (by kernel_rfl) rfl rfl ap0 ?_
  refine VL_block ?_
  refine V_to [(0, cS s_1), (3, cI (0 : Int))] [] [] hn (by kernel_rfl) (by kernel_rfl) rfl rfl rfl ?_
  refine VL_loop (X := Int) (fun x => [(0, cS s_1), (3, cI x)]) (fun x => []) (fun k x => utf_Valid.l0 K s_1 k x = some r) K (0 : Int) H (fun _ h => no_none h) ?_
  intro k_4 at_3 H_18
  have H_19 : utf_Valid.l0 K s_1 (k_4 + 1) at_3 = some r := H_18
  rw [utf_Valid.l0] at H_19
  refine V_run hN hn 3 0 [0, 3, 8] [] ⟨[(0, cS s_1), (3, cI at_3), (8, cB (decide (at_3 < (((ByteArray.size s_1) : Nat) : Int))))], [], 0⟩ [] (by kernel_rfl) rfl rfl ap0 ?_
  refine VL_cond ((decide (at_3 < (((ByteArray.size s_1) : Nat) : Int)))) (by kernel_rfl) ?_ ?_
  · intro b_6; have H_20 := of_t H_19 b_6
    refine V_run hN hn 1 0 [0, 3, 8] [] ⟨[(0, cS s_1), (3, cI at_3), (8, cB (decide (at_3 < (((ByteArray.size s_1) : Nat) : Int))))], [], 0⟩ [] (by kernel_rfl) rfl rfl ap0 ?_
    refine VL_block ?_
    refine V_run hN hn 1 0 [0, 3, 8] [] ⟨[(0, cS s_1), (3, cI at_3), (8, cB (decide (at_3 < (((ByteArray.size s_1) : Nat) : Int))))], [], 0⟩ [] (by kernel_rfl) rfl rfl ap0 ?_
    obtain ⟨r_9, h_10, H_22⟩ := of_bind H_20
    refine V_reg hN hn [(2, ⟨29, 0, [cS s_1, cI at_3], [], cI r_9, [], [], 0⟩)] [] (calls_cons (utf_Size_spec K s_1 at_3 r_9 h_10) (by kernel_rfl) calls_nil) 0 [0, 3, 4] [] ⟨[(0, cS s_1), (3, cI at_3), (4, cI r_9)], [], 0⟩ [] (by kernel_rfl) rfl rfl ap0 (by kernel_rfl) (by kernel_rfl) ?_
    refine V_run hN hn 3 0 [0, 3, 4, 13] [] ⟨[(0, cS s_1), (3, cI at_3), (4, cI r_9), (13, cB (r_9 == (0 : Int)))], [], 0⟩ [] (by kernel_rfl) rfl rfl ap0 ?_
    refine VL_cond ((r_9 == (0 : Int))) (by kernel_rfl) ?_ ?_
    · intro b_13; have H_23 := of_t H_22 b_13
      refine V_run hN hn 2 0 [2] [] ⟨[(2, cB false)], [], 0⟩ [] (by kernel_rfl) rfl rfl ap0 ?_
      have H_25 := Option.some.inj (show some false = some r from H_23); subst H_25
      refine VL_ret ?_
      refine QB_ret ?_
      refine QL_ret ?_
      refine QB_ret ?_
      exact P_to [(2, cB false)] [] [] hn (by kernel_rfl) (by kernel_rfl) rfl rfl rfl (QF_retS (by kernel_rfl) (by kernel_rfl) rfl)
    · intro b_13; have H_24 := of_f H_22 b_13
      refine V_run hN hn 2 0 [0, 3] [] ⟨[(0, cS s_1), (3, cI (w6 (at_3 + r_9)))], [], 0⟩ [] (by kernel_rfl) rfl rfl ap0 ?_
      refine VL_nil (QB_end ?_)
      refine VL_nil ?_
      exact V_roundEnd (w6 (at_3 + r_9)) H_24 [] hn (by kernel_rfl) (by kernel_rfl) rfl rfl rfl
  · intro b_6; have H_21 := of_f H_19 b_6
    refine VL_exit ?_
    refine QL_exit ?_
    refine QB_here ?_
    refine V_run hN hn 2 0 [2] [] ⟨[(2, cB true)], [], 0⟩ [] (by kernel_rfl) rfl rfl ap0 ?_
    have H_26 := Option.some.inj (show some true = some r from H_21); subst H_26
    refine VL_ret ?_
    exact P_to [(2, cB true)] [] [] hn (by kernel_rfl) (by kernel_rfl) rfl rfl rfl (QF_retS (by kernel_rfl) (by kernel_rfl) rfl)

theorem utf_IsEdge_spec (K : Nat) (s_1 : ByteArray) (at_2 : Int) (r : Bool) (H : utf_IsEdge K s_1 at_2 = some r) : Spec Try.prog 41 0 [cS s_1, cI at_2] [] (cB r) [] := by
  refine Spec_mk (fn := Try.f41) (c := (Try.f41.body).get!) Try.func41 (by kernel_rfl) rfl ?_
  intro C hN hn
  replace hN : C.N = 30 := hN
  unfold utf_IsEdge at H
  refine V_run hN hn 3 0 [0, 1] [] ⟨[(0, cS s_1), (1, cI at_2)], [], 0⟩ [] (by kernel_rfl) rfl rfl ap0 ?_
  rcases Bool.eq_false_or_eq_true ((decide (at_2 ≥ (0 : Int)))) with b_4 | b_4
  · have H_18 := of_t H b_4
    rcases Bool.eq_false_or_eq_true ((decide (at_2 ≤ (((ByteArray.size s_1) : Nat) : Int)))) with b_5 | b_5
    · have H_20 := of_t H_18 b_5
      rcases Bool.eq_false_or_eq_true ((at_2 == (((ByteArray.size s_1) : Nat) : Int))) with b_6 | b_6
      · have H_22 := of_t H_20 b_6
        obtain ⟨r_7, h_8, H_24⟩ := of_bind H_22
        refine V_reg hN hn [(23, ⟨51, 0, [cS s_1], [], cB r_7, [], [], 0⟩)] [(7, true), (13, true), (18, true)] (calls_cons (utf_Valid_spec K s_1 r_7 h_8) (by kernel_rfl) calls_nil) 0 [4] [] ⟨[(4, cB r_7)], [], 0⟩ [(decide (at_2 ≥ (0 : Int))) = true, (decide (at_2 ≤ (((ByteArray.size s_1) : Nat) : Int))) = true, (at_2 == (((ByteArray.size s_1) : Nat) : Int)) = true] (by kernel_rfl) rfl rfl (ap2 b_4 (ap2 b_5 (ap1 b_6))) (by kernel_rfl) (by kernel_rfl) ?_
        have H_25 := Option.some.inj (show some r_7 = some r from H_24); subst H_25
        refine VL_ret ?_
        exact P_to [(4, cB r_7)] [] [] hn (by kernel_rfl) (by kernel_rfl) rfl rfl rfl (QF_retS (by kernel_rfl) (by kernel_rfl) rfl)
      · have H_23 := of_f H_20 b_6
        rcases Bool.eq_false_or_eq_true (((IntKind.wrap .u8 (BitVec.toNat (BitVec.ofInt (IntKind.bits .u8) (bt s_1 at_2) &&& BitVec.ofInt (IntKind.bits .u8) (192 : Int)))) != (128 : Int))) with b_10 | b_10
        · have H_26 := of_t H_23 b_10
          obtain ⟨r_11, h_12, H_28⟩ := of_bind H_26
          obtain ⟨c_13, H_29⟩ := of_if H_28
          refine V_reg hN hn [(23, ⟨51, 0, [cS s_1], [], cB r_11, [], [], 0⟩)] [(7, true), (13, true), (18, false), (26, true)] (calls_cons (utf_Valid_spec K s_1 r_11 h_12) (by kernel_rfl) calls_nil) 0 [4] [] ⟨[(4, cB r_11)], [], 0⟩ [(decide (at_2 ≥ (0 : Int))) = true, (decide (at_2 ≤ (((ByteArray.size s_1) : Nat) : Int))) = true, (at_2 == (((ByteArray.size s_1) : Nat) : Int)) = false, 0 ≤ at_2, at_2 < (((ByteArray.size s_1) : Nat) : Int), ((IntKind.wrap .u8 (BitVec.toNat (BitVec.ofInt (IntKind.bits .u8) (bt s_1 at_2) &&& BitVec.ofInt (IntKind.bits .u8) (192 : Int)))) != (128 : Int)) = true] (by kernel_rfl) rfl rfl (ap2 b_4 (ap2 b_5 (ap2 b_6 (ap2 c_13.1 (ap2 c_13.2 (ap1 b_10)))))) (by kernel_rfl) (by kernel_rfl) ?_
          have H_30 := Option.some.inj (show some r_11 = some r from H_29); subst H_30
          refine VL_ret ?_
          exact P_to [(4, cB r_11)] [] [] hn (by kernel_rfl) (by kernel_rfl) rfl rfl rfl (QF_retS (by kernel_rfl) (by kernel_rfl) rfl)
        · have H_27 := of_f H_23 b_10
          obtain ⟨c_14, H_31⟩ := of_if H_27
          refine V_reg hN hn [] [(7, true), (13, true), (18, false), (26, false)] calls_nil 0 [4] [] ⟨[(4, cB false)], [], 0⟩ [(decide (at_2 ≥ (0 : Int))) = true, (decide (at_2 ≤ (((ByteArray.size s_1) : Nat) : Int))) = true, (at_2 == (((ByteArray.size s_1) : Nat) : Int)) = false, 0 ≤ at_2, at_2 < (((ByteArray.size s_1) : Nat) : Int), ((IntKind.wrap .u8 (BitVec.toNat (BitVec.ofInt (IntKind.bits .u8) (bt s_1 at_2) &&& BitVec.ofInt (IntKind.bits .u8) (192 : Int)))) != (128 : Int)) = false] (by kernel_rfl) rfl rfl (ap2 b_4 (ap2 b_5 (ap2 b_6 (ap2 c_14.1 (ap2 c_14.2 (ap1 b_10)))))) (by kernel_rfl) (by kernel_rfl) ?_
          have H_32 := Option.some.inj (show some false = some r from H_31); subst H_32
          refine VL_ret ?_
          exact P_to [(4, cB false)] [] [] hn (by kernel_rfl) (by kernel_rfl) rfl rfl rfl (QF_retS (by kernel_rfl) (by kernel_rfl) rfl)
    · have H_21 := of_f H_18 b_5
      refine V_reg hN hn [] [(7, true), (13, false)] calls_nil 0 [4] [] ⟨[(4, cB false)], [], 0⟩ [(decide (at_2 ≥ (0 : Int))) = true, (decide (at_2 ≤ (((ByteArray.size s_1) : Nat) : Int))) = false] (by kernel_rfl) rfl rfl (ap2 b_4 (ap1 b_5)) (by kernel_rfl) (by kernel_rfl) ?_
      have H_33 := Option.some.inj (show some false = some r from H_21); subst H_33
      refine VL_ret ?_
      exact P_to [(4, cB false)] [] [] hn (by kernel_rfl) (by kernel_rfl) rfl rfl rfl (QF_retS (by kernel_rfl) (by kernel_rfl) rfl)
  · have H_19 := of_f H b_4
    refine V_reg hN hn [] [(7, false)] calls_nil 0 [4] [] ⟨[(4, cB false)], [], 0⟩ [(decide (at_2 ≥ (0 : Int))) = false] (by kernel_rfl) rfl rfl (ap1 b_4) (by kernel_rfl) (by kernel_rfl) ?_
    have H_34 := Option.some.inj (show some false = some r from H_19); subst H_34
    refine VL_ret ?_
    exact P_to [(4, cB false)] [] [] hn (by kernel_rfl) (by kernel_rfl) rfl rfl rfl (QF_retS (by kernel_rfl) (by kernel_rfl) rfl)

theorem region_edges_1_sggb_5389a_spec (K : Nat) (r_1 : Int) (r_2 : Int) (p_3 : ByteArray) (r : Bool) (H : region_edges_1_sggb_5389a K r_1 r_2 p_3 = some r) : Spec Try.prog 57 1 [.agg [.val (.int .i64 r_1), .val (.int .i64 r_2)], .c (.h 0)] [(0, .box [.val (.string p_3)])] (cB r) [(0, .box [.val (.string p_3)])] := by
  refine Spec_mk (fn := Try.f57) (c := (Try.f57.body).get!) Try.func57 (by kernel_rfl) rfl ?_
  intro C hN hn
  replace hN : C.N = 14 := hN
  unfold region_edges_1_sggb_5389a at H
  refine V_run hN hn 3 1 [1, 2] [0, 1] ⟨[(1, .c (.h 0)), (2, .c (.h 1))], [(0, .box [.val (.string p_3)]), (1, .box [.val (.int .i64 r_1), .val (.int .i64 r_2)])], 2⟩ [] (by kernel_rfl) rfl rfl ap0 ?_
  obtain ⟨r_5, h_6, H_13⟩ := of_bind H
  rcases Bool.eq_false_or_eq_true (r_5) with b_7 | b_7
  · have H_14 := of_t H_13 b_7
    obtain ⟨r_8, h_9, H_16⟩ := of_bind H_14
    refine V_reg hN hn [(3, ⟨41, 0, [cS p_3, cI r_1], [], cB r_5, [], [], 2⟩), (8, ⟨41, 0, [cS p_3, cI r_2], [], cB r_8, [], [], 2⟩)] [(8, true)] (calls_cons (utf_IsEdge_spec K p_3 r_1 r_5 h_6) (by kernel_rfl) (calls_cons (utf_IsEdge_spec K p_3 r_2 r_8 h_9) (by kernel_rfl) calls_nil)) 2 [3] [0] ⟨[(3, cB r_8)], [(0, .box [.val (.string p_3)])], 2⟩ [r_5 = true] (by kernel_rfl) rfl rfl (ap1 b_7) (by kernel_rfl) (by kernel_rfl) ?_
    have H_17 := Option.some.inj (show some r_8 = some r from H_16); subst H_17
    refine VL_ret ?_
    exact P_to [(3, cB r_8)] [(0, .box [.val (.string p_3)])] [] hn (by kernel_rfl) (by kernel_rfl) rfl rfl rfl (QF_retS (by kernel_rfl) (by kernel_rfl) rfl)
  · have H_15 := of_f H_13 b_7
    refine V_reg hN hn [(3, ⟨41, 0, [cS p_3, cI r_1], [], cB r_5, [], [], 2⟩)] [(8, false)] (calls_cons (utf_IsEdge_spec K p_3 r_1 r_5 h_6) (by kernel_rfl) calls_nil) 2 [3] [0] ⟨[(3, cB false)], [(0, .box [.val (.string p_3)])], 2⟩ [r_5 = false] (by kernel_rfl) rfl rfl (ap1 b_7) (by kernel_rfl) (by kernel_rfl) ?_
    have H_18 := Option.some.inj (show some false = some r from H_15); subst H_18
    refine VL_ret ?_
    exact P_to [(3, cB false)] [(0, .box [.val (.string p_3)])] [] hn (by kernel_rfl) (by kernel_rfl) rfl rfl rfl (QF_retS (by kernel_rfl) (by kernel_rfl) rfl)

theorem region_every_1_sggb_f969f_spec (K : Nat) (x_1 : Int) (x_2 : Int) (p_3 : ByteArray) (r : Bool) (H : region_every_1_sggb_f969f K x_1 x_2 p_3 = some r) : Spec Try.prog 54 2 [.agg [.val (.int .i64 x_1), .val (.int .i64 x_2)], .c (.h 0)] [(0, .box [.clo 57 [1]]), (1, .box [.val (.string p_3)])] (cB r) [(0, .box [.clo 57 [1]]), (1, .box [.val (.string p_3)])] := by
  refine Spec_mk (fn := Try.f54) (c := (Try.f54.body).get!) Try.func54 (by kernel_rfl) rfl ?_
  intro C hN hn
  replace hN : C.N = 8 := hN
  unfold region_every_1_sggb_f969f at H
  refine V_run hN hn 3 2 [1, 2] [0, 1, 2] ⟨[(1, .c (.h 0)), (2, .c (.h 2))], [(0, .box [.clo 57 [1]]), (1, .box [.val (.string p_3)]), (2, .box [.val (.int .i64 x_1), .val (.int .i64 x_2)])], 3⟩ [] (by kernel_rfl) rfl rfl ap0 ?_
  obtain ⟨r_5, h_6, H_9⟩ := of_bind H
  refine V_reg hN hn [(2, ⟨57, 1, [.agg [.val (.int .i64 x_1), .val (.int .i64 x_2)], .c (.h 0)], [(0, .box [.val (.string p_3)])], cB r_5, [(0, .box [.val (.string p_3)])], [(0, 1)], 3⟩)] [] (calls_cons (region_edges_1_sggb_5389a_spec K x_1 x_2 p_3 r_5 h_6) (by kernel_rfl) calls_nil) 3 [3] [0, 1] ⟨[(3, cB (!r_5))], [(0, .box [.clo 57 [1]]), (1, .box [.val (.string p_3)])], 3⟩ [] (by kernel_rfl) rfl rfl ap0 (by kernel_rfl) (by kernel_rfl) ?_
  have H_10 := Option.some.inj (show some (!r_5) = some r from H_9); subst H_10
  refine VL_ret ?_
  exact P_to [(3, cB (!r_5))] [(0, .box [.clo 57 [1]]), (1, .box [.val (.string p_3)])] [] hn (by kernel_rfl) (by kernel_rfl) rfl rfl rfl (QF_retS (by kernel_rfl) (by kernel_rfl) rfl)

theorem slices_IndexFunc_rcregionevery1_79479_spec (K : Nat) (s_1 : (List (Int × Int))) (f_2 : ByteArray) (r : Int) (H : slices_IndexFunc_rcregionevery1_79479 K s_1 f_2 = some r) : Spec Try.prog 68 3 [.c (.h 0), .c (.clo 54 [1])] [(0, .row kP s_1), (1, .box [.clo 57 [2]]), (2, .box [.val (.string f_2)])] (cI r) [(0, .row kP s_1), (1, .box [.clo 57 [2]]), (2, .box [.val (.string f_2)])] := by
  refine Spec_mk (fn := Try.f68) (c := (Try.f68.body).get!) Try.func68 (by kernel_rfl) rfl ?_
  intro C hN hn
  replace hN : C.N = 19 := hN
  unfold slices_IndexFunc_rcregionevery1_79479 at H
  refine V_run hN hn 5 3 [0, 1, 7, 8] [0, 1, 2] ⟨[(0, .c (.h 0)), (1, .c (.clo 54 [1])), (7, cI (lnI s_1)), (8, cI (0 : Int))], [(0, .row kP s_1), (1, .box [.clo 57 [2]]), (2, .box [.val (.string f_2)])], 3⟩ [] (by kernel_rfl) rfl rfl ap0 ?_
  refine VL_block ?_
  refine V_to [(0, .c (.h 0)), (1, .c (.clo 54 [1])), (7, cI (lnI s_1)), (8, cI (0 : Int))] [(0, .row kP s_1), (1, .box [.clo 57 [2]]), (2, .box [.val (.string f_2)])] [] hn (by kernel_rfl) (by kernel_rfl) rfl rfl rfl ?_
  refine VL_loop (X := Int) (fun x => [(0, .c (.h 0)), (1, .c (.clo 54 [1])), (7, cI (lnI s_1)), (8, cI x)]) (fun x => [(0, .row kP s_1), (1, .box [.clo 57 [2]]), (2, .box [.val (.string f_2)])]) (fun k x => slices_IndexFunc_rcregionevery1_79479.l0 K s_1 f_2 k x = some r) K (0 : Int) H (fun _ h => no_none h) ?_
  intro k_5 t_4 H_19
  have H_20 : slices_IndexFunc_rcregionevery1_79479.l0 K s_1 f_2 (k_5 + 1) t_4 = some r := H_19
  rw [slices_IndexFunc_rcregionevery1_79479.l0] at H_20
  refine V_run hN hn 3 3 [0, 1, 7, 8, 9] [0, 1, 2] ⟨[(0, .c (.h 0)), (1, .c (.clo 54 [1])), (7, cI (lnI s_1)), (8, cI t_4), (9, cB (decide (t_4 < (lnI s_1))))], [(0, .row kP s_1), (1, .box [.clo 57 [2]]), (2, .box [.val (.string f_2)])], 3⟩ [] (by kernel_rfl) rfl rfl ap0 ?_
  refine VL_cond ((decide (t_4 < (lnI s_1)))) (by kernel_rfl) ?_ ?_
  · intro b_7; have H_21 := of_t H_20 b_7
    refine V_run hN hn 2 3 [0, 1, 7, 8, 9] [0, 1, 2] ⟨[(0, .c (.h 0)), (1, .c (.clo 54 [1])), (7, cI (lnI s_1)), (8, cI t_4), (9, cB (decide (t_4 < (lnI s_1))))], [(0, .row kP s_1), (1, .box [.clo 57 [2]]), (2, .box [.val (.string f_2)])], 3⟩ [] (by kernel_rfl) rfl rfl ap0 ?_
    refine VL_block ?_
    refine V_run hN hn 3 3 [0, 1, 5, 7, 8] [0, 1, 2] ⟨[(0, .c (.h 0)), (1, .c (.clo 54 [1])), (5, cI t_4), (7, cI (lnI s_1)), (8, cI t_4)], [(0, .row kP s_1), (1, .box [.clo 57 [2]]), (2, .box [.val (.string f_2)])], 3⟩ [] (by kernel_rfl) rfl rfl ap0 ?_
    obtain ⟨r_10, h_11, H_23⟩ := of_bind H_21
    obtain ⟨c_12, H_24⟩ := of_if H_23
    refine V_reg hN hn [(5, ⟨54, 2, [.agg [.val (.int .i64 (List.getD s_1 (Int.toNat t_4) zP).1), .val (.int .i64 (List.getD s_1 (Int.toNat t_4) zP).2)], .c (.h 0)], [(0, .box [.clo 57 [1]]), (1, .box [.val (.string f_2)])], cB r_10, [(0, .box [.clo 57 [1]]), (1, .box [.val (.string f_2)])], [(0, 1), (1, 2)], 3⟩)] [] (calls_cons (region_every_1_sggb_f969f_spec K (List.getD s_1 (Int.toNat t_4) zP).1 (List.getD s_1 (Int.toNat t_4) zP).2 f_2 r_10 h_11) (by kernel_rfl) calls_nil) 3 [0, 1, 5, 7, 8, 16] [0, 1, 2] ⟨[(0, .c (.h 0)), (1, .c (.clo 54 [1])), (5, cI t_4), (7, cI (lnI s_1)), (8, cI t_4), (16, cB r_10)], [(0, .row kP s_1), (1, .box [.clo 57 [2]]), (2, .box [.val (.string f_2)])], 3⟩ [0 ≤ t_4, t_4 < (lnI s_1)] (by kernel_rfl) rfl rfl (ap2 c_12.1 (ap1 c_12.2)) (by kernel_rfl) (by kernel_rfl) ?_
    refine VL_cond (r_10) (by kernel_rfl) ?_ ?_
    · intro b_13; have H_25 := of_t H_24 b_13
      refine V_run hN hn 2 3 [4] [0, 1, 2] ⟨[(4, cI t_4)], [(0, .row kP s_1), (1, .box [.clo 57 [2]]), (2, .box [.val (.string f_2)])], 3⟩ [] (by kernel_rfl) rfl rfl ap0 ?_
      have H_27 := Option.some.inj (show some t_4 = some r from H_25); subst H_27
      refine VL_ret ?_
      refine QB_ret ?_
      refine QL_ret ?_
      refine QB_ret ?_
      exact P_to [(4, cI t_4)] [(0, .row kP s_1), (1, .box [.clo 57 [2]]), (2, .box [.val (.string f_2)])] [] hn (by kernel_rfl) (by kernel_rfl) rfl rfl rfl (QF_retS (by kernel_rfl) (by kernel_rfl) rfl)
    · intro b_13; have H_26 := of_f H_24 b_13
      refine V_run hN hn 1 3 [0, 1, 5, 7, 8, 16] [0, 1, 2] ⟨[(0, .c (.h 0)), (1, .c (.clo 54 [1])), (5, cI t_4), (7, cI (lnI s_1)), (8, cI t_4), (16, cB r_10)], [(0, .row kP s_1), (1, .box [.clo 57 [2]]), (2, .box [.val (.string f_2)])], 3⟩ [] (by kernel_rfl) rfl rfl ap0 ?_
      refine VL_nil (QB_end ?_)
      refine V_run hN hn 1 3 [0, 1, 7, 8] [0, 1, 2] ⟨[(0, .c (.h 0)), (1, .c (.clo 54 [1])), (7, cI (lnI s_1)), (8, cI (w6 (t_4 + (1 : Int))))], [(0, .row kP s_1), (1, .box [.clo 57 [2]]), (2, .box [.val (.string f_2)])], 3⟩ [] (by kernel_rfl) rfl rfl ap0 ?_
      refine VL_nil ?_
      exact V_roundEnd (w6 (t_4 + (1 : Int))) H_26 [] hn (by kernel_rfl) (by kernel_rfl) rfl rfl rfl
  · intro b_7; have H_22 := of_f H_20 b_7
    refine VL_exit ?_
    refine QL_exit ?_
    refine QB_here ?_
    refine V_run hN hn 2 3 [4] [0, 1, 2] ⟨[(4, cI (-1 : Int))], [(0, .row kP s_1), (1, .box [.clo 57 [2]]), (2, .box [.val (.string f_2)])], 3⟩ [] (by kernel_rfl) rfl rfl ap0 ?_
    have H_28 := Option.some.inj (show some (-1 : Int) = some r from H_22); subst H_28
    refine VL_ret ?_
    exact P_to [(4, cI (-1 : Int))] [(0, .row kP s_1), (1, .box [.clo 57 [2]]), (2, .box [.val (.string f_2)])] [] hn (by kernel_rfl) (by kernel_rfl) rfl rfl rfl (QF_retS (by kernel_rfl) (by kernel_rfl) rfl)

theorem slices_ContainsFunc_rcregionevery1_79479_spec (K : Nat) (s_1 : (List (Int × Int))) (f_2 : ByteArray) (r : Bool) (H : slices_ContainsFunc_rcregionevery1_79479 K s_1 f_2 = some r) : Spec Try.prog 53 3 [.c (.h 0), .c (.clo 54 [1])] [(0, .row kP s_1), (1, .box [.clo 57 [2]]), (2, .box [.val (.string f_2)])] (cB r) [(0, .row kP s_1), (1, .box [.clo 57 [2]]), (2, .box [.val (.string f_2)])] := by
  refine Spec_mk (fn := Try.f53) (c := (Try.f53.body).get!) Try.func53 (by kernel_rfl) rfl ?_
  intro C hN hn
  replace hN : C.N = 9 := hN
  unfold slices_ContainsFunc_rcregionevery1_79479 at H
  refine V_run hN hn 3 3 [0, 1] [0, 1, 2] ⟨[(0, .c (.h 0)), (1, .c (.clo 54 [1]))], [(0, .row kP s_1), (1, .box [.clo 57 [2]]), (2, .box [.val (.string f_2)])], 3⟩ [] (by kernel_rfl) rfl rfl ap0 ?_
  obtain ⟨r_4, h_5, H_8⟩ := of_bind H
  refine V_reg hN hn [(2, ⟨68, 3, [.c (.h 0), .c (.clo 54 [1])], [(0, .row kP s_1), (1, .box [.clo 57 [2]]), (2, .box [.val (.string f_2)])], cI r_4, [(0, .row kP s_1), (1, .box [.clo 57 [2]]), (2, .box [.val (.string f_2)])], [(0, 0), (1, 1), (2, 2)], 3⟩)] [] (calls_cons (slices_IndexFunc_rcregionevery1_79479_spec K s_1 f_2 r_4 h_5) (by kernel_rfl) calls_nil) 3 [4] [0, 1, 2] ⟨[(4, cB (decide (r_4 ≥ (0 : Int))))], [(0, .row kP s_1), (1, .box [.clo 57 [2]]), (2, .box [.val (.string f_2)])], 3⟩ [] (by kernel_rfl) rfl rfl ap0 (by kernel_rfl) (by kernel_rfl) ?_
  have H_9 := Option.some.inj (show some (decide (r_4 ≥ (0 : Int))) = some r from H_8); subst H_9
  refine VL_ret ?_
  exact P_to [(4, cB (decide (r_4 ≥ (0 : Int))))] [(0, .row kP s_1), (1, .box [.clo 57 [2]]), (2, .box [.val (.string f_2)])] [] hn (by kernel_rfl) (by kernel_rfl) rfl rfl rfl (QF_retS (by kernel_rfl) (by kernel_rfl) rfl)

theorem region_every_rcregionedges1_83797_spec (K : Nat) (l_1 : (List (Int × Int))) (is_2 : ByteArray) (r : Bool) (H : region_every_rcregionedges1_83797 K l_1 is_2 = some r) : Spec Try.prog 44 2 [.c (.h 0), .c (.clo 57 [1])] [(0, .row kP l_1), (1, .box [.val (.string is_2)])] (cB r) [(0, .row kP l_1), (1, .box [.val (.string is_2)])] := by
  refine Spec_mk (fn := Try.f44) (c := (Try.f44.body).get!) Try.func44 (by kernel_rfl) rfl ?_
  intro C hN hn
  replace hN : C.N = 9 := hN
  unfold region_every_rcregionedges1_83797 at H
  refine V_run hN hn 3 2 [0, 3] [0, 1, 2] ⟨[(0, .c (.h 0)), (3, .c (.h 2))], [(0, .row kP l_1), (1, .box [.val (.string is_2)]), (2, .box [.clo 57 [1]])], 3⟩ [] (by kernel_rfl) rfl rfl ap0 ?_
  obtain ⟨r_4, h_5, H_8⟩ := of_bind H
  refine V_reg hN hn [(2, ⟨53, 3, [.c (.h 0), .c (.clo 54 [1])], [(0, .row kP l_1), (1, .box [.clo 57 [2]]), (2, .box [.val (.string is_2)])], cB r_4, [(0, .row kP l_1), (1, .box [.clo 57 [2]]), (2, .box [.val (.string is_2)])], [(0, 0), (1, 2), (2, 1)], 3⟩)] [] (calls_cons (slices_ContainsFunc_rcregionevery1_79479_spec K l_1 is_2 r_4 h_5) (by kernel_rfl) calls_nil) 3 [4] [0, 1] ⟨[(4, cB (!r_4))], [(0, .row kP l_1), (1, .box [.val (.string is_2)])], 3⟩ [] (by kernel_rfl) rfl rfl ap0 (by kernel_rfl) (by kernel_rfl) ?_
  have H_9 := Option.some.inj (show some (!r_4) = some r from H_8); subst H_9
  refine VL_ret ?_
  exact P_to [(4, cB (!r_4))] [(0, .row kP l_1), (1, .box [.val (.string is_2)])] [] hn (by kernel_rfl) (by kernel_rfl) rfl rfl rfl (QF_retS (by kernel_rfl) (by kernel_rfl) rfl)

theorem region_Is_rg_spec (K : Nat) (l_1 : (List (Int × Int))) (s_2 : ByteArray) (r : Bool) (H : region_Is_rg K l_1 s_2 = some r) : Spec Try.prog 37 1 [.c (.h 0), cS s_2] [(0, .row kP l_1)] (cB r) [(0, .row kP l_1)] := by
  refine Spec_mk (fn := Try.f37) (c := (Try.f37.body).get!) Try.func37 (by kernel_rfl) rfl ?_
  intro C hN hn
  replace hN : C.N = 48 := hN
  unfold region_Is_rg at H
  refine V_run hN hn 4 1 [0, 1] [0] ⟨[(0, .c (.h 0)), (1, cS s_2)], [(0, .row kP l_1)], 1⟩ [] (by kernel_rfl) rfl rfl ap0 ?_
  obtain ⟨q_41, H_42, H_43⟩ := of_bind H
  refine V_cut (Y := Bool) (R := Bool) q_41 (fun y => y) (fun y => [(0, .c (.h 0)), (27, cB y)]) (fun y => [(0, .row kP l_1)]) ?_ ?_
  · skip
    rcases Bool.eq_false_or_eq_true ((decide ((lnI l_1) < (1 : Int)))) with b_4 | b_4
    · have H_45 := of_t H_42 b_4
      refine V_reg hN hn [] [(9, true)] calls_nil 1 [0, 27] [0] ⟨[(0, .c (.h 0)), (27, cB true)], [(0, .row kP l_1)], 1⟩ [(decide ((lnI l_1) < (1 : Int))) = true] (by kernel_rfl) rfl rfl (ap1 b_4) (by kernel_rfl) (by kernel_rfl) ?_
      have H_47 := Option.some.inj (show some true = some q_41 from H_45); subst H_47
      refine VL_nil ?_
      exact QP_end true rfl [] hn (by kernel_rfl) (by kernel_rfl) rfl rfl rfl
    · have H_46 := of_f H_42 b_4
      rcases Bool.eq_false_or_eq_true ((decide ((lnI l_1) > (8 : Int)))) with b_6 | b_6
      · have H_48 := of_t H_46 b_6
        refine V_reg hN hn [] [(9, false), (14, true)] calls_nil 1 [0, 27] [0] ⟨[(0, .c (.h 0)), (27, cB true)], [(0, .row kP l_1)], 1⟩ [(decide ((lnI l_1) < (1 : Int))) = false, (decide ((lnI l_1) > (8 : Int))) = true] (by kernel_rfl) rfl rfl (ap2 b_4 (ap1 b_6)) (by kernel_rfl) (by kernel_rfl) ?_
        have H_50 := Option.some.inj (show some true = some q_41 from H_48); subst H_50
        refine VL_nil ?_
        exact QP_end true rfl [] hn (by kernel_rfl) (by kernel_rfl) rfl rfl rfl
      · have H_49 := of_f H_46 b_6
        obtain ⟨r_8, h_9, H_51⟩ := of_bind H_49
        obtain ⟨r_10, h_11, H_52⟩ := of_bind H_51
        rcases Bool.eq_false_or_eq_true ((!r_10)) with b_12 | b_12
        · have H_53 := of_t H_52 b_12
          refine V_reg hN hn [(11, ⟨45, 0, [cS s_2], [], .c (.clo 55 [0]), [(0, .box [.val (.string s_2)])], [(0, 1)], 2⟩), (12, ⟨44, 2, [.c (.h 0), .c (.clo 55 [1])], [(0, .row kP l_1), (1, .box [.val (.string s_2)])], cB r_10, [(0, .row kP l_1), (1, .box [.val (.string s_2)])], [(0, 0), (1, 1)], 2⟩)] [(9, false), (14, false), (21, true)] (calls_cons (region_inside_spec K s_2 r_8 h_9) (by kernel_rfl) (calls_cons (region_every_rcregioninside1_2e7a3_spec K l_1 s_2 r_10 h_11) (by kernel_rfl) calls_nil)) 1 [0, 27] [0] ⟨[(0, .c (.h 0)), (27, cB true)], [(0, .row kP l_1)], 2⟩ [(decide ((lnI l_1) < (1 : Int))) = false, (decide ((lnI l_1) > (8 : Int))) = false, (!r_10) = true] (by kernel_rfl) rfl rfl (ap2 b_4 (ap2 b_6 (ap1 b_12))) (by kernel_rfl) (by kernel_rfl) ?_
          have H_55 := Option.some.inj (show some true = some q_41 from H_53); subst H_55
          refine VL_nil ?_
          exact QP_end true rfl [] hn (by kernel_rfl) (by kernel_rfl) rfl rfl rfl
        · have H_54 := of_f H_52 b_12
          obtain ⟨r_14, h_15, H_56⟩ := of_bind H_54
          obtain ⟨r_16, h_17, H_57⟩ := of_bind H_56
          refine V_reg hN hn [(11, ⟨45, 0, [cS s_2], [], .c (.clo 55 [0]), [(0, .box [.val (.string s_2)])], [(0, 1)], 2⟩), (12, ⟨44, 2, [.c (.h 0), .c (.clo 55 [1])], [(0, .row kP l_1), (1, .box [.val (.string s_2)])], cB r_10, [(0, .row kP l_1), (1, .box [.val (.string s_2)])], [(0, 0), (1, 1)], 2⟩), (18, ⟨46, 0, [cS s_2], [], .c (.clo 57 [0]), [(0, .box [.val (.string s_2)])], [(0, 2)], 3⟩), (19, ⟨44, 2, [.c (.h 0), .c (.clo 57 [1])], [(0, .row kP l_1), (1, .box [.val (.string s_2)])], cB r_16, [(0, .row kP l_1), (1, .box [.val (.string s_2)])], [(0, 0), (1, 2)], 3⟩)] [(9, false), (14, false), (21, false)] (calls_cons (region_inside_spec K s_2 r_8 h_9) (by kernel_rfl) (calls_cons (region_every_rcregioninside1_2e7a3_spec K l_1 s_2 r_10 h_11) (by kernel_rfl) (calls_cons (region_edges_spec K s_2 r_14 h_15) (by kernel_rfl) (calls_cons (region_every_rcregionedges1_83797_spec K l_1 s_2 r_16 h_17) (by kernel_rfl) calls_nil)))) 1 [0, 27] [0] ⟨[(0, .c (.h 0)), (27, cB (!r_16))], [(0, .row kP l_1)], 3⟩ [(decide ((lnI l_1) < (1 : Int))) = false, (decide ((lnI l_1) > (8 : Int))) = false, (!r_10) = false] (by kernel_rfl) rfl rfl (ap2 b_4 (ap2 b_6 (ap1 b_12))) (by kernel_rfl) (by kernel_rfl) ?_
          have H_58 := Option.some.inj (show some (!r_16) = some q_41 from H_57); subst H_58
          refine VL_nil ?_
          exact QP_end (!r_16) rfl [] hn (by kernel_rfl) (by kernel_rfl) rfl rfl rfl
  · intro y_44 hy; subst hy
    skip
    skip
    refine VL_cond (y_44) (by kernel_rfl) ?_ ?_
    · intro b_20; have H_59 := of_t H_43 b_20
      refine V_run hN hn 2 3 [4] [0] ⟨[(4, cB false)], [(0, .row kP l_1)], 3⟩ [] (by kernel_rfl) rfl rfl ap0 ?_
      have H_61 := Option.some.inj (show some false = some r from H_59); subst H_61
      refine VL_ret ?_
      exact P_to [(4, cB false)] [(0, .row kP l_1)] [] hn (by kernel_rfl) (by kernel_rfl) rfl rfl rfl (QF_retS (by kernel_rfl) (by kernel_rfl) rfl)
    · intro b_20; have H_60 := of_f H_43 b_20
      refine V_run hN hn 4 3 [0, 5] [0] ⟨[(0, .c (.h 0)), (5, cI (1 : Int))], [(0, .row kP l_1)], 3⟩ [] (by kernel_rfl) rfl rfl ap0 ?_
      refine VL_block ?_
      refine V_to [(0, .c (.h 0)), (5, cI (1 : Int))] [(0, .row kP l_1)] [] hn (by kernel_rfl) (by kernel_rfl) rfl rfl rfl ?_
      refine VL_loop (X := Int) (fun x => [(0, .c (.h 0)), (5, cI x)]) (fun x => [(0, .row kP l_1)]) (fun k x => region_Is_rg.l0 K l_1 k x = some r) K (1 : Int) H_60 (fun _ h => no_none h) ?_
      intro k_24 i_23 H_62
      have H_63 : region_Is_rg.l0 K l_1 (k_24 + 1) i_23 = some r := H_62
      rw [region_Is_rg.l0] at H_63
      refine V_run hN hn 3 3 [0, 5, 31] [0] ⟨[(0, .c (.h 0)), (5, cI i_23), (31, cB (decide (i_23 < (lnI l_1))))], [(0, .row kP l_1)], 3⟩ [] (by kernel_rfl) rfl rfl ap0 ?_
      refine VL_cond ((decide (i_23 < (lnI l_1)))) (by kernel_rfl) ?_ ?_
      · intro b_26; have H_64 := of_t H_63 b_26
        refine V_run hN hn 2 3 [0, 5, 31] [0] ⟨[(0, .c (.h 0)), (5, cI i_23), (31, cB (decide (i_23 < (lnI l_1))))], [(0, .row kP l_1)], 3⟩ [] (by kernel_rfl) rfl rfl ap0 ?_
        refine VL_block ?_
        refine V_run hN hn 1 3 [0, 5, 31] [0] ⟨[(0, .c (.h 0)), (5, cI i_23), (31, cB (decide (i_23 < (lnI l_1))))], [(0, .row kP l_1)], 3⟩ [] (by kernel_rfl) rfl rfl ap0 ?_
        obtain ⟨r_29, h_30, H_66⟩ := of_bind H_64
        obtain ⟨r_31, h_32, H_67⟩ := of_bind H_66
        obtain ⟨c_33, H_68⟩ := of_if H_67
        refine V_draw hN hn (by kernel_rfl) [(4, ⟨34, 0, [.agg [.val (.int .i64 (List.getD l_1 (Int.toNat i_23) zP).1), .val (.int .i64 (List.getD l_1 (Int.toNat i_23) zP).2)]], [], .agg [.val (.int .i64 r_29.1), .val (.int .i64 r_29.2)], [], [], 3⟩), (11, ⟨34, 0, [.agg [.val (.int .i64 (List.getD l_1 (Int.toNat (w6 (i_23 - (1 : Int)))) zP).1), .val (.int .i64 (List.getD l_1 (Int.toNat (w6 (i_23 - (1 : Int)))) zP).2)]], [], .agg [.val (.int .i64 r_31.1), .val (.int .i64 r_31.2)], [], [], 3⟩)] [] (calls_cons (region_Span_spec K (List.getD l_1 (Int.toNat i_23) zP).1 (List.getD l_1 (Int.toNat i_23) zP).2 r_29 h_30) (by kernel_rfl) (calls_cons (region_Span_spec K (List.getD l_1 (Int.toNat (w6 (i_23 - (1 : Int)))) zP).1 (List.getD l_1 (Int.toNat (w6 (i_23 - (1 : Int)))) zP).2 r_31 h_32) (by kernel_rfl) calls_nil)) 3 [0, 5, 47] [0] ⟨[(0, .c (.h 0)), (5, cI i_23), (47, cB (decide (r_29.1 ≤ r_31.2)))], [(0, .row kP l_1)], 3⟩ [0 ≤ i_23, i_23 < (lnI l_1), 0 ≤ (w6 (i_23 - (1 : Int))), (w6 (i_23 - (1 : Int))) < (lnI l_1)] (by kernel_rfl) rfl rfl (ap2 c_33.1 (ap2 c_33.2.1 (ap2 c_33.2.2.1 (ap1 c_33.2.2.2)))) (by kernel_rfl) (by kernel_rfl) ?_
        refine VL_cond ((decide (r_29.1 ≤ r_31.2))) (by kernel_rfl) ?_ ?_
        · intro b_34; have H_69 := of_t H_68 b_34
          refine V_run hN hn 2 3 [4] [0] ⟨[(4, cB false)], [(0, .row kP l_1)], 3⟩ [] (by kernel_rfl) rfl rfl ap0 ?_
          have H_71 := Option.some.inj (show some false = some r from H_69); subst H_71
          refine VL_ret ?_
          refine QB_ret ?_
          refine QL_ret ?_
          refine QB_ret ?_
          exact P_to [(4, cB false)] [(0, .row kP l_1)] [] hn (by kernel_rfl) (by kernel_rfl) rfl rfl rfl (QF_retS (by kernel_rfl) (by kernel_rfl) rfl)
        · intro b_34; have H_70 := of_f H_68 b_34
          refine V_run hN hn 1 3 [0, 5, 47] [0] ⟨[(0, .c (.h 0)), (5, cI i_23), (47, cB (decide (r_29.1 ≤ r_31.2)))], [(0, .row kP l_1)], 3⟩ [] (by kernel_rfl) rfl rfl ap0 ?_
          refine VL_nil (QB_end ?_)
          refine V_run hN hn 1 3 [0, 5] [0] ⟨[(0, .c (.h 0)), (5, cI (w6 (i_23 + (1 : Int))))], [(0, .row kP l_1)], 3⟩ [] (by kernel_rfl) rfl rfl ap0 ?_
          refine VL_nil ?_
          exact V_roundEnd (w6 (i_23 + (1 : Int))) H_70 [] hn (by kernel_rfl) (by kernel_rfl) rfl rfl rfl
      · intro b_26; have H_65 := of_f H_63 b_26
        refine VL_exit ?_
        refine QL_exit ?_
        refine QB_here ?_
        refine V_run hN hn 2 3 [4] [0] ⟨[(4, cB true)], [(0, .row kP l_1)], 3⟩ [] (by kernel_rfl) rfl rfl ap0 ?_
        have H_72 := Option.some.inj (show some true = some r from H_65); subst H_72
        refine VL_ret ?_
        exact P_to [(4, cB true)] [(0, .row kP l_1)] [] hn (by kernel_rfl) (by kernel_rfl) rfl rfl rfl (QF_retS (by kernel_rfl) (by kernel_rfl) rfl)

theorem utf_Back_spec (K : Nat) (s_1 : ByteArray) (at_2 : Int) (r : Int) (H : utf_Back K s_1 at_2 = some r) : Spec Try.prog 30 0 [cS s_1, cI at_2] [] (cI r) [] := by
  refine Spec_mk (fn := Try.f30) (c := (Try.f30.body).get!) Try.func30 (by kernel_rfl) rfl ?_
  intro C hN hn
  replace hN : C.N = 24 := hN
  unfold utf_Back at H
  refine V_run hN hn 4 0 [0, 1] [] ⟨[(0, cS s_1), (1, cI at_2)], [], 0⟩ [] (by kernel_rfl) rfl rfl ap0 ?_
  obtain ⟨q_23, H_24, H_25⟩ := of_bind H
  refine V_cut (Y := Bool) (R := Bool) q_23 (fun y => y) (fun y => [(0, cS s_1), (1, cI at_2), (12, cB y)]) (fun y => []) ?_ ?_
  · skip
    rcases Bool.eq_false_or_eq_true ((decide (at_2 < (1 : Int)))) with b_4 | b_4
    · have H_27 := of_t H_24 b_4
      refine V_reg hN hn [] [(7, true)] calls_nil 0 [0, 1, 12] [] ⟨[(0, cS s_1), (1, cI at_2), (12, cB true)], [], 0⟩ [(decide (at_2 < (1 : Int))) = true] (by kernel_rfl) rfl rfl (ap1 b_4) (by kernel_rfl) (by kernel_rfl) ?_
      have H_29 := Option.some.inj (show some true = some q_23 from H_27); subst H_29
      refine VL_nil ?_
      exact QP_end true rfl [] hn (by kernel_rfl) (by kernel_rfl) rfl rfl rfl
    · have H_28 := of_f H_24 b_4
      obtain ⟨r_6, h_7, H_30⟩ := of_bind H_28
      refine V_reg hN hn [(5, ⟨41, 0, [cS s_1, cI at_2], [], cB r_6, [], [], 0⟩)] [(7, false)] (calls_cons (utf_IsEdge_spec K s_1 at_2 r_6 h_7) (by kernel_rfl) calls_nil) 0 [0, 1, 12] [] ⟨[(0, cS s_1), (1, cI at_2), (12, cB (!r_6))], [], 0⟩ [(decide (at_2 < (1 : Int))) = false] (by kernel_rfl) rfl rfl (ap1 b_4) (by kernel_rfl) (by kernel_rfl) ?_
      have H_31 := Option.some.inj (show some (!r_6) = some q_23 from H_30); subst H_31
      refine VL_nil ?_
      exact QP_end (!r_6) rfl [] hn (by kernel_rfl) (by kernel_rfl) rfl rfl rfl
  · intro y_26 hy; subst hy
    skip
    skip
    refine VL_cond (y_26) (by kernel_rfl) ?_ ?_
    · intro b_10; have H_32 := of_t H_25 b_10
      refine V_run hN hn 2 0 [4] [] ⟨[(4, cI at_2)], [], 0⟩ [] (by kernel_rfl) rfl rfl ap0 ?_
      have H_34 := Option.some.inj (show some at_2 = some r from H_32); subst H_34
      refine VL_ret ?_
      exact P_to [(4, cI at_2)] [] [] hn (by kernel_rfl) (by kernel_rfl) rfl rfl rfl (QF_retS (by kernel_rfl) (by kernel_rfl) rfl)
    · intro b_10; have H_33 := of_f H_25 b_10
      refine V_run hN hn 4 0 [0, 1] [] ⟨[(0, cS s_1), (1, cI (w6 (at_2 - (1 : Int))))], [], 0⟩ [] (by kernel_rfl) rfl rfl ap0 ?_
      refine VL_block ?_
      refine V_to [(0, cS s_1), (1, cI (w6 (at_2 - (1 : Int))))] [] [] hn (by kernel_rfl) (by kernel_rfl) rfl rfl rfl ?_
      refine VL_loop (X := Int) (fun x => [(0, cS s_1), (1, cI x)]) (fun x => []) (fun k x => utf_Back.l0 K s_1 k x = some r) K (w6 (at_2 - (1 : Int))) H_33 (fun _ h => no_none h) ?_
      intro k_14 at_13 H_35
      have H_36 : utf_Back.l0 K s_1 (k_14 + 1) at_13 = some r := H_35
      rw [utf_Back.l0] at H_36
      obtain ⟨c_15, H_37⟩ := of_if H_36
      refine V_run hN hn 3 0 [0, 1, 20] [] ⟨[(0, cS s_1), (1, cI at_13), (20, cB ((IntKind.wrap .u8 (BitVec.toNat (BitVec.ofInt (IntKind.bits .u8) (bt s_1 at_13) &&& BitVec.ofInt (IntKind.bits .u8) (192 : Int)))) == (128 : Int)))], [], 0⟩ [0 ≤ at_13, at_13 < (((ByteArray.size s_1) : Nat) : Int)] (by kernel_rfl) rfl rfl (ap2 c_15.1 (ap1 c_15.2)) ?_
      refine VL_cond (((IntKind.wrap .u8 (BitVec.toNat (BitVec.ofInt (IntKind.bits .u8) (bt s_1 at_13) &&& BitVec.ofInt (IntKind.bits .u8) (192 : Int)))) == (128 : Int))) (by kernel_rfl) ?_ ?_
      · intro b_16; have H_38 := of_t H_37 b_16
        refine V_run hN hn 2 0 [0, 1, 20] [] ⟨[(0, cS s_1), (1, cI at_13), (20, cB ((IntKind.wrap .u8 (BitVec.toNat (BitVec.ofInt (IntKind.bits .u8) (bt s_1 at_13) &&& BitVec.ofInt (IntKind.bits .u8) (192 : Int)))) == (128 : Int)))], [], 0⟩ [] (by kernel_rfl) rfl rfl ap0 ?_
        refine VL_block ?_
        refine V_run hN hn 1 0 [0, 1, 20] [] ⟨[(0, cS s_1), (1, cI at_13), (20, cB ((IntKind.wrap .u8 (BitVec.toNat (BitVec.ofInt (IntKind.bits .u8) (bt s_1 at_13) &&& BitVec.ofInt (IntKind.bits .u8) (192 : Int)))) == (128 : Int)))], [], 0⟩ [] (by kernel_rfl) rfl rfl ap0 ?_
        refine VL_nil (QB_end ?_)
        refine V_run hN hn 1 0 [0, 1] [] ⟨[(0, cS s_1), (1, cI (w6 (at_13 - (1 : Int))))], [], 0⟩ [] (by kernel_rfl) rfl rfl ap0 ?_
        refine VL_nil ?_
        exact V_roundEnd (w6 (at_13 - (1 : Int))) H_38 [] hn (by kernel_rfl) (by kernel_rfl) rfl rfl rfl
      · intro b_16; have H_39 := of_f H_37 b_16
        refine VL_exit ?_
        refine QL_exit ?_
        refine QB_here ?_
        refine V_run hN hn 2 0 [4] [] ⟨[(4, cI at_13)], [], 0⟩ [] (by kernel_rfl) rfl rfl ap0 ?_
        have H_40 := Option.some.inj (show some at_13 = some r from H_39); subst H_40
        refine VL_ret ?_
        exact P_to [(4, cI at_13)] [] [] hn (by kernel_rfl) (by kernel_rfl) rfl rfl rfl (QF_retS (by kernel_rfl) (by kernel_rfl) rfl)

theorem carets_Erase_rg_spec (K : Nat) (l_1 : (List (Int × Int))) (s_2 : ByteArray) (r : (List (Int × (Int × ByteArray)))) (H : carets_Erase_rg K l_1 s_2 = some r) : Spec Try.prog 17 1 [.c (.h 0), cS s_2] [(0, .row kP l_1)] (.c (.h 7)) [(0, .row kP l_1), (7, .row kE r)] := by
  refine Spec_mk (fn := Try.f17) (c := (Try.f17.body).get!) Try.func17 (by kernel_rfl) rfl ?_
  intro C hN hn
  replace hN : C.N = 54 := hN
  unfold carets_Erase_rg at H
  refine V_run hN hn 2 1 [0, 1] [0] ⟨[(0, .c (.h 0)), (1, cS s_2)], [(0, .row kP l_1)], 1⟩ [] (by kernel_rfl) rfl rfl ap0 ?_
  refine VL_scope ?_
  refine V_run hN hn 2 1 [0, 1] [0] ⟨[(0, .c (.h 0)), (1, cS s_2)], [(0, .row kP l_1)], 1⟩ [] (by kernel_rfl) rfl rfl ap0 ?_
  obtain ⟨r_5, h_6, H_60⟩ := of_bind H
  refine V_reg hN hn [(2, ⟨37, 1, [.c (.h 0), cS s_2], [(0, .row kP l_1)], cB r_5, [(0, .row kP l_1)], [(0, 0)], 1⟩)] [] (calls_cons (region_Is_rg_spec K l_1 s_2 r_5 h_6) (by kernel_rfl) calls_nil) 1 [0, 1, 13] [0] ⟨[(0, .c (.h 0)), (1, cS s_2), (13, cB (!r_5))], [(0, .row kP l_1)], 1⟩ [] (by kernel_rfl) rfl rfl ap0 (by kernel_rfl) (by kernel_rfl) ?_
  refine VL_cond ((!r_5)) (by kernel_rfl) ?_ ?_
  · intro b_8; have H_61 := of_t H_60 b_8
    refine V_run hN hn 2 1 [4] [0] ⟨[(4, .c (.val (.slice none 0 0)))], [(0, .row kP l_1)], 1⟩ [] (by kernel_rfl) rfl rfl ap0 ?_
    have H_63 := Option.some.inj (show some ([] : List (Int × (Int × ByteArray))) = some r from H_61); subst H_63
    refine VL_ret ?_
    refine QG_ret ?_
    refine P_ghost [.nilSlot 4 kE] 1 hn [4] [0, 1] ⟨[(4, .c (.h 1))], [(0, .row kP l_1), (1, .row kE ([] : List (Int × (Int × ByteArray))))], 2⟩ (by kernel_rfl) rfl rfl ?_
    exact P_to [(4, .c (.h 7))] [(0, .row kP l_1), (7, .row kE ([] : List (Int × (Int × ByteArray))))] [(7, 1)] hn (by kernel_rfl) (by kernel_rfl) rfl rfl rfl (QF_retS (by kernel_rfl) (by kernel_rfl) rfl)
  · intro b_8; have H_62 := of_f H_60 b_8
    refine V_run hN hn 6 1 [0, 1, 5, 6] [0] ⟨[(0, .c (.h 0)), (1, cS s_2), (5, .c (.val (.slice none 0 0))), (6, cI (0 : Int))], [(0, .row kP l_1)], 1⟩ [] (by kernel_rfl) rfl rfl ap0 ?_
    refine VL_label ?_
    refine V_run hN hn 3 1 [1, 5, 6, 14, 15, 16] [0] ⟨[(1, cS s_2), (5, .c (.val (.slice none 0 0))), (6, cI (0 : Int)), (14, .c (.h 0)), (15, cI (lnI l_1)), (16, cI (0 : Int))], [(0, .row kP l_1)], 1⟩ [] (by kernel_rfl) rfl rfl ap0 ?_
    refine VL_block ?_
    refine V_ghost [.nilSlot 5 kE] 1 hn [1, 5, 6, 14, 15, 16] [0, 1] ⟨[(1, cS s_2), (5, .c (.h 1)), (6, cI (0 : Int)), (14, .c (.h 0)), (15, cI (lnI l_1)), (16, cI (0 : Int))], [(0, .row kP l_1), (1, .row kE ([] : List (Int × (Int × ByteArray))))], 2⟩ (by kernel_rfl) rfl rfl ?_
    refine V_to [(1, cS s_2), (5, .c (.h 6)), (6, cI (0 : Int)), (14, .c (.h 0)), (15, cI (lnI l_1)), (16, cI (0 : Int))] [(0, .row kP l_1), (6, .row kE ([] : List (Int × (Int × ByteArray))))] [(6, 1)] hn (by kernel_rfl) (by kernel_rfl) rfl rfl rfl ?_
    refine VL_loop (X := ((List (Int × (Int × ByteArray))) × Int × Int)) (fun x => [(1, cS s_2), (5, .c (.h 6)), (6, cI x.2.1), (14, .c (.h 0)), (15, cI (lnI l_1)), (16, cI x.2.2)]) (fun x => [(0, .row kP l_1), (6, .row kE x.1)]) (fun k x => carets_Erase_rg.l0 K l_1 s_2 k x.1 x.2.1 x.2.2 = some r) K (([] : List (Int × (Int × ByteArray))), (0 : Int), (0 : Int)) H_62 (fun _ h => no_none h) ?_
    intro k_36 x_36 H_64
    obtain ⟨out_35, end_12, t_13⟩ := x_36
    have H_65 : carets_Erase_rg.l0 K l_1 s_2 (k_36 + 1) out_35 end_12 t_13 = some r := H_64
    rw [carets_Erase_rg.l0] at H_65
    refine V_run hN hn 3 7 [1, 5, 6, 14, 15, 16, 17] [0, 6] ⟨[(1, cS s_2), (5, .c (.h 6)), (6, cI end_12), (14, .c (.h 0)), (15, cI (lnI l_1)), (16, cI t_13), (17, cB (decide (t_13 < (lnI l_1))))], [(0, .row kP l_1), (6, .row kE out_35)], 7⟩ [] (by kernel_rfl) rfl rfl ap0 ?_
    refine VL_cond ((decide (t_13 < (lnI l_1)))) (by kernel_rfl) ?_ ?_
    · intro b_38; have H_66 := of_t H_65 b_38
      refine V_run hN hn 2 7 [1, 5, 6, 14, 15, 16, 17] [0, 6] ⟨[(1, cS s_2), (5, .c (.h 6)), (6, cI end_12), (14, .c (.h 0)), (15, cI (lnI l_1)), (16, cI t_13), (17, cB (decide (t_13 < (lnI l_1))))], [(0, .row kP l_1), (6, .row kE out_35)], 7⟩ [] (by kernel_rfl) rfl rfl ap0 ?_
      refine VL_block ?_
      obtain ⟨c_40, H_68⟩ := of_if H_66
      refine V_run hN hn 3 7 [1, 5, 6, 8, 14, 15, 16] [0, 6, 7] ⟨[(1, cS s_2), (5, .c (.h 6)), (6, cI end_12), (8, .c (.h 7)), (14, .c (.h 0)), (15, cI (lnI l_1)), (16, cI t_13)], [(0, .row kP l_1), (6, .row kE out_35), (7, .box [.val (.int .i64 (List.getD l_1 (Int.toNat t_13) zP).1), .val (.int .i64 (List.getD l_1 (Int.toNat t_13) zP).2)])], 8⟩ [0 ≤ t_13, t_13 < (lnI l_1)] (by kernel_rfl) rfl rfl (ap2 c_40.1 (ap1 c_40.2)) ?_
      obtain ⟨r_41, h_42, H_69⟩ := of_bind H_68
      refine V_reg hN hn [(1, ⟨34, 0, [.agg [.val (.int .i64 (List.getD l_1 (Int.toNat t_13) zP).1), .val (.int .i64 (List.getD l_1 (Int.toNat t_13) zP).2)]], [], .agg [.val (.int .i64 r_41.1), .val (.int .i64 r_41.2)], [], [], 8⟩)] [] (calls_cons (region_Span_spec K (List.getD l_1 (Int.toNat t_13) zP).1 (List.getD l_1 (Int.toNat t_13) zP).2 r_41 h_42) (by kernel_rfl) calls_nil) 8 [1, 5, 6, 9, 14, 15, 16] [0, 6, 8] ⟨[(1, cS s_2), (5, .c (.h 6)), (6, cI end_12), (9, .c (.h 8)), (14, .c (.h 0)), (15, cI (lnI l_1)), (16, cI t_13)], [(0, .row kP l_1), (6, .row kE out_35), (8, .box [.val (.int .i64 r_41.1), .val (.int .i64 r_41.2)])], 9⟩ [] (by kernel_rfl) rfl rfl ap0 (by kernel_rfl) (by kernel_rfl) ?_
      refine V_run hN hn 3 9 [1, 5, 6, 9, 14, 15, 16, 26] [0, 6, 8] ⟨[(1, cS s_2), (5, .c (.h 6)), (6, cI end_12), (9, .c (.h 8)), (14, .c (.h 0)), (15, cI (lnI l_1)), (16, cI t_13), (26, cB (r_41.1 == r_41.2))], [(0, .row kP l_1), (6, .row kE out_35), (8, .box [.val (.int .i64 r_41.1), .val (.int .i64 r_41.2)])], 9⟩ [] (by kernel_rfl) rfl rfl ap0 ?_
      obtain ⟨q_70, H_71, H_72⟩ := of_bind H_69
      refine V_cut (Y := Int) (R := Int) q_70 (fun y => y) (fun y => [(1, cS s_2), (5, .c (.h 6)), (6, cI end_12), (9, .c (.h 8)), (14, .c (.h 0)), (15, cI (lnI l_1)), (16, cI t_13)]) (fun y => [(0, .row kP l_1), (6, .row kE out_35), (8, .box [.val (.int .i64 y), .val (.int .i64 r_41.2)])]) ?_ ?_
      · skip
        refine VL_cond ((r_41.1 == r_41.2)) (by kernel_rfl) ?_ ?_
        · intro b_45; have H_74 := of_t H_71 b_45
          obtain ⟨r_46, h_47, H_76⟩ := of_bind H_74
          refine V_reg hN hn [(3, ⟨30, 0, [cS s_2, cI r_41.1], [], cI r_46, [], [], 9⟩)] [] (calls_cons (utf_Back_spec K s_2 r_41.1 r_46 h_47) (by kernel_rfl) calls_nil) 9 [1, 5, 6, 9, 14, 15, 16] [0, 6, 8] ⟨[(1, cS s_2), (5, .c (.h 6)), (6, cI end_12), (9, .c (.h 8)), (14, .c (.h 0)), (15, cI (lnI l_1)), (16, cI t_13)], [(0, .row kP l_1), (6, .row kE out_35), (8, .box [.val (.int .i64 r_46), .val (.int .i64 r_41.2)])], 9⟩ [] (by kernel_rfl) rfl rfl ap0 (by kernel_rfl) (by kernel_rfl) ?_
          have H_77 := Option.some.inj (show some r_46 = some q_70 from H_76); subst H_77
          refine VL_nil ?_
          exact QP_end r_46 rfl [(6, 6), (8, 8)] hn (by kernel_rfl) (by kernel_rfl) rfl rfl rfl
        · intro b_45; have H_75 := of_f H_71 b_45
          refine V_run hN hn 1 9 [1, 5, 6, 9, 14, 15, 16, 26] [0, 6, 8] ⟨[(1, cS s_2), (5, .c (.h 6)), (6, cI end_12), (9, .c (.h 8)), (14, .c (.h 0)), (15, cI (lnI l_1)), (16, cI t_13), (26, cB (r_41.1 == r_41.2))], [(0, .row kP l_1), (6, .row kE out_35), (8, .box [.val (.int .i64 r_41.1), .val (.int .i64 r_41.2)])], 9⟩ [] (by kernel_rfl) rfl rfl ap0 ?_
          have H_78 := Option.some.inj (show some r_41.1 = some q_70 from H_75); subst H_78
          refine VL_nil ?_
          exact QP_end r_41.1 rfl [(6, 6), (8, 8)] hn (by kernel_rfl) (by kernel_rfl) rfl rfl rfl
      · intro y_73 hy; subst hy
        skip
        skip
        refine V_run hN hn 5 9 [1, 5, 6, 9, 14, 15, 16, 41] [0, 6, 8] ⟨[(1, cS s_2), (5, .c (.h 6)), (6, cI end_12), (9, .c (.h 8)), (14, .c (.h 0)), (15, cI (lnI l_1)), (16, cI t_13), (41, cB (decide ((mx2 y_73 end_12) ≥ r_41.2)))], [(0, .row kP l_1), (6, .row kE out_35), (8, .box [.val (.int .i64 (mx2 y_73 end_12)), .val (.int .i64 r_41.2)])], 9⟩ [] (by kernel_rfl) rfl rfl ap0 ?_
        refine VL_cond ((decide ((mx2 y_73 end_12) ≥ r_41.2))) (by kernel_rfl) ?_ ?_
        · intro b_52; have H_79 := of_t H_72 b_52
          refine VL_exit ?_
          refine QB_here ?_
          refine V_run hN hn 1 9 [1, 5, 6, 14, 15, 16] [0, 6] ⟨[(1, cS s_2), (5, .c (.h 6)), (6, cI end_12), (14, .c (.h 0)), (15, cI (lnI l_1)), (16, cI (w6 (t_13 + (1 : Int))))], [(0, .row kP l_1), (6, .row kE out_35)], 9⟩ [] (by kernel_rfl) rfl rfl ap0 ?_
          refine VL_nil ?_
          exact V_roundEnd (out_35, end_12, (w6 (t_13 + (1 : Int)))) H_79 [(6, 6)] hn (by kernel_rfl) (by kernel_rfl) rfl rfl rfl
        · intro b_52; have H_80 := of_f H_72 b_52
          obtain ⟨c_54, H_81⟩ := of_if H_80
          refine V_run hN hn 4 9 [1, 5, 6, 14, 15, 16] [0, 10] ⟨[(1, cS s_2), (5, .c (.h 10)), (6, cI r_41.2), (14, .c (.h 0)), (15, cI (lnI l_1)), (16, cI t_13)], [(0, .row kP l_1), (10, .row kE (out_35 ++ ([((mx2 y_73 end_12), (r_41.2, ByteArray.empty))] : List (Int × (Int × ByteArray)))))], 11⟩ [(List.length out_35 + List.length ([((mx2 y_73 end_12), (r_41.2, ByteArray.empty))] : List (Int × (Int × ByteArray)))) * 32 ≤ 140737488355328] (by kernel_rfl) rfl rfl (ap1 c_54) ?_
          refine VL_nil (QB_end ?_)
          refine V_run hN hn 1 11 [1, 5, 6, 14, 15, 16] [0, 10] ⟨[(1, cS s_2), (5, .c (.h 10)), (6, cI r_41.2), (14, .c (.h 0)), (15, cI (lnI l_1)), (16, cI (w6 (t_13 + (1 : Int))))], [(0, .row kP l_1), (10, .row kE (out_35 ++ ([((mx2 y_73 end_12), (r_41.2, ByteArray.empty))] : List (Int × (Int × ByteArray)))))], 11⟩ [] (by kernel_rfl) rfl rfl ap0 ?_
          refine VL_nil ?_
          exact V_roundEnd ((out_35 ++ ([((mx2 y_73 end_12), (r_41.2, ByteArray.empty))] : List (Int × (Int × ByteArray)))), r_41.2, (w6 (t_13 + (1 : Int)))) H_81 [(6, 10)] hn (by kernel_rfl) (by kernel_rfl) rfl rfl rfl
    · intro b_38; have H_67 := of_f H_65 b_38
      refine VL_exit ?_
      refine QL_exit ?_
      refine QB_here ?_
      refine V_run hN hn 2 7 [4] [0, 6] ⟨[(4, .c (.h 6))], [(0, .row kP l_1), (6, .row kE out_35)], 7⟩ [] (by kernel_rfl) rfl rfl ap0 ?_
      have H_82 := Option.some.inj (show some out_35 = some r from H_67); subst H_82
      refine VL_ret ?_
      refine QG_ret ?_
      exact P_to [(4, .c (.h 7))] [(0, .row kP l_1), (7, .row kE out_35)] [(7, 6)] hn (by kernel_rfl) (by kernel_rfl) rfl rfl rfl (QF_retS (by kernel_rfl) (by kernel_rfl) rfl)

theorem carets_Step_1_sggbbb_c6240_spec (K : Nat) (r_1 : Int) (r_2 : Int) (p_3 : Bool) (p_4 : ByteArray) (p_5 : Bool) (r : (Int × Int)) (H : carets_Step_1_sggbbb_c6240 K r_1 r_2 p_3 p_4 p_5 = some r) : Spec Try.prog 28 3 [.agg [.val (.int .i64 r_1), .val (.int .i64 r_2)], .c (.h 0), .c (.h 1), .c (.h 2)] [(0, .box [.val (.bool p_3)]), (1, .box [.val (.string p_4)]), (2, .box [.val (.bool p_5)])] (.agg [.val (.int .i64 r.1), .val (.int .i64 r.2)]) [(0, .box [.val (.bool p_3)]), (1, .box [.val (.string p_4)]), (2, .box [.val (.bool p_5)])] := by
  refine Spec_mk (fn := Try.f28) (c := (Try.f28.body).get!) Try.func28 (by kernel_rfl) rfl ?_
  intro C hN hn
  replace hN : C.N = 26 := hN
  unfold carets_Step_1_sggbbb_c6240 at H
  refine V_run hN hn 5 3 [2, 3, 4, 5, 6] [0, 1, 2, 3, 4] ⟨[(2, .c (.h 1)), (3, .c (.h 2)), (4, .c (.h 3)), (5, .c (.h 4)), (6, cB p_3)], [(0, .box [.val (.bool p_3)]), (1, .box [.val (.string p_4)]), (2, .box [.val (.bool p_5)]), (3, .box [.val (.int .i64 r_1), .val (.int .i64 r_2)]), (4, .box [.val (.int .i64 (0 : Int)), .val (.int .i64 (0 : Int))])], 5⟩ [] (by kernel_rfl) rfl rfl ap0 ?_
  obtain ⟨q_22, H_23, H_24⟩ := of_bind H
  refine V_cut (Y := Int) (R := Int) q_22 (fun y => y) (fun y => [(3, .c (.h 2)), (4, .c (.h 3)), (5, .c (.h 4))]) (fun y => [(0, .box [.val (.bool p_3)]), (1, .box [.val (.string p_4)]), (2, .box [.val (.bool p_5)]), (3, .box [.val (.int .i64 r_1), .val (.int .i64 y)]), (4, .box [.val (.int .i64 (0 : Int)), .val (.int .i64 (0 : Int))])]) ?_ ?_
  · skip
    refine VL_cond (p_3) (by kernel_rfl) ?_ ?_
    · intro b_7; have H_26 := of_t H_23 b_7
      obtain ⟨r_8, h_9, H_28⟩ := of_bind H_26
      refine V_draw hN hn (by kernel_rfl) [(5, ⟨29, 0, [cS p_4, cI r_2], [], cI r_8, [], [], 5⟩)] [] (calls_cons (utf_Size_spec K p_4 r_2 r_8 h_9) (by kernel_rfl) calls_nil) 5 [3, 4, 5] [0, 1, 2, 3, 4] ⟨[(3, .c (.h 2)), (4, .c (.h 3)), (5, .c (.h 4))], [(0, .box [.val (.bool p_3)]), (1, .box [.val (.string p_4)]), (2, .box [.val (.bool p_5)]), (3, .box [.val (.int .i64 r_1), .val (.int .i64 (w6 (r_2 + r_8)))]), (4, .box [.val (.int .i64 (0 : Int)), .val (.int .i64 (0 : Int))])], 5⟩ [] (by kernel_rfl) rfl rfl ap0 (by kernel_rfl) (by kernel_rfl) ?_
      have H_29 := Option.some.inj (show some (w6 (r_2 + r_8)) = some q_22 from H_28); subst H_29
      refine VL_nil ?_
      exact QP_end (w6 (r_2 + r_8)) rfl [(3, 3), (4, 4)] hn (by kernel_rfl) (by kernel_rfl) rfl rfl rfl
    · intro b_7; have H_27 := of_f H_23 b_7
      obtain ⟨r_11, h_12, H_30⟩ := of_bind H_27
      refine V_reg hN hn [(3, ⟨30, 0, [cS p_4, cI r_2], [], cI r_11, [], [], 5⟩)] [] (calls_cons (utf_Back_spec K p_4 r_2 r_11 h_12) (by kernel_rfl) calls_nil) 5 [3, 4, 5] [0, 1, 2, 3, 4] ⟨[(3, .c (.h 2)), (4, .c (.h 3)), (5, .c (.h 4))], [(0, .box [.val (.bool p_3)]), (1, .box [.val (.string p_4)]), (2, .box [.val (.bool p_5)]), (3, .box [.val (.int .i64 r_1), .val (.int .i64 r_11)]), (4, .box [.val (.int .i64 (0 : Int)), .val (.int .i64 (0 : Int))])], 5⟩ [] (by kernel_rfl) rfl rfl ap0 (by kernel_rfl) (by kernel_rfl) ?_
      have H_31 := Option.some.inj (show some r_11 = some q_22 from H_30); subst H_31
      refine VL_nil ?_
      exact QP_end r_11 rfl [(3, 3), (4, 4)] hn (by kernel_rfl) (by kernel_rfl) rfl rfl rfl
  · intro y_25 hy; subst hy
    skip
    skip
    refine V_run hN hn 3 5 [4, 5, 21] [0, 1, 2, 3, 4] ⟨[(4, .c (.h 3)), (5, .c (.h 4)), (21, cB (!p_5))], [(0, .box [.val (.bool p_3)]), (1, .box [.val (.string p_4)]), (2, .box [.val (.bool p_5)]), (3, .box [.val (.int .i64 r_1), .val (.int .i64 y_25)]), (4, .box [.val (.int .i64 (0 : Int)), .val (.int .i64 (0 : Int))])], 5⟩ [] (by kernel_rfl) rfl rfl ap0 ?_
    refine VL_cond ((!p_5)) (by kernel_rfl) ?_ ?_
    · intro b_16; have H_32 := of_t H_24 b_16
      refine V_run hN hn 3 5 [5] [0, 1, 2, 4] ⟨[(5, .c (.h 4))], [(0, .box [.val (.bool p_3)]), (1, .box [.val (.string p_4)]), (2, .box [.val (.bool p_5)]), (4, .box [.val (.int .i64 y_25), .val (.int .i64 y_25)])], 5⟩ [] (by kernel_rfl) rfl rfl ap0 ?_
      have H_34 := Option.some.inj (show some (y_25, y_25) = some r from H_32); subst H_34
      refine VL_ret ?_
      exact P_to [(5, .c (.h 4))] [(0, .box [.val (.bool p_3)]), (1, .box [.val (.string p_4)]), (2, .box [.val (.bool p_5)]), (4, .box [.val (.int .i64 y_25), .val (.int .i64 y_25)])] [(4, 4)] hn (by kernel_rfl) (by kernel_rfl) rfl rfl rfl (QF_retS (by kernel_rfl) (by kernel_rfl) rfl)
    · intro b_16; have H_33 := of_f H_24 b_16
      refine V_run hN hn 3 5 [5] [0, 1, 2, 4] ⟨[(5, .c (.h 4))], [(0, .box [.val (.bool p_3)]), (1, .box [.val (.string p_4)]), (2, .box [.val (.bool p_5)]), (4, .box [.val (.int .i64 r_1), .val (.int .i64 y_25)])], 5⟩ [] (by kernel_rfl) rfl rfl ap0 ?_
      have H_35 := Option.some.inj (show some (r_1, y_25) = some r from H_33); subst H_35
      refine VL_ret ?_
      exact P_to [(5, .c (.h 4))] [(0, .box [.val (.bool p_3)]), (1, .box [.val (.string p_4)]), (2, .box [.val (.bool p_5)]), (4, .box [.val (.int .i64 r_1), .val (.int .i64 y_25)])] [(4, 4)] hn (by kernel_rfl) (by kernel_rfl) rfl rfl rfl (QF_retS (by kernel_rfl) (by kernel_rfl) rfl)

theorem region_count_spec (K : Nat) (l_1 : (List (Int × Int))) (r : Int) (H : region_count_r K l_1 = some r) : Spec Try.prog 47 0 [.c (.imm (.slice kP) l_1)] [] (cI r) [] := by
  refine Spec_mk (fn := Try.f47) (c := (Try.f47.body).get!) Try.func47 (by kernel_rfl) rfl ?_
  intro C hN hn
  replace hN : C.N = 11 := hN
  unfold region_count_r at H
  refine V_run hN hn 3 0 [0] [] ⟨[(0, .c (.imm (.slice kP) l_1))], [], 0⟩ [] (by kernel_rfl) rfl rfl ap0 ?_
  refine VL_block ?_
  refine V_run hN hn 2 0 [0, 3] [] ⟨[(0, .c (.imm (.slice kP) l_1)), (3, cB ((lnI l_1) == (0 : Int)))], [], 0⟩ [] (by kernel_rfl) rfl rfl ap0 ?_
  refine VL_cond (((lnI l_1) == (0 : Int))) (by kernel_rfl) ?_ ?_
  · intro b_4; have H_12 := of_t H b_4
    refine V_run hN hn 2 0 [2] [] ⟨[(2, cI (12 : Int))], [], 0⟩ [] (by kernel_rfl) rfl rfl ap0 ?_
    have H_14 := Option.some.inj (show some (12 : Int) = some r from H_12); subst H_14
    refine VL_ret ?_
    refine QB_ret ?_
    exact P_to [(2, cI (12 : Int))] [] [] hn (by kernel_rfl) (by kernel_rfl) rfl rfl rfl (QF_retS (by kernel_rfl) (by kernel_rfl) rfl)
  · intro b_4; have H_13 := of_f H b_4
    refine V_run hN hn 2 0 [7] [] ⟨[(7, cB (decide ((lnI l_1) > (8 : Int))))], [], 0⟩ [] (by kernel_rfl) rfl rfl ap0 ?_
    refine VL_cond ((decide ((lnI l_1) > (8 : Int)))) (by kernel_rfl) ?_ ?_
    · intro b_7; have H_15 := of_t H_13 b_7
      refine V_run hN hn 2 0 [2] [] ⟨[(2, cI (70 : Int))], [], 0⟩ [] (by kernel_rfl) rfl rfl ap0 ?_
      have H_17 := Option.some.inj (show some (70 : Int) = some r from H_15); subst H_17
      refine VL_ret ?_
      refine QB_ret ?_
      exact P_to [(2, cI (70 : Int))] [] [] hn (by kernel_rfl) (by kernel_rfl) rfl rfl rfl (QF_retS (by kernel_rfl) (by kernel_rfl) rfl)
    · intro b_7; have H_16 := of_f H_13 b_7
      refine V_run hN hn 1 0 [7] [] ⟨[(7, cB (decide ((lnI l_1) > (8 : Int))))], [], 0⟩ [] (by kernel_rfl) rfl rfl ap0 ?_
      refine VL_nil (QB_end ?_)
      refine V_run hN hn 2 0 [2] [] ⟨[(2, cI (0 : Int))], [], 0⟩ [] (by kernel_rfl) rfl rfl ap0 ?_
      have H_18 := Option.some.inj (show some (0 : Int) = some r from H_16); subst H_18
      refine VL_ret ?_
      exact P_to [(2, cI (0 : Int))] [] [] hn (by kernel_rfl) (by kernel_rfl) rfl rfl rfl (QF_retS (by kernel_rfl) (by kernel_rfl) rfl)

theorem slices_IndexFunc_gcregionevery1_cb99b_spec (K : Nat) (s_1 : (List (Int × Int))) (f_2 : ByteArray) (r : Int) (H : slices_IndexFunc_rcregionevery1_a4c35 K s_1 f_2 = some r) : Spec Try.prog 68 2 [.c (.imm (.slice kP) s_1), .c (.clo 54 [0])] [(0, .box [.clo 55 [1]]), (1, .box [.val (.string f_2)])] (cI r) [(0, .box [.clo 55 [1]]), (1, .box [.val (.string f_2)])] := by
  refine Spec_mk (fn := Try.f68) (c := (Try.f68.body).get!) Try.func68 (by kernel_rfl) rfl ?_
  intro C hN hn
  replace hN : C.N = 19 := hN
  unfold slices_IndexFunc_rcregionevery1_a4c35 at H
  refine V_run hN hn 5 2 [0, 1, 7, 8] [0, 1] ⟨[(0, .c (.imm (.slice kP) s_1)), (1, .c (.clo 54 [0])), (7, cI (lnI s_1)), (8, cI (0 : Int))], [(0, .box [.clo 55 [1]]), (1, .box [.val (.string f_2)])], 2⟩ [] (by kernel_rfl) rfl rfl ap0 ?_
  refine VL_block ?_
  refine V_to [(0, .c (.imm (.slice kP) s_1)), (1, .c (.clo 54 [0])), (7, cI (lnI s_1)), (8, cI (0 : Int))] [(0, .box [.clo 55 [1]]), (1, .box [.val (.string f_2)])] [] hn (by kernel_rfl) (by kernel_rfl) rfl rfl rfl ?_
  refine VL_loop (X := Int) (fun x => [(0, .c (.imm (.slice kP) s_1)), (1, .c (.clo 54 [0])), (7, cI (lnI s_1)), (8, cI x)]) (fun x => [(0, .box [.clo 55 [1]]), (1, .box [.val (.string f_2)])]) (fun k x => slices_IndexFunc_rcregionevery1_a4c35.l0 K s_1 f_2 k x = some r) K (0 : Int) H (fun _ h => no_none h) ?_
  intro k_5 t_4 H_19
  have H_20 : slices_IndexFunc_rcregionevery1_a4c35.l0 K s_1 f_2 (k_5 + 1) t_4 = some r := H_19
  rw [slices_IndexFunc_rcregionevery1_a4c35.l0] at H_20
  refine V_run hN hn 3 2 [0, 1, 7, 8, 9] [0, 1] ⟨[(0, .c (.imm (.slice kP) s_1)), (1, .c (.clo 54 [0])), (7, cI (lnI s_1)), (8, cI t_4), (9, cB (decide (t_4 < (lnI s_1))))], [(0, .box [.clo 55 [1]]), (1, .box [.val (.string f_2)])], 2⟩ [] (by kernel_rfl) rfl rfl ap0 ?_
  refine VL_cond ((decide (t_4 < (lnI s_1)))) (by kernel_rfl) ?_ ?_
  · intro b_7; have H_21 := of_t H_20 b_7
    refine V_run hN hn 2 2 [0, 1, 7, 8, 9] [0, 1] ⟨[(0, .c (.imm (.slice kP) s_1)), (1, .c (.clo 54 [0])), (7, cI (lnI s_1)), (8, cI t_4), (9, cB (decide (t_4 < (lnI s_1))))], [(0, .box [.clo 55 [1]]), (1, .box [.val (.string f_2)])], 2⟩ [] (by kernel_rfl) rfl rfl ap0 ?_
    refine VL_block ?_
    refine V_run hN hn 3 2 [0, 1, 5, 7, 8] [0, 1] ⟨[(0, .c (.imm (.slice kP) s_1)), (1, .c (.clo 54 [0])), (5, cI t_4), (7, cI (lnI s_1)), (8, cI t_4)], [(0, .box [.clo 55 [1]]), (1, .box [.val (.string f_2)])], 2⟩ [] (by kernel_rfl) rfl rfl ap0 ?_
    obtain ⟨r_10, h_11, H_23⟩ := of_bind H_21
    obtain ⟨c_12, H_24⟩ := of_if H_23
    refine V_reg hN hn [(5, ⟨54, 2, [.agg [.val (.int .i64 (List.getD s_1 (Int.toNat t_4) zP).1), .val (.int .i64 (List.getD s_1 (Int.toNat t_4) zP).2)], .c (.h 0)], [(0, .box [.clo 55 [1]]), (1, .box [.val (.string f_2)])], cB r_10, [(0, .box [.clo 55 [1]]), (1, .box [.val (.string f_2)])], [(0, 0), (1, 1)], 2⟩)] [] (calls_cons (region_every_1_sggb_7e816_spec K (List.getD s_1 (Int.toNat t_4) zP).1 (List.getD s_1 (Int.toNat t_4) zP).2 f_2 r_10 h_11) (by kernel_rfl) calls_nil) 2 [0, 1, 5, 7, 8, 16] [0, 1] ⟨[(0, .c (.imm (.slice kP) s_1)), (1, .c (.clo 54 [0])), (5, cI t_4), (7, cI (lnI s_1)), (8, cI t_4), (16, cB r_10)], [(0, .box [.clo 55 [1]]), (1, .box [.val (.string f_2)])], 2⟩ [0 ≤ t_4, t_4 < (lnI s_1)] (by kernel_rfl) rfl rfl (ap2 c_12.1 (ap1 c_12.2)) (by kernel_rfl) (by kernel_rfl) ?_
    refine VL_cond (r_10) (by kernel_rfl) ?_ ?_
    · intro b_13; have H_25 := of_t H_24 b_13
      refine V_run hN hn 2 2 [4] [0, 1] ⟨[(4, cI t_4)], [(0, .box [.clo 55 [1]]), (1, .box [.val (.string f_2)])], 2⟩ [] (by kernel_rfl) rfl rfl ap0 ?_
      have H_27 := Option.some.inj (show some t_4 = some r from H_25); subst H_27
      refine VL_ret ?_
      refine QB_ret ?_
      refine QL_ret ?_
      refine QB_ret ?_
      exact P_to [(4, cI t_4)] [(0, .box [.clo 55 [1]]), (1, .box [.val (.string f_2)])] [] hn (by kernel_rfl) (by kernel_rfl) rfl rfl rfl (QF_retS (by kernel_rfl) (by kernel_rfl) rfl)
    · intro b_13; have H_26 := of_f H_24 b_13
      refine V_run hN hn 1 2 [0, 1, 5, 7, 8, 16] [0, 1] ⟨[(0, .c (.imm (.slice kP) s_1)), (1, .c (.clo 54 [0])), (5, cI t_4), (7, cI (lnI s_1)), (8, cI t_4), (16, cB r_10)], [(0, .box [.clo 55 [1]]), (1, .box [.val (.string f_2)])], 2⟩ [] (by kernel_rfl) rfl rfl ap0 ?_
      refine VL_nil (QB_end ?_)
      refine V_run hN hn 1 2 [0, 1, 7, 8] [0, 1] ⟨[(0, .c (.imm (.slice kP) s_1)), (1, .c (.clo 54 [0])), (7, cI (lnI s_1)), (8, cI (w6 (t_4 + (1 : Int))))], [(0, .box [.clo 55 [1]]), (1, .box [.val (.string f_2)])], 2⟩ [] (by kernel_rfl) rfl rfl ap0 ?_
      refine VL_nil ?_
      exact V_roundEnd (w6 (t_4 + (1 : Int))) H_26 [] hn (by kernel_rfl) (by kernel_rfl) rfl rfl rfl
  · intro b_7; have H_22 := of_f H_20 b_7
    refine VL_exit ?_
    refine QL_exit ?_
    refine QB_here ?_
    refine V_run hN hn 2 2 [4] [0, 1] ⟨[(4, cI (-1 : Int))], [(0, .box [.clo 55 [1]]), (1, .box [.val (.string f_2)])], 2⟩ [] (by kernel_rfl) rfl rfl ap0 ?_
    have H_28 := Option.some.inj (show some (-1 : Int) = some r from H_22); subst H_28
    refine VL_ret ?_
    exact P_to [(4, cI (-1 : Int))] [(0, .box [.clo 55 [1]]), (1, .box [.val (.string f_2)])] [] hn (by kernel_rfl) (by kernel_rfl) rfl rfl rfl (QF_retS (by kernel_rfl) (by kernel_rfl) rfl)

theorem slices_ContainsFunc_gcregionevery1_cb99b_spec (K : Nat) (s_1 : (List (Int × Int))) (f_2 : ByteArray) (r : Bool) (H : slices_ContainsFunc_rcregionevery1_a4c35 K s_1 f_2 = some r) : Spec Try.prog 53 2 [.c (.imm (.slice kP) s_1), .c (.clo 54 [0])] [(0, .box [.clo 55 [1]]), (1, .box [.val (.string f_2)])] (cB r) [(0, .box [.clo 55 [1]]), (1, .box [.val (.string f_2)])] := by
  refine Spec_mk (fn := Try.f53) (c := (Try.f53.body).get!) Try.func53 (by kernel_rfl) rfl ?_
  intro C hN hn
  replace hN : C.N = 9 := hN
  unfold slices_ContainsFunc_rcregionevery1_a4c35 at H
  refine V_run hN hn 3 2 [0, 1] [0, 1] ⟨[(0, .c (.imm (.slice kP) s_1)), (1, .c (.clo 54 [0]))], [(0, .box [.clo 55 [1]]), (1, .box [.val (.string f_2)])], 2⟩ [] (by kernel_rfl) rfl rfl ap0 ?_
  obtain ⟨r_4, h_5, H_8⟩ := of_bind H
  refine V_reg hN hn [(2, ⟨68, 2, [.c (.imm (.slice kP) s_1), .c (.clo 54 [0])], [(0, .box [.clo 55 [1]]), (1, .box [.val (.string f_2)])], cI r_4, [(0, .box [.clo 55 [1]]), (1, .box [.val (.string f_2)])], [(0, 0), (1, 1)], 2⟩)] [] (calls_cons (slices_IndexFunc_gcregionevery1_cb99b_spec K s_1 f_2 r_4 h_5) (by kernel_rfl) calls_nil) 2 [4] [0, 1] ⟨[(4, cB (decide (r_4 ≥ (0 : Int))))], [(0, .box [.clo 55 [1]]), (1, .box [.val (.string f_2)])], 2⟩ [] (by kernel_rfl) rfl rfl ap0 (by kernel_rfl) (by kernel_rfl) ?_
  have H_9 := Option.some.inj (show some (decide (r_4 ≥ (0 : Int))) = some r from H_8); subst H_9
  refine VL_ret ?_
  exact P_to [(4, cB (decide (r_4 ≥ (0 : Int))))] [(0, .box [.clo 55 [1]]), (1, .box [.val (.string f_2)])] [] hn (by kernel_rfl) (by kernel_rfl) rfl rfl rfl (QF_retS (by kernel_rfl) (by kernel_rfl) rfl)

theorem region_every_gcregioninside1_08bb4_spec (K : Nat) (l_1 : (List (Int × Int))) (is_2 : ByteArray) (r : Bool) (H : region_every_rcregioninside1_2e7a3 K l_1 is_2 = some r) : Spec Try.prog 44 1 [.c (.imm (.slice kP) l_1), .c (.clo 55 [0])] [(0, .box [.val (.string is_2)])] (cB r) [(0, .box [.val (.string is_2)])] := by
  refine Spec_mk (fn := Try.f44) (c := (Try.f44.body).get!) Try.func44 (by kernel_rfl) rfl ?_
  intro C hN hn
  replace hN : C.N = 9 := hN
  unfold region_every_rcregioninside1_2e7a3 at H
  refine V_run hN hn 3 1 [0, 3] [0, 1] ⟨[(0, .c (.imm (.slice kP) l_1)), (3, .c (.h 1))], [(0, .box [.val (.string is_2)]), (1, .box [.clo 55 [0]])], 2⟩ [] (by kernel_rfl) rfl rfl ap0 ?_
  obtain ⟨r_4, h_5, H_8⟩ := of_bind H
  refine V_reg hN hn [(2, ⟨53, 2, [.c (.imm (.slice kP) l_1), .c (.clo 54 [0])], [(0, .box [.clo 55 [1]]), (1, .box [.val (.string is_2)])], cB r_4, [(0, .box [.clo 55 [1]]), (1, .box [.val (.string is_2)])], [(0, 1), (1, 0)], 2⟩)] [] (calls_cons (slices_ContainsFunc_gcregionevery1_cb99b_spec K l_1 is_2 r_4 h_5) (by kernel_rfl) calls_nil) 2 [4] [0] ⟨[(4, cB (!r_4))], [(0, .box [.val (.string is_2)])], 2⟩ [] (by kernel_rfl) rfl rfl ap0 (by kernel_rfl) (by kernel_rfl) ?_
  have H_9 := Option.some.inj (show some (!r_4) = some r from H_8); subst H_9
  refine VL_ret ?_
  exact P_to [(4, cB (!r_4))] [(0, .box [.val (.string is_2)])] [] hn (by kernel_rfl) (by kernel_rfl) rfl rfl rfl (QF_retS (by kernel_rfl) (by kernel_rfl) rfl)

theorem slices_IndexFunc_gcregionevery1_75cf2_spec (K : Nat) (s_1 : (List (Int × Int))) (f_2 : ByteArray) (r : Int) (H : slices_IndexFunc_rcregionevery1_79479 K s_1 f_2 = some r) : Spec Try.prog 68 2 [.c (.imm (.slice kP) s_1), .c (.clo 54 [0])] [(0, .box [.clo 57 [1]]), (1, .box [.val (.string f_2)])] (cI r) [(0, .box [.clo 57 [1]]), (1, .box [.val (.string f_2)])] := by
  refine Spec_mk (fn := Try.f68) (c := (Try.f68.body).get!) Try.func68 (by kernel_rfl) rfl ?_
  intro C hN hn
  replace hN : C.N = 19 := hN
  unfold slices_IndexFunc_rcregionevery1_79479 at H
  refine V_run hN hn 5 2 [0, 1, 7, 8] [0, 1] ⟨[(0, .c (.imm (.slice kP) s_1)), (1, .c (.clo 54 [0])), (7, cI (lnI s_1)), (8, cI (0 : Int))], [(0, .box [.clo 57 [1]]), (1, .box [.val (.string f_2)])], 2⟩ [] (by kernel_rfl) rfl rfl ap0 ?_
  refine VL_block ?_
  refine V_to [(0, .c (.imm (.slice kP) s_1)), (1, .c (.clo 54 [0])), (7, cI (lnI s_1)), (8, cI (0 : Int))] [(0, .box [.clo 57 [1]]), (1, .box [.val (.string f_2)])] [] hn (by kernel_rfl) (by kernel_rfl) rfl rfl rfl ?_
  refine VL_loop (X := Int) (fun x => [(0, .c (.imm (.slice kP) s_1)), (1, .c (.clo 54 [0])), (7, cI (lnI s_1)), (8, cI x)]) (fun x => [(0, .box [.clo 57 [1]]), (1, .box [.val (.string f_2)])]) (fun k x => slices_IndexFunc_rcregionevery1_79479.l0 K s_1 f_2 k x = some r) K (0 : Int) H (fun _ h => no_none h) ?_
  intro k_5 t_4 H_19
  have H_20 : slices_IndexFunc_rcregionevery1_79479.l0 K s_1 f_2 (k_5 + 1) t_4 = some r := H_19
  rw [slices_IndexFunc_rcregionevery1_79479.l0] at H_20
  refine V_run hN hn 3 2 [0, 1, 7, 8, 9] [0, 1] ⟨[(0, .c (.imm (.slice kP) s_1)), (1, .c (.clo 54 [0])), (7, cI (lnI s_1)), (8, cI t_4), (9, cB (decide (t_4 < (lnI s_1))))], [(0, .box [.clo 57 [1]]), (1, .box [.val (.string f_2)])], 2⟩ [] (by kernel_rfl) rfl rfl ap0 ?_
  refine VL_cond ((decide (t_4 < (lnI s_1)))) (by kernel_rfl) ?_ ?_
  · intro b_7; have H_21 := of_t H_20 b_7
    refine V_run hN hn 2 2 [0, 1, 7, 8, 9] [0, 1] ⟨[(0, .c (.imm (.slice kP) s_1)), (1, .c (.clo 54 [0])), (7, cI (lnI s_1)), (8, cI t_4), (9, cB (decide (t_4 < (lnI s_1))))], [(0, .box [.clo 57 [1]]), (1, .box [.val (.string f_2)])], 2⟩ [] (by kernel_rfl) rfl rfl ap0 ?_
    refine VL_block ?_
    refine V_run hN hn 3 2 [0, 1, 5, 7, 8] [0, 1] ⟨[(0, .c (.imm (.slice kP) s_1)), (1, .c (.clo 54 [0])), (5, cI t_4), (7, cI (lnI s_1)), (8, cI t_4)], [(0, .box [.clo 57 [1]]), (1, .box [.val (.string f_2)])], 2⟩ [] (by kernel_rfl) rfl rfl ap0 ?_
    obtain ⟨r_10, h_11, H_23⟩ := of_bind H_21
    obtain ⟨c_12, H_24⟩ := of_if H_23
    refine V_reg hN hn [(5, ⟨54, 2, [.agg [.val (.int .i64 (List.getD s_1 (Int.toNat t_4) zP).1), .val (.int .i64 (List.getD s_1 (Int.toNat t_4) zP).2)], .c (.h 0)], [(0, .box [.clo 57 [1]]), (1, .box [.val (.string f_2)])], cB r_10, [(0, .box [.clo 57 [1]]), (1, .box [.val (.string f_2)])], [(0, 0), (1, 1)], 2⟩)] [] (calls_cons (region_every_1_sggb_f969f_spec K (List.getD s_1 (Int.toNat t_4) zP).1 (List.getD s_1 (Int.toNat t_4) zP).2 f_2 r_10 h_11) (by kernel_rfl) calls_nil) 2 [0, 1, 5, 7, 8, 16] [0, 1] ⟨[(0, .c (.imm (.slice kP) s_1)), (1, .c (.clo 54 [0])), (5, cI t_4), (7, cI (lnI s_1)), (8, cI t_4), (16, cB r_10)], [(0, .box [.clo 57 [1]]), (1, .box [.val (.string f_2)])], 2⟩ [0 ≤ t_4, t_4 < (lnI s_1)] (by kernel_rfl) rfl rfl (ap2 c_12.1 (ap1 c_12.2)) (by kernel_rfl) (by kernel_rfl) ?_
    refine VL_cond (r_10) (by kernel_rfl) ?_ ?_
    · intro b_13; have H_25 := of_t H_24 b_13
      refine V_run hN hn 2 2 [4] [0, 1] ⟨[(4, cI t_4)], [(0, .box [.clo 57 [1]]), (1, .box [.val (.string f_2)])], 2⟩ [] (by kernel_rfl) rfl rfl ap0 ?_
      have H_27 := Option.some.inj (show some t_4 = some r from H_25); subst H_27
      refine VL_ret ?_
      refine QB_ret ?_
      refine QL_ret ?_
      refine QB_ret ?_
      exact P_to [(4, cI t_4)] [(0, .box [.clo 57 [1]]), (1, .box [.val (.string f_2)])] [] hn (by kernel_rfl) (by kernel_rfl) rfl rfl rfl (QF_retS (by kernel_rfl) (by kernel_rfl) rfl)
    · intro b_13; have H_26 := of_f H_24 b_13
      refine V_run hN hn 1 2 [0, 1, 5, 7, 8, 16] [0, 1] ⟨[(0, .c (.imm (.slice kP) s_1)), (1, .c (.clo 54 [0])), (5, cI t_4), (7, cI (lnI s_1)), (8, cI t_4), (16, cB r_10)], [(0, .box [.clo 57 [1]]), (1, .box [.val (.string f_2)])], 2⟩ [] (by kernel_rfl) rfl rfl ap0 ?_
      refine VL_nil (QB_end ?_)
      refine V_run hN hn 1 2 [0, 1, 7, 8] [0, 1] ⟨[(0, .c (.imm (.slice kP) s_1)), (1, .c (.clo 54 [0])), (7, cI (lnI s_1)), (8, cI (w6 (t_4 + (1 : Int))))], [(0, .box [.clo 57 [1]]), (1, .box [.val (.string f_2)])], 2⟩ [] (by kernel_rfl) rfl rfl ap0 ?_
      refine VL_nil ?_
      exact V_roundEnd (w6 (t_4 + (1 : Int))) H_26 [] hn (by kernel_rfl) (by kernel_rfl) rfl rfl rfl
  · intro b_7; have H_22 := of_f H_20 b_7
    refine VL_exit ?_
    refine QL_exit ?_
    refine QB_here ?_
    refine V_run hN hn 2 2 [4] [0, 1] ⟨[(4, cI (-1 : Int))], [(0, .box [.clo 57 [1]]), (1, .box [.val (.string f_2)])], 2⟩ [] (by kernel_rfl) rfl rfl ap0 ?_
    have H_28 := Option.some.inj (show some (-1 : Int) = some r from H_22); subst H_28
    refine VL_ret ?_
    exact P_to [(4, cI (-1 : Int))] [(0, .box [.clo 57 [1]]), (1, .box [.val (.string f_2)])] [] hn (by kernel_rfl) (by kernel_rfl) rfl rfl rfl (QF_retS (by kernel_rfl) (by kernel_rfl) rfl)

theorem slices_ContainsFunc_gcregionevery1_75cf2_spec (K : Nat) (s_1 : (List (Int × Int))) (f_2 : ByteArray) (r : Bool) (H : slices_ContainsFunc_rcregionevery1_79479 K s_1 f_2 = some r) : Spec Try.prog 53 2 [.c (.imm (.slice kP) s_1), .c (.clo 54 [0])] [(0, .box [.clo 57 [1]]), (1, .box [.val (.string f_2)])] (cB r) [(0, .box [.clo 57 [1]]), (1, .box [.val (.string f_2)])] := by
  refine Spec_mk (fn := Try.f53) (c := (Try.f53.body).get!) Try.func53 (by kernel_rfl) rfl ?_
  intro C hN hn
  replace hN : C.N = 9 := hN
  unfold slices_ContainsFunc_rcregionevery1_79479 at H
  refine V_run hN hn 3 2 [0, 1] [0, 1] ⟨[(0, .c (.imm (.slice kP) s_1)), (1, .c (.clo 54 [0]))], [(0, .box [.clo 57 [1]]), (1, .box [.val (.string f_2)])], 2⟩ [] (by kernel_rfl) rfl rfl ap0 ?_
  obtain ⟨r_4, h_5, H_8⟩ := of_bind H
  refine V_reg hN hn [(2, ⟨68, 2, [.c (.imm (.slice kP) s_1), .c (.clo 54 [0])], [(0, .box [.clo 57 [1]]), (1, .box [.val (.string f_2)])], cI r_4, [(0, .box [.clo 57 [1]]), (1, .box [.val (.string f_2)])], [(0, 0), (1, 1)], 2⟩)] [] (calls_cons (slices_IndexFunc_gcregionevery1_75cf2_spec K s_1 f_2 r_4 h_5) (by kernel_rfl) calls_nil) 2 [4] [0, 1] ⟨[(4, cB (decide (r_4 ≥ (0 : Int))))], [(0, .box [.clo 57 [1]]), (1, .box [.val (.string f_2)])], 2⟩ [] (by kernel_rfl) rfl rfl ap0 (by kernel_rfl) (by kernel_rfl) ?_
  have H_9 := Option.some.inj (show some (decide (r_4 ≥ (0 : Int))) = some r from H_8); subst H_9
  refine VL_ret ?_
  exact P_to [(4, cB (decide (r_4 ≥ (0 : Int))))] [(0, .box [.clo 57 [1]]), (1, .box [.val (.string f_2)])] [] hn (by kernel_rfl) (by kernel_rfl) rfl rfl rfl (QF_retS (by kernel_rfl) (by kernel_rfl) rfl)

theorem region_every_gcregionedges1_96dfe_spec (K : Nat) (l_1 : (List (Int × Int))) (is_2 : ByteArray) (r : Bool) (H : region_every_rcregionedges1_83797 K l_1 is_2 = some r) : Spec Try.prog 44 1 [.c (.imm (.slice kP) l_1), .c (.clo 57 [0])] [(0, .box [.val (.string is_2)])] (cB r) [(0, .box [.val (.string is_2)])] := by
  refine Spec_mk (fn := Try.f44) (c := (Try.f44.body).get!) Try.func44 (by kernel_rfl) rfl ?_
  intro C hN hn
  replace hN : C.N = 9 := hN
  unfold region_every_rcregionedges1_83797 at H
  refine V_run hN hn 3 1 [0, 3] [0, 1] ⟨[(0, .c (.imm (.slice kP) l_1)), (3, .c (.h 1))], [(0, .box [.val (.string is_2)]), (1, .box [.clo 57 [0]])], 2⟩ [] (by kernel_rfl) rfl rfl ap0 ?_
  obtain ⟨r_4, h_5, H_8⟩ := of_bind H
  refine V_reg hN hn [(2, ⟨53, 2, [.c (.imm (.slice kP) l_1), .c (.clo 54 [0])], [(0, .box [.clo 57 [1]]), (1, .box [.val (.string is_2)])], cB r_4, [(0, .box [.clo 57 [1]]), (1, .box [.val (.string is_2)])], [(0, 1), (1, 0)], 2⟩)] [] (calls_cons (slices_ContainsFunc_gcregionevery1_75cf2_spec K l_1 is_2 r_4 h_5) (by kernel_rfl) calls_nil) 2 [4] [0] ⟨[(4, cB (!r_4))], [(0, .box [.val (.string is_2)])], 2⟩ [] (by kernel_rfl) rfl rfl ap0 (by kernel_rfl) (by kernel_rfl) ?_
  have H_9 := Option.some.inj (show some (!r_4) = some r from H_8); subst H_9
  refine VL_ret ?_
  exact P_to [(4, cB (!r_4))] [(0, .box [.val (.string is_2)])] [] hn (by kernel_rfl) (by kernel_rfl) rfl rfl rfl (QF_retS (by kernel_rfl) (by kernel_rfl) rfl)

theorem slices_Clone_spec (K : Nat) (s_1 : (List (Int × Int))) (r : (List (Int × Int))) (H : slices_Clone K s_1 = some r) : Spec Try.prog 58 0 [.c (.imm (.slice kP) s_1)] [] (.c (.h 2)) [(2, .row kP r)] := by
  refine Spec_mk (fn := Try.f58) (c := (Try.f58.body).get!) Try.func58 (by kernel_rfl) rfl ?_
  intro C hN hn
  replace hN : C.N = 8 := hN
  unfold slices_Clone at H
  refine V_run hN hn 4 0 [0] [] ⟨[(0, .c (.imm (.slice kP) s_1))], [], 0⟩ [] (by kernel_rfl) rfl rfl ap0 ?_
  refine VL_nilq2 3 4 (k := kP) (xs := s_1) (e := 42) rfl rfl rfl (by rw [hN]; decide) (by kernel_rfl) rfl rfl rfl (by kernel_rfl) (by rw [hN]; decide) (by kernel_rfl) ?_ ?_
  · intro hx; subst hx
    have H_6 : some ([] : List (Int × Int)) = some r := by simpa using H
    refine VL_cond (true) (by kernel_rfl) (fun _ => ?_) (fun h => absurd h (by decide))
    refine V_run hN hn 2 0 [2] [] ⟨[(2, .c (.val (.slice none 0 0)))], [], 0⟩ [] (by kernel_rfl) rfl rfl ap0 ?_
    have H_7 := Option.some.inj (show some ([] : List (Int × Int)) = some r from H_6); subst H_7
    refine VL_ret ?_
    refine P_ghost [.nilSlot 2 kP] 0 hn [2] [0] ⟨[(2, .c (.h 0))], [(0, .row kP ([] : List (Int × Int)))], 1⟩ (by kernel_rfl) rfl rfl ?_
    exact P_to [(2, .c (.h 2))] [(2, .row kP ([] : List (Int × Int)))] [(2, 0)] hn (by kernel_rfl) (by kernel_rfl) rfl rfl rfl (QF_retS (by kernel_rfl) (by kernel_rfl) rfl)
  · skip
    refine VL_cond (false) (by kernel_rfl) (fun h => absurd h (by decide)) (fun _ => ?_)
    obtain ⟨c_4, H_8⟩ := of_if H
    refine V_run hN hn 3 0 [2] [1] ⟨[(2, .c (.h 1))], [(1, .row kP (([] : List (Int × Int)) ++ s_1))], 2⟩ [(List.length ([] : List (Int × Int)) + List.length s_1) * 16 ≤ 140737488355328] (by kernel_rfl) rfl rfl (ap1 c_4) ?_
    have H_9 := Option.some.inj (show some (([] : List (Int × Int)) ++ s_1) = some r from H_8); subst H_9
    refine VL_ret ?_
    exact P_to [(2, .c (.h 2))] [(2, .row kP (([] : List (Int × Int)) ++ s_1))] [(2, 1)] hn (by kernel_rfl) (by kernel_rfl) rfl rfl rfl (QF_retS (by kernel_rfl) (by kernel_rfl) rfl)

theorem cmp_isNaN_spec (K : Nat) (x_1 : Int) (r : Bool) (H : cmp_isNaN K x_1 = some r) : Spec Try.prog 70 0 [cI x_1] [] (cB r) [] := by
  refine Spec_mk (fn := Try.f70) (c := (Try.f70.body).get!) Try.func70 (by kernel_rfl) rfl ?_
  intro C hN hn
  replace hN : C.N = 6 := hN
  unfold cmp_isNaN at H
  refine V_run hN hn 4 0 [2] [] ⟨[(2, cB (x_1 != x_1))], [], 0⟩ [] (by kernel_rfl) rfl rfl ap0 ?_
  have H_4 := Option.some.inj (show some (x_1 != x_1) = some r from H); subst H_4
  refine VL_ret ?_
  exact P_to [(2, cB (x_1 != x_1))] [] [] hn (by kernel_rfl) (by kernel_rfl) rfl rfl rfl (QF_retS (by kernel_rfl) (by kernel_rfl) rfl)

theorem cmp_Compare_spec (K : Nat) (x_1 : Int) (y_2 : Int) (r : Int) (H : cmp_Compare K x_1 y_2 = some r) : Spec Try.prog 62 0 [cI x_1, cI y_2] [] (cI r) [] := by
  refine Spec_mk (fn := Try.f62) (c := (Try.f62.body).get!) Try.func62 (by kernel_rfl) rfl ?_
  intro C hN hn
  replace hN : C.N = 20 := hN
  unfold cmp_Compare at H
  refine V_run hN hn 3 0 [0, 1] [] ⟨[(0, cI x_1), (1, cI y_2)], [], 0⟩ [] (by kernel_rfl) rfl rfl ap0 ?_
  obtain ⟨r_4, h_5, H_28⟩ := of_bind H
  refine V_reg hN hn [(1, ⟨70, 0, [cI x_1], [], cB r_4, [], [], 0⟩)] [] (calls_cons (cmp_isNaN_spec K x_1 r_4 h_5) (by kernel_rfl) calls_nil) 0 [0, 1, 5] [] ⟨[(0, cI x_1), (1, cI y_2), (5, cB r_4)], [], 0⟩ [] (by kernel_rfl) rfl rfl ap0 (by kernel_rfl) (by kernel_rfl) ?_
  refine V_run hN hn 1 0 [0, 1, 5] [] ⟨[(0, cI x_1), (1, cI y_2), (5, cB r_4)], [], 0⟩ [] (by kernel_rfl) rfl rfl ap0 ?_
  obtain ⟨r_8, h_9, H_29⟩ := of_bind H_28
  refine V_reg hN hn [(1, ⟨70, 0, [cI y_2], [], cB r_8, [], [], 0⟩)] [] (calls_cons (cmp_isNaN_spec K y_2 r_8 h_9) (by kernel_rfl) calls_nil) 0 [0, 1, 5, 6] [] ⟨[(0, cI x_1), (1, cI y_2), (5, cB r_4), (6, cB r_8)], [], 0⟩ [] (by kernel_rfl) rfl rfl ap0 (by kernel_rfl) (by kernel_rfl) ?_
  refine V_run hN hn 3 0 [0, 1, 6, 11] [] ⟨[(0, cI x_1), (1, cI y_2), (6, cB r_8), (11, cB r_4)], [], 0⟩ [] (by kernel_rfl) rfl rfl ap0 ?_
  refine VL_cond (r_4) (by kernel_rfl) ?_ ?_
  · intro b_12; have H_30 := of_t H_29 b_12
    refine V_run hN hn 3 0 [12] [] ⟨[(12, cB r_8)], [], 0⟩ [] (by kernel_rfl) rfl rfl ap0 ?_
    refine VL_cond (r_8) (by kernel_rfl) ?_ ?_
    · intro b_14; have H_32 := of_t H_30 b_14
      refine V_run hN hn 2 0 [4] [] ⟨[(4, cI (0 : Int))], [], 0⟩ [] (by kernel_rfl) rfl rfl ap0 ?_
      have H_34 := Option.some.inj (show some (0 : Int) = some r from H_32); subst H_34
      refine VL_ret ?_
      exact P_to [(4, cI (0 : Int))] [] [] hn (by kernel_rfl) (by kernel_rfl) rfl rfl rfl (QF_retS (by kernel_rfl) (by kernel_rfl) rfl)
    · intro b_14; have H_33 := of_f H_30 b_14
      refine V_run hN hn 3 0 [4] [] ⟨[(4, cI (-1 : Int))], [], 0⟩ [] (by kernel_rfl) rfl rfl ap0 ?_
      have H_35 := Option.some.inj (show some (-1 : Int) = some r from H_33); subst H_35
      refine VL_ret ?_
      exact P_to [(4, cI (-1 : Int))] [] [] hn (by kernel_rfl) (by kernel_rfl) rfl rfl rfl (QF_retS (by kernel_rfl) (by kernel_rfl) rfl)
  · intro b_12; have H_31 := of_f H_29 b_12
    refine V_run hN hn 4 0 [0, 1, 13] [] ⟨[(0, cI x_1), (1, cI y_2), (13, cB r_8)], [], 0⟩ [] (by kernel_rfl) rfl rfl ap0 ?_
    refine VL_cond (r_8) (by kernel_rfl) ?_ ?_
    · intro b_18; have H_36 := of_t H_31 b_18
      refine V_run hN hn 2 0 [4] [] ⟨[(4, cI (1 : Int))], [], 0⟩ [] (by kernel_rfl) rfl rfl ap0 ?_
      have H_38 := Option.some.inj (show some (1 : Int) = some r from H_36); subst H_38
      refine VL_ret ?_
      exact P_to [(4, cI (1 : Int))] [] [] hn (by kernel_rfl) (by kernel_rfl) rfl rfl rfl (QF_retS (by kernel_rfl) (by kernel_rfl) rfl)
    · intro b_18; have H_37 := of_f H_31 b_18
      refine V_run hN hn 4 0 [0, 1, 16] [] ⟨[(0, cI x_1), (1, cI y_2), (16, cB (decide (x_1 < y_2)))], [], 0⟩ [] (by kernel_rfl) rfl rfl ap0 ?_
      refine VL_cond ((decide (x_1 < y_2))) (by kernel_rfl) ?_ ?_
      · intro b_21; have H_39 := of_t H_37 b_21
        refine V_run hN hn 2 0 [4] [] ⟨[(4, cI (-1 : Int))], [], 0⟩ [] (by kernel_rfl) rfl rfl ap0 ?_
        have H_41 := Option.some.inj (show some (-1 : Int) = some r from H_39); subst H_41
        refine VL_ret ?_
        exact P_to [(4, cI (-1 : Int))] [] [] hn (by kernel_rfl) (by kernel_rfl) rfl rfl rfl (QF_retS (by kernel_rfl) (by kernel_rfl) rfl)
      · intro b_21; have H_40 := of_f H_37 b_21
        refine V_run hN hn 4 0 [19] [] ⟨[(19, cB (decide (x_1 > y_2)))], [], 0⟩ [] (by kernel_rfl) rfl rfl ap0 ?_
        refine VL_cond ((decide (x_1 > y_2))) (by kernel_rfl) ?_ ?_
        · intro b_24; have H_42 := of_t H_40 b_24
          refine V_run hN hn 2 0 [4] [] ⟨[(4, cI (1 : Int))], [], 0⟩ [] (by kernel_rfl) rfl rfl ap0 ?_
          have H_44 := Option.some.inj (show some (1 : Int) = some r from H_42); subst H_44
          refine VL_ret ?_
          exact P_to [(4, cI (1 : Int))] [] [] hn (by kernel_rfl) (by kernel_rfl) rfl rfl rfl (QF_retS (by kernel_rfl) (by kernel_rfl) rfl)
        · intro b_24; have H_43 := of_f H_40 b_24
          refine V_run hN hn 3 0 [4] [] ⟨[(4, cI (0 : Int))], [], 0⟩ [] (by kernel_rfl) rfl rfl ap0 ?_
          have H_45 := Option.some.inj (show some (0 : Int) = some r from H_43); subst H_45
          refine VL_ret ?_
          exact P_to [(4, cI (0 : Int))] [] [] hn (by kernel_rfl) (by kernel_rfl) rfl rfl rfl (QF_retS (by kernel_rfl) (by kernel_rfl) rfl)

theorem cmp_Or_r_spec (K : Nat) (vals_1 : (List Int)) (r : Int) (H : cmp_Or_r K vals_1 = some r) : Spec Try.prog 61 1 [.c (.h 0)] [(0, .row (.int .i64) vals_1)] (cI r) [(0, .row (.int .i64) vals_1)] := by
  refine Spec_mk (fn := Try.f61) (c := (Try.f61.body).get!) Try.func61 (by kernel_rfl) rfl ?_
  intro C hN hn
  replace hN : C.N = 18 := hN
  unfold cmp_Or_r at H
  refine V_run hN hn 7 1 [3, 6, 7, 8] [0] ⟨[(3, cI (0 : Int)), (6, .c (.h 0)), (7, cI (lnI vals_1)), (8, cI (0 : Int))], [(0, .row (.int .i64) vals_1)], 1⟩ [] (by kernel_rfl) rfl rfl ap0 ?_
  refine VL_block ?_
  refine V_to [(3, cI (0 : Int)), (6, .c (.h 0)), (7, cI (lnI vals_1)), (8, cI (0 : Int))] [(0, .row (.int .i64) vals_1)] [] hn (by kernel_rfl) (by kernel_rfl) rfl rfl rfl ?_
  refine VL_loop (X := Int) (fun x => [(3, cI (0 : Int)), (6, .c (.h 0)), (7, cI (lnI vals_1)), (8, cI x)]) (fun x => [(0, .row (.int .i64) vals_1)]) (fun k x => cmp_Or_r.l0 K vals_1 k x = some r) K (0 : Int) H (fun _ h => no_none h) ?_
  intro k_4 t_3 H_15
  have H_16 : cmp_Or_r.l0 K vals_1 (k_4 + 1) t_3 = some r := H_15
  rw [cmp_Or_r.l0] at H_16
  refine V_run hN hn 3 1 [3, 6, 7, 8, 9] [0] ⟨[(3, cI (0 : Int)), (6, .c (.h 0)), (7, cI (lnI vals_1)), (8, cI t_3), (9, cB (decide (t_3 < (lnI vals_1))))], [(0, .row (.int .i64) vals_1)], 1⟩ [] (by kernel_rfl) rfl rfl ap0 ?_
  refine VL_cond ((decide (t_3 < (lnI vals_1)))) (by kernel_rfl) ?_ ?_
  · intro b_6; have H_17 := of_t H_16 b_6
    refine V_run hN hn 2 1 [3, 6, 7, 8, 9] [0] ⟨[(3, cI (0 : Int)), (6, .c (.h 0)), (7, cI (lnI vals_1)), (8, cI t_3), (9, cB (decide (t_3 < (lnI vals_1))))], [(0, .row (.int .i64) vals_1)], 1⟩ [] (by kernel_rfl) rfl rfl ap0 ?_
    refine VL_block ?_
    obtain ⟨c_8, H_19⟩ := of_if H_17
    refine V_run hN hn 4 1 [3, 5, 6, 7, 8, 14] [0] ⟨[(3, cI (0 : Int)), (5, cI (List.getD vals_1 (Int.toNat t_3) (0 : Int))), (6, .c (.h 0)), (7, cI (lnI vals_1)), (8, cI t_3), (14, cB ((List.getD vals_1 (Int.toNat t_3) (0 : Int)) != (0 : Int)))], [(0, .row (.int .i64) vals_1)], 1⟩ [0 ≤ t_3, t_3 < (lnI vals_1)] (by kernel_rfl) rfl rfl (ap2 c_8.1 (ap1 c_8.2)) ?_
    refine VL_cond (((List.getD vals_1 (Int.toNat t_3) (0 : Int)) != (0 : Int))) (by kernel_rfl) ?_ ?_
    · intro b_9; have H_20 := of_t H_19 b_9
      refine V_run hN hn 2 1 [2] [0] ⟨[(2, cI (List.getD vals_1 (Int.toNat t_3) (0 : Int)))], [(0, .row (.int .i64) vals_1)], 1⟩ [] (by kernel_rfl) rfl rfl ap0 ?_
      have H_22 := Option.some.inj (show some (List.getD vals_1 (Int.toNat t_3) (0 : Int)) = some r from H_20); subst H_22
      refine VL_ret ?_
      refine QB_ret ?_
      refine QL_ret ?_
      refine QB_ret ?_
      exact P_to [(2, cI (List.getD vals_1 (Int.toNat t_3) (0 : Int)))] [(0, .row (.int .i64) vals_1)] [] hn (by kernel_rfl) (by kernel_rfl) rfl rfl rfl (QF_retS (by kernel_rfl) (by kernel_rfl) rfl)
    · intro b_9; have H_21 := of_f H_19 b_9
      refine V_run hN hn 1 1 [3, 5, 6, 7, 8, 14] [0] ⟨[(3, cI (0 : Int)), (5, cI (List.getD vals_1 (Int.toNat t_3) (0 : Int))), (6, .c (.h 0)), (7, cI (lnI vals_1)), (8, cI t_3), (14, cB ((List.getD vals_1 (Int.toNat t_3) (0 : Int)) != (0 : Int)))], [(0, .row (.int .i64) vals_1)], 1⟩ [] (by kernel_rfl) rfl rfl ap0 ?_
      refine VL_nil (QB_end ?_)
      refine V_run hN hn 1 1 [3, 6, 7, 8] [0] ⟨[(3, cI (0 : Int)), (6, .c (.h 0)), (7, cI (lnI vals_1)), (8, cI (w6 (t_3 + (1 : Int))))], [(0, .row (.int .i64) vals_1)], 1⟩ [] (by kernel_rfl) rfl rfl ap0 ?_
      refine VL_nil ?_
      exact V_roundEnd (w6 (t_3 + (1 : Int))) H_21 [] hn (by kernel_rfl) (by kernel_rfl) rfl rfl rfl
  · intro b_6; have H_18 := of_f H_16 b_6
    refine VL_exit ?_
    refine QL_exit ?_
    refine QB_here ?_
    refine V_run hN hn 2 1 [2] [0] ⟨[(2, cI (0 : Int))], [(0, .row (.int .i64) vals_1)], 1⟩ [] (by kernel_rfl) rfl rfl ap0 ?_
    have H_23 := Option.some.inj (show some (0 : Int) = some r from H_18); subst H_23
    refine VL_ret ?_
    exact P_to [(2, cI (0 : Int))] [(0, .row (.int .i64) vals_1)] [] hn (by kernel_rfl) (by kernel_rfl) rfl rfl rfl (QF_retS (by kernel_rfl) (by kernel_rfl) rfl)

theorem region_apart_1_spec (K : Nat) (a_1 : Int) (a_2 : Int) (b_3 : Int) (b_4 : Int) (r : Int) (H : region_apart_1 K a_1 a_2 b_3 b_4 = some r) : Spec Try.prog 60 0 [.agg [.val (.int .i64 a_1), .val (.int .i64 a_2)], .agg [.val (.int .i64 b_3), .val (.int .i64 b_4)]] [] (cI r) [] := by
  refine Spec_mk (fn := Try.f60) (c := (Try.f60.body).get!) Try.func60 (by kernel_rfl) rfl ?_
  intro C hN hn
  replace hN : C.N = 23 := hN
  unfold region_apart_1 at H
  refine V_run hN hn 3 0 [2, 3] [0, 1] ⟨[(2, .c (.h 0)), (3, .c (.h 1))], [(0, .box [.val (.int .i64 a_1), .val (.int .i64 a_2)]), (1, .box [.val (.int .i64 b_3), .val (.int .i64 b_4)])], 2⟩ [] (by kernel_rfl) rfl rfl ap0 ?_
  obtain ⟨r_6, h_7, H_20⟩ := of_bind H
  obtain ⟨r_8, h_9, H_21⟩ := of_bind H_20
  refine V_draw hN hn (by kernel_rfl) [(1, ⟨34, 0, [.agg [.val (.int .i64 a_1), .val (.int .i64 a_2)]], [], .agg [.val (.int .i64 r_6.1), .val (.int .i64 r_6.2)], [], [], 2⟩), (3, ⟨34, 0, [.agg [.val (.int .i64 b_3), .val (.int .i64 b_4)]], [], .agg [.val (.int .i64 r_8.1), .val (.int .i64 r_8.2)], [], [], 2⟩)] [] (calls_cons (region_Span_spec K a_1 a_2 r_6 h_7) (by kernel_rfl) (calls_cons (region_Span_spec K b_3 b_4 r_8 h_9) (by kernel_rfl) calls_nil)) 2 [5, 6] [2, 3] ⟨[(5, .c (.h 2)), (6, .c (.h 3))], [(2, .box [.val (.int .i64 r_6.1), .val (.int .i64 r_6.2)]), (3, .box [.val (.int .i64 r_8.1), .val (.int .i64 r_8.2)])], 4⟩ [] (by kernel_rfl) rfl rfl ap0 (by kernel_rfl) (by kernel_rfl) ?_
  refine V_run hN hn 1 4 [5, 6] [2, 3] ⟨[(5, .c (.h 2)), (6, .c (.h 3))], [(2, .box [.val (.int .i64 r_6.1), .val (.int .i64 r_6.2)]), (3, .box [.val (.int .i64 r_8.1), .val (.int .i64 r_8.2)])], 4⟩ [] (by kernel_rfl) rfl rfl ap0 ?_
  obtain ⟨r_12, h_13, H_22⟩ := of_bind H_21
  obtain ⟨r_14, h_15, H_23⟩ := of_bind H_22
  obtain ⟨r_16, h_17, H_24⟩ := of_bind H_23
  refine V_draw hN hn (by kernel_rfl) [(4, ⟨62, 0, [cI r_6.1, cI r_8.1], [], cI r_12, [], [], 4⟩), (9, ⟨62, 0, [cI r_6.2, cI r_8.2], [], cI r_14, [], [], 4⟩), (11, ⟨61, 1, [.c (.h 0)], [(0, .row (.int .i64) ([r_12, r_14] : List Int))], cI r_16, [(0, .row (.int .i64) ([r_12, r_14] : List Int))], [(0, 4)], 5⟩)] [] (calls_cons (cmp_Compare_spec K r_6.1 r_8.1 r_12 h_13) (by kernel_rfl) (calls_cons (cmp_Compare_spec K r_6.2 r_8.2 r_14 h_15) (by kernel_rfl) (calls_cons (cmp_Or_r_spec K ([r_12, r_14] : List Int) r_16 h_17) (by kernel_rfl) calls_nil))) 4 [4] [] ⟨[(4, cI r_16)], [], 5⟩ [] (by kernel_rfl) rfl rfl ap0 (by kernel_rfl) (by kernel_rfl) ?_
  have H_25 := Option.some.inj (show some r_16 = some r from H_24); subst H_25
  refine VL_ret ?_
  exact P_to [(4, cI r_16)] [] [] hn (by kernel_rfl) (by kernel_rfl) rfl rfl rfl (QF_retS (by kernel_rfl) (by kernel_rfl) rfl)

theorem slices_insertionSortCmpFunc_rggcregionapart1_spec (K : Nat) (data_1 : (List (Int × Int))) (a_2 : Int) (b_3 : Int) (r : (List (Int × Int))) (H : slices_insertionSortCmpFunc_rggcregionapart1 K data_1 a_2 b_3 = some r) : Spec Try.prog 72 1 [.c (.h 0), cI a_2, cI b_3, .c (.clo 60 [])] [(0, .row kP data_1)] (.tup []) [(0, .row kP r)] := by
  refine Spec_mk (fn := Try.f72) (c := (Try.f72.body).get!) Try.func72 (by kernel_rfl) rfl ?_
  intro C hN hn
  replace hN : C.N = 53 := hN
  unfold slices_insertionSortCmpFunc_rggcregionapart1 at H
  refine V_run hN hn 2 1 [0, 1, 2, 3, 8] [0] ⟨[(0, .c (.h 0)), (1, cI a_2), (2, cI b_3), (3, .c (.clo 60 [])), (8, cI (w6 (a_2 + (1 : Int))))], [(0, .row kP data_1)], 1⟩ [] (by kernel_rfl) rfl rfl ap0 ?_
  refine VL_block ?_
  refine V_to [(0, .c (.h 0)), (1, cI a_2), (2, cI b_3), (3, .c (.clo 60 [])), (8, cI (w6 (a_2 + (1 : Int))))] [(0, .row kP data_1)] [] hn (by kernel_rfl) (by kernel_rfl) rfl rfl rfl ?_
  refine VL_loop (X := ((List (Int × Int)) × Int)) (fun x => [(0, .c (.h 0)), (1, cI a_2), (2, cI b_3), (3, .c (.clo 60 [])), (8, cI x.2)]) (fun x => [(0, .row kP x.1)]) (fun k x => slices_insertionSortCmpFunc_rggcregionapart1.l0 K b_3 a_2 k x.1 x.2 = some r) K (data_1, (w6 (a_2 + (1 : Int)))) H (fun _ h => no_none h) ?_
  intro k_40 x_40 H_78
  obtain ⟨data_39, i_5⟩ := x_40
  have H_79 : slices_insertionSortCmpFunc_rggcregionapart1.l0 K b_3 a_2 (k_40 + 1) data_39 i_5 = some r := H_78
  rw [slices_insertionSortCmpFunc_rggcregionapart1.l0] at H_79
  refine V_run hN hn 3 1 [0, 1, 2, 3, 8, 14] [0] ⟨[(0, .c (.h 0)), (1, cI a_2), (2, cI b_3), (3, .c (.clo 60 [])), (8, cI i_5), (14, cB (decide (i_5 < b_3)))], [(0, .row kP data_39)], 1⟩ [] (by kernel_rfl) rfl rfl ap0 ?_
  refine VL_cond ((decide (i_5 < b_3))) (by kernel_rfl) ?_ ?_
  · intro b_42; have H_80 := of_t H_79 b_42
    refine V_run hN hn 2 1 [0, 1, 2, 3, 8, 14] [0] ⟨[(0, .c (.h 0)), (1, cI a_2), (2, cI b_3), (3, .c (.clo 60 [])), (8, cI i_5), (14, cB (decide (i_5 < b_3)))], [(0, .row kP data_39)], 1⟩ [] (by kernel_rfl) rfl rfl ap0 ?_
    obtain ⟨q_82, H_83, H_84⟩ := of_bind H_80
    refine V_cut (Y := (List (Int × Int))) (R := (List (Int × Int))) q_82 (fun y => y) (fun y => [(0, .c (.h 0)), (1, cI a_2), (2, cI b_3), (3, .c (.clo 60 [])), (8, cI i_5)]) (fun y => [(0, .row kP y)]) ?_ ?_
    · skip
      refine VL_block ?_
      refine V_run hN hn 2 1 [0, 1, 2, 3, 8, 9] [0] ⟨[(0, .c (.h 0)), (1, cI a_2), (2, cI b_3), (3, .c (.clo 60 [])), (8, cI i_5), (9, cI i_5)], [(0, .row kP data_39)], 1⟩ [] (by kernel_rfl) rfl rfl ap0 ?_
      refine VL_block ?_
      refine V_to [(0, .c (.h 0)), (1, cI a_2), (2, cI b_3), (3, .c (.clo 60 [])), (8, cI i_5), (9, cI i_5)] [(0, .row kP data_39)] [] hn (by kernel_rfl) (by kernel_rfl) rfl rfl rfl ?_
      refine VL_loop (X := ((List (Int × Int)) × Int)) (fun x => [(0, .c (.h 0)), (1, cI a_2), (2, cI b_3), (3, .c (.clo 60 [])), (8, cI i_5), (9, cI x.2)]) (fun x => [(0, .row kP x.1)]) (fun k x => slices_insertionSortCmpFunc_rggcregionapart1.l1 K a_2 k x.1 x.2 = some q_82) K (data_39, i_5) H_83 (fun _ h => no_none h) ?_
      intro k_59 x_59 H_86
      obtain ⟨data_58, j_45⟩ := x_59
      have H_87 : slices_insertionSortCmpFunc_rggcregionapart1.l1 K a_2 (k_59 + 1) data_58 j_45 = some q_82 := H_86
      rw [slices_insertionSortCmpFunc_rggcregionapart1.l1] at H_87
      refine V_run hN hn 2 1 [0, 1, 2, 3, 8, 9] [0] ⟨[(0, .c (.h 0)), (1, cI a_2), (2, cI b_3), (3, .c (.clo 60 [])), (8, cI i_5), (9, cI j_45)], [(0, .row kP data_58)], 1⟩ [] (by kernel_rfl) rfl rfl ap0 ?_
      obtain ⟨q_88, H_89, H_90⟩ := of_bind H_87
      refine V_cut (Y := Bool) (R := Bool) q_88 (fun y => y) (fun y => [(0, .c (.h 0)), (1, cI a_2), (2, cI b_3), (3, .c (.clo 60 [])), (8, cI i_5), (9, cI j_45), (34, cB y)]) (fun y => [(0, .row kP data_58)]) ?_ ?_
      · skip
        rcases Bool.eq_false_or_eq_true ((decide (j_45 > a_2))) with b_61 | b_61
        · have H_92 := of_t H_89 b_61
          obtain ⟨r_62, h_63, H_94⟩ := of_bind H_92
          obtain ⟨c_64, H_95⟩ := of_if H_94
          refine V_draw hN hn (by kernel_rfl) [(14, ⟨60, 0, [.agg [.val (.int .i64 (List.getD data_58 (Int.toNat j_45) zP).1), .val (.int .i64 (List.getD data_58 (Int.toNat j_45) zP).2)], .agg [.val (.int .i64 (List.getD data_58 (Int.toNat (w6 (j_45 - (1 : Int)))) zP).1), .val (.int .i64 (List.getD data_58 (Int.toNat (w6 (j_45 - (1 : Int)))) zP).2)]], [], cI r_62, [], [], 1⟩)] [(21, true)] (calls_cons (region_apart_1_spec K (List.getD data_58 (Int.toNat j_45) zP).1 (List.getD data_58 (Int.toNat j_45) zP).2 (List.getD data_58 (Int.toNat (w6 (j_45 - (1 : Int)))) zP).1 (List.getD data_58 (Int.toNat (w6 (j_45 - (1 : Int)))) zP).2 r_62 h_63) (by kernel_rfl) calls_nil) 1 [0, 1, 2, 3, 8, 9, 34] [0] ⟨[(0, .c (.h 0)), (1, cI a_2), (2, cI b_3), (3, .c (.clo 60 [])), (8, cI i_5), (9, cI j_45), (34, cB (decide (r_62 < (0 : Int))))], [(0, .row kP data_58)], 1⟩ [(decide (j_45 > a_2)) = true, 0 ≤ j_45, j_45 < (lnI data_58), 0 ≤ (w6 (j_45 - (1 : Int))), (w6 (j_45 - (1 : Int))) < (lnI data_58)] (by kernel_rfl) rfl rfl (ap2 b_61 (ap2 c_64.1 (ap2 c_64.2.1 (ap2 c_64.2.2.1 (ap1 c_64.2.2.2))))) (by kernel_rfl) (by kernel_rfl) ?_
          have H_96 := Option.some.inj (show some (decide (r_62 < (0 : Int))) = some q_88 from H_95); subst H_96
          refine VL_nil ?_
          exact QP_end (decide (r_62 < (0 : Int))) rfl [] hn (by kernel_rfl) (by kernel_rfl) rfl rfl rfl
        · have H_93 := of_f H_89 b_61
          refine V_draw hN hn (by kernel_rfl) [] [(21, false)] calls_nil 1 [0, 1, 2, 3, 8, 9, 34] [0] ⟨[(0, .c (.h 0)), (1, cI a_2), (2, cI b_3), (3, .c (.clo 60 [])), (8, cI i_5), (9, cI j_45), (34, cB false)], [(0, .row kP data_58)], 1⟩ [(decide (j_45 > a_2)) = false] (by kernel_rfl) rfl rfl (ap1 b_61) (by kernel_rfl) (by kernel_rfl) ?_
          have H_97 := Option.some.inj (show some false = some q_88 from H_93); subst H_97
          refine VL_nil ?_
          exact QP_end false rfl [] hn (by kernel_rfl) (by kernel_rfl) rfl rfl rfl
      · intro y_91 hy; subst hy
        skip
        skip
        refine VL_cond (y_91) (by kernel_rfl) ?_ ?_
        · intro b_67; have H_98 := of_t H_90 b_67
          refine V_run hN hn 2 1 [0, 1, 2, 3, 8, 9, 34] [0] ⟨[(0, .c (.h 0)), (1, cI a_2), (2, cI b_3), (3, .c (.clo 60 [])), (8, cI i_5), (9, cI j_45), (34, cB y_91)], [(0, .row kP data_58)], 1⟩ [] (by kernel_rfl) rfl rfl ap0 ?_
          refine VL_block ?_
          obtain ⟨c_69, H_100⟩ := of_if H_98
          refine V_draw hN hn (by kernel_rfl) [] [] calls_nil 1 [0, 1, 2, 3, 8, 9] [0] ⟨[(0, .c (.h 0)), (1, cI a_2), (2, cI b_3), (3, .c (.clo 60 [])), (8, cI i_5), (9, cI j_45)], [(0, .row kP (List.set (List.set data_58 (Int.toNat j_45) ((List.getD data_58 (Int.toNat (w6 (j_45 - (1 : Int)))) zP).1, (List.getD data_58 (Int.toNat (w6 (j_45 - (1 : Int)))) zP).2)) (Int.toNat (w6 (j_45 - (1 : Int)))) ((List.getD data_58 (Int.toNat j_45) zP).1, (List.getD data_58 (Int.toNat j_45) zP).2)))], 1⟩ [0 ≤ (w6 (j_45 - (1 : Int))), (w6 (j_45 - (1 : Int))) < (lnI data_58), 0 ≤ j_45, j_45 < (lnI data_58), 0 ≤ j_45, j_45 < (lnI data_58), 0 ≤ (w6 (j_45 - (1 : Int))), (w6 (j_45 - (1 : Int))) < (lnI (List.set data_58 (Int.toNat j_45) ((List.getD data_58 (Int.toNat (w6 (j_45 - (1 : Int)))) zP).1, (List.getD data_58 (Int.toNat (w6 (j_45 - (1 : Int)))) zP).2)))] (by kernel_rfl) rfl rfl (ap2 c_69.1 (ap2 c_69.2.1 (ap2 c_69.2.2.1 (ap2 c_69.2.2.2.1 (ap2 c_69.2.2.1 (ap2 c_69.2.2.2.1 (ap2 c_69.1 (ap1 c_69.2.2.2.2)))))))) (by kernel_rfl) (by kernel_rfl) ?_
          refine VL_nil (QB_end ?_)
          refine V_run hN hn 1 1 [0, 1, 2, 3, 8, 9] [0] ⟨[(0, .c (.h 0)), (1, cI a_2), (2, cI b_3), (3, .c (.clo 60 [])), (8, cI i_5), (9, cI (w6 (j_45 - (1 : Int))))], [(0, .row kP (List.set (List.set data_58 (Int.toNat j_45) ((List.getD data_58 (Int.toNat (w6 (j_45 - (1 : Int)))) zP).1, (List.getD data_58 (Int.toNat (w6 (j_45 - (1 : Int)))) zP).2)) (Int.toNat (w6 (j_45 - (1 : Int)))) ((List.getD data_58 (Int.toNat j_45) zP).1, (List.getD data_58 (Int.toNat j_45) zP).2)))], 1⟩ [] (by kernel_rfl) rfl rfl ap0 ?_
          refine VL_nil ?_
          exact V_roundEnd ((List.set (List.set data_58 (Int.toNat j_45) ((List.getD data_58 (Int.toNat (w6 (j_45 - (1 : Int)))) zP).1, (List.getD data_58 (Int.toNat (w6 (j_45 - (1 : Int)))) zP).2)) (Int.toNat (w6 (j_45 - (1 : Int)))) ((List.getD data_58 (Int.toNat j_45) zP).1, (List.getD data_58 (Int.toNat j_45) zP).2)), (w6 (j_45 - (1 : Int)))) H_100 [] hn (by kernel_rfl) (by kernel_rfl) rfl rfl rfl
        · intro b_67; have H_99 := of_f H_90 b_67
          refine VL_exit ?_
          refine QL_exit ?_
          refine QB_here ?_
          refine VL_nil (QB_end ?_)
          have H_101 := Option.some.inj (show some data_58 = some q_82 from H_99); subst H_101
          refine VL_nil ?_
          exact QP_end data_58 rfl [] hn (by kernel_rfl) (by kernel_rfl) rfl rfl rfl
    · intro y_85 hy; subst hy
      skip
      skip
      refine V_run hN hn 1 1 [0, 1, 2, 3, 8] [0] ⟨[(0, .c (.h 0)), (1, cI a_2), (2, cI b_3), (3, .c (.clo 60 [])), (8, cI (w6 (i_5 + (1 : Int))))], [(0, .row kP y_85)], 1⟩ [] (by kernel_rfl) rfl rfl ap0 ?_
      refine VL_nil ?_
      exact V_roundEnd (y_85, (w6 (i_5 + (1 : Int)))) H_84 [] hn (by kernel_rfl) (by kernel_rfl) rfl rfl rfl
  · intro b_42; have H_81 := of_f H_79 b_42
    refine VL_exit ?_
    refine QL_exit ?_
    refine QB_here ?_
    have H_102 := Option.some.inj (show some data_39 = some r from H_81); subst H_102
    refine VL_nil ?_
    exact P_to [] [(0, .row kP data_39)] [] hn (by kernel_rfl) (by kernel_rfl) rfl rfl rfl (QF_endS (by kernel_rfl) (by kernel_rfl) rfl)

theorem slices_swapRangeCmpFunc_rgggcregionapart1_spec (K : Nat) (data_1 : (List (Int × Int))) (a_2 : Int) (b_3 : Int) (n_4 : Int) (r : (List (Int × Int))) (H : slices_swapRangeCmpFunc_rgggcregionapart1 K data_1 a_2 b_3 n_4 = some r) : Spec Try.prog 75 1 [.c (.h 0), cI a_2, cI b_3, cI n_4, .c (.clo 60 [])] [(0, .row kP data_1)] (.tup []) [(0, .row kP r)] := by
  refine Spec_mk (fn := Try.f75) (c := (Try.f75.body).get!) Try.func75 (by kernel_rfl) rfl ?_
  intro C hN hn
  replace hN : C.N = 38 := hN
  unfold slices_swapRangeCmpFunc_rgggcregionapart1 at H
  refine V_run hN hn 2 1 [0, 1, 2, 3, 10] [0] ⟨[(0, .c (.h 0)), (1, cI a_2), (2, cI b_3), (3, cI n_4), (10, cI (0 : Int))], [(0, .row kP data_1)], 1⟩ [] (by kernel_rfl) rfl rfl ap0 ?_
  refine VL_block ?_
  refine V_to [(0, .c (.h 0)), (1, cI a_2), (2, cI b_3), (3, cI n_4), (10, cI (0 : Int))] [(0, .row kP data_1)] [] hn (by kernel_rfl) (by kernel_rfl) rfl rfl rfl ?_
  refine VL_loop (X := ((List (Int × Int)) × Int)) (fun x => [(0, .c (.h 0)), (1, cI a_2), (2, cI b_3), (3, cI n_4), (10, cI x.2)]) (fun x => [(0, .row kP x.1)]) (fun k x => slices_swapRangeCmpFunc_rgggcregionapart1.l0 K n_4 b_3 a_2 k x.1 x.2 = some r) K (data_1, (0 : Int)) H (fun _ h => no_none h) ?_
  intro k_14 x_14 H_21
  obtain ⟨data_13, i_6⟩ := x_14
  have H_22 : slices_swapRangeCmpFunc_rgggcregionapart1.l0 K n_4 b_3 a_2 (k_14 + 1) data_13 i_6 = some r := H_21
  rw [slices_swapRangeCmpFunc_rgggcregionapart1.l0] at H_22
  refine V_run hN hn 3 1 [0, 1, 2, 3, 10, 13] [0] ⟨[(0, .c (.h 0)), (1, cI a_2), (2, cI b_3), (3, cI n_4), (10, cI i_6), (13, cB (decide (i_6 < n_4)))], [(0, .row kP data_13)], 1⟩ [] (by kernel_rfl) rfl rfl ap0 ?_
  refine VL_cond ((decide (i_6 < n_4))) (by kernel_rfl) ?_ ?_
  · intro b_16; have H_23 := of_t H_22 b_16
    refine V_run hN hn 2 1 [0, 1, 2, 3, 10, 13] [0] ⟨[(0, .c (.h 0)), (1, cI a_2), (2, cI b_3), (3, cI n_4), (10, cI i_6), (13, cB (decide (i_6 < n_4)))], [(0, .row kP data_13)], 1⟩ [] (by kernel_rfl) rfl rfl ap0 ?_
    refine VL_block ?_
    obtain ⟨c_18, H_25⟩ := of_if H_23
    refine V_draw hN hn (by kernel_rfl) [] [] calls_nil 1 [0, 1, 2, 3, 10] [0] ⟨[(0, .c (.h 0)), (1, cI a_2), (2, cI b_3), (3, cI n_4), (10, cI i_6)], [(0, .row kP (List.set (List.set data_13 (Int.toNat (w6 (a_2 + i_6))) ((List.getD data_13 (Int.toNat (w6 (b_3 + i_6))) zP).1, (List.getD data_13 (Int.toNat (w6 (b_3 + i_6))) zP).2)) (Int.toNat (w6 (b_3 + i_6))) ((List.getD data_13 (Int.toNat (w6 (a_2 + i_6))) zP).1, (List.getD data_13 (Int.toNat (w6 (a_2 + i_6))) zP).2)))], 1⟩ [0 ≤ (w6 (b_3 + i_6)), (w6 (b_3 + i_6)) < (lnI data_13), 0 ≤ (w6 (a_2 + i_6)), (w6 (a_2 + i_6)) < (lnI data_13), 0 ≤ (w6 (a_2 + i_6)), (w6 (a_2 + i_6)) < (lnI data_13), 0 ≤ (w6 (b_3 + i_6)), (w6 (b_3 + i_6)) < (lnI (List.set data_13 (Int.toNat (w6 (a_2 + i_6))) ((List.getD data_13 (Int.toNat (w6 (b_3 + i_6))) zP).1, (List.getD data_13 (Int.toNat (w6 (b_3 + i_6))) zP).2)))] (by kernel_rfl) rfl rfl (ap2 c_18.1 (ap2 c_18.2.1 (ap2 c_18.2.2.1 (ap2 c_18.2.2.2.1 (ap2 c_18.2.2.1 (ap2 c_18.2.2.2.1 (ap2 c_18.1 (ap1 c_18.2.2.2.2)))))))) (by kernel_rfl) (by kernel_rfl) ?_
    refine VL_nil (QB_end ?_)
    refine V_run hN hn 1 1 [0, 1, 2, 3, 10] [0] ⟨[(0, .c (.h 0)), (1, cI a_2), (2, cI b_3), (3, cI n_4), (10, cI (w6 (i_6 + (1 : Int))))], [(0, .row kP (List.set (List.set data_13 (Int.toNat (w6 (a_2 + i_6))) ((List.getD data_13 (Int.toNat (w6 (b_3 + i_6))) zP).1, (List.getD data_13 (Int.toNat (w6 (b_3 + i_6))) zP).2)) (Int.toNat (w6 (b_3 + i_6))) ((List.getD data_13 (Int.toNat (w6 (a_2 + i_6))) zP).1, (List.getD data_13 (Int.toNat (w6 (a_2 + i_6))) zP).2)))], 1⟩ [] (by kernel_rfl) rfl rfl ap0 ?_
    refine VL_nil ?_
    exact V_roundEnd ((List.set (List.set data_13 (Int.toNat (w6 (a_2 + i_6))) ((List.getD data_13 (Int.toNat (w6 (b_3 + i_6))) zP).1, (List.getD data_13 (Int.toNat (w6 (b_3 + i_6))) zP).2)) (Int.toNat (w6 (b_3 + i_6))) ((List.getD data_13 (Int.toNat (w6 (a_2 + i_6))) zP).1, (List.getD data_13 (Int.toNat (w6 (a_2 + i_6))) zP).2)), (w6 (i_6 + (1 : Int)))) H_25 [] hn (by kernel_rfl) (by kernel_rfl) rfl rfl rfl
  · intro b_16; have H_24 := of_f H_22 b_16
    refine VL_exit ?_
    refine QL_exit ?_
    refine QB_here ?_
    have H_26 := Option.some.inj (show some data_13 = some r from H_24); subst H_26
    refine VL_nil ?_
    exact P_to [] [(0, .row kP data_13)] [] hn (by kernel_rfl) (by kernel_rfl) rfl rfl rfl (QF_endS (by kernel_rfl) (by kernel_rfl) rfl)

theorem slices_rotateCmpFunc_rgggcregionapart1_spec (K : Nat) (data_1 : (List (Int × Int))) (a_2 : Int) (m_3 : Int) (b_4 : Int) (r : (List (Int × Int))) (H : slices_rotateCmpFunc_rgggcregionapart1 K data_1 a_2 m_3 b_4 = some r) : Spec Try.prog 74 1 [.c (.h 0), cI a_2, cI m_3, cI b_4, .c (.clo 60 [])] [(0, .row kP data_1)] (.tup []) [(0, .row kP r)] := by
  refine Spec_mk (fn := Try.f74) (c := (Try.f74.body).get!) Try.func74 (by kernel_rfl) rfl ?_
  intro C hN hn
  replace hN : C.N = 58 := hN
  unfold slices_rotateCmpFunc_rgggcregionapart1 at H
  refine V_run hN hn 5 1 [0, 2, 4, 10, 11] [0] ⟨[(0, .c (.h 0)), (2, cI m_3), (4, .c (.clo 60 [])), (10, cI (w6 (m_3 - a_2))), (11, cI (w6 (b_4 - m_3)))], [(0, .row kP data_1)], 1⟩ [] (by kernel_rfl) rfl rfl ap0 ?_
  obtain ⟨q_48, H_49, H_50⟩ := of_bind H
  refine V_cut (Y := ((List (Int × Int)) × Int)) (R := ((List (Int × Int)) × Int)) q_48 (fun y => y) (fun y => [(0, .c (.h 0)), (2, cI m_3), (4, .c (.clo 60 [])), (10, cI y.2)]) (fun y => [(0, .row kP y.1)]) ?_ ?_
  · skip
    refine VL_block ?_
    refine V_to [(0, .c (.h 0)), (2, cI m_3), (4, .c (.clo 60 [])), (10, cI (w6 (m_3 - a_2))), (11, cI (w6 (b_4 - m_3)))] [(0, .row kP data_1)] [] hn (by kernel_rfl) (by kernel_rfl) rfl rfl rfl ?_
    refine VL_loop (X := ((List (Int × Int)) × Int × Int)) (fun x => [(0, .c (.h 0)), (2, cI m_3), (4, .c (.clo 60 [])), (10, cI x.2.1), (11, cI x.2.2)]) (fun x => [(0, .row kP x.1)]) (fun k x => slices_rotateCmpFunc_rgggcregionapart1.l0 K m_3 k x.1 x.2.1 x.2.2 = some q_48) K (data_1, (w6 (m_3 - a_2)), (w6 (b_4 - m_3))) H_49 (fun _ h => no_none h) ?_
    intro k_25 x_25 H_52
    obtain ⟨data_24, i_6, j_7⟩ := x_25
    have H_53 : slices_rotateCmpFunc_rgggcregionapart1.l0 K m_3 (k_25 + 1) data_24 i_6 j_7 = some q_48 := H_52
    rw [slices_rotateCmpFunc_rgggcregionapart1.l0] at H_53
    refine V_run hN hn 3 1 [0, 2, 4, 10, 11, 20] [0] ⟨[(0, .c (.h 0)), (2, cI m_3), (4, .c (.clo 60 [])), (10, cI i_6), (11, cI j_7), (20, cB (i_6 != j_7))], [(0, .row kP data_24)], 1⟩ [] (by kernel_rfl) rfl rfl ap0 ?_
    refine VL_cond ((i_6 != j_7)) (by kernel_rfl) ?_ ?_
    · intro b_27; have H_54 := of_t H_53 b_27
      refine V_run hN hn 1 1 [0, 2, 4, 10, 11, 20] [0] ⟨[(0, .c (.h 0)), (2, cI m_3), (4, .c (.clo 60 [])), (10, cI i_6), (11, cI j_7), (20, cB (i_6 != j_7))], [(0, .row kP data_24)], 1⟩ [] (by kernel_rfl) rfl rfl ap0 ?_
      refine VL_block ?_
      refine V_run hN hn 2 1 [0, 2, 4, 10, 11, 23] [0] ⟨[(0, .c (.h 0)), (2, cI m_3), (4, .c (.clo 60 [])), (10, cI i_6), (11, cI j_7), (23, cB (decide (i_6 > j_7)))], [(0, .row kP data_24)], 1⟩ [] (by kernel_rfl) rfl rfl ap0 ?_
      refine VL_cond ((decide (i_6 > j_7))) (by kernel_rfl) ?_ ?_
      · intro b_30; have H_56 := of_t H_54 b_30
        refine V_run hN hn 1 1 [0, 2, 4, 10, 11, 23] [0] ⟨[(0, .c (.h 0)), (2, cI m_3), (4, .c (.clo 60 [])), (10, cI i_6), (11, cI j_7), (23, cB (decide (i_6 > j_7)))], [(0, .row kP data_24)], 1⟩ [] (by kernel_rfl) rfl rfl ap0 ?_
        obtain ⟨r_32, h_33, H_58⟩ := of_bind H_56
        refine V_reg hN hn [(7, ⟨75, 1, [.c (.h 0), cI (w6 (m_3 - i_6)), cI m_3, cI j_7, .c (.clo 60 [])], [(0, .row kP data_24)], .tup [], [(0, .row kP r_32)], [(0, 0)], 1⟩)] [] (calls_cons (slices_swapRangeCmpFunc_rgggcregionapart1_spec K data_24 (w6 (m_3 - i_6)) m_3 j_7 r_32 h_33) (by kernel_rfl) calls_nil) 1 [0, 2, 4, 10, 11] [0] ⟨[(0, .c (.h 0)), (2, cI m_3), (4, .c (.clo 60 [])), (10, cI i_6), (11, cI j_7)], [(0, .row kP r_32)], 1⟩ [] (by kernel_rfl) rfl rfl ap0 (by kernel_rfl) (by kernel_rfl) ?_
        refine V_run hN hn 1 1 [0, 2, 4, 10, 11] [0] ⟨[(0, .c (.h 0)), (2, cI m_3), (4, .c (.clo 60 [])), (10, cI (w6 (i_6 - j_7))), (11, cI j_7)], [(0, .row kP r_32)], 1⟩ [] (by kernel_rfl) rfl rfl ap0 ?_
        refine VL_nil (QB_end ?_)
        refine VL_nil ?_
        exact V_roundEnd (r_32, (w6 (i_6 - j_7)), j_7) H_58 [] hn (by kernel_rfl) (by kernel_rfl) rfl rfl rfl
      · intro b_30; have H_57 := of_f H_54 b_30
        refine V_run hN hn 1 1 [0, 2, 4, 10, 11, 23] [0] ⟨[(0, .c (.h 0)), (2, cI m_3), (4, .c (.clo 60 [])), (10, cI i_6), (11, cI j_7), (23, cB (decide (i_6 > j_7)))], [(0, .row kP data_24)], 1⟩ [] (by kernel_rfl) rfl rfl ap0 ?_
        obtain ⟨r_37, h_38, H_59⟩ := of_bind H_57
        refine V_reg hN hn [(11, ⟨75, 1, [.c (.h 0), cI (w6 (m_3 - i_6)), cI (w6 ((w6 (m_3 + j_7)) - i_6)), cI i_6, .c (.clo 60 [])], [(0, .row kP data_24)], .tup [], [(0, .row kP r_37)], [(0, 0)], 1⟩)] [] (calls_cons (slices_swapRangeCmpFunc_rgggcregionapart1_spec K data_24 (w6 (m_3 - i_6)) (w6 ((w6 (m_3 + j_7)) - i_6)) i_6 r_37 h_38) (by kernel_rfl) calls_nil) 1 [0, 2, 4, 10, 11] [0] ⟨[(0, .c (.h 0)), (2, cI m_3), (4, .c (.clo 60 [])), (10, cI i_6), (11, cI j_7)], [(0, .row kP r_37)], 1⟩ [] (by kernel_rfl) rfl rfl ap0 (by kernel_rfl) (by kernel_rfl) ?_
        refine V_run hN hn 1 1 [0, 2, 4, 10, 11] [0] ⟨[(0, .c (.h 0)), (2, cI m_3), (4, .c (.clo 60 [])), (10, cI i_6), (11, cI (w6 (j_7 - i_6)))], [(0, .row kP r_37)], 1⟩ [] (by kernel_rfl) rfl rfl ap0 ?_
        refine VL_nil (QB_end ?_)
        refine VL_nil ?_
        exact V_roundEnd (r_37, i_6, (w6 (j_7 - i_6))) H_59 [] hn (by kernel_rfl) (by kernel_rfl) rfl rfl rfl
    · intro b_27; have H_55 := of_f H_53 b_27
      refine VL_exit ?_
      refine QL_exit ?_
      refine QB_here ?_
      have H_60 := Option.some.inj (show some (data_24, i_6) = some q_48 from H_55); subst H_60
      refine VL_nil ?_
      exact QP_end (data_24, i_6) rfl [] hn (by kernel_rfl) (by kernel_rfl) rfl rfl rfl
  · intro y_51 hy; subst hy
    obtain ⟨data_41, i_42⟩ := y_51
    obtain ⟨r_43, h_44, H_61⟩ := of_bind H_50
    refine V_reg hN hn [(7, ⟨75, 1, [.c (.h 0), cI (w6 (m_3 - i_42)), cI m_3, cI i_42, .c (.clo 60 [])], [(0, .row kP data_41)], .tup [], [(0, .row kP r_43)], [(0, 0)], 1⟩)] [] (calls_cons (slices_swapRangeCmpFunc_rgggcregionapart1_spec K data_41 (w6 (m_3 - i_42)) m_3 i_42 r_43 h_44) (by kernel_rfl) calls_nil) 1 [] [0] ⟨[], [(0, .row kP r_43)], 1⟩ [] (by kernel_rfl) rfl rfl ap0 (by kernel_rfl) (by kernel_rfl) ?_
    have H_62 := Option.some.inj (show some r_43 = some r from H_61); subst H_62
    refine VL_nil ?_
    exact P_to [] [(0, .row kP r_43)] [] hn (by kernel_rfl) (by kernel_rfl) rfl rfl rfl (QF_endS (by kernel_rfl) (by kernel_rfl) rfl)

theorem slices_symMergeCmpFunc_rgggcregionapart1_recspec (K : Nat) : ∀ (k_rec : Nat) (data_1 : (List (Int × Int))) (a_2 : Int) (m_3 : Int) (b_4 : Int) (r : (List (Int × Int))), slices_symMergeCmpFunc_rgggcregionapart1.f K k_rec data_1 a_2 m_3 b_4 = some r → Spec Try.prog 73 1 [.c (.h 0), cI a_2, cI m_3, cI b_4, .c (.clo 60 [])] [(0, .row kP data_1)] (.tup []) [(0, .row kP r)] := by
  intro k_rec
  induction k_rec with
  | zero => intro data_1 a_2 m_3 b_4 r H; exact (no_none H).elim
  | succ k_rec ih =>
  intro data_1 a_2 m_3 b_4 r H
  refine Spec_mk (fn := Try.f73) (c := (Try.f73.body).get!) Try.func73 (by kernel_rfl) rfl ?_
  intro C hN hn
  replace hN : C.N = 220 := hN
  rw [slices_symMergeCmpFunc_rgggcregionapart1.f] at H
  refine V_run hN hn 3 1 [0, 1, 2, 3, 4, 28] [0] ⟨[(0, .c (.h 0)), (1, cI a_2), (2, cI m_3), (3, cI b_4), (4, .c (.clo 60 [])), (28, cB ((w6 (m_3 - a_2)) == (1 : Int)))], [(0, .row kP data_1)], 1⟩ [] (by kernel_rfl) rfl rfl ap0 ?_
  refine VL_cond (((w6 (m_3 - a_2)) == (1 : Int))) (by kernel_rfl) ?_ ?_
  · intro b_6; have H_132 := of_t H b_6
    refine V_run hN hn 5 1 [0, 1, 4, 10, 11] [0] ⟨[(0, .c (.h 0)), (1, cI a_2), (4, .c (.clo 60 [])), (10, cI m_3), (11, cI b_4)], [(0, .row kP data_1)], 1⟩ [] (by kernel_rfl) rfl rfl ap0 ?_
    obtain ⟨q_134, H_135, H_136⟩ := of_bind H_132
    refine V_cut (Y := Int) (R := Int) q_134 (fun y => y) (fun y => [(0, .c (.h 0)), (1, cI a_2), (10, cI y)]) (fun y => [(0, .row kP data_1)]) ?_ ?_
    · skip
      refine VL_block ?_
      refine V_to [(0, .c (.h 0)), (1, cI a_2), (4, .c (.clo 60 [])), (10, cI m_3), (11, cI b_4)] [(0, .row kP data_1)] [] hn (by kernel_rfl) (by kernel_rfl) rfl rfl rfl ?_
      refine VL_loop (X := (Int × Int)) (fun x => [(0, .c (.h 0)), (1, cI a_2), (4, .c (.clo 60 [])), (10, cI x.1), (11, cI x.2)]) (fun x => [(0, .row kP data_1)]) (fun k x => slices_symMergeCmpFunc_rgggcregionapart1.l0 K data_1 a_2 k x.1 x.2 = some q_134) K (m_3, b_4) H_135 (fun _ h => no_none h) ?_
      intro k_10 x_10 H_138
      obtain ⟨i_8, j_9⟩ := x_10
      have H_139 : slices_symMergeCmpFunc_rgggcregionapart1.l0 K data_1 a_2 (k_10 + 1) i_8 j_9 = some q_134 := H_138
      rw [slices_symMergeCmpFunc_rgggcregionapart1.l0] at H_139
      refine V_run hN hn 3 1 [0, 1, 4, 10, 11, 33] [0] ⟨[(0, .c (.h 0)), (1, cI a_2), (4, .c (.clo 60 [])), (10, cI i_8), (11, cI j_9), (33, cB (decide (i_8 < j_9)))], [(0, .row kP data_1)], 1⟩ [] (by kernel_rfl) rfl rfl ap0 ?_
      refine VL_cond ((decide (i_8 < j_9))) (by kernel_rfl) ?_ ?_
      · intro b_12; have H_140 := of_t H_139 b_12
        refine V_run hN hn 1 1 [0, 1, 4, 10, 11, 33] [0] ⟨[(0, .c (.h 0)), (1, cI a_2), (4, .c (.clo 60 [])), (10, cI i_8), (11, cI j_9), (33, cB (decide (i_8 < j_9)))], [(0, .row kP data_1)], 1⟩ [] (by kernel_rfl) rfl rfl ap0 ?_
        refine VL_block ?_
        refine V_run hN hn 3 1 [0, 1, 4, 10, 11, 12] [0] ⟨[(0, .c (.h 0)), (1, cI a_2), (4, .c (.clo 60 [])), (10, cI i_8), (11, cI j_9), (12, cI (w6 (Int.fdiv (IntKind.wrap .u64 (w6 (i_8 + j_9))) (2 : Int))))], [(0, .row kP data_1)], 1⟩ [(0 : Int) ≤ (1 : Int)] (by kernel_rfl) rfl rfl (ap1 (by decide)) ?_
        obtain ⟨r_15, h_16, H_142⟩ := of_bind H_140
        obtain ⟨c_17, H_143⟩ := of_if H_142
        refine V_draw hN hn (by kernel_rfl) [(9, ⟨60, 0, [.agg [.val (.int .i64 (List.getD data_1 (Int.toNat (w6 (Int.fdiv (IntKind.wrap .u64 (w6 (i_8 + j_9))) (2 : Int)))) zP).1), .val (.int .i64 (List.getD data_1 (Int.toNat (w6 (Int.fdiv (IntKind.wrap .u64 (w6 (i_8 + j_9))) (2 : Int)))) zP).2)], .agg [.val (.int .i64 (List.getD data_1 (Int.toNat a_2) zP).1), .val (.int .i64 (List.getD data_1 (Int.toNat a_2) zP).2)]], [], cI r_15, [], [], 1⟩)] [] (calls_cons (region_apart_1_spec K (List.getD data_1 (Int.toNat (w6 (Int.fdiv (IntKind.wrap .u64 (w6 (i_8 + j_9))) (2 : Int)))) zP).1 (List.getD data_1 (Int.toNat (w6 (Int.fdiv (IntKind.wrap .u64 (w6 (i_8 + j_9))) (2 : Int)))) zP).2 (List.getD data_1 (Int.toNat a_2) zP).1 (List.getD data_1 (Int.toNat a_2) zP).2 r_15 h_16) (by kernel_rfl) calls_nil) 1 [0, 1, 4, 10, 11, 12, 50] [0] ⟨[(0, .c (.h 0)), (1, cI a_2), (4, .c (.clo 60 [])), (10, cI i_8), (11, cI j_9), (12, cI (w6 (Int.fdiv (IntKind.wrap .u64 (w6 (i_8 + j_9))) (2 : Int)))), (50, cB (decide (r_15 < (0 : Int))))], [(0, .row kP data_1)], 1⟩ [0 ≤ (w6 (Int.fdiv (IntKind.wrap .u64 (w6 (i_8 + j_9))) (2 : Int))), (w6 (Int.fdiv (IntKind.wrap .u64 (w6 (i_8 + j_9))) (2 : Int))) < (lnI data_1), 0 ≤ a_2, a_2 < (lnI data_1)] (by kernel_rfl) rfl rfl (ap2 c_17.1 (ap2 c_17.2.1 (ap2 c_17.2.2.1 (ap1 c_17.2.2.2)))) (by kernel_rfl) (by kernel_rfl) ?_
        refine VL_cond ((decide (r_15 < (0 : Int)))) (by kernel_rfl) ?_ ?_
        · intro b_18; have H_144 := of_t H_143 b_18
          refine V_run hN hn 1 1 [0, 1, 4, 10, 11] [0] ⟨[(0, .c (.h 0)), (1, cI a_2), (4, .c (.clo 60 [])), (10, cI (w6 ((w6 (Int.fdiv (IntKind.wrap .u64 (w6 (i_8 + j_9))) (2 : Int))) + (1 : Int)))), (11, cI j_9)], [(0, .row kP data_1)], 1⟩ [] (by kernel_rfl) rfl rfl ap0 ?_
          refine VL_nil (QB_end ?_)
          refine VL_nil ?_
          exact V_roundEnd ((w6 ((w6 (Int.fdiv (IntKind.wrap .u64 (w6 (i_8 + j_9))) (2 : Int))) + (1 : Int))), j_9) H_144 [] hn (by kernel_rfl) (by kernel_rfl) rfl rfl rfl
        · intro b_18; have H_145 := of_f H_143 b_18
          refine V_run hN hn 1 1 [0, 1, 4, 10, 11] [0] ⟨[(0, .c (.h 0)), (1, cI a_2), (4, .c (.clo 60 [])), (10, cI i_8), (11, cI (w6 (Int.fdiv (IntKind.wrap .u64 (w6 (i_8 + j_9))) (2 : Int))))], [(0, .row kP data_1)], 1⟩ [] (by kernel_rfl) rfl rfl ap0 ?_
          refine VL_nil (QB_end ?_)
          refine VL_nil ?_
          exact V_roundEnd (i_8, (w6 (Int.fdiv (IntKind.wrap .u64 (w6 (i_8 + j_9))) (2 : Int)))) H_145 [] hn (by kernel_rfl) (by kernel_rfl) rfl rfl rfl
      · intro b_12; have H_141 := of_f H_139 b_12
        refine VL_exit ?_
        refine QL_exit ?_
        refine QB_here ?_
        have H_146 := Option.some.inj (show some i_8 = some q_134 from H_141); subst H_146
        refine VL_nil ?_
        exact QP_end i_8 rfl [] hn (by kernel_rfl) (by kernel_rfl) rfl rfl rfl
    · intro y_137 hy; subst hy
      skip
      skip
      refine V_run hN hn 3 1 [0, 10, 13] [0] ⟨[(0, .c (.h 0)), (10, cI y_137), (13, cI a_2)], [(0, .row kP data_1)], 1⟩ [] (by kernel_rfl) rfl rfl ap0 ?_
      refine VL_block ?_
      refine V_to [(0, .c (.h 0)), (10, cI y_137), (13, cI a_2)] [(0, .row kP data_1)] [] hn (by kernel_rfl) (by kernel_rfl) rfl rfl rfl ?_
      refine VL_loop (X := ((List (Int × Int)) × Int)) (fun x => [(0, .c (.h 0)), (10, cI y_137), (13, cI x.2)]) (fun x => [(0, .row kP x.1)]) (fun k x => slices_symMergeCmpFunc_rgggcregionapart1.l1 K y_137 k x.1 x.2 = some r) K (data_1, a_2) H_136 (fun _ h => no_none h) ?_
      intro k_31 x_31 H_147
      obtain ⟨data_30, k_23⟩ := x_31
      have H_148 : slices_symMergeCmpFunc_rgggcregionapart1.l1 K y_137 (k_31 + 1) data_30 k_23 = some r := H_147
      rw [slices_symMergeCmpFunc_rgggcregionapart1.l1] at H_148
      refine V_run hN hn 3 1 [0, 10, 13, 58] [0] ⟨[(0, .c (.h 0)), (10, cI y_137), (13, cI k_23), (58, cB (decide (k_23 < (w6 (y_137 - (1 : Int))))))], [(0, .row kP data_30)], 1⟩ [] (by kernel_rfl) rfl rfl ap0 ?_
      refine VL_cond ((decide (k_23 < (w6 (y_137 - (1 : Int)))))) (by kernel_rfl) ?_ ?_
      · intro b_33; have H_149 := of_t H_148 b_33
        refine V_run hN hn 2 1 [0, 10, 13, 58] [0] ⟨[(0, .c (.h 0)), (10, cI y_137), (13, cI k_23), (58, cB (decide (k_23 < (w6 (y_137 - (1 : Int))))))], [(0, .row kP data_30)], 1⟩ [] (by kernel_rfl) rfl rfl ap0 ?_
        refine VL_block ?_
        obtain ⟨c_35, H_151⟩ := of_if H_149
        refine V_draw hN hn (by kernel_rfl) [] [] calls_nil 1 [0, 10, 13] [0] ⟨[(0, .c (.h 0)), (10, cI y_137), (13, cI k_23)], [(0, .row kP (List.set (List.set data_30 (Int.toNat k_23) ((List.getD data_30 (Int.toNat (w6 (k_23 + (1 : Int)))) zP).1, (List.getD data_30 (Int.toNat (w6 (k_23 + (1 : Int)))) zP).2)) (Int.toNat (w6 (k_23 + (1 : Int)))) ((List.getD data_30 (Int.toNat k_23) zP).1, (List.getD data_30 (Int.toNat k_23) zP).2)))], 1⟩ [0 ≤ (w6 (k_23 + (1 : Int))), (w6 (k_23 + (1 : Int))) < (lnI data_30), 0 ≤ k_23, k_23 < (lnI data_30), 0 ≤ k_23, k_23 < (lnI data_30), 0 ≤ (w6 (k_23 + (1 : Int))), (w6 (k_23 + (1 : Int))) < (lnI (List.set data_30 (Int.toNat k_23) ((List.getD data_30 (Int.toNat (w6 (k_23 + (1 : Int)))) zP).1, (List.getD data_30 (Int.toNat (w6 (k_23 + (1 : Int)))) zP).2)))] (by kernel_rfl) rfl rfl (ap2 c_35.1 (ap2 c_35.2.1 (ap2 c_35.2.2.1 (ap2 c_35.2.2.2.1 (ap2 c_35.2.2.1 (ap2 c_35.2.2.2.1 (ap2 c_35.1 (ap1 c_35.2.2.2.2)))))))) (by kernel_rfl) (by kernel_rfl) ?_
        refine VL_nil (QB_end ?_)
        refine V_run hN hn 1 1 [0, 10, 13] [0] ⟨[(0, .c (.h 0)), (10, cI y_137), (13, cI (w6 (k_23 + (1 : Int))))], [(0, .row kP (List.set (List.set data_30 (Int.toNat k_23) ((List.getD data_30 (Int.toNat (w6 (k_23 + (1 : Int)))) zP).1, (List.getD data_30 (Int.toNat (w6 (k_23 + (1 : Int)))) zP).2)) (Int.toNat (w6 (k_23 + (1 : Int)))) ((List.getD data_30 (Int.toNat k_23) zP).1, (List.getD data_30 (Int.toNat k_23) zP).2)))], 1⟩ [] (by kernel_rfl) rfl rfl ap0 ?_
        refine VL_nil ?_
        exact V_roundEnd ((List.set (List.set data_30 (Int.toNat k_23) ((List.getD data_30 (Int.toNat (w6 (k_23 + (1 : Int)))) zP).1, (List.getD data_30 (Int.toNat (w6 (k_23 + (1 : Int)))) zP).2)) (Int.toNat (w6 (k_23 + (1 : Int)))) ((List.getD data_30 (Int.toNat k_23) zP).1, (List.getD data_30 (Int.toNat k_23) zP).2)), (w6 (k_23 + (1 : Int)))) H_151 [] hn (by kernel_rfl) (by kernel_rfl) rfl rfl rfl
      · intro b_33; have H_150 := of_f H_148 b_33
        refine VL_exit ?_
        refine QL_exit ?_
        refine QB_here ?_
        have H_152 := Option.some.inj (show some data_30 = some r from H_150); subst H_152
        refine VL_ret ?_
        exact P_to [] [(0, .row kP data_30)] [] hn (by kernel_rfl) (by kernel_rfl) rfl rfl rfl (QF_retS (by kernel_rfl) (by kernel_rfl) rfl)
  · intro b_6; have H_133 := of_f H b_6
    refine V_run hN hn 4 1 [0, 1, 2, 3, 4, 80] [0] ⟨[(0, .c (.h 0)), (1, cI a_2), (2, cI m_3), (3, cI b_4), (4, .c (.clo 60 [])), (80, cB ((w6 (b_4 - m_3)) == (1 : Int)))], [(0, .row kP data_1)], 1⟩ [] (by kernel_rfl) rfl rfl ap0 ?_
    refine VL_cond (((w6 (b_4 - m_3)) == (1 : Int))) (by kernel_rfl) ?_ ?_
    · intro b_38; have H_153 := of_t H_133 b_38
      refine V_run hN hn 5 1 [0, 2, 4, 14, 15] [0] ⟨[(0, .c (.h 0)), (2, cI m_3), (4, .c (.clo 60 [])), (14, cI a_2), (15, cI m_3)], [(0, .row kP data_1)], 1⟩ [] (by kernel_rfl) rfl rfl ap0 ?_
      obtain ⟨q_155, H_156, H_157⟩ := of_bind H_153
      refine V_cut (Y := Int) (R := Int) q_155 (fun y => y) (fun y => [(0, .c (.h 0)), (2, cI m_3), (14, cI y)]) (fun y => [(0, .row kP data_1)]) ?_ ?_
      · skip
        refine VL_block ?_
        refine V_to [(0, .c (.h 0)), (2, cI m_3), (4, .c (.clo 60 [])), (14, cI a_2), (15, cI m_3)] [(0, .row kP data_1)] [] hn (by kernel_rfl) (by kernel_rfl) rfl rfl rfl ?_
        refine VL_loop (X := (Int × Int)) (fun x => [(0, .c (.h 0)), (2, cI m_3), (4, .c (.clo 60 [])), (14, cI x.1), (15, cI x.2)]) (fun x => [(0, .row kP data_1)]) (fun k x => slices_symMergeCmpFunc_rgggcregionapart1.l2 K data_1 m_3 k x.1 x.2 = some q_155) K (a_2, m_3) H_156 (fun _ h => no_none h) ?_
        intro k_42 x_42 H_159
        obtain ⟨i_40, j_41⟩ := x_42
        have H_160 : slices_symMergeCmpFunc_rgggcregionapart1.l2 K data_1 m_3 (k_42 + 1) i_40 j_41 = some q_155 := H_159
        rw [slices_symMergeCmpFunc_rgggcregionapart1.l2] at H_160
        refine V_run hN hn 3 1 [0, 2, 4, 14, 15, 85] [0] ⟨[(0, .c (.h 0)), (2, cI m_3), (4, .c (.clo 60 [])), (14, cI i_40), (15, cI j_41), (85, cB (decide (i_40 < j_41)))], [(0, .row kP data_1)], 1⟩ [] (by kernel_rfl) rfl rfl ap0 ?_
        refine VL_cond ((decide (i_40 < j_41))) (by kernel_rfl) ?_ ?_
        · intro b_44; have H_161 := of_t H_160 b_44
          refine V_run hN hn 1 1 [0, 2, 4, 14, 15, 85] [0] ⟨[(0, .c (.h 0)), (2, cI m_3), (4, .c (.clo 60 [])), (14, cI i_40), (15, cI j_41), (85, cB (decide (i_40 < j_41)))], [(0, .row kP data_1)], 1⟩ [] (by kernel_rfl) rfl rfl ap0 ?_
          refine VL_block ?_
          refine V_run hN hn 3 1 [0, 2, 4, 14, 15, 16] [0] ⟨[(0, .c (.h 0)), (2, cI m_3), (4, .c (.clo 60 [])), (14, cI i_40), (15, cI j_41), (16, cI (w6 (Int.fdiv (IntKind.wrap .u64 (w6 (i_40 + j_41))) (2 : Int))))], [(0, .row kP data_1)], 1⟩ [(0 : Int) ≤ (1 : Int)] (by kernel_rfl) rfl rfl (ap1 (by decide)) ?_
          obtain ⟨r_47, h_48, H_163⟩ := of_bind H_161
          obtain ⟨c_49, H_164⟩ := of_if H_163
          refine V_draw hN hn (by kernel_rfl) [(9, ⟨60, 0, [.agg [.val (.int .i64 (List.getD data_1 (Int.toNat m_3) zP).1), .val (.int .i64 (List.getD data_1 (Int.toNat m_3) zP).2)], .agg [.val (.int .i64 (List.getD data_1 (Int.toNat (w6 (Int.fdiv (IntKind.wrap .u64 (w6 (i_40 + j_41))) (2 : Int)))) zP).1), .val (.int .i64 (List.getD data_1 (Int.toNat (w6 (Int.fdiv (IntKind.wrap .u64 (w6 (i_40 + j_41))) (2 : Int)))) zP).2)]], [], cI r_47, [], [], 1⟩)] [] (calls_cons (region_apart_1_spec K (List.getD data_1 (Int.toNat m_3) zP).1 (List.getD data_1 (Int.toNat m_3) zP).2 (List.getD data_1 (Int.toNat (w6 (Int.fdiv (IntKind.wrap .u64 (w6 (i_40 + j_41))) (2 : Int)))) zP).1 (List.getD data_1 (Int.toNat (w6 (Int.fdiv (IntKind.wrap .u64 (w6 (i_40 + j_41))) (2 : Int)))) zP).2 r_47 h_48) (by kernel_rfl) calls_nil) 1 [0, 2, 4, 14, 15, 16, 103] [0] ⟨[(0, .c (.h 0)), (2, cI m_3), (4, .c (.clo 60 [])), (14, cI i_40), (15, cI j_41), (16, cI (w6 (Int.fdiv (IntKind.wrap .u64 (w6 (i_40 + j_41))) (2 : Int)))), (103, cB (!(decide (r_47 < (0 : Int)))))], [(0, .row kP data_1)], 1⟩ [0 ≤ m_3, m_3 < (lnI data_1), 0 ≤ (w6 (Int.fdiv (IntKind.wrap .u64 (w6 (i_40 + j_41))) (2 : Int))), (w6 (Int.fdiv (IntKind.wrap .u64 (w6 (i_40 + j_41))) (2 : Int))) < (lnI data_1)] (by kernel_rfl) rfl rfl (ap2 c_49.1 (ap2 c_49.2.1 (ap2 c_49.2.2.1 (ap1 c_49.2.2.2)))) (by kernel_rfl) (by kernel_rfl) ?_
          refine VL_cond ((!(decide (r_47 < (0 : Int))))) (by kernel_rfl) ?_ ?_
          · intro b_50; have H_165 := of_t H_164 b_50
            refine V_run hN hn 1 1 [0, 2, 4, 14, 15] [0] ⟨[(0, .c (.h 0)), (2, cI m_3), (4, .c (.clo 60 [])), (14, cI (w6 ((w6 (Int.fdiv (IntKind.wrap .u64 (w6 (i_40 + j_41))) (2 : Int))) + (1 : Int)))), (15, cI j_41)], [(0, .row kP data_1)], 1⟩ [] (by kernel_rfl) rfl rfl ap0 ?_
            refine VL_nil (QB_end ?_)
            refine VL_nil ?_
            exact V_roundEnd ((w6 ((w6 (Int.fdiv (IntKind.wrap .u64 (w6 (i_40 + j_41))) (2 : Int))) + (1 : Int))), j_41) H_165 [] hn (by kernel_rfl) (by kernel_rfl) rfl rfl rfl
          · intro b_50; have H_166 := of_f H_164 b_50
            refine V_run hN hn 1 1 [0, 2, 4, 14, 15] [0] ⟨[(0, .c (.h 0)), (2, cI m_3), (4, .c (.clo 60 [])), (14, cI i_40), (15, cI (w6 (Int.fdiv (IntKind.wrap .u64 (w6 (i_40 + j_41))) (2 : Int))))], [(0, .row kP data_1)], 1⟩ [] (by kernel_rfl) rfl rfl ap0 ?_
            refine VL_nil (QB_end ?_)
            refine VL_nil ?_
            exact V_roundEnd (i_40, (w6 (Int.fdiv (IntKind.wrap .u64 (w6 (i_40 + j_41))) (2 : Int)))) H_166 [] hn (by kernel_rfl) (by kernel_rfl) rfl rfl rfl
        · intro b_44; have H_162 := of_f H_160 b_44
          refine VL_exit ?_
          refine QL_exit ?_
          refine QB_here ?_
          have H_167 := Option.some.inj (show some i_40 = some q_155 from H_162); subst H_167
          refine VL_nil ?_
          exact QP_end i_40 rfl [] hn (by kernel_rfl) (by kernel_rfl) rfl rfl rfl
      · intro y_158 hy; subst hy
        skip
        skip
        refine V_run hN hn 3 1 [0, 14, 17] [0] ⟨[(0, .c (.h 0)), (14, cI y_158), (17, cI m_3)], [(0, .row kP data_1)], 1⟩ [] (by kernel_rfl) rfl rfl ap0 ?_
        refine VL_block ?_
        refine V_to [(0, .c (.h 0)), (14, cI y_158), (17, cI m_3)] [(0, .row kP data_1)] [] hn (by kernel_rfl) (by kernel_rfl) rfl rfl rfl ?_
        refine VL_loop (X := ((List (Int × Int)) × Int)) (fun x => [(0, .c (.h 0)), (14, cI y_158), (17, cI x.2)]) (fun x => [(0, .row kP x.1)]) (fun k x => slices_symMergeCmpFunc_rgggcregionapart1.l3 K y_158 k x.1 x.2 = some r) K (data_1, m_3) H_157 (fun _ h => no_none h) ?_
        intro k_63 x_63 H_168
        obtain ⟨data_62, k_55⟩ := x_63
        have H_169 : slices_symMergeCmpFunc_rgggcregionapart1.l3 K y_158 (k_63 + 1) data_62 k_55 = some r := H_168
        rw [slices_symMergeCmpFunc_rgggcregionapart1.l3] at H_169
        refine V_run hN hn 3 1 [0, 14, 17, 110] [0] ⟨[(0, .c (.h 0)), (14, cI y_158), (17, cI k_55), (110, cB (decide (k_55 > y_158)))], [(0, .row kP data_62)], 1⟩ [] (by kernel_rfl) rfl rfl ap0 ?_
        refine VL_cond ((decide (k_55 > y_158))) (by kernel_rfl) ?_ ?_
        · intro b_65; have H_170 := of_t H_169 b_65
          refine V_run hN hn 2 1 [0, 14, 17, 110] [0] ⟨[(0, .c (.h 0)), (14, cI y_158), (17, cI k_55), (110, cB (decide (k_55 > y_158)))], [(0, .row kP data_62)], 1⟩ [] (by kernel_rfl) rfl rfl ap0 ?_
          refine VL_block ?_
          obtain ⟨c_67, H_172⟩ := of_if H_170
          refine V_draw hN hn (by kernel_rfl) [] [] calls_nil 1 [0, 14, 17] [0] ⟨[(0, .c (.h 0)), (14, cI y_158), (17, cI k_55)], [(0, .row kP (List.set (List.set data_62 (Int.toNat k_55) ((List.getD data_62 (Int.toNat (w6 (k_55 - (1 : Int)))) zP).1, (List.getD data_62 (Int.toNat (w6 (k_55 - (1 : Int)))) zP).2)) (Int.toNat (w6 (k_55 - (1 : Int)))) ((List.getD data_62 (Int.toNat k_55) zP).1, (List.getD data_62 (Int.toNat k_55) zP).2)))], 1⟩ [0 ≤ (w6 (k_55 - (1 : Int))), (w6 (k_55 - (1 : Int))) < (lnI data_62), 0 ≤ k_55, k_55 < (lnI data_62), 0 ≤ k_55, k_55 < (lnI data_62), 0 ≤ (w6 (k_55 - (1 : Int))), (w6 (k_55 - (1 : Int))) < (lnI (List.set data_62 (Int.toNat k_55) ((List.getD data_62 (Int.toNat (w6 (k_55 - (1 : Int)))) zP).1, (List.getD data_62 (Int.toNat (w6 (k_55 - (1 : Int)))) zP).2)))] (by kernel_rfl) rfl rfl (ap2 c_67.1 (ap2 c_67.2.1 (ap2 c_67.2.2.1 (ap2 c_67.2.2.2.1 (ap2 c_67.2.2.1 (ap2 c_67.2.2.2.1 (ap2 c_67.1 (ap1 c_67.2.2.2.2)))))))) (by kernel_rfl) (by kernel_rfl) ?_
          refine VL_nil (QB_end ?_)
          refine V_run hN hn 1 1 [0, 14, 17] [0] ⟨[(0, .c (.h 0)), (14, cI y_158), (17, cI (w6 (k_55 - (1 : Int))))], [(0, .row kP (List.set (List.set data_62 (Int.toNat k_55) ((List.getD data_62 (Int.toNat (w6 (k_55 - (1 : Int)))) zP).1, (List.getD data_62 (Int.toNat (w6 (k_55 - (1 : Int)))) zP).2)) (Int.toNat (w6 (k_55 - (1 : Int)))) ((List.getD data_62 (Int.toNat k_55) zP).1, (List.getD data_62 (Int.toNat k_55) zP).2)))], 1⟩ [] (by kernel_rfl) rfl rfl ap0 ?_
          refine VL_nil ?_
          exact V_roundEnd ((List.set (List.set data_62 (Int.toNat k_55) ((List.getD data_62 (Int.toNat (w6 (k_55 - (1 : Int)))) zP).1, (List.getD data_62 (Int.toNat (w6 (k_55 - (1 : Int)))) zP).2)) (Int.toNat (w6 (k_55 - (1 : Int)))) ((List.getD data_62 (Int.toNat k_55) zP).1, (List.getD data_62 (Int.toNat k_55) zP).2)), (w6 (k_55 - (1 : Int)))) H_172 [] hn (by kernel_rfl) (by kernel_rfl) rfl rfl rfl
        · intro b_65; have H_171 := of_f H_169 b_65
          refine VL_exit ?_
          refine QL_exit ?_
          refine QB_here ?_
          have H_173 := Option.some.inj (show some data_62 = some r from H_171); subst H_173
          refine VL_ret ?_
          exact P_to [] [(0, .row kP data_62)] [] hn (by kernel_rfl) (by kernel_rfl) rfl rfl rfl (QF_retS (by kernel_rfl) (by kernel_rfl) rfl)
    · intro b_38; have H_154 := of_f H_133 b_38
      refine V_run hN hn 10 1 [0, 1, 2, 3, 4, 18, 19, 140] [0] ⟨[(0, .c (.h 0)), (1, cI a_2), (2, cI m_3), (3, cI b_4), (4, .c (.clo 60 [])), (18, cI (w6 (Int.fdiv (IntKind.wrap .u64 (w6 (a_2 + b_4))) (2 : Int)))), (19, cI (w6 ((w6 (Int.fdiv (IntKind.wrap .u64 (w6 (a_2 + b_4))) (2 : Int))) + m_3))), (140, cB (decide (m_3 > (w6 (Int.fdiv (IntKind.wrap .u64 (w6 (a_2 + b_4))) (2 : Int))))))], [(0, .row kP data_1)], 1⟩ [(0 : Int) ≤ (1 : Int)] (by kernel_rfl) rfl rfl (ap1 (by decide)) ?_
      obtain ⟨q_174, H_175, H_176⟩ := of_bind H_154
      refine V_cut (Y := (Int × Int)) (R := (Int × Int)) q_174 (fun y => y) (fun y => [(0, .c (.h 0)), (1, cI a_2), (2, cI m_3), (3, cI b_4), (4, .c (.clo 60 [])), (18, cI (w6 (Int.fdiv (IntKind.wrap .u64 (w6 (a_2 + b_4))) (2 : Int)))), (19, cI (w6 ((w6 (Int.fdiv (IntKind.wrap .u64 (w6 (a_2 + b_4))) (2 : Int))) + m_3))), (20, cI y.1), (21, cI y.2)]) (fun y => [(0, .row kP data_1)]) ?_ ?_
      · skip
        refine VL_cond ((decide (m_3 > (w6 (Int.fdiv (IntKind.wrap .u64 (w6 (a_2 + b_4))) (2 : Int)))))) (by kernel_rfl) ?_ ?_
        · intro b_70; have H_178 := of_t H_175 b_70
          refine V_run hN hn 3 1 [0, 1, 2, 3, 4, 18, 19, 20, 21] [0] ⟨[(0, .c (.h 0)), (1, cI a_2), (2, cI m_3), (3, cI b_4), (4, .c (.clo 60 [])), (18, cI (w6 (Int.fdiv (IntKind.wrap .u64 (w6 (a_2 + b_4))) (2 : Int)))), (19, cI (w6 ((w6 (Int.fdiv (IntKind.wrap .u64 (w6 (a_2 + b_4))) (2 : Int))) + m_3))), (20, cI (w6 ((w6 ((w6 (Int.fdiv (IntKind.wrap .u64 (w6 (a_2 + b_4))) (2 : Int))) + m_3)) - b_4))), (21, cI (w6 (Int.fdiv (IntKind.wrap .u64 (w6 (a_2 + b_4))) (2 : Int))))], [(0, .row kP data_1)], 1⟩ [] (by kernel_rfl) rfl rfl ap0 ?_
          have H_180 := Option.some.inj (show some ((w6 ((w6 ((w6 (Int.fdiv (IntKind.wrap .u64 (w6 (a_2 + b_4))) (2 : Int))) + m_3)) - b_4)), (w6 (Int.fdiv (IntKind.wrap .u64 (w6 (a_2 + b_4))) (2 : Int)))) = some q_174 from H_178); subst H_180
          refine VL_nil ?_
          exact QP_end ((w6 ((w6 ((w6 (Int.fdiv (IntKind.wrap .u64 (w6 (a_2 + b_4))) (2 : Int))) + m_3)) - b_4)), (w6 (Int.fdiv (IntKind.wrap .u64 (w6 (a_2 + b_4))) (2 : Int)))) rfl [] hn (by kernel_rfl) (by kernel_rfl) rfl rfl rfl
        · intro b_70; have H_179 := of_f H_175 b_70
          refine V_run hN hn 3 1 [0, 1, 2, 3, 4, 18, 19, 20, 21] [0] ⟨[(0, .c (.h 0)), (1, cI a_2), (2, cI m_3), (3, cI b_4), (4, .c (.clo 60 [])), (18, cI (w6 (Int.fdiv (IntKind.wrap .u64 (w6 (a_2 + b_4))) (2 : Int)))), (19, cI (w6 ((w6 (Int.fdiv (IntKind.wrap .u64 (w6 (a_2 + b_4))) (2 : Int))) + m_3))), (20, cI a_2), (21, cI m_3)], [(0, .row kP data_1)], 1⟩ [] (by kernel_rfl) rfl rfl ap0 ?_
          have H_181 := Option.some.inj (show some (a_2, m_3) = some q_174 from H_179); subst H_181
          refine VL_nil ?_
          exact QP_end (a_2, m_3) rfl [] hn (by kernel_rfl) (by kernel_rfl) rfl rfl rfl
      · intro y_177 hy; subst hy
        obtain ⟨start_73, r_74⟩ := y_177
        refine V_run hN hn 3 1 [0, 1, 2, 3, 4, 18, 19, 20, 21, 22] [0] ⟨[(0, .c (.h 0)), (1, cI a_2), (2, cI m_3), (3, cI b_4), (4, .c (.clo 60 [])), (18, cI (w6 (Int.fdiv (IntKind.wrap .u64 (w6 (a_2 + b_4))) (2 : Int)))), (19, cI (w6 ((w6 (Int.fdiv (IntKind.wrap .u64 (w6 (a_2 + b_4))) (2 : Int))) + m_3))), (20, cI start_73), (21, cI r_74), (22, cI (w6 ((w6 ((w6 (Int.fdiv (IntKind.wrap .u64 (w6 (a_2 + b_4))) (2 : Int))) + m_3)) - (1 : Int))))], [(0, .row kP data_1)], 1⟩ [] (by kernel_rfl) rfl rfl ap0 ?_
        obtain ⟨q_182, H_183, H_184⟩ := of_bind H_176
        refine V_cut (Y := Int) (R := Int) q_182 (fun y => y) (fun y => [(0, .c (.h 0)), (1, cI a_2), (2, cI m_3), (3, cI b_4), (4, .c (.clo 60 [])), (18, cI (w6 (Int.fdiv (IntKind.wrap .u64 (w6 (a_2 + b_4))) (2 : Int)))), (19, cI (w6 ((w6 (Int.fdiv (IntKind.wrap .u64 (w6 (a_2 + b_4))) (2 : Int))) + m_3))), (20, cI y)]) (fun y => [(0, .row kP data_1)]) ?_ ?_
        · skip
          refine VL_block ?_
          refine V_to [(0, .c (.h 0)), (1, cI a_2), (2, cI m_3), (3, cI b_4), (4, .c (.clo 60 [])), (18, cI (w6 (Int.fdiv (IntKind.wrap .u64 (w6 (a_2 + b_4))) (2 : Int)))), (19, cI (w6 ((w6 (Int.fdiv (IntKind.wrap .u64 (w6 (a_2 + b_4))) (2 : Int))) + m_3))), (20, cI start_73), (21, cI r_74), (22, cI (w6 ((w6 ((w6 (Int.fdiv (IntKind.wrap .u64 (w6 (a_2 + b_4))) (2 : Int))) + m_3)) - (1 : Int))))] [(0, .row kP data_1)] [] hn (by kernel_rfl) (by kernel_rfl) rfl rfl rfl ?_
          refine VL_loop (X := (Int × Int)) (fun x => [(0, .c (.h 0)), (1, cI a_2), (2, cI m_3), (3, cI b_4), (4, .c (.clo 60 [])), (18, cI (w6 (Int.fdiv (IntKind.wrap .u64 (w6 (a_2 + b_4))) (2 : Int)))), (19, cI (w6 ((w6 (Int.fdiv (IntKind.wrap .u64 (w6 (a_2 + b_4))) (2 : Int))) + m_3))), (20, cI x.1), (21, cI x.2), (22, cI (w6 ((w6 ((w6 (Int.fdiv (IntKind.wrap .u64 (w6 (a_2 + b_4))) (2 : Int))) + m_3)) - (1 : Int))))]) (fun x => [(0, .row kP data_1)]) (fun k x => slices_symMergeCmpFunc_rgggcregionapart1.l4 K data_1 a_2 b_4 m_3 k x.1 x.2 = some q_182) K (start_73, r_74) H_183 (fun _ h => no_none h) ?_
          intro k_78 x_78 H_186
          obtain ⟨start_76, r_77⟩ := x_78
          have H_187 : slices_symMergeCmpFunc_rgggcregionapart1.l4 K data_1 a_2 b_4 m_3 (k_78 + 1) start_76 r_77 = some q_182 := H_186
          rw [slices_symMergeCmpFunc_rgggcregionapart1.l4] at H_187
          refine V_run hN hn 3 1 [0, 1, 2, 3, 4, 18, 19, 20, 21, 22, 151] [0] ⟨[(0, .c (.h 0)), (1, cI a_2), (2, cI m_3), (3, cI b_4), (4, .c (.clo 60 [])), (18, cI (w6 (Int.fdiv (IntKind.wrap .u64 (w6 (a_2 + b_4))) (2 : Int)))), (19, cI (w6 ((w6 (Int.fdiv (IntKind.wrap .u64 (w6 (a_2 + b_4))) (2 : Int))) + m_3))), (20, cI start_76), (21, cI r_77), (22, cI (w6 ((w6 ((w6 (Int.fdiv (IntKind.wrap .u64 (w6 (a_2 + b_4))) (2 : Int))) + m_3)) - (1 : Int)))), (151, cB (decide (start_76 < r_77)))], [(0, .row kP data_1)], 1⟩ [] (by kernel_rfl) rfl rfl ap0 ?_
          refine VL_cond ((decide (start_76 < r_77))) (by kernel_rfl) ?_ ?_
          · intro b_80; have H_188 := of_t H_187 b_80
            refine V_run hN hn 1 1 [0, 1, 2, 3, 4, 18, 19, 20, 21, 22, 151] [0] ⟨[(0, .c (.h 0)), (1, cI a_2), (2, cI m_3), (3, cI b_4), (4, .c (.clo 60 [])), (18, cI (w6 (Int.fdiv (IntKind.wrap .u64 (w6 (a_2 + b_4))) (2 : Int)))), (19, cI (w6 ((w6 (Int.fdiv (IntKind.wrap .u64 (w6 (a_2 + b_4))) (2 : Int))) + m_3))), (20, cI start_76), (21, cI r_77), (22, cI (w6 ((w6 ((w6 (Int.fdiv (IntKind.wrap .u64 (w6 (a_2 + b_4))) (2 : Int))) + m_3)) - (1 : Int)))), (151, cB (decide (start_76 < r_77)))], [(0, .row kP data_1)], 1⟩ [] (by kernel_rfl) rfl rfl ap0 ?_
            refine VL_block ?_
            refine V_run hN hn 3 1 [0, 1, 2, 3, 4, 18, 19, 20, 21, 22, 23] [0] ⟨[(0, .c (.h 0)), (1, cI a_2), (2, cI m_3), (3, cI b_4), (4, .c (.clo 60 [])), (18, cI (w6 (Int.fdiv (IntKind.wrap .u64 (w6 (a_2 + b_4))) (2 : Int)))), (19, cI (w6 ((w6 (Int.fdiv (IntKind.wrap .u64 (w6 (a_2 + b_4))) (2 : Int))) + m_3))), (20, cI start_76), (21, cI r_77), (22, cI (w6 ((w6 ((w6 (Int.fdiv (IntKind.wrap .u64 (w6 (a_2 + b_4))) (2 : Int))) + m_3)) - (1 : Int)))), (23, cI (w6 (Int.fdiv (IntKind.wrap .u64 (w6 (start_76 + r_77))) (2 : Int))))], [(0, .row kP data_1)], 1⟩ [(0 : Int) ≤ (1 : Int)] (by kernel_rfl) rfl rfl (ap1 (by decide)) ?_
            obtain ⟨r_83, h_84, H_190⟩ := of_bind H_188
            obtain ⟨c_85, H_191⟩ := of_if H_190
            refine V_draw hN hn (by kernel_rfl) [(11, ⟨60, 0, [.agg [.val (.int .i64 (List.getD data_1 (Int.toNat (w6 ((w6 ((w6 ((w6 (Int.fdiv (IntKind.wrap .u64 (w6 (a_2 + b_4))) (2 : Int))) + m_3)) - (1 : Int))) - (w6 (Int.fdiv (IntKind.wrap .u64 (w6 (start_76 + r_77))) (2 : Int)))))) zP).1), .val (.int .i64 (List.getD data_1 (Int.toNat (w6 ((w6 ((w6 ((w6 (Int.fdiv (IntKind.wrap .u64 (w6 (a_2 + b_4))) (2 : Int))) + m_3)) - (1 : Int))) - (w6 (Int.fdiv (IntKind.wrap .u64 (w6 (start_76 + r_77))) (2 : Int)))))) zP).2)], .agg [.val (.int .i64 (List.getD data_1 (Int.toNat (w6 (Int.fdiv (IntKind.wrap .u64 (w6 (start_76 + r_77))) (2 : Int)))) zP).1), .val (.int .i64 (List.getD data_1 (Int.toNat (w6 (Int.fdiv (IntKind.wrap .u64 (w6 (start_76 + r_77))) (2 : Int)))) zP).2)]], [], cI r_83, [], [], 1⟩)] [] (calls_cons (region_apart_1_spec K (List.getD data_1 (Int.toNat (w6 ((w6 ((w6 ((w6 (Int.fdiv (IntKind.wrap .u64 (w6 (a_2 + b_4))) (2 : Int))) + m_3)) - (1 : Int))) - (w6 (Int.fdiv (IntKind.wrap .u64 (w6 (start_76 + r_77))) (2 : Int)))))) zP).1 (List.getD data_1 (Int.toNat (w6 ((w6 ((w6 ((w6 (Int.fdiv (IntKind.wrap .u64 (w6 (a_2 + b_4))) (2 : Int))) + m_3)) - (1 : Int))) - (w6 (Int.fdiv (IntKind.wrap .u64 (w6 (start_76 + r_77))) (2 : Int)))))) zP).2 (List.getD data_1 (Int.toNat (w6 (Int.fdiv (IntKind.wrap .u64 (w6 (start_76 + r_77))) (2 : Int)))) zP).1 (List.getD data_1 (Int.toNat (w6 (Int.fdiv (IntKind.wrap .u64 (w6 (start_76 + r_77))) (2 : Int)))) zP).2 r_83 h_84) (by kernel_rfl) calls_nil) 1 [0, 1, 2, 3, 4, 18, 19, 20, 21, 22, 23, 171] [0] ⟨[(0, .c (.h 0)), (1, cI a_2), (2, cI m_3), (3, cI b_4), (4, .c (.clo 60 [])), (18, cI (w6 (Int.fdiv (IntKind.wrap .u64 (w6 (a_2 + b_4))) (2 : Int)))), (19, cI (w6 ((w6 (Int.fdiv (IntKind.wrap .u64 (w6 (a_2 + b_4))) (2 : Int))) + m_3))), (20, cI start_76), (21, cI r_77), (22, cI (w6 ((w6 ((w6 (Int.fdiv (IntKind.wrap .u64 (w6 (a_2 + b_4))) (2 : Int))) + m_3)) - (1 : Int)))), (23, cI (w6 (Int.fdiv (IntKind.wrap .u64 (w6 (start_76 + r_77))) (2 : Int)))), (171, cB (!(decide (r_83 < (0 : Int)))))], [(0, .row kP data_1)], 1⟩ [0 ≤ (w6 ((w6 ((w6 ((w6 (Int.fdiv (IntKind.wrap .u64 (w6 (a_2 + b_4))) (2 : Int))) + m_3)) - (1 : Int))) - (w6 (Int.fdiv (IntKind.wrap .u64 (w6 (start_76 + r_77))) (2 : Int))))), (w6 ((w6 ((w6 ((w6 (Int.fdiv (IntKind.wrap .u64 (w6 (a_2 + b_4))) (2 : Int))) + m_3)) - (1 : Int))) - (w6 (Int.fdiv (IntKind.wrap .u64 (w6 (start_76 + r_77))) (2 : Int))))) < (lnI data_1), 0 ≤ (w6 (Int.fdiv (IntKind.wrap .u64 (w6 (start_76 + r_77))) (2 : Int))), (w6 (Int.fdiv (IntKind.wrap .u64 (w6 (start_76 + r_77))) (2 : Int))) < (lnI data_1)] (by kernel_rfl) rfl rfl (ap2 c_85.1 (ap2 c_85.2.1 (ap2 c_85.2.2.1 (ap1 c_85.2.2.2)))) (by kernel_rfl) (by kernel_rfl) ?_
            refine VL_cond ((!(decide (r_83 < (0 : Int))))) (by kernel_rfl) ?_ ?_
            · intro b_86; have H_192 := of_t H_191 b_86
              refine V_run hN hn 1 1 [0, 1, 2, 3, 4, 18, 19, 20, 21, 22] [0] ⟨[(0, .c (.h 0)), (1, cI a_2), (2, cI m_3), (3, cI b_4), (4, .c (.clo 60 [])), (18, cI (w6 (Int.fdiv (IntKind.wrap .u64 (w6 (a_2 + b_4))) (2 : Int)))), (19, cI (w6 ((w6 (Int.fdiv (IntKind.wrap .u64 (w6 (a_2 + b_4))) (2 : Int))) + m_3))), (20, cI (w6 ((w6 (Int.fdiv (IntKind.wrap .u64 (w6 (start_76 + r_77))) (2 : Int))) + (1 : Int)))), (21, cI r_77), (22, cI (w6 ((w6 ((w6 (Int.fdiv (IntKind.wrap .u64 (w6 (a_2 + b_4))) (2 : Int))) + m_3)) - (1 : Int))))], [(0, .row kP data_1)], 1⟩ [] (by kernel_rfl) rfl rfl ap0 ?_
              refine VL_nil (QB_end ?_)
              refine VL_nil ?_
              exact V_roundEnd ((w6 ((w6 (Int.fdiv (IntKind.wrap .u64 (w6 (start_76 + r_77))) (2 : Int))) + (1 : Int))), r_77) H_192 [] hn (by kernel_rfl) (by kernel_rfl) rfl rfl rfl
            · intro b_86; have H_193 := of_f H_191 b_86
              refine V_run hN hn 1 1 [0, 1, 2, 3, 4, 18, 19, 20, 21, 22] [0] ⟨[(0, .c (.h 0)), (1, cI a_2), (2, cI m_3), (3, cI b_4), (4, .c (.clo 60 [])), (18, cI (w6 (Int.fdiv (IntKind.wrap .u64 (w6 (a_2 + b_4))) (2 : Int)))), (19, cI (w6 ((w6 (Int.fdiv (IntKind.wrap .u64 (w6 (a_2 + b_4))) (2 : Int))) + m_3))), (20, cI start_76), (21, cI (w6 (Int.fdiv (IntKind.wrap .u64 (w6 (start_76 + r_77))) (2 : Int)))), (22, cI (w6 ((w6 ((w6 (Int.fdiv (IntKind.wrap .u64 (w6 (a_2 + b_4))) (2 : Int))) + m_3)) - (1 : Int))))], [(0, .row kP data_1)], 1⟩ [] (by kernel_rfl) rfl rfl ap0 ?_
              refine VL_nil (QB_end ?_)
              refine VL_nil ?_
              exact V_roundEnd (start_76, (w6 (Int.fdiv (IntKind.wrap .u64 (w6 (start_76 + r_77))) (2 : Int)))) H_193 [] hn (by kernel_rfl) (by kernel_rfl) rfl rfl rfl
          · intro b_80; have H_189 := of_f H_187 b_80
            refine VL_exit ?_
            refine QL_exit ?_
            refine QB_here ?_
            have H_194 := Option.some.inj (show some start_76 = some q_182 from H_189); subst H_194
            refine VL_nil ?_
            exact QP_end start_76 rfl [] hn (by kernel_rfl) (by kernel_rfl) rfl rfl rfl
        · intro y_185 hy; subst hy
          skip
          skip
          refine V_run hN hn 4 1 [0, 1, 2, 3, 4, 18, 20, 24] [0] ⟨[(0, .c (.h 0)), (1, cI a_2), (2, cI m_3), (3, cI b_4), (4, .c (.clo 60 [])), (18, cI (w6 (Int.fdiv (IntKind.wrap .u64 (w6 (a_2 + b_4))) (2 : Int)))), (20, cI y_185), (24, cI (w6 ((w6 ((w6 (Int.fdiv (IntKind.wrap .u64 (w6 (a_2 + b_4))) (2 : Int))) + m_3)) - y_185)))], [(0, .row kP data_1)], 1⟩ [] (by kernel_rfl) rfl rfl ap0 ?_
          obtain ⟨q_195, H_196, H_197⟩ := of_bind H_184
          refine V_cut (Y := Bool) (R := Bool) q_195 (fun y => y) (fun y => [(0, .c (.h 0)), (1, cI a_2), (2, cI m_3), (3, cI b_4), (4, .c (.clo 60 [])), (18, cI (w6 (Int.fdiv (IntKind.wrap .u64 (w6 (a_2 + b_4))) (2 : Int)))), (20, cI y_185), (24, cI (w6 ((w6 ((w6 (Int.fdiv (IntKind.wrap .u64 (w6 (a_2 + b_4))) (2 : Int))) + m_3)) - y_185))), (185, cB y)]) (fun y => [(0, .row kP data_1)]) ?_ ?_
          · skip
            rcases Bool.eq_false_or_eq_true ((decide (y_185 < m_3))) with b_91 | b_91
            · have H_199 := of_t H_196 b_91
              refine V_reg hN hn [] [(181, true)] calls_nil 1 [0, 1, 2, 3, 4, 18, 20, 24, 185] [0] ⟨[(0, .c (.h 0)), (1, cI a_2), (2, cI m_3), (3, cI b_4), (4, .c (.clo 60 [])), (18, cI (w6 (Int.fdiv (IntKind.wrap .u64 (w6 (a_2 + b_4))) (2 : Int)))), (20, cI y_185), (24, cI (w6 ((w6 ((w6 (Int.fdiv (IntKind.wrap .u64 (w6 (a_2 + b_4))) (2 : Int))) + m_3)) - y_185))), (185, cB (decide (m_3 < (w6 ((w6 ((w6 (Int.fdiv (IntKind.wrap .u64 (w6 (a_2 + b_4))) (2 : Int))) + m_3)) - y_185)))))], [(0, .row kP data_1)], 1⟩ [(decide (y_185 < m_3)) = true] (by kernel_rfl) rfl rfl (ap1 b_91) (by kernel_rfl) (by kernel_rfl) ?_
              have H_201 := Option.some.inj (show some (decide (m_3 < (w6 ((w6 ((w6 (Int.fdiv (IntKind.wrap .u64 (w6 (a_2 + b_4))) (2 : Int))) + m_3)) - y_185)))) = some q_195 from H_199); subst H_201
              refine VL_nil ?_
              exact QP_end (decide (m_3 < (w6 ((w6 ((w6 (Int.fdiv (IntKind.wrap .u64 (w6 (a_2 + b_4))) (2 : Int))) + m_3)) - y_185)))) rfl [] hn (by kernel_rfl) (by kernel_rfl) rfl rfl rfl
            · have H_200 := of_f H_196 b_91
              refine V_reg hN hn [] [(181, false)] calls_nil 1 [0, 1, 2, 3, 4, 18, 20, 24, 185] [0] ⟨[(0, .c (.h 0)), (1, cI a_2), (2, cI m_3), (3, cI b_4), (4, .c (.clo 60 [])), (18, cI (w6 (Int.fdiv (IntKind.wrap .u64 (w6 (a_2 + b_4))) (2 : Int)))), (20, cI y_185), (24, cI (w6 ((w6 ((w6 (Int.fdiv (IntKind.wrap .u64 (w6 (a_2 + b_4))) (2 : Int))) + m_3)) - y_185))), (185, cB false)], [(0, .row kP data_1)], 1⟩ [(decide (y_185 < m_3)) = false] (by kernel_rfl) rfl rfl (ap1 b_91) (by kernel_rfl) (by kernel_rfl) ?_
              have H_202 := Option.some.inj (show some false = some q_195 from H_200); subst H_202
              refine VL_nil ?_
              exact QP_end false rfl [] hn (by kernel_rfl) (by kernel_rfl) rfl rfl rfl
          · intro y_198 hy; subst hy
            skip
            skip
            obtain ⟨q_203, H_204, H_205⟩ := of_bind H_197
            refine V_cut (Y := (List (Int × Int))) (R := (List (Int × Int))) q_203 (fun y => y) (fun y => [(0, .c (.h 0)), (1, cI a_2), (3, cI b_4), (4, .c (.clo 60 [])), (18, cI (w6 (Int.fdiv (IntKind.wrap .u64 (w6 (a_2 + b_4))) (2 : Int)))), (20, cI y_185), (24, cI (w6 ((w6 ((w6 (Int.fdiv (IntKind.wrap .u64 (w6 (a_2 + b_4))) (2 : Int))) + m_3)) - y_185)))]) (fun y => [(0, .row kP y)]) ?_ ?_
            · skip
              refine VL_cond (y_198) (by kernel_rfl) ?_ ?_
              · intro b_95; have H_207 := of_t H_204 b_95
                obtain ⟨r_96, h_97, H_209⟩ := of_bind H_207
                refine V_reg hN hn [(5, ⟨74, 1, [.c (.h 0), cI y_185, cI m_3, cI (w6 ((w6 ((w6 (Int.fdiv (IntKind.wrap .u64 (w6 (a_2 + b_4))) (2 : Int))) + m_3)) - y_185)), .c (.clo 60 [])], [(0, .row kP data_1)], .tup [], [(0, .row kP r_96)], [(0, 0)], 1⟩)] [] (calls_cons (slices_rotateCmpFunc_rgggcregionapart1_spec K data_1 y_185 m_3 (w6 ((w6 ((w6 (Int.fdiv (IntKind.wrap .u64 (w6 (a_2 + b_4))) (2 : Int))) + m_3)) - y_185)) r_96 h_97) (by kernel_rfl) calls_nil) 1 [0, 1, 3, 4, 18, 20, 24] [0] ⟨[(0, .c (.h 0)), (1, cI a_2), (3, cI b_4), (4, .c (.clo 60 [])), (18, cI (w6 (Int.fdiv (IntKind.wrap .u64 (w6 (a_2 + b_4))) (2 : Int)))), (20, cI y_185), (24, cI (w6 ((w6 ((w6 (Int.fdiv (IntKind.wrap .u64 (w6 (a_2 + b_4))) (2 : Int))) + m_3)) - y_185)))], [(0, .row kP r_96)], 1⟩ [] (by kernel_rfl) rfl rfl ap0 (by kernel_rfl) (by kernel_rfl) ?_
                have H_210 := Option.some.inj (show some r_96 = some q_203 from H_209); subst H_210
                refine VL_nil ?_
                exact QP_end r_96 rfl [] hn (by kernel_rfl) (by kernel_rfl) rfl rfl rfl
              · intro b_95; have H_208 := of_f H_204 b_95
                refine V_run hN hn 1 1 [0, 1, 2, 3, 4, 18, 20, 24, 185] [0] ⟨[(0, .c (.h 0)), (1, cI a_2), (2, cI m_3), (3, cI b_4), (4, .c (.clo 60 [])), (18, cI (w6 (Int.fdiv (IntKind.wrap .u64 (w6 (a_2 + b_4))) (2 : Int)))), (20, cI y_185), (24, cI (w6 ((w6 ((w6 (Int.fdiv (IntKind.wrap .u64 (w6 (a_2 + b_4))) (2 : Int))) + m_3)) - y_185))), (185, cB y_198)], [(0, .row kP data_1)], 1⟩ [] (by kernel_rfl) rfl rfl ap0 ?_
                have H_211 := Option.some.inj (show some data_1 = some q_203 from H_208); subst H_211
                refine VL_nil ?_
                exact QP_end data_1 rfl [] hn (by kernel_rfl) (by kernel_rfl) rfl rfl rfl
            · intro y_206 hy; subst hy
              skip
              skip
              refine V_run hN hn 2 1 [0, 1, 3, 4, 18, 20, 24] [0] ⟨[(0, .c (.h 0)), (1, cI a_2), (3, cI b_4), (4, .c (.clo 60 [])), (18, cI (w6 (Int.fdiv (IntKind.wrap .u64 (w6 (a_2 + b_4))) (2 : Int)))), (20, cI y_185), (24, cI (w6 ((w6 ((w6 (Int.fdiv (IntKind.wrap .u64 (w6 (a_2 + b_4))) (2 : Int))) + m_3)) - y_185)))], [(0, .row kP y_206)], 1⟩ [] (by kernel_rfl) rfl rfl ap0 ?_
              obtain ⟨q_212, H_213, H_214⟩ := of_bind H_205
              refine V_cut (Y := Bool) (R := Bool) q_212 (fun y => y) (fun y => [(0, .c (.h 0)), (1, cI a_2), (3, cI b_4), (4, .c (.clo 60 [])), (18, cI (w6 (Int.fdiv (IntKind.wrap .u64 (w6 (a_2 + b_4))) (2 : Int)))), (20, cI y_185), (24, cI (w6 ((w6 ((w6 (Int.fdiv (IntKind.wrap .u64 (w6 (a_2 + b_4))) (2 : Int))) + m_3)) - y_185))), (199, cB y)]) (fun y => [(0, .row kP y_206)]) ?_ ?_
              · skip
                rcases Bool.eq_false_or_eq_true ((decide (a_2 < y_185))) with b_102 | b_102
                · have H_216 := of_t H_213 b_102
                  refine V_reg hN hn [] [(195, true)] calls_nil 1 [0, 1, 3, 4, 18, 20, 24, 199] [0] ⟨[(0, .c (.h 0)), (1, cI a_2), (3, cI b_4), (4, .c (.clo 60 [])), (18, cI (w6 (Int.fdiv (IntKind.wrap .u64 (w6 (a_2 + b_4))) (2 : Int)))), (20, cI y_185), (24, cI (w6 ((w6 ((w6 (Int.fdiv (IntKind.wrap .u64 (w6 (a_2 + b_4))) (2 : Int))) + m_3)) - y_185))), (199, cB (decide (y_185 < (w6 (Int.fdiv (IntKind.wrap .u64 (w6 (a_2 + b_4))) (2 : Int))))))], [(0, .row kP y_206)], 1⟩ [(decide (a_2 < y_185)) = true] (by kernel_rfl) rfl rfl (ap1 b_102) (by kernel_rfl) (by kernel_rfl) ?_
                  have H_218 := Option.some.inj (show some (decide (y_185 < (w6 (Int.fdiv (IntKind.wrap .u64 (w6 (a_2 + b_4))) (2 : Int))))) = some q_212 from H_216); subst H_218
                  refine VL_nil ?_
                  exact QP_end (decide (y_185 < (w6 (Int.fdiv (IntKind.wrap .u64 (w6 (a_2 + b_4))) (2 : Int))))) rfl [] hn (by kernel_rfl) (by kernel_rfl) rfl rfl rfl
                · have H_217 := of_f H_213 b_102
                  refine V_reg hN hn [] [(195, false)] calls_nil 1 [0, 1, 3, 4, 18, 20, 24, 199] [0] ⟨[(0, .c (.h 0)), (1, cI a_2), (3, cI b_4), (4, .c (.clo 60 [])), (18, cI (w6 (Int.fdiv (IntKind.wrap .u64 (w6 (a_2 + b_4))) (2 : Int)))), (20, cI y_185), (24, cI (w6 ((w6 ((w6 (Int.fdiv (IntKind.wrap .u64 (w6 (a_2 + b_4))) (2 : Int))) + m_3)) - y_185))), (199, cB false)], [(0, .row kP y_206)], 1⟩ [(decide (a_2 < y_185)) = false] (by kernel_rfl) rfl rfl (ap1 b_102) (by kernel_rfl) (by kernel_rfl) ?_
                  have H_219 := Option.some.inj (show some false = some q_212 from H_217); subst H_219
                  refine VL_nil ?_
                  exact QP_end false rfl [] hn (by kernel_rfl) (by kernel_rfl) rfl rfl rfl
              · intro y_215 hy; subst hy
                skip
                skip
                obtain ⟨q_220, H_221, H_222⟩ := of_bind H_214
                refine V_cut (Y := (List (Int × Int))) (R := (List (Int × Int))) q_220 (fun y => y) (fun y => [(0, .c (.h 0)), (3, cI b_4), (4, .c (.clo 60 [])), (18, cI (w6 (Int.fdiv (IntKind.wrap .u64 (w6 (a_2 + b_4))) (2 : Int)))), (24, cI (w6 ((w6 ((w6 (Int.fdiv (IntKind.wrap .u64 (w6 (a_2 + b_4))) (2 : Int))) + m_3)) - y_185)))]) (fun y => [(0, .row kP y)]) ?_ ?_
                · skip
                  refine VL_cond (y_215) (by kernel_rfl) ?_ ?_
                  · intro b_106; have H_224 := of_t H_221 b_106
                    obtain ⟨r_107, h_108, H_226⟩ := of_bind H_224
                    refine V_reg hN hn [(5, ⟨73, 1, [.c (.h 0), cI a_2, cI y_185, cI (w6 (Int.fdiv (IntKind.wrap .u64 (w6 (a_2 + b_4))) (2 : Int))), .c (.clo 60 [])], [(0, .row kP y_206)], .tup [], [(0, .row kP r_107)], [(0, 0)], 1⟩)] [] (calls_cons (ih y_206 a_2 y_185 (w6 (Int.fdiv (IntKind.wrap .u64 (w6 (a_2 + b_4))) (2 : Int))) r_107 h_108) (by kernel_rfl) calls_nil) 1 [0, 3, 4, 18, 24] [0] ⟨[(0, .c (.h 0)), (3, cI b_4), (4, .c (.clo 60 [])), (18, cI (w6 (Int.fdiv (IntKind.wrap .u64 (w6 (a_2 + b_4))) (2 : Int)))), (24, cI (w6 ((w6 ((w6 (Int.fdiv (IntKind.wrap .u64 (w6 (a_2 + b_4))) (2 : Int))) + m_3)) - y_185)))], [(0, .row kP r_107)], 1⟩ [] (by kernel_rfl) rfl rfl ap0 (by kernel_rfl) (by kernel_rfl) ?_
                    have H_227 := Option.some.inj (show some r_107 = some q_220 from H_226); subst H_227
                    refine VL_nil ?_
                    exact QP_end r_107 rfl [] hn (by kernel_rfl) (by kernel_rfl) rfl rfl rfl
                  · intro b_106; have H_225 := of_f H_221 b_106
                    refine V_run hN hn 1 1 [0, 1, 3, 4, 18, 20, 24, 199] [0] ⟨[(0, .c (.h 0)), (1, cI a_2), (3, cI b_4), (4, .c (.clo 60 [])), (18, cI (w6 (Int.fdiv (IntKind.wrap .u64 (w6 (a_2 + b_4))) (2 : Int)))), (20, cI y_185), (24, cI (w6 ((w6 ((w6 (Int.fdiv (IntKind.wrap .u64 (w6 (a_2 + b_4))) (2 : Int))) + m_3)) - y_185))), (199, cB y_215)], [(0, .row kP y_206)], 1⟩ [] (by kernel_rfl) rfl rfl ap0 ?_
                    have H_228 := Option.some.inj (show some y_206 = some q_220 from H_225); subst H_228
                    refine VL_nil ?_
                    exact QP_end y_206 rfl [] hn (by kernel_rfl) (by kernel_rfl) rfl rfl rfl
                · intro y_223 hy; subst hy
                  skip
                  skip
                  refine V_run hN hn 1 1 [0, 3, 4, 18, 24] [0] ⟨[(0, .c (.h 0)), (3, cI b_4), (4, .c (.clo 60 [])), (18, cI (w6 (Int.fdiv (IntKind.wrap .u64 (w6 (a_2 + b_4))) (2 : Int)))), (24, cI (w6 ((w6 ((w6 (Int.fdiv (IntKind.wrap .u64 (w6 (a_2 + b_4))) (2 : Int))) + m_3)) - y_185)))], [(0, .row kP y_223)], 1⟩ [] (by kernel_rfl) rfl rfl ap0 ?_
                  obtain ⟨q_229, H_230, H_231⟩ := of_bind H_222
                  refine V_cut (Y := Bool) (R := Bool) q_229 (fun y => y) (fun y => [(0, .c (.h 0)), (3, cI b_4), (4, .c (.clo 60 [])), (18, cI (w6 (Int.fdiv (IntKind.wrap .u64 (w6 (a_2 + b_4))) (2 : Int)))), (24, cI (w6 ((w6 ((w6 (Int.fdiv (IntKind.wrap .u64 (w6 (a_2 + b_4))) (2 : Int))) + m_3)) - y_185))), (213, cB y)]) (fun y => [(0, .row kP y_223)]) ?_ ?_
                  · skip
                    rcases Bool.eq_false_or_eq_true ((decide ((w6 (Int.fdiv (IntKind.wrap .u64 (w6 (a_2 + b_4))) (2 : Int))) < (w6 ((w6 ((w6 (Int.fdiv (IntKind.wrap .u64 (w6 (a_2 + b_4))) (2 : Int))) + m_3)) - y_185))))) with b_113 | b_113
                    · have H_233 := of_t H_230 b_113
                      refine V_reg hN hn [] [(209, true)] calls_nil 1 [0, 3, 4, 18, 24, 213] [0] ⟨[(0, .c (.h 0)), (3, cI b_4), (4, .c (.clo 60 [])), (18, cI (w6 (Int.fdiv (IntKind.wrap .u64 (w6 (a_2 + b_4))) (2 : Int)))), (24, cI (w6 ((w6 ((w6 (Int.fdiv (IntKind.wrap .u64 (w6 (a_2 + b_4))) (2 : Int))) + m_3)) - y_185))), (213, cB (decide ((w6 ((w6 ((w6 (Int.fdiv (IntKind.wrap .u64 (w6 (a_2 + b_4))) (2 : Int))) + m_3)) - y_185)) < b_4)))], [(0, .row kP y_223)], 1⟩ [(decide ((w6 (Int.fdiv (IntKind.wrap .u64 (w6 (a_2 + b_4))) (2 : Int))) < (w6 ((w6 ((w6 (Int.fdiv (IntKind.wrap .u64 (w6 (a_2 + b_4))) (2 : Int))) + m_3)) - y_185)))) = true] (by kernel_rfl) rfl rfl (ap1 b_113) (by kernel_rfl) (by kernel_rfl) ?_
                      have H_235 := Option.some.inj (show some (decide ((w6 ((w6 ((w6 (Int.fdiv (IntKind.wrap .u64 (w6 (a_2 + b_4))) (2 : Int))) + m_3)) - y_185)) < b_4)) = some q_229 from H_233); subst H_235
                      refine VL_nil ?_
                      exact QP_end (decide ((w6 ((w6 ((w6 (Int.fdiv (IntKind.wrap .u64 (w6 (a_2 + b_4))) (2 : Int))) + m_3)) - y_185)) < b_4)) rfl [] hn (by kernel_rfl) (by kernel_rfl) rfl rfl rfl
                    · have H_234 := of_f H_230 b_113
                      refine V_reg hN hn [] [(209, false)] calls_nil 1 [0, 3, 4, 18, 24, 213] [0] ⟨[(0, .c (.h 0)), (3, cI b_4), (4, .c (.clo 60 [])), (18, cI (w6 (Int.fdiv (IntKind.wrap .u64 (w6 (a_2 + b_4))) (2 : Int)))), (24, cI (w6 ((w6 ((w6 (Int.fdiv (IntKind.wrap .u64 (w6 (a_2 + b_4))) (2 : Int))) + m_3)) - y_185))), (213, cB false)], [(0, .row kP y_223)], 1⟩ [(decide ((w6 (Int.fdiv (IntKind.wrap .u64 (w6 (a_2 + b_4))) (2 : Int))) < (w6 ((w6 ((w6 (Int.fdiv (IntKind.wrap .u64 (w6 (a_2 + b_4))) (2 : Int))) + m_3)) - y_185)))) = false] (by kernel_rfl) rfl rfl (ap1 b_113) (by kernel_rfl) (by kernel_rfl) ?_
                      have H_236 := Option.some.inj (show some false = some q_229 from H_234); subst H_236
                      refine VL_nil ?_
                      exact QP_end false rfl [] hn (by kernel_rfl) (by kernel_rfl) rfl rfl rfl
                  · intro y_232 hy; subst hy
                    skip
                    skip
                    refine VL_cond (y_232) (by kernel_rfl) ?_ ?_
                    · intro b_117; have H_237 := of_t H_231 b_117
                      obtain ⟨r_118, h_119, H_239⟩ := of_bind H_237
                      refine V_reg hN hn [(5, ⟨73, 1, [.c (.h 0), cI (w6 (Int.fdiv (IntKind.wrap .u64 (w6 (a_2 + b_4))) (2 : Int))), cI (w6 ((w6 ((w6 (Int.fdiv (IntKind.wrap .u64 (w6 (a_2 + b_4))) (2 : Int))) + m_3)) - y_185)), cI b_4, .c (.clo 60 [])], [(0, .row kP y_223)], .tup [], [(0, .row kP r_118)], [(0, 0)], 1⟩)] [] (calls_cons (ih y_223 (w6 (Int.fdiv (IntKind.wrap .u64 (w6 (a_2 + b_4))) (2 : Int))) (w6 ((w6 ((w6 (Int.fdiv (IntKind.wrap .u64 (w6 (a_2 + b_4))) (2 : Int))) + m_3)) - y_185)) b_4 r_118 h_119) (by kernel_rfl) calls_nil) 1 [] [0] ⟨[], [(0, .row kP r_118)], 1⟩ [] (by kernel_rfl) rfl rfl ap0 (by kernel_rfl) (by kernel_rfl) ?_
                      have H_240 := Option.some.inj (show some r_118 = some r from H_239); subst H_240
                      refine VL_nil ?_
                      exact P_to [] [(0, .row kP r_118)] [] hn (by kernel_rfl) (by kernel_rfl) rfl rfl rfl (QF_endS (by kernel_rfl) (by kernel_rfl) rfl)
                    · intro b_117; have H_238 := of_f H_231 b_117
                      refine V_run hN hn 1 1 [0, 3, 4, 18, 24, 213] [0] ⟨[(0, .c (.h 0)), (3, cI b_4), (4, .c (.clo 60 [])), (18, cI (w6 (Int.fdiv (IntKind.wrap .u64 (w6 (a_2 + b_4))) (2 : Int)))), (24, cI (w6 ((w6 ((w6 (Int.fdiv (IntKind.wrap .u64 (w6 (a_2 + b_4))) (2 : Int))) + m_3)) - y_185))), (213, cB y_232)], [(0, .row kP y_223)], 1⟩ [] (by kernel_rfl) rfl rfl ap0 ?_
                      have H_241 := Option.some.inj (show some y_223 = some r from H_238); subst H_241
                      refine VL_nil ?_
                      exact P_to [] [(0, .row kP y_223)] [] hn (by kernel_rfl) (by kernel_rfl) rfl rfl rfl (QF_endS (by kernel_rfl) (by kernel_rfl) rfl)

theorem slices_symMergeCmpFunc_rgggcregionapart1_spec (K : Nat) (data_1 : (List (Int × Int))) (a_2 : Int) (m_3 : Int) (b_4 : Int) (r : (List (Int × Int))) (H : slices_symMergeCmpFunc_rgggcregionapart1 K data_1 a_2 m_3 b_4 = some r) : Spec Try.prog 73 1 [.c (.h 0), cI a_2, cI m_3, cI b_4, .c (.clo 60 [])] [(0, .row kP data_1)] (.tup []) [(0, .row kP r)] := slices_symMergeCmpFunc_rgggcregionapart1_recspec K K data_1 a_2 m_3 b_4 r H

theorem slices_stableCmpFunc_rgcregionapart1_spec (K : Nat) (data_1 : (List (Int × Int))) (n_2 : Int) (r : (List (Int × Int))) (H : slices_stableCmpFunc_rgcregionapart1 K data_1 n_2 = some r) : Spec Try.prog 69 1 [.c (.h 0), cI n_2, .c (.clo 60 [])] [(0, .row kP data_1)] (.tup []) [(0, .row kP r)] := by
  refine Spec_mk (fn := Try.f69) (c := (Try.f69.body).get!) Try.func69 (by kernel_rfl) rfl ?_
  intro C hN hn
  replace hN : C.N = 63 := hN
  unfold slices_stableCmpFunc_rgcregionapart1 at H
  refine V_run hN hn 5 1 [0, 1, 2, 6, 7, 8] [0] ⟨[(0, .c (.h 0)), (1, cI n_2), (2, .c (.clo 60 [])), (6, cI (20 : Int)), (7, cI (0 : Int)), (8, cI (20 : Int))], [(0, .row kP data_1)], 1⟩ [] (by kernel_rfl) rfl rfl ap0 ?_
  obtain ⟨q_111, H_112, H_113⟩ := of_bind H
  refine V_cut (Y := ((List (Int × Int)) × Int)) (R := ((List (Int × Int)) × Int)) q_111 (fun y => y) (fun y => [(0, .c (.h 0)), (1, cI n_2), (2, .c (.clo 60 [])), (6, cI (20 : Int)), (7, cI y.2)]) (fun y => [(0, .row kP y.1)]) ?_ ?_
  · skip
    refine VL_block ?_
    refine V_to [(0, .c (.h 0)), (1, cI n_2), (2, .c (.clo 60 [])), (6, cI (20 : Int)), (7, cI (0 : Int)), (8, cI (20 : Int))] [(0, .row kP data_1)] [] hn (by kernel_rfl) (by kernel_rfl) rfl rfl rfl ?_
    refine VL_loop (X := ((List (Int × Int)) × Int × Int)) (fun x => [(0, .c (.h 0)), (1, cI n_2), (2, .c (.clo 60 [])), (6, cI (20 : Int)), (7, cI x.2.1), (8, cI x.2.2)]) (fun x => [(0, .row kP x.1)]) (fun k x => slices_stableCmpFunc_rgcregionapart1.l0 K n_2 k x.1 x.2.1 x.2.2 = some q_111) K (data_1, (0 : Int), (20 : Int)) H_112 (fun _ h => no_none h) ?_
    intro k_16 x_16 H_115
    obtain ⟨data_15, a_4, b_5⟩ := x_16
    have H_116 : slices_stableCmpFunc_rgcregionapart1.l0 K n_2 (k_16 + 1) data_15 a_4 b_5 = some q_111 := H_115
    rw [slices_stableCmpFunc_rgcregionapart1.l0] at H_116
    refine V_run hN hn 3 1 [0, 1, 2, 6, 7, 8, 13] [0] ⟨[(0, .c (.h 0)), (1, cI n_2), (2, .c (.clo 60 [])), (6, cI (20 : Int)), (7, cI a_4), (8, cI b_5), (13, cB (decide (b_5 ≤ n_2)))], [(0, .row kP data_15)], 1⟩ [] (by kernel_rfl) rfl rfl ap0 ?_
    refine VL_cond ((decide (b_5 ≤ n_2))) (by kernel_rfl) ?_ ?_
    · intro b_18; have H_117 := of_t H_116 b_18
      refine V_run hN hn 1 1 [0, 1, 2, 6, 7, 8, 13] [0] ⟨[(0, .c (.h 0)), (1, cI n_2), (2, .c (.clo 60 [])), (6, cI (20 : Int)), (7, cI a_4), (8, cI b_5), (13, cB (decide (b_5 ≤ n_2)))], [(0, .row kP data_15)], 1⟩ [] (by kernel_rfl) rfl rfl ap0 ?_
      refine VL_block ?_
      refine V_run hN hn 1 1 [0, 1, 2, 6, 7, 8, 13] [0] ⟨[(0, .c (.h 0)), (1, cI n_2), (2, .c (.clo 60 [])), (6, cI (20 : Int)), (7, cI a_4), (8, cI b_5), (13, cB (decide (b_5 ≤ n_2)))], [(0, .row kP data_15)], 1⟩ [] (by kernel_rfl) rfl rfl ap0 ?_
      obtain ⟨r_21, h_22, H_119⟩ := of_bind H_117
      refine V_reg hN hn [(4, ⟨72, 1, [.c (.h 0), cI a_4, cI b_5, .c (.clo 60 [])], [(0, .row kP data_15)], .tup [], [(0, .row kP r_21)], [(0, 0)], 1⟩)] [] (calls_cons (slices_insertionSortCmpFunc_rggcregionapart1_spec K data_15 a_4 b_5 r_21 h_22) (by kernel_rfl) calls_nil) 1 [0, 1, 2, 6, 8] [0] ⟨[(0, .c (.h 0)), (1, cI n_2), (2, .c (.clo 60 [])), (6, cI (20 : Int)), (8, cI b_5)], [(0, .row kP r_21)], 1⟩ [] (by kernel_rfl) rfl rfl ap0 (by kernel_rfl) (by kernel_rfl) ?_
      refine V_run hN hn 3 1 [0, 1, 2, 6, 7, 8] [0] ⟨[(0, .c (.h 0)), (1, cI n_2), (2, .c (.clo 60 [])), (6, cI (20 : Int)), (7, cI b_5), (8, cI (w6 (b_5 + (20 : Int))))], [(0, .row kP r_21)], 1⟩ [] (by kernel_rfl) rfl rfl ap0 ?_
      refine VL_nil (QB_end ?_)
      refine VL_nil ?_
      exact V_roundEnd (r_21, b_5, (w6 (b_5 + (20 : Int)))) H_119 [] hn (by kernel_rfl) (by kernel_rfl) rfl rfl rfl
    · intro b_18; have H_118 := of_f H_116 b_18
      refine VL_exit ?_
      refine QL_exit ?_
      refine QB_here ?_
      have H_120 := Option.some.inj (show some (data_15, a_4) = some q_111 from H_118); subst H_120
      refine VL_nil ?_
      exact QP_end (data_15, a_4) rfl [] hn (by kernel_rfl) (by kernel_rfl) rfl rfl rfl
  · intro y_114 hy; subst hy
    obtain ⟨data_25, a_26⟩ := y_114
    refine V_run hN hn 1 1 [0, 1, 2, 6, 7] [0] ⟨[(0, .c (.h 0)), (1, cI n_2), (2, .c (.clo 60 [])), (6, cI (20 : Int)), (7, cI a_26)], [(0, .row kP data_25)], 1⟩ [] (by kernel_rfl) rfl rfl ap0 ?_
    obtain ⟨r_28, h_29, H_121⟩ := of_bind H_113
    refine V_reg hN hn [(4, ⟨72, 1, [.c (.h 0), cI a_26, cI n_2, .c (.clo 60 [])], [(0, .row kP data_25)], .tup [], [(0, .row kP r_28)], [(0, 0)], 1⟩)] [] (calls_cons (slices_insertionSortCmpFunc_rggcregionapart1_spec K data_25 a_26 n_2 r_28 h_29) (by kernel_rfl) calls_nil) 1 [0, 1, 2, 6] [0] ⟨[(0, .c (.h 0)), (1, cI n_2), (2, .c (.clo 60 [])), (6, cI (20 : Int))], [(0, .row kP r_28)], 1⟩ [] (by kernel_rfl) rfl rfl ap0 (by kernel_rfl) (by kernel_rfl) ?_
    refine VL_block ?_
    refine V_to [(0, .c (.h 0)), (1, cI n_2), (2, .c (.clo 60 [])), (6, cI (20 : Int))] [(0, .row kP r_28)] [] hn (by kernel_rfl) (by kernel_rfl) rfl rfl rfl ?_
    refine VL_loop (X := ((List (Int × Int)) × Int)) (fun x => [(0, .c (.h 0)), (1, cI n_2), (2, .c (.clo 60 [])), (6, cI x.2)]) (fun x => [(0, .row kP x.1)]) (fun k x => slices_stableCmpFunc_rgcregionapart1.l1 K n_2 k x.1 x.2 = some r) K (r_28, (20 : Int)) H_121 (fun _ h => no_none h) ?_
    intro k_69 x_69 H_122
    obtain ⟨data_68, blockSize_31⟩ := x_69
    have H_123 : slices_stableCmpFunc_rgcregionapart1.l1 K n_2 (k_69 + 1) data_68 blockSize_31 = some r := H_122
    rw [slices_stableCmpFunc_rgcregionapart1.l1] at H_123
    refine V_run hN hn 3 1 [0, 1, 2, 6, 30] [0] ⟨[(0, .c (.h 0)), (1, cI n_2), (2, .c (.clo 60 [])), (6, cI blockSize_31), (30, cB (decide (blockSize_31 < n_2)))], [(0, .row kP data_68)], 1⟩ [] (by kernel_rfl) rfl rfl ap0 ?_
    refine VL_cond ((decide (blockSize_31 < n_2))) (by kernel_rfl) ?_ ?_
    · intro b_71; have H_124 := of_t H_123 b_71
      refine V_run hN hn 1 1 [0, 1, 2, 6, 30] [0] ⟨[(0, .c (.h 0)), (1, cI n_2), (2, .c (.clo 60 [])), (6, cI blockSize_31), (30, cB (decide (blockSize_31 < n_2)))], [(0, .row kP data_68)], 1⟩ [] (by kernel_rfl) rfl rfl ap0 ?_
      obtain ⟨q_126, H_127, H_128⟩ := of_bind H_124
      refine V_cut (Y := (List (Int × Int))) (R := (List (Int × Int))) q_126 (fun y => y) (fun y => [(0, .c (.h 0)), (1, cI n_2), (2, .c (.clo 60 [])), (6, cI (w6 (blockSize_31 * (2 : Int))))]) (fun y => [(0, .row kP y)]) ?_ ?_
      · skip
        refine VL_block ?_
        refine V_run hN hn 3 1 [0, 1, 2, 6, 7, 8] [0] ⟨[(0, .c (.h 0)), (1, cI n_2), (2, .c (.clo 60 [])), (6, cI blockSize_31), (7, cI (0 : Int)), (8, cI (w6 ((2 : Int) * blockSize_31)))], [(0, .row kP data_68)], 1⟩ [] (by kernel_rfl) rfl rfl ap0 ?_
        obtain ⟨q_130, H_131, H_132⟩ := of_bind H_127
        refine V_cut (Y := ((List (Int × Int)) × Int)) (R := ((List (Int × Int)) × Int)) q_130 (fun y => y) (fun y => [(0, .c (.h 0)), (1, cI n_2), (2, .c (.clo 60 [])), (6, cI blockSize_31), (7, cI y.2)]) (fun y => [(0, .row kP y.1)]) ?_ ?_
        · skip
          refine VL_block ?_
          refine V_to [(0, .c (.h 0)), (1, cI n_2), (2, .c (.clo 60 [])), (6, cI blockSize_31), (7, cI (0 : Int)), (8, cI (w6 ((2 : Int) * blockSize_31)))] [(0, .row kP data_68)] [] hn (by kernel_rfl) (by kernel_rfl) rfl rfl rfl ?_
          refine VL_loop (X := ((List (Int × Int)) × Int × Int)) (fun x => [(0, .c (.h 0)), (1, cI n_2), (2, .c (.clo 60 [])), (6, cI blockSize_31), (7, cI x.2.1), (8, cI x.2.2)]) (fun x => [(0, .row kP x.1)]) (fun k x => slices_stableCmpFunc_rgcregionapart1.l2 K n_2 blockSize_31 k x.1 x.2.1 x.2.2 = some q_130) K (data_68, (0 : Int), (w6 ((2 : Int) * blockSize_31))) H_131 (fun _ h => no_none h) ?_
          intro k_86 x_86 H_134
          obtain ⟨data_85, a_74, b_75⟩ := x_86
          have H_135 : slices_stableCmpFunc_rgcregionapart1.l2 K n_2 blockSize_31 (k_86 + 1) data_85 a_74 b_75 = some q_130 := H_134
          rw [slices_stableCmpFunc_rgcregionapart1.l2] at H_135
          refine V_run hN hn 3 1 [0, 1, 2, 6, 7, 8, 35] [0] ⟨[(0, .c (.h 0)), (1, cI n_2), (2, .c (.clo 60 [])), (6, cI blockSize_31), (7, cI a_74), (8, cI b_75), (35, cB (decide (b_75 ≤ n_2)))], [(0, .row kP data_85)], 1⟩ [] (by kernel_rfl) rfl rfl ap0 ?_
          refine VL_cond ((decide (b_75 ≤ n_2))) (by kernel_rfl) ?_ ?_
          · intro b_88; have H_136 := of_t H_135 b_88
            refine V_run hN hn 1 1 [0, 1, 2, 6, 7, 8, 35] [0] ⟨[(0, .c (.h 0)), (1, cI n_2), (2, .c (.clo 60 [])), (6, cI blockSize_31), (7, cI a_74), (8, cI b_75), (35, cB (decide (b_75 ≤ n_2)))], [(0, .row kP data_85)], 1⟩ [] (by kernel_rfl) rfl rfl ap0 ?_
            refine VL_block ?_
            refine V_run hN hn 1 1 [0, 1, 2, 6, 7, 8, 35] [0] ⟨[(0, .c (.h 0)), (1, cI n_2), (2, .c (.clo 60 [])), (6, cI blockSize_31), (7, cI a_74), (8, cI b_75), (35, cB (decide (b_75 ≤ n_2)))], [(0, .row kP data_85)], 1⟩ [] (by kernel_rfl) rfl rfl ap0 ?_
            obtain ⟨r_91, h_92, H_138⟩ := of_bind H_136
            refine V_reg hN hn [(7, ⟨73, 1, [.c (.h 0), cI a_74, cI (w6 (a_74 + blockSize_31)), cI b_75, .c (.clo 60 [])], [(0, .row kP data_85)], .tup [], [(0, .row kP r_91)], [(0, 0)], 1⟩)] [] (calls_cons (slices_symMergeCmpFunc_rgggcregionapart1_spec K data_85 a_74 (w6 (a_74 + blockSize_31)) b_75 r_91 h_92) (by kernel_rfl) calls_nil) 1 [0, 1, 2, 6, 8] [0] ⟨[(0, .c (.h 0)), (1, cI n_2), (2, .c (.clo 60 [])), (6, cI blockSize_31), (8, cI b_75)], [(0, .row kP r_91)], 1⟩ [] (by kernel_rfl) rfl rfl ap0 (by kernel_rfl) (by kernel_rfl) ?_
            refine V_run hN hn 3 1 [0, 1, 2, 6, 7, 8] [0] ⟨[(0, .c (.h 0)), (1, cI n_2), (2, .c (.clo 60 [])), (6, cI blockSize_31), (7, cI b_75), (8, cI (w6 (b_75 + (w6 ((2 : Int) * blockSize_31)))))], [(0, .row kP r_91)], 1⟩ [] (by kernel_rfl) rfl rfl ap0 ?_
            refine VL_nil (QB_end ?_)
            refine VL_nil ?_
            exact V_roundEnd (r_91, b_75, (w6 (b_75 + (w6 ((2 : Int) * blockSize_31))))) H_138 [] hn (by kernel_rfl) (by kernel_rfl) rfl rfl rfl
          · intro b_88; have H_137 := of_f H_135 b_88
            refine VL_exit ?_
            refine QL_exit ?_
            refine QB_here ?_
            have H_139 := Option.some.inj (show some (data_85, a_74) = some q_130 from H_137); subst H_139
            refine VL_nil ?_
            exact QP_end (data_85, a_74) rfl [] hn (by kernel_rfl) (by kernel_rfl) rfl rfl rfl
        · intro y_133 hy; subst hy
          obtain ⟨data_95, a_96⟩ := y_133
          refine V_run hN hn 5 1 [0, 1, 2, 6, 7, 9, 54] [0] ⟨[(0, .c (.h 0)), (1, cI n_2), (2, .c (.clo 60 [])), (6, cI blockSize_31), (7, cI a_96), (9, cI (w6 (a_96 + blockSize_31))), (54, cB (decide ((w6 (a_96 + blockSize_31)) < n_2)))], [(0, .row kP data_95)], 1⟩ [] (by kernel_rfl) rfl rfl ap0 ?_
          refine VL_cond ((decide ((w6 (a_96 + blockSize_31)) < n_2))) (by kernel_rfl) ?_ ?_
          · intro b_98; have H_140 := of_t H_132 b_98
            obtain ⟨r_99, h_100, H_142⟩ := of_bind H_140
            refine V_reg hN hn [(5, ⟨73, 1, [.c (.h 0), cI a_96, cI (w6 (a_96 + blockSize_31)), cI n_2, .c (.clo 60 [])], [(0, .row kP data_95)], .tup [], [(0, .row kP r_99)], [(0, 0)], 1⟩)] [] (calls_cons (slices_symMergeCmpFunc_rgggcregionapart1_spec K data_95 a_96 (w6 (a_96 + blockSize_31)) n_2 r_99 h_100) (by kernel_rfl) calls_nil) 1 [0, 1, 2, 6] [0] ⟨[(0, .c (.h 0)), (1, cI n_2), (2, .c (.clo 60 [])), (6, cI blockSize_31)], [(0, .row kP r_99)], 1⟩ [] (by kernel_rfl) rfl rfl ap0 (by kernel_rfl) (by kernel_rfl) ?_
            refine V_run hN hn 1 1 [0, 1, 2, 6] [0] ⟨[(0, .c (.h 0)), (1, cI n_2), (2, .c (.clo 60 [])), (6, cI (w6 (blockSize_31 * (2 : Int))))], [(0, .row kP r_99)], 1⟩ [] (by kernel_rfl) rfl rfl ap0 ?_
            refine VL_nil (QB_end ?_)
            have H_143 := Option.some.inj (show some r_99 = some q_126 from H_142); subst H_143
            refine VL_nil ?_
            exact QP_end r_99 rfl [] hn (by kernel_rfl) (by kernel_rfl) rfl rfl rfl
          · intro b_98; have H_141 := of_f H_132 b_98
            refine V_run hN hn 2 1 [0, 1, 2, 6] [0] ⟨[(0, .c (.h 0)), (1, cI n_2), (2, .c (.clo 60 [])), (6, cI (w6 (blockSize_31 * (2 : Int))))], [(0, .row kP data_95)], 1⟩ [] (by kernel_rfl) rfl rfl ap0 ?_
            refine VL_nil (QB_end ?_)
            have H_144 := Option.some.inj (show some data_95 = some q_126 from H_141); subst H_144
            refine VL_nil ?_
            exact QP_end data_95 rfl [] hn (by kernel_rfl) (by kernel_rfl) rfl rfl rfl
      · intro y_129 hy; subst hy
        skip
        skip
        refine VL_nil ?_
        exact V_roundEnd (y_129, (w6 (blockSize_31 * (2 : Int)))) H_128 [] hn (by kernel_rfl) (by kernel_rfl) rfl rfl rfl
    · intro b_71; have H_125 := of_f H_123 b_71
      refine VL_exit ?_
      refine QL_exit ?_
      refine QB_here ?_
      have H_145 := Option.some.inj (show some data_68 = some r from H_125); subst H_145
      refine VL_nil ?_
      exact P_to [] [(0, .row kP data_68)] [] hn (by kernel_rfl) (by kernel_rfl) rfl rfl rfl (QF_endS (by kernel_rfl) (by kernel_rfl) rfl)

theorem slices_SortStableFunc_rcregionapart1_spec (K : Nat) (x_1 : (List (Int × Int))) (r : (List (Int × Int))) (H : slices_SortStableFunc_rcregionapart1 K x_1 = some r) : Spec Try.prog 59 1 [.c (.h 0), .c (.clo 60 [])] [(0, .row kP x_1)] (.tup []) [(0, .row kP r)] := by
  refine Spec_mk (fn := Try.f59) (c := (Try.f59.body).get!) Try.func59 (by kernel_rfl) rfl ?_
  intro C hN hn
  replace hN : C.N = 9 := hN
  unfold slices_SortStableFunc_rcregionapart1 at H
  obtain ⟨r_2, h_3, H_6⟩ := of_bind H
  refine V_reg hN hn [(4, ⟨69, 1, [.c (.h 0), cI (lnI x_1), .c (.clo 60 [])], [(0, .row kP x_1)], .tup [], [(0, .row kP r_2)], [(0, 0)], 1⟩)] [] (calls_cons (slices_stableCmpFunc_rgcregionapart1_spec K x_1 (lnI x_1) r_2 h_3) (by kernel_rfl) calls_nil) 1 [] [0] ⟨[], [(0, .row kP r_2)], 1⟩ [] (by kernel_rfl) rfl rfl ap0 (by kernel_rfl) (by kernel_rfl) ?_
  have H_7 := Option.some.inj (show some r_2 = some r from H_6); subst H_7
  refine VL_nil ?_
  exact P_to [] [(0, .row kP r_2)] [] hn (by kernel_rfl) (by kernel_rfl) rfl rfl rfl (QF_endS (by kernel_rfl) (by kernel_rfl) rfl)

theorem interval_Touch_spec (K : Nat) (a_1 : Int) (a_2 : Int) (b_3 : Int) (b_4 : Int) (r : Bool) (H : interval_Touch K a_1 a_2 b_3 b_4 = some r) : Spec Try.prog 65 0 [.agg [.val (.int .i64 a_1), .val (.int .i64 a_2)], .agg [.val (.int .i64 b_3), .val (.int .i64 b_4)]] [] (cB r) [] := by
  refine Spec_mk (fn := Try.f65) (c := (Try.f65.body).get!) Try.func65 (by kernel_rfl) rfl ?_
  intro C hN hn
  replace hN : C.N = 17 := hN
  unfold interval_Touch at H
  refine V_run hN hn 3 0 [2, 3] [0, 1] ⟨[(2, .c (.h 0)), (3, .c (.h 1))], [(0, .box [.val (.int .i64 a_1), .val (.int .i64 a_2)]), (1, .box [.val (.int .i64 b_3), .val (.int .i64 b_4)])], 2⟩ [] (by kernel_rfl) rfl rfl ap0 ?_
  rcases Bool.eq_false_or_eq_true ((decide (a_2 ≥ b_3))) with b_6 | b_6
  · have H_10 := of_t H b_6
    refine V_reg hN hn [] [(10, true)] calls_nil 2 [4] [] ⟨[(4, cB (decide (b_4 ≥ a_1)))], [], 2⟩ [(decide (a_2 ≥ b_3)) = true] (by kernel_rfl) rfl rfl (ap1 b_6) (by kernel_rfl) (by kernel_rfl) ?_
    have H_12 := Option.some.inj (show some (decide (b_4 ≥ a_1)) = some r from H_10); subst H_12
    refine VL_ret ?_
    exact P_to [(4, cB (decide (b_4 ≥ a_1)))] [] [] hn (by kernel_rfl) (by kernel_rfl) rfl rfl rfl (QF_retS (by kernel_rfl) (by kernel_rfl) rfl)
  · have H_11 := of_f H b_6
    refine V_reg hN hn [] [(10, false)] calls_nil 2 [4] [] ⟨[(4, cB false)], [], 2⟩ [(decide (a_2 ≥ b_3)) = false] (by kernel_rfl) rfl rfl (ap1 b_6) (by kernel_rfl) (by kernel_rfl) ?_
    have H_13 := Option.some.inj (show some false = some r from H_11); subst H_13
    refine VL_ret ?_
    exact P_to [(4, cB false)] [] [] hn (by kernel_rfl) (by kernel_rfl) rfl rfl rfl (QF_retS (by kernel_rfl) (by kernel_rfl) rfl)

theorem region_apart_2_spec (K : Nat) (a_1 : Int) (a_2 : Int) (b_3 : Int) (b_4 : Int) (r : Bool) (H : region_apart_2 K a_1 a_2 b_3 b_4 = some r) : Spec Try.prog 64 0 [.agg [.val (.int .i64 a_1), .val (.int .i64 a_2)], .agg [.val (.int .i64 b_3), .val (.int .i64 b_4)]] [] (cB r) [] := by
  refine Spec_mk (fn := Try.f64) (c := (Try.f64.body).get!) Try.func64 (by kernel_rfl) rfl ?_
  intro C hN hn
  replace hN : C.N = 10 := hN
  unfold region_apart_2 at H
  refine V_run hN hn 3 0 [2, 3] [0, 1] ⟨[(2, .c (.h 0)), (3, .c (.h 1))], [(0, .box [.val (.int .i64 a_1), .val (.int .i64 a_2)]), (1, .box [.val (.int .i64 b_3), .val (.int .i64 b_4)])], 2⟩ [] (by kernel_rfl) rfl rfl ap0 ?_
  obtain ⟨r_6, h_7, H_14⟩ := of_bind H
  obtain ⟨r_8, h_9, H_15⟩ := of_bind H_14
  obtain ⟨r_10, h_11, H_16⟩ := of_bind H_15
  refine V_draw hN hn (by kernel_rfl) [(1, ⟨34, 0, [.agg [.val (.int .i64 a_1), .val (.int .i64 a_2)]], [], .agg [.val (.int .i64 r_6.1), .val (.int .i64 r_6.2)], [], [], 2⟩), (3, ⟨34, 0, [.agg [.val (.int .i64 b_3), .val (.int .i64 b_4)]], [], .agg [.val (.int .i64 r_8.1), .val (.int .i64 r_8.2)], [], [], 2⟩), (4, ⟨65, 0, [.agg [.val (.int .i64 r_6.1), .val (.int .i64 r_6.2)], .agg [.val (.int .i64 r_8.1), .val (.int .i64 r_8.2)]], [], cB r_10, [], [], 2⟩)] [] (calls_cons (region_Span_spec K a_1 a_2 r_6 h_7) (by kernel_rfl) (calls_cons (region_Span_spec K b_3 b_4 r_8 h_9) (by kernel_rfl) (calls_cons (interval_Touch_spec K r_6.1 r_6.2 r_8.1 r_8.2 r_10 h_11) (by kernel_rfl) calls_nil))) 2 [4] [] ⟨[(4, cB r_10)], [], 2⟩ [] (by kernel_rfl) rfl rfl ap0 (by kernel_rfl) (by kernel_rfl) ?_
  have H_17 := Option.some.inj (show some r_10 = some r from H_16); subst H_17
  refine VL_ret ?_
  exact P_to [(4, cB r_10)] [] [] hn (by kernel_rfl) (by kernel_rfl) rfl rfl rfl (QF_retS (by kernel_rfl) (by kernel_rfl) rfl)

theorem interval_Join_spec (K : Nat) (a_1 : Int) (a_2 : Int) (b_3 : Int) (b_4 : Int) (r : (Int × Int)) (H : interval_Join K a_1 a_2 b_3 b_4 = some r) : Spec Try.prog 71 0 [.agg [.val (.int .i64 a_1), .val (.int .i64 a_2)], .agg [.val (.int .i64 b_3), .val (.int .i64 b_4)]] [] (.agg [.val (.int .i64 r.1), .val (.int .i64 r.2)]) [] := by
  refine Spec_mk (fn := Try.f71) (c := (Try.f71.body).get!) Try.func71 (by kernel_rfl) rfl ?_
  intro C hN hn
  replace hN : C.N = 16 := hN
  unfold interval_Join at H
  refine V_run hN hn 4 0 [4] [2] ⟨[(4, .c (.h 2))], [(2, .box [.val (.int .i64 (mn2 a_1 b_3)), .val (.int .i64 (mx2 a_2 b_4))])], 3⟩ [] (by kernel_rfl) rfl rfl ap0 ?_
  have H_8 := Option.some.inj (show some ((mn2 a_1 b_3), (mx2 a_2 b_4)) = some r from H); subst H_8
  refine VL_ret ?_
  exact P_to [(4, .c (.h 2))] [(2, .box [.val (.int .i64 (mn2 a_1 b_3)), .val (.int .i64 (mx2 a_2 b_4))])] [(2, 2)] hn (by kernel_rfl) (by kernel_rfl) rfl rfl rfl (QF_retS (by kernel_rfl) (by kernel_rfl) rfl)

theorem region_joined_spec (K : Nat) (a_1 : Int) (a_2 : Int) (b_3 : Int) (b_4 : Int) (r : (Int × Int)) (H : region_joined K a_1 a_2 b_3 b_4 = some r) : Spec Try.prog 66 0 [.agg [.val (.int .i64 a_1), .val (.int .i64 a_2)], .agg [.val (.int .i64 b_3), .val (.int .i64 b_4)]] [] (.agg [.val (.int .i64 r.1), .val (.int .i64 r.2)]) [] := by
  refine Spec_mk (fn := Try.f66) (c := (Try.f66.body).get!) Try.func66 (by kernel_rfl) rfl ?_
  intro C hN hn
  replace hN : C.N = 26 := hN
  unfold region_joined at H
  refine V_run hN hn 3 0 [2, 3, 4] [0, 1, 2] ⟨[(2, .c (.h 0)), (3, .c (.h 1)), (4, .c (.h 2))], [(0, .box [.val (.int .i64 a_1), .val (.int .i64 a_2)]), (1, .box [.val (.int .i64 b_3), .val (.int .i64 b_4)]), (2, .box [.val (.int .i64 (0 : Int)), .val (.int .i64 (0 : Int))])], 3⟩ [] (by kernel_rfl) rfl rfl ap0 ?_
  obtain ⟨r_6, h_7, H_19⟩ := of_bind H
  obtain ⟨r_8, h_9, H_20⟩ := of_bind H_19
  obtain ⟨r_10, h_11, H_21⟩ := of_bind H_20
  refine V_draw hN hn (by kernel_rfl) [(1, ⟨34, 0, [.agg [.val (.int .i64 a_1), .val (.int .i64 a_2)]], [], .agg [.val (.int .i64 r_6.1), .val (.int .i64 r_6.2)], [], [], 3⟩), (3, ⟨34, 0, [.agg [.val (.int .i64 b_3), .val (.int .i64 b_4)]], [], .agg [.val (.int .i64 r_8.1), .val (.int .i64 r_8.2)], [], [], 3⟩), (4, ⟨71, 0, [.agg [.val (.int .i64 r_6.1), .val (.int .i64 r_6.2)], .agg [.val (.int .i64 r_8.1), .val (.int .i64 r_8.2)]], [], .agg [.val (.int .i64 r_10.1), .val (.int .i64 r_10.2)], [], [], 3⟩)] [] (calls_cons (region_Span_spec K a_1 a_2 r_6 h_7) (by kernel_rfl) (calls_cons (region_Span_spec K b_3 b_4 r_8 h_9) (by kernel_rfl) (calls_cons (interval_Join_spec K r_6.1 r_6.2 r_8.1 r_8.2 r_10 h_11) (by kernel_rfl) calls_nil))) 3 [2, 4, 5] [0, 2, 3] ⟨[(2, .c (.h 0)), (4, .c (.h 2)), (5, .c (.h 3))], [(0, .box [.val (.int .i64 a_1), .val (.int .i64 a_2)]), (2, .box [.val (.int .i64 (0 : Int)), .val (.int .i64 (0 : Int))]), (3, .box [.val (.int .i64 r_10.1), .val (.int .i64 r_10.2)])], 4⟩ [] (by kernel_rfl) rfl rfl ap0 (by kernel_rfl) (by kernel_rfl) ?_
  refine V_run hN hn 3 4 [4, 5, 15] [2, 3] ⟨[(4, .c (.h 2)), (5, .c (.h 3)), (15, cB (decide (a_2 < a_1)))], [(2, .box [.val (.int .i64 (0 : Int)), .val (.int .i64 (0 : Int))]), (3, .box [.val (.int .i64 r_10.1), .val (.int .i64 r_10.2)])], 4⟩ [] (by kernel_rfl) rfl rfl ap0 ?_
  refine VL_cond ((decide (a_2 < a_1))) (by kernel_rfl) ?_ ?_
  · intro b_14; have H_22 := of_t H_21 b_14
    refine V_run hN hn 2 4 [4] [2] ⟨[(4, .c (.h 2))], [(2, .box [.val (.int .i64 r_10.2), .val (.int .i64 r_10.1)])], 4⟩ [] (by kernel_rfl) rfl rfl ap0 ?_
    have H_24 := Option.some.inj (show some (r_10.2, r_10.1) = some r from H_22); subst H_24
    refine VL_ret ?_
    exact P_to [(4, .c (.h 2))] [(2, .box [.val (.int .i64 r_10.2), .val (.int .i64 r_10.1)])] [(2, 2)] hn (by kernel_rfl) (by kernel_rfl) rfl rfl rfl (QF_retS (by kernel_rfl) (by kernel_rfl) rfl)
  · intro b_14; have H_23 := of_f H_21 b_14
    refine V_run hN hn 3 4 [4] [2] ⟨[(4, .c (.h 2))], [(2, .box [.val (.int .i64 r_10.1), .val (.int .i64 r_10.2)])], 4⟩ [] (by kernel_rfl) rfl rfl ap0 ?_
    have H_25 := Option.some.inj (show some (r_10.1, r_10.2) = some r from H_23); subst H_25
    refine VL_ret ?_
    exact P_to [(4, .c (.h 2))] [(2, .box [.val (.int .i64 r_10.1), .val (.int .i64 r_10.2)])] [(2, 2)] hn (by kernel_rfl) (by kernel_rfl) rfl rfl rfl (QF_retS (by kernel_rfl) (by kernel_rfl) rfl)

theorem interval_Folded_rcregionapart2cregionjoined_spec (K : Nat) (l_1 : (List (Int × Int))) (r : (List (Int × Int))) (H : interval_Folded_rcregionapart2cregionjoined K l_1 = some r) : Spec Try.prog 63 1 [.c (.h 0), .c (.clo 64 []), .c (.clo 66 [])] [(0, .row kP l_1)] (.c (.h 5)) [(0, .row kP l_1), (5, .row kP r)] := by
  refine Spec_mk (fn := Try.f63) (c := (Try.f63.body).get!) Try.func63 (by kernel_rfl) rfl ?_
  intro C hN hn
  replace hN : C.N = 47 := hN
  unfold interval_Folded_rcregionapart2cregionjoined at H
  refine V_run hN hn 7 1 [1, 2, 7, 11, 12, 13] [0] ⟨[(1, .c (.clo 64 [])), (2, .c (.clo 66 [])), (7, .c (.val (.slice none 0 0))), (11, .c (.h 0)), (12, cI (lnI l_1)), (13, cI (0 : Int))], [(0, .row kP l_1)], 1⟩ [] (by kernel_rfl) rfl rfl ap0 ?_
  refine VL_block ?_
  refine V_ghost [.nilSlot 7 kP] 1 hn [1, 2, 7, 11, 12, 13] [0, 1] ⟨[(1, .c (.clo 64 [])), (2, .c (.clo 66 [])), (7, .c (.h 1)), (11, .c (.h 0)), (12, cI (lnI l_1)), (13, cI (0 : Int))], [(0, .row kP l_1), (1, .row kP ([] : List (Int × Int)))], 2⟩ (by kernel_rfl) rfl rfl ?_
  refine V_to [(1, .c (.clo 64 [])), (2, .c (.clo 66 [])), (7, .c (.h 5)), (11, .c (.h 0)), (12, cI (lnI l_1)), (13, cI (0 : Int))] [(0, .row kP l_1), (5, .row kP ([] : List (Int × Int)))] [(5, 1)] hn (by kernel_rfl) (by kernel_rfl) rfl rfl rfl ?_
  refine VL_loop (X := ((List (Int × Int)) × Int)) (fun x => [(1, .c (.clo 64 [])), (2, .c (.clo 66 [])), (7, .c (.h 5)), (11, .c (.h 0)), (12, cI (lnI l_1)), (13, cI x.2)]) (fun x => [(0, .row kP l_1), (5, .row kP x.1)]) (fun k x => interval_Folded_rcregionapart2cregionjoined.l0 K l_1 k x.1 x.2 = some r) K (([] : List (Int × Int)), (0 : Int)) H (fun _ h => no_none h) ?_
  intro k_25 x_25 H_48
  obtain ⟨out_24, t_3⟩ := x_25
  have H_49 : interval_Folded_rcregionapart2cregionjoined.l0 K l_1 (k_25 + 1) out_24 t_3 = some r := H_48
  rw [interval_Folded_rcregionapart2cregionjoined.l0] at H_49
  refine V_run hN hn 3 6 [1, 2, 7, 11, 12, 13, 14] [0, 5] ⟨[(1, .c (.clo 64 [])), (2, .c (.clo 66 [])), (7, .c (.h 5)), (11, .c (.h 0)), (12, cI (lnI l_1)), (13, cI t_3), (14, cB (decide (t_3 < (lnI l_1))))], [(0, .row kP l_1), (5, .row kP out_24)], 6⟩ [] (by kernel_rfl) rfl rfl ap0 ?_
  refine VL_cond ((decide (t_3 < (lnI l_1)))) (by kernel_rfl) ?_ ?_
  · intro b_27; have H_50 := of_t H_49 b_27
    refine V_run hN hn 2 6 [1, 2, 7, 11, 12, 13, 14] [0, 5] ⟨[(1, .c (.clo 64 [])), (2, .c (.clo 66 [])), (7, .c (.h 5)), (11, .c (.h 0)), (12, cI (lnI l_1)), (13, cI t_3), (14, cB (decide (t_3 < (lnI l_1))))], [(0, .row kP l_1), (5, .row kP out_24)], 6⟩ [] (by kernel_rfl) rfl rfl ap0 ?_
    refine VL_block ?_
    obtain ⟨c_29, H_52⟩ := of_if H_50
    refine V_run hN hn 6 6 [1, 2, 7, 9, 10, 11, 12, 13] [0, 5, 6] ⟨[(1, .c (.clo 64 [])), (2, .c (.clo 66 [])), (7, .c (.h 5)), (9, .c (.h 6)), (10, cI (w6 ((lnI out_24) - (1 : Int)))), (11, .c (.h 0)), (12, cI (lnI l_1)), (13, cI t_3)], [(0, .row kP l_1), (5, .row kP out_24), (6, .box [.val (.int .i64 (List.getD l_1 (Int.toNat t_3) zP).1), .val (.int .i64 (List.getD l_1 (Int.toNat t_3) zP).2)])], 7⟩ [0 ≤ t_3, t_3 < (lnI l_1)] (by kernel_rfl) rfl rfl (ap2 c_29.1 (ap1 c_29.2)) ?_
    obtain ⟨q_53, H_54, H_55⟩ := of_bind H_52
    refine V_cut (Y := Bool) (R := Bool) q_53 (fun y => y) (fun y => [(1, .c (.clo 64 [])), (2, .c (.clo 66 [])), (7, .c (.h 5)), (9, .c (.h 6)), (10, cI (w6 ((lnI out_24) - (1 : Int)))), (11, .c (.h 0)), (12, cI (lnI l_1)), (13, cI t_3), (30, cB y)]) (fun y => [(0, .row kP l_1), (5, .row kP out_24), (6, .box [.val (.int .i64 (List.getD l_1 (Int.toNat t_3) zP).1), .val (.int .i64 (List.getD l_1 (Int.toNat t_3) zP).2)])]) ?_ ?_
    · skip
      rcases Bool.eq_false_or_eq_true ((decide ((w6 ((lnI out_24) - (1 : Int))) ≥ (0 : Int)))) with b_30 | b_30
      · have H_57 := of_t H_54 b_30
        obtain ⟨r_31, h_32, H_59⟩ := of_bind H_57
        obtain ⟨c_33, H_60⟩ := of_if H_59
        refine V_draw hN hn (by kernel_rfl) [(9, ⟨64, 0, [.agg [.val (.int .i64 (List.getD out_24 (Int.toNat (w6 ((lnI out_24) - (1 : Int)))) zP).1), .val (.int .i64 (List.getD out_24 (Int.toNat (w6 ((lnI out_24) - (1 : Int)))) zP).2)], .agg [.val (.int .i64 (List.getD l_1 (Int.toNat t_3) zP).1), .val (.int .i64 (List.getD l_1 (Int.toNat t_3) zP).2)]], [], cB r_31, [], [], 7⟩)] [(22, true)] (calls_cons (region_apart_2_spec K (List.getD out_24 (Int.toNat (w6 ((lnI out_24) - (1 : Int)))) zP).1 (List.getD out_24 (Int.toNat (w6 ((lnI out_24) - (1 : Int)))) zP).2 (List.getD l_1 (Int.toNat t_3) zP).1 (List.getD l_1 (Int.toNat t_3) zP).2 r_31 h_32) (by kernel_rfl) calls_nil) 7 [1, 2, 7, 9, 10, 11, 12, 13, 30] [0, 5, 6] ⟨[(1, .c (.clo 64 [])), (2, .c (.clo 66 [])), (7, .c (.h 5)), (9, .c (.h 6)), (10, cI (w6 ((lnI out_24) - (1 : Int)))), (11, .c (.h 0)), (12, cI (lnI l_1)), (13, cI t_3), (30, cB r_31)], [(0, .row kP l_1), (5, .row kP out_24), (6, .box [.val (.int .i64 (List.getD l_1 (Int.toNat t_3) zP).1), .val (.int .i64 (List.getD l_1 (Int.toNat t_3) zP).2)])], 7⟩ [(decide ((w6 ((lnI out_24) - (1 : Int))) ≥ (0 : Int))) = true, 0 ≤ (w6 ((lnI out_24) - (1 : Int))), (w6 ((lnI out_24) - (1 : Int))) < (lnI out_24)] (by kernel_rfl) rfl rfl (ap2 b_30 (ap2 c_33.1 (ap1 c_33.2))) (by kernel_rfl) (by kernel_rfl) ?_
        have H_61 := Option.some.inj (show some r_31 = some q_53 from H_60); subst H_61
        refine VL_nil ?_
        exact QP_end r_31 rfl [(5, 5), (6, 6)] hn (by kernel_rfl) (by kernel_rfl) rfl rfl rfl
      · have H_58 := of_f H_54 b_30
        refine V_draw hN hn (by kernel_rfl) [] [(22, false)] calls_nil 7 [1, 2, 7, 9, 10, 11, 12, 13, 30] [0, 5, 6] ⟨[(1, .c (.clo 64 [])), (2, .c (.clo 66 [])), (7, .c (.h 5)), (9, .c (.h 6)), (10, cI (w6 ((lnI out_24) - (1 : Int)))), (11, .c (.h 0)), (12, cI (lnI l_1)), (13, cI t_3), (30, cB false)], [(0, .row kP l_1), (5, .row kP out_24), (6, .box [.val (.int .i64 (List.getD l_1 (Int.toNat t_3) zP).1), .val (.int .i64 (List.getD l_1 (Int.toNat t_3) zP).2)])], 7⟩ [(decide ((w6 ((lnI out_24) - (1 : Int))) ≥ (0 : Int))) = false] (by kernel_rfl) rfl rfl (ap1 b_30) (by kernel_rfl) (by kernel_rfl) ?_
        have H_62 := Option.some.inj (show some false = some q_53 from H_58); subst H_62
        refine VL_nil ?_
        exact QP_end false rfl [(5, 5), (6, 6)] hn (by kernel_rfl) (by kernel_rfl) rfl rfl rfl
    · intro y_56 hy; subst hy
      skip
      skip
      refine VL_cond (y_56) (by kernel_rfl) ?_ ?_
      · intro b_36; have H_63 := of_t H_55 b_36
        refine V_run hN hn 1 7 [1, 2, 7, 9, 10, 11, 12, 13, 30] [0, 5, 6] ⟨[(1, .c (.clo 64 [])), (2, .c (.clo 66 [])), (7, .c (.h 5)), (9, .c (.h 6)), (10, cI (w6 ((lnI out_24) - (1 : Int)))), (11, .c (.h 0)), (12, cI (lnI l_1)), (13, cI t_3), (30, cB y_56)], [(0, .row kP l_1), (5, .row kP out_24), (6, .box [.val (.int .i64 (List.getD l_1 (Int.toNat t_3) zP).1), .val (.int .i64 (List.getD l_1 (Int.toNat t_3) zP).2)])], 7⟩ [] (by kernel_rfl) rfl rfl ap0 ?_
        obtain ⟨r_38, h_39, H_65⟩ := of_bind H_63
        obtain ⟨c_40, H_66⟩ := of_if H_65
        refine V_draw hN hn (by kernel_rfl) [(8, ⟨66, 0, [.agg [.val (.int .i64 (List.getD out_24 (Int.toNat (w6 ((lnI out_24) - (1 : Int)))) zP).1), .val (.int .i64 (List.getD out_24 (Int.toNat (w6 ((lnI out_24) - (1 : Int)))) zP).2)], .agg [.val (.int .i64 (List.getD l_1 (Int.toNat t_3) zP).1), .val (.int .i64 (List.getD l_1 (Int.toNat t_3) zP).2)]], [], .agg [.val (.int .i64 r_38.1), .val (.int .i64 r_38.2)], [], [], 7⟩)] [] (calls_cons (region_joined_spec K (List.getD out_24 (Int.toNat (w6 ((lnI out_24) - (1 : Int)))) zP).1 (List.getD out_24 (Int.toNat (w6 ((lnI out_24) - (1 : Int)))) zP).2 (List.getD l_1 (Int.toNat t_3) zP).1 (List.getD l_1 (Int.toNat t_3) zP).2 r_38 h_39) (by kernel_rfl) calls_nil) 7 [1, 2, 7, 11, 12, 13] [0, 5] ⟨[(1, .c (.clo 64 [])), (2, .c (.clo 66 [])), (7, .c (.h 5)), (11, .c (.h 0)), (12, cI (lnI l_1)), (13, cI t_3)], [(0, .row kP l_1), (5, .row kP (List.set out_24 (Int.toNat (w6 ((lnI out_24) - (1 : Int)))) (r_38.1, r_38.2)))], 7⟩ [0 ≤ (w6 ((lnI out_24) - (1 : Int))), (w6 ((lnI out_24) - (1 : Int))) < (lnI out_24), 0 ≤ (w6 ((lnI out_24) - (1 : Int))), (w6 ((lnI out_24) - (1 : Int))) < (lnI out_24)] (by kernel_rfl) rfl rfl (ap2 c_40.1 (ap2 c_40.2 (ap2 c_40.1 (ap1 c_40.2)))) (by kernel_rfl) (by kernel_rfl) ?_
        refine VL_exit ?_
        refine QB_here ?_
        refine V_run hN hn 1 7 [1, 2, 7, 11, 12, 13] [0, 5] ⟨[(1, .c (.clo 64 [])), (2, .c (.clo 66 [])), (7, .c (.h 5)), (11, .c (.h 0)), (12, cI (lnI l_1)), (13, cI (w6 (t_3 + (1 : Int))))], [(0, .row kP l_1), (5, .row kP (List.set out_24 (Int.toNat (w6 ((lnI out_24) - (1 : Int)))) (r_38.1, r_38.2)))], 7⟩ [] (by kernel_rfl) rfl rfl ap0 ?_
        refine VL_nil ?_
        exact V_roundEnd ((List.set out_24 (Int.toNat (w6 ((lnI out_24) - (1 : Int)))) (r_38.1, r_38.2)), (w6 (t_3 + (1 : Int)))) H_66 [(5, 5)] hn (by kernel_rfl) (by kernel_rfl) rfl rfl rfl
      · intro b_36; have H_64 := of_f H_55 b_36
        obtain ⟨c_42, H_67⟩ := of_if H_64
        refine V_run hN hn 2 7 [1, 2, 7, 11, 12, 13] [0, 8] ⟨[(1, .c (.clo 64 [])), (2, .c (.clo 66 [])), (7, .c (.h 8)), (11, .c (.h 0)), (12, cI (lnI l_1)), (13, cI t_3)], [(0, .row kP l_1), (8, .row kP (out_24 ++ ([((List.getD l_1 (Int.toNat t_3) zP).1, (List.getD l_1 (Int.toNat t_3) zP).2)] : List (Int × Int))))], 9⟩ [(List.length out_24 + List.length ([((List.getD l_1 (Int.toNat t_3) zP).1, (List.getD l_1 (Int.toNat t_3) zP).2)] : List (Int × Int))) * 16 ≤ 140737488355328] (by kernel_rfl) rfl rfl (ap1 c_42) ?_
        refine VL_nil (QB_end ?_)
        refine V_run hN hn 1 9 [1, 2, 7, 11, 12, 13] [0, 8] ⟨[(1, .c (.clo 64 [])), (2, .c (.clo 66 [])), (7, .c (.h 8)), (11, .c (.h 0)), (12, cI (lnI l_1)), (13, cI (w6 (t_3 + (1 : Int))))], [(0, .row kP l_1), (8, .row kP (out_24 ++ ([((List.getD l_1 (Int.toNat t_3) zP).1, (List.getD l_1 (Int.toNat t_3) zP).2)] : List (Int × Int))))], 9⟩ [] (by kernel_rfl) rfl rfl ap0 ?_
        refine VL_nil ?_
        exact V_roundEnd ((out_24 ++ ([((List.getD l_1 (Int.toNat t_3) zP).1, (List.getD l_1 (Int.toNat t_3) zP).2)] : List (Int × Int))), (w6 (t_3 + (1 : Int)))) H_67 [(5, 8)] hn (by kernel_rfl) (by kernel_rfl) rfl rfl rfl
  · intro b_27; have H_51 := of_f H_49 b_27
    refine VL_exit ?_
    refine QL_exit ?_
    refine QB_here ?_
    refine V_run hN hn 2 6 [6] [0, 5] ⟨[(6, .c (.h 5))], [(0, .row kP l_1), (5, .row kP out_24)], 6⟩ [] (by kernel_rfl) rfl rfl ap0 ?_
    have H_68 := Option.some.inj (show some out_24 = some r from H_51); subst H_68
    refine VL_ret ?_
    exact P_to [(6, .c (.h 5))] [(0, .row kP l_1), (5, .row kP out_24)] [(5, 5)] hn (by kernel_rfl) (by kernel_rfl) rfl rfl rfl (QF_retS (by kernel_rfl) (by kernel_rfl) rfl)

theorem region_apart_spec (K : Nat) (l_1 : (List (Int × Int))) (r : (List (Int × Int))) (H : region_apart K l_1 = some r) : Spec Try.prog 48 0 [.c (.imm (.slice kP) l_1)] [] (.c (.h 1)) [(1, .row kP r)] := by
  refine Spec_mk (fn := Try.f48) (c := (Try.f48.body).get!) Try.func48 (by kernel_rfl) rfl ?_
  intro C hN hn
  replace hN : C.N = 9 := hN
  unfold region_apart at H
  refine V_run hN hn 3 0 [0] [] ⟨[(0, .c (.imm (.slice kP) l_1))], [], 0⟩ [] (by kernel_rfl) rfl rfl ap0 ?_
  obtain ⟨r_3, h_4, H_15⟩ := of_bind H
  refine V_reg hN hn [(1, ⟨58, 0, [.c (.imm (.slice kP) l_1)], [], .c (.h 2), [(2, .row kP r_3)], [(2, 0)], 1⟩)] [] (calls_cons (slices_Clone_spec K l_1 r_3 h_4) (by kernel_rfl) calls_nil) 0 [0] [0] ⟨[(0, .c (.h 0))], [(0, .row kP r_3)], 1⟩ [] (by kernel_rfl) rfl rfl ap0 (by kernel_rfl) (by kernel_rfl) ?_
  refine V_run hN hn 1 1 [0] [0] ⟨[(0, .c (.h 0))], [(0, .row kP r_3)], 1⟩ [] (by kernel_rfl) rfl rfl ap0 ?_
  obtain ⟨r_7, h_8, H_16⟩ := of_bind H_15
  refine V_reg hN hn [(1, ⟨59, 1, [.c (.h 0), .c (.clo 60 [])], [(0, .row kP r_3)], .tup [], [(0, .row kP r_7)], [(0, 0)], 1⟩)] [] (calls_cons (slices_SortStableFunc_rcregionapart1_spec K r_3 r_7 h_8) (by kernel_rfl) calls_nil) 1 [0] [0] ⟨[(0, .c (.h 0))], [(0, .row kP r_7)], 1⟩ [] (by kernel_rfl) rfl rfl ap0 (by kernel_rfl) (by kernel_rfl) ?_
  refine V_run hN hn 1 1 [0] [0] ⟨[(0, .c (.h 0))], [(0, .row kP r_7)], 1⟩ [] (by kernel_rfl) rfl rfl ap0 ?_
  obtain ⟨r_11, h_12, H_17⟩ := of_bind H_16
  refine V_reg hN hn [(1, ⟨63, 1, [.c (.h 0), .c (.clo 64 []), .c (.clo 66 [])], [(0, .row kP r_7)], .c (.h 5), [(0, .row kP r_7), (5, .row kP r_11)], [(0, 0), (5, 1)], 2⟩)] [] (calls_cons (interval_Folded_rcregionapart2cregionjoined_spec K r_7 r_11 h_12) (by kernel_rfl) calls_nil) 1 [2] [1] ⟨[(2, .c (.h 1))], [(1, .row kP r_11)], 2⟩ [] (by kernel_rfl) rfl rfl ap0 (by kernel_rfl) (by kernel_rfl) ?_
  have H_18 := Option.some.inj (show some r_11 = some r from H_17); subst H_18
  refine VL_ret ?_
  exact P_to [(2, .c (.h 1))] [(1, .row kP r_11)] [(1, 1)] hn (by kernel_rfl) (by kernel_rfl) rfl rfl rfl (QF_retS (by kernel_rfl) (by kernel_rfl) rfl)

theorem region_Make_spec (K : Nat) (l_1 : (List (Int × Int))) (s_2 : ByteArray) (r : ((List (Int × Int)) × Int)) (H : region_Make K l_1 s_2 = some r) : Spec Try.prog 39 0 [.c (.imm (.slice kP) l_1), cS s_2] [] (.tup [(false, [.h 3]), (false, [.val (.int .i64 r.2)])]) [(3, .row kP r.1)] := by
  refine Spec_mk (fn := Try.f39) (c := (Try.f39.body).get!) Try.func39 (by kernel_rfl) rfl ?_
  intro C hN hn
  replace hN : C.N = 26 := hN
  unfold region_Make at H
  refine V_run hN hn 4 0 [0, 1] [] ⟨[(0, .c (.imm (.slice kP) l_1)), (1, cS s_2)], [], 0⟩ [] (by kernel_rfl) rfl rfl ap0 ?_
  obtain ⟨r_4, h_5, H_34⟩ := of_bind H
  refine V_reg hN hn [(1, ⟨47, 0, [.c (.imm (.slice kP) l_1)], [], cI r_4, [], [], 0⟩)] [] (calls_cons (region_count_spec K l_1 r_4 h_5) (by kernel_rfl) calls_nil) 0 [0, 1, 6] [] ⟨[(0, .c (.imm (.slice kP) l_1)), (1, cS s_2), (6, cI r_4)], [], 0⟩ [] (by kernel_rfl) rfl rfl ap0 (by kernel_rfl) (by kernel_rfl) ?_
  refine V_run hN hn 2 0 [0, 1, 6, 10] [] ⟨[(0, .c (.imm (.slice kP) l_1)), (1, cS s_2), (6, cI r_4), (10, cB (r_4 != (0 : Int)))], [], 0⟩ [] (by kernel_rfl) rfl rfl ap0 ?_
  refine VL_cond ((r_4 != (0 : Int))) (by kernel_rfl) ?_ ?_
  · intro b_8; have H_35 := of_t H_34 b_8
    refine V_run hN hn 2 0 [4, 5] [] ⟨[(4, .c (.val (.slice none 0 0))), (5, cI r_4)], [], 0⟩ [] (by kernel_rfl) rfl rfl ap0 ?_
    have H_37 := Option.some.inj (show some (([] : List (Int × Int)), r_4) = some r from H_35); subst H_37
    refine VL_ret ?_
    refine P_ghost [.nilSlot 4 kP] 0 hn [4, 5] [0] ⟨[(4, .c (.h 0)), (5, cI r_4)], [(0, .row kP ([] : List (Int × Int)))], 1⟩ (by kernel_rfl) rfl rfl ?_
    exact P_to [(4, .c (.h 3)), (5, cI r_4)] [(3, .row kP ([] : List (Int × Int)))] [(3, 0)] hn (by kernel_rfl) (by kernel_rfl) rfl rfl rfl (QF_retS (by kernel_rfl) (by kernel_rfl) rfl)
  · intro b_8; have H_36 := of_f H_34 b_8
    refine V_run hN hn 2 0 [0, 1, 6, 10] [] ⟨[(0, .c (.imm (.slice kP) l_1)), (1, cS s_2), (6, cI r_4), (10, cB (r_4 != (0 : Int)))], [], 0⟩ [] (by kernel_rfl) rfl rfl ap0 ?_
    refine VL_block ?_
    refine V_run hN hn 1 0 [0, 1, 6, 10] [] ⟨[(0, .c (.imm (.slice kP) l_1)), (1, cS s_2), (6, cI r_4), (10, cB (r_4 != (0 : Int)))], [], 0⟩ [] (by kernel_rfl) rfl rfl ap0 ?_
    obtain ⟨r_12, h_13, H_38⟩ := of_bind H_36
    obtain ⟨r_14, h_15, H_39⟩ := of_bind H_38
    refine V_reg hN hn [(2, ⟨45, 0, [cS s_2], [], .c (.clo 55 [0]), [(0, .box [.val (.string s_2)])], [(0, 0)], 1⟩), (3, ⟨44, 1, [.c (.imm (.slice kP) l_1), .c (.clo 55 [0])], [(0, .box [.val (.string s_2)])], cB r_14, [(0, .box [.val (.string s_2)])], [(0, 0)], 1⟩)] [] (calls_cons (region_inside_spec K s_2 r_12 h_13) (by kernel_rfl) (calls_cons (region_every_gcregioninside1_08bb4_spec K l_1 s_2 r_14 h_15) (by kernel_rfl) calls_nil)) 0 [0, 1, 12] [] ⟨[(0, .c (.imm (.slice kP) l_1)), (1, cS s_2), (12, cB (!r_14))], [], 1⟩ [] (by kernel_rfl) rfl rfl ap0 (by kernel_rfl) (by kernel_rfl) ?_
    refine VL_cond ((!r_14)) (by kernel_rfl) ?_ ?_
    · intro b_17; have H_40 := of_t H_39 b_17
      refine V_run hN hn 2 1 [4, 5] [] ⟨[(4, .c (.val (.slice none 0 0))), (5, cI (10 : Int))], [], 1⟩ [] (by kernel_rfl) rfl rfl ap0 ?_
      have H_42 := Option.some.inj (show some (([] : List (Int × Int)), (10 : Int)) = some r from H_40); subst H_42
      refine VL_ret ?_
      refine QB_ret ?_
      refine P_ghost [.nilSlot 4 kP] 1 hn [4, 5] [1] ⟨[(4, .c (.h 1)), (5, cI (10 : Int))], [(1, .row kP ([] : List (Int × Int)))], 2⟩ (by kernel_rfl) rfl rfl ?_
      exact P_to [(4, .c (.h 3)), (5, cI (10 : Int))] [(3, .row kP ([] : List (Int × Int)))] [(3, 1)] hn (by kernel_rfl) (by kernel_rfl) rfl rfl rfl (QF_retS (by kernel_rfl) (by kernel_rfl) rfl)
    · intro b_17; have H_41 := of_f H_39 b_17
      refine V_run hN hn 1 1 [0, 1, 12] [] ⟨[(0, .c (.imm (.slice kP) l_1)), (1, cS s_2), (12, cB (!r_14))], [], 1⟩ [] (by kernel_rfl) rfl rfl ap0 ?_
      obtain ⟨r_20, h_21, H_43⟩ := of_bind H_41
      obtain ⟨r_22, h_23, H_44⟩ := of_bind H_43
      refine V_reg hN hn [(2, ⟨46, 0, [cS s_2], [], .c (.clo 57 [0]), [(0, .box [.val (.string s_2)])], [(0, 1)], 2⟩), (3, ⟨44, 1, [.c (.imm (.slice kP) l_1), .c (.clo 57 [0])], [(0, .box [.val (.string s_2)])], cB r_22, [(0, .box [.val (.string s_2)])], [(0, 1)], 2⟩)] [] (calls_cons (region_edges_spec K s_2 r_20 h_21) (by kernel_rfl) (calls_cons (region_every_gcregionedges1_96dfe_spec K l_1 s_2 r_22 h_23) (by kernel_rfl) calls_nil)) 1 [0, 18] [] ⟨[(0, .c (.imm (.slice kP) l_1)), (18, cB (!r_22))], [], 2⟩ [] (by kernel_rfl) rfl rfl ap0 (by kernel_rfl) (by kernel_rfl) ?_
      refine VL_cond ((!r_22)) (by kernel_rfl) ?_ ?_
      · intro b_25; have H_45 := of_t H_44 b_25
        refine V_run hN hn 2 2 [4, 5] [] ⟨[(4, .c (.val (.slice none 0 0))), (5, cI (11 : Int))], [], 2⟩ [] (by kernel_rfl) rfl rfl ap0 ?_
        have H_47 := Option.some.inj (show some (([] : List (Int × Int)), (11 : Int)) = some r from H_45); subst H_47
        refine VL_ret ?_
        refine QB_ret ?_
        refine P_ghost [.nilSlot 4 kP] 2 hn [4, 5] [2] ⟨[(4, .c (.h 2)), (5, cI (11 : Int))], [(2, .row kP ([] : List (Int × Int)))], 3⟩ (by kernel_rfl) rfl rfl ?_
        exact P_to [(4, .c (.h 3)), (5, cI (11 : Int))] [(3, .row kP ([] : List (Int × Int)))] [(3, 2)] hn (by kernel_rfl) (by kernel_rfl) rfl rfl rfl (QF_retS (by kernel_rfl) (by kernel_rfl) rfl)
      · intro b_25; have H_46 := of_f H_44 b_25
        refine V_run hN hn 1 2 [0, 18] [] ⟨[(0, .c (.imm (.slice kP) l_1)), (18, cB (!r_22))], [], 2⟩ [] (by kernel_rfl) rfl rfl ap0 ?_
        refine VL_nil (QB_end ?_)
        refine V_run hN hn 1 2 [0, 18] [] ⟨[(0, .c (.imm (.slice kP) l_1)), (18, cB (!r_22))], [], 2⟩ [] (by kernel_rfl) rfl rfl ap0 ?_
        obtain ⟨r_29, h_30, H_48⟩ := of_bind H_46
        refine V_reg hN hn [(1, ⟨48, 0, [.c (.imm (.slice kP) l_1)], [], .c (.h 1), [(1, .row kP r_29)], [(1, 2)], 3⟩)] [] (calls_cons (region_apart_spec K l_1 r_29 h_30) (by kernel_rfl) calls_nil) 2 [4, 5] [2] ⟨[(4, .c (.h 2)), (5, cI (0 : Int))], [(2, .row kP r_29)], 3⟩ [] (by kernel_rfl) rfl rfl ap0 (by kernel_rfl) (by kernel_rfl) ?_
        have H_49 := Option.some.inj (show some (r_29, (0 : Int)) = some r from H_48); subst H_49
        refine VL_ret ?_
        exact P_to [(4, .c (.h 3)), (5, cI (0 : Int))] [(3, .row kP r_29)] [(3, 2)] hn (by kernel_rfl) (by kernel_rfl) rfl rfl rfl (QF_retS (by kernel_rfl) (by kernel_rfl) rfl)

theorem carets_each_rgccaretsStep1_9ca73_spec (K : Nat) (l_1 : (List (Int × Int))) (s_2 : ByteArray) (does_3 : Bool) (does_4 : ByteArray) (does_5 : Bool) (r : ((List (Int × Int)) × Int)) (H : carets_each_rgccaretsStep1_9ca73 K l_1 s_2 does_3 does_4 does_5 = some r) : Spec Try.prog 27 4 [.c (.h 0), cS s_2, .c (.clo 28 [1, 2, 3])] [(0, .row kP l_1), (1, .box [.val (.bool does_3)]), (2, .box [.val (.string does_4)]), (3, .box [.val (.bool does_5)])] (.tup [(false, [.h 10]), (false, [.val (.int .i64 r.2)])]) [(0, .row kP l_1), (1, .box [.val (.bool does_3)]), (2, .box [.val (.string does_4)]), (3, .box [.val (.bool does_5)]), (10, .row kP r.1)] := by
  refine Spec_mk (fn := Try.f27) (c := (Try.f27.body).get!) Try.func27 (by kernel_rfl) rfl ?_
  intro C hN hn
  replace hN : C.N = 33 := hN
  unfold carets_each_rgccaretsStep1_9ca73 at H
  refine V_run hN hn 4 4 [0, 1, 2] [0, 1, 2, 3] ⟨[(0, .c (.h 0)), (1, cS s_2), (2, .c (.clo 28 [1, 2, 3]))], [(0, .row kP l_1), (1, .box [.val (.bool does_3)]), (2, .box [.val (.string does_4)]), (3, .box [.val (.bool does_5)])], 4⟩ [] (by kernel_rfl) rfl rfl ap0 ?_
  obtain ⟨r_7, h_8, H_41⟩ := of_bind H
  refine V_reg hN hn [(2, ⟨37, 1, [.c (.h 0), cS s_2], [(0, .row kP l_1)], cB r_7, [(0, .row kP l_1)], [(0, 0)], 4⟩)] [] (calls_cons (region_Is_rg_spec K l_1 s_2 r_7 h_8) (by kernel_rfl) calls_nil) 4 [0, 1, 2, 14] [0, 1, 2, 3] ⟨[(0, .c (.h 0)), (1, cS s_2), (2, .c (.clo 28 [1, 2, 3])), (14, cB (!r_7))], [(0, .row kP l_1), (1, .box [.val (.bool does_3)]), (2, .box [.val (.string does_4)]), (3, .box [.val (.bool does_5)])], 4⟩ [] (by kernel_rfl) rfl rfl ap0 (by kernel_rfl) (by kernel_rfl) ?_
  refine VL_cond ((!r_7)) (by kernel_rfl) ?_ ?_
  · intro b_10; have H_42 := of_t H_41 b_10
    refine V_run hN hn 2 4 [6, 7] [0, 1, 2, 3] ⟨[(6, .c (.val (.slice none 0 0))), (7, cI (12 : Int))], [(0, .row kP l_1), (1, .box [.val (.bool does_3)]), (2, .box [.val (.string does_4)]), (3, .box [.val (.bool does_5)])], 4⟩ [] (by kernel_rfl) rfl rfl ap0 ?_
    have H_44 := Option.some.inj (show some (([] : List (Int × Int)), (12 : Int)) = some r from H_42); subst H_44
    refine VL_ret ?_
    refine P_ghost [.nilSlot 6 kP] 4 hn [6, 7] [0, 1, 2, 3, 4] ⟨[(6, .c (.h 4)), (7, cI (12 : Int))], [(0, .row kP l_1), (1, .box [.val (.bool does_3)]), (2, .box [.val (.string does_4)]), (3, .box [.val (.bool does_5)]), (4, .row kP ([] : List (Int × Int)))], 5⟩ (by kernel_rfl) rfl rfl ?_
    exact P_to [(6, .c (.h 10)), (7, cI (12 : Int))] [(0, .row kP l_1), (1, .box [.val (.bool does_3)]), (2, .box [.val (.string does_4)]), (3, .box [.val (.bool does_5)]), (10, .row kP ([] : List (Int × Int)))] [(10, 4)] hn (by kernel_rfl) (by kernel_rfl) rfl rfl rfl (QF_retS (by kernel_rfl) (by kernel_rfl) rfl)
  · intro b_10; have H_43 := of_f H_41 b_10
    refine V_run hN hn 6 4 [1, 2, 8, 15, 16, 17] [0, 1, 2, 3] ⟨[(1, cS s_2), (2, .c (.clo 28 [1, 2, 3])), (8, .c (.val (.slice none 0 0))), (15, .c (.h 0)), (16, cI (lnI l_1)), (17, cI (0 : Int))], [(0, .row kP l_1), (1, .box [.val (.bool does_3)]), (2, .box [.val (.string does_4)]), (3, .box [.val (.bool does_5)])], 4⟩ [] (by kernel_rfl) rfl rfl ap0 ?_
    obtain ⟨q_45, H_46, H_47⟩ := of_bind H_43
    refine V_cut (Y := (List (Int × Int))) (R := (List (Int × Int))) q_45 (fun y => y) (fun y => [(1, cS s_2), (8, .c (.h 8))]) (fun y => [(0, .row kP l_1), (1, .box [.val (.bool does_3)]), (2, .box [.val (.string does_4)]), (3, .box [.val (.bool does_5)]), (8, .row kP y)]) ?_ ?_
    · skip
      refine VL_block ?_
      refine V_ghost [.nilSlot 8 kP] 4 hn [1, 2, 8, 15, 16, 17] [0, 1, 2, 3, 4] ⟨[(1, cS s_2), (2, .c (.clo 28 [1, 2, 3])), (8, .c (.h 4)), (15, .c (.h 0)), (16, cI (lnI l_1)), (17, cI (0 : Int))], [(0, .row kP l_1), (1, .box [.val (.bool does_3)]), (2, .box [.val (.string does_4)]), (3, .box [.val (.bool does_5)]), (4, .row kP ([] : List (Int × Int)))], 5⟩ (by kernel_rfl) rfl rfl ?_
      refine V_to [(1, cS s_2), (2, .c (.clo 28 [1, 2, 3])), (8, .c (.h 8)), (15, .c (.h 0)), (16, cI (lnI l_1)), (17, cI (0 : Int))] [(0, .row kP l_1), (1, .box [.val (.bool does_3)]), (2, .box [.val (.string does_4)]), (3, .box [.val (.bool does_5)]), (8, .row kP ([] : List (Int × Int)))] [(8, 4)] hn (by kernel_rfl) (by kernel_rfl) rfl rfl rfl ?_
      refine VL_loop (X := ((List (Int × Int)) × Int)) (fun x => [(1, cS s_2), (2, .c (.clo 28 [1, 2, 3])), (8, .c (.h 8)), (15, .c (.h 0)), (16, cI (lnI l_1)), (17, cI x.2)]) (fun x => [(0, .row kP l_1), (1, .box [.val (.bool does_3)]), (2, .box [.val (.string does_4)]), (3, .box [.val (.bool does_5)]), (8, .row kP x.1)]) (fun k x => carets_each_rgccaretsStep1_9ca73.l0 K l_1 does_3 does_4 does_5 k x.1 x.2 = some q_45) K (([] : List (Int × Int)), (0 : Int)) H_46 (fun _ h => no_none h) ?_
      intro k_24 x_24 H_49
      obtain ⟨out_23, t_13⟩ := x_24
      have H_50 : carets_each_rgccaretsStep1_9ca73.l0 K l_1 does_3 does_4 does_5 (k_24 + 1) out_23 t_13 = some q_45 := H_49
      rw [carets_each_rgccaretsStep1_9ca73.l0] at H_50
      refine V_run hN hn 3 9 [1, 2, 8, 15, 16, 17, 18] [0, 1, 2, 3, 8] ⟨[(1, cS s_2), (2, .c (.clo 28 [1, 2, 3])), (8, .c (.h 8)), (15, .c (.h 0)), (16, cI (lnI l_1)), (17, cI t_13), (18, cB (decide (t_13 < (lnI l_1))))], [(0, .row kP l_1), (1, .box [.val (.bool does_3)]), (2, .box [.val (.string does_4)]), (3, .box [.val (.bool does_5)]), (8, .row kP out_23)], 9⟩ [] (by kernel_rfl) rfl rfl ap0 ?_
      refine VL_cond ((decide (t_13 < (lnI l_1)))) (by kernel_rfl) ?_ ?_
      · intro b_26; have H_51 := of_t H_50 b_26
        refine V_run hN hn 2 9 [1, 2, 8, 15, 16, 17, 18] [0, 1, 2, 3, 8] ⟨[(1, cS s_2), (2, .c (.clo 28 [1, 2, 3])), (8, .c (.h 8)), (15, .c (.h 0)), (16, cI (lnI l_1)), (17, cI t_13), (18, cB (decide (t_13 < (lnI l_1))))], [(0, .row kP l_1), (1, .box [.val (.bool does_3)]), (2, .box [.val (.string does_4)]), (3, .box [.val (.bool does_5)]), (8, .row kP out_23)], 9⟩ [] (by kernel_rfl) rfl rfl ap0 ?_
        refine VL_block ?_
        obtain ⟨c_28, H_53⟩ := of_if H_51
        refine V_run hN hn 2 9 [1, 2, 8, 10, 15, 16, 17] [0, 1, 2, 3, 8, 9] ⟨[(1, cS s_2), (2, .c (.clo 28 [1, 2, 3])), (8, .c (.h 8)), (10, .c (.h 9)), (15, .c (.h 0)), (16, cI (lnI l_1)), (17, cI t_13)], [(0, .row kP l_1), (1, .box [.val (.bool does_3)]), (2, .box [.val (.string does_4)]), (3, .box [.val (.bool does_5)]), (8, .row kP out_23), (9, .box [.val (.int .i64 (List.getD l_1 (Int.toNat t_13) zP).1), .val (.int .i64 (List.getD l_1 (Int.toNat t_13) zP).2)])], 10⟩ [0 ≤ t_13, t_13 < (lnI l_1)] (by kernel_rfl) rfl rfl (ap2 c_28.1 (ap1 c_28.2)) ?_
        obtain ⟨r_29, h_30, H_54⟩ := of_bind H_53
        obtain ⟨c_31, H_55⟩ := of_if H_54
        refine V_reg hN hn [(3, ⟨28, 3, [.agg [.val (.int .i64 (List.getD l_1 (Int.toNat t_13) zP).1), .val (.int .i64 (List.getD l_1 (Int.toNat t_13) zP).2)], .c (.h 0), .c (.h 1), .c (.h 2)], [(0, .box [.val (.bool does_3)]), (1, .box [.val (.string does_4)]), (2, .box [.val (.bool does_5)])], .agg [.val (.int .i64 r_29.1), .val (.int .i64 r_29.2)], [(0, .box [.val (.bool does_3)]), (1, .box [.val (.string does_4)]), (2, .box [.val (.bool does_5)])], [(0, 1), (1, 2), (2, 3)], 10⟩)] [] (calls_cons (carets_Step_1_sggbbb_c6240_spec K (List.getD l_1 (Int.toNat t_13) zP).1 (List.getD l_1 (Int.toNat t_13) zP).2 does_3 does_4 does_5 r_29 h_30) (by kernel_rfl) calls_nil) 10 [1, 2, 8, 15, 16, 17] [0, 1, 2, 3, 11] ⟨[(1, cS s_2), (2, .c (.clo 28 [1, 2, 3])), (8, .c (.h 11)), (15, .c (.h 0)), (16, cI (lnI l_1)), (17, cI t_13)], [(0, .row kP l_1), (1, .box [.val (.bool does_3)]), (2, .box [.val (.string does_4)]), (3, .box [.val (.bool does_5)]), (11, .row kP (out_23 ++ ([(r_29.1, r_29.2)] : List (Int × Int))))], 12⟩ [(List.length out_23 + List.length ([(r_29.1, r_29.2)] : List (Int × Int))) * 16 ≤ 140737488355328] (by kernel_rfl) rfl rfl (ap1 c_31) (by kernel_rfl) (by kernel_rfl) ?_
        refine VL_nil (QB_end ?_)
        refine V_run hN hn 1 12 [1, 2, 8, 15, 16, 17] [0, 1, 2, 3, 11] ⟨[(1, cS s_2), (2, .c (.clo 28 [1, 2, 3])), (8, .c (.h 11)), (15, .c (.h 0)), (16, cI (lnI l_1)), (17, cI (w6 (t_13 + (1 : Int))))], [(0, .row kP l_1), (1, .box [.val (.bool does_3)]), (2, .box [.val (.string does_4)]), (3, .box [.val (.bool does_5)]), (11, .row kP (out_23 ++ ([(r_29.1, r_29.2)] : List (Int × Int))))], 12⟩ [] (by kernel_rfl) rfl rfl ap0 ?_
        refine VL_nil ?_
        exact V_roundEnd ((out_23 ++ ([(r_29.1, r_29.2)] : List (Int × Int))), (w6 (t_13 + (1 : Int)))) H_55 [(8, 11)] hn (by kernel_rfl) (by kernel_rfl) rfl rfl rfl
      · intro b_26; have H_52 := of_f H_50 b_26
        refine VL_exit ?_
        refine QL_exit ?_
        refine QB_here ?_
        have H_56 := Option.some.inj (show some out_23 = some q_45 from H_52); subst H_56
        refine VL_nil ?_
        exact QP_end out_23 rfl [(8, 8)] hn (by kernel_rfl) (by kernel_rfl) rfl rfl rfl
    · intro y_48 hy; subst hy
      skip
      skip
      refine V_run hN hn 1 9 [1, 8] [0, 1, 2, 3, 8] ⟨[(1, cS s_2), (8, .c (.h 8))], [(0, .row kP l_1), (1, .box [.val (.bool does_3)]), (2, .box [.val (.string does_4)]), (3, .box [.val (.bool does_5)]), (8, .row kP y_48)], 9⟩ [] (by kernel_rfl) rfl rfl ap0 ?_
      refine V_ghost [.shut 8] 9 hn [1, 8] [0, 1, 2, 3] ⟨[(1, cS s_2), (8, .c (.imm (.slice kP) y_48))], [(0, .row kP l_1), (1, .box [.val (.bool does_3)]), (2, .box [.val (.string does_4)]), (3, .box [.val (.bool does_5)])], 9⟩ (by kernel_rfl) rfl rfl ?_
      obtain ⟨r_35, h_36, H_57⟩ := of_bind H_47
      refine V_reg hN hn [(2, ⟨39, 0, [.c (.imm (.slice kP) y_48), cS s_2], [], .tup [(false, [.h 3]), (false, [.val (.int .i64 r_35.2)])], [(3, .row kP r_35.1)], [(3, 9)], 10⟩)] [] (calls_cons (region_Make_spec K y_48 s_2 r_35 h_36) (by kernel_rfl) calls_nil) 9 [6, 7] [0, 1, 2, 3, 9] ⟨[(6, .c (.h 9)), (7, cI r_35.2)], [(0, .row kP l_1), (1, .box [.val (.bool does_3)]), (2, .box [.val (.string does_4)]), (3, .box [.val (.bool does_5)]), (9, .row kP r_35.1)], 10⟩ [] (by kernel_rfl) rfl rfl ap0 (by kernel_rfl) (by kernel_rfl) ?_
      have H_58 := Option.some.inj (show some (r_35.1, r_35.2) = some r from H_57); subst H_58
      refine VL_ret ?_
      exact P_to [(6, .c (.h 10)), (7, cI r_35.2)] [(0, .row kP l_1), (1, .box [.val (.bool does_3)]), (2, .box [.val (.string does_4)]), (3, .box [.val (.bool does_5)]), (10, .row kP r_35.1)] [(10, 9)] hn (by kernel_rfl) (by kernel_rfl) rfl rfl rfl (QF_retS (by kernel_rfl) (by kernel_rfl) rfl)

theorem carets_Step_rggg_spec (K : Nat) (l_1 : (List (Int × Int))) (s_2 : ByteArray) (right_3 : Bool) (keep_4 : Bool) (r : ((List (Int × Int)) × Int)) (H : carets_Step_rggg K l_1 s_2 right_3 keep_4 = some r) : Spec Try.prog 10 1 [.c (.h 0), cS s_2, cB right_3, cB keep_4] [(0, .row kP l_1)] (.tup [(false, [.h 4]), (false, [.val (.int .i64 r.2)])]) [(0, .row kP l_1), (4, .row kP r.1)] := by
  refine Spec_mk (fn := Try.f10) (c := (Try.f10.body).get!) Try.func10 (by kernel_rfl) rfl ?_
  intro C hN hn
  replace hN : C.N = 16 := hN
  unfold carets_Step_rggg at H
  refine V_run hN hn 3 1 [0, 5, 6, 7] [0, 1, 2, 3] ⟨[(0, .c (.h 0)), (5, .c (.h 1)), (6, .c (.h 2)), (7, .c (.h 3))], [(0, .row kP l_1), (1, .box [.val (.string s_2)]), (2, .box [.val (.bool right_3)]), (3, .box [.val (.bool keep_4)])], 4⟩ [] (by kernel_rfl) rfl rfl ap0 ?_
  obtain ⟨r_6, h_7, H_11⟩ := of_bind H
  refine V_reg hN hn [(3, ⟨27, 4, [.c (.h 0), cS s_2, .c (.clo 28 [1, 2, 3])], [(0, .row kP l_1), (1, .box [.val (.bool right_3)]), (2, .box [.val (.string s_2)]), (3, .box [.val (.bool keep_4)])], .tup [(false, [.h 10]), (false, [.val (.int .i64 r_6.2)])], [(0, .row kP l_1), (1, .box [.val (.bool right_3)]), (2, .box [.val (.string s_2)]), (3, .box [.val (.bool keep_4)]), (10, .row kP r_6.1)], [(0, 0), (1, 2), (2, 1), (3, 3), (10, 4)], 5⟩)] [] (calls_cons (carets_each_rgccaretsStep1_9ca73_spec K l_1 s_2 right_3 s_2 keep_4 r_6 h_7) (by kernel_rfl) calls_nil) 4 [8, 9] [0, 4] ⟨[(8, .c (.h 4)), (9, cI r_6.2)], [(0, .row kP l_1), (4, .row kP r_6.1)], 5⟩ [] (by kernel_rfl) rfl rfl ap0 (by kernel_rfl) (by kernel_rfl) ?_
  have H_12 := Option.some.inj (show some (r_6.1, r_6.2) = some r from H_11); subst H_12
  refine VL_ret ?_
  exact P_to [(8, .c (.h 4)), (9, cI r_6.2)] [(0, .row kP l_1), (4, .row kP r_6.1)] [(4, 4)] hn (by kernel_rfl) (by kernel_rfl) rfl rfl rfl (QF_retS (by kernel_rfl) (by kernel_rfl) rfl)

theorem bytealg_LastIndexByteString_spec (K : Nat) (s_1 : ByteArray) (c_2 : Int) (r : Int) (H : bytealg_LastIndexByteString K s_1 c_2 = some r) : Spec Try.prog 42 0 [cS s_1, .c (.val (.int .u8 c_2))] [] (cI r) [] := by
  refine Spec_mk (fn := Try.f42) (c := (Try.f42.body).get!) Try.func42 (by kernel_rfl) rfl ?_
  intro C hN hn
  replace hN : C.N = 19 := hN
  unfold bytealg_LastIndexByteString at H
  refine V_run hN hn 5 0 [0, 1, 5] [] ⟨[(0, cS s_1), (1, .c (.val (.int .u8 c_2))), (5, cI (w6 ((((ByteArray.size s_1) : Nat) : Int) - (1 : Int))))], [], 0⟩ [] (by kernel_rfl) rfl rfl ap0 ?_
  refine VL_block ?_
  refine V_to [(0, cS s_1), (1, .c (.val (.int .u8 c_2))), (5, cI (w6 ((((ByteArray.size s_1) : Nat) : Int) - (1 : Int))))] [] [] hn (by kernel_rfl) (by kernel_rfl) rfl rfl rfl ?_
  refine VL_loop (X := Int) (fun x => [(0, cS s_1), (1, .c (.val (.int .u8 c_2))), (5, cI x)]) (fun x => []) (fun k x => bytealg_LastIndexByteString.l0 K s_1 c_2 k x = some r) K (w6 ((((ByteArray.size s_1) : Nat) : Int) - (1 : Int))) H (fun _ h => no_none h) ?_
  intro k_5 i_4 H_16
  have H_17 : bytealg_LastIndexByteString.l0 K s_1 c_2 (k_5 + 1) i_4 = some r := H_16
  rw [bytealg_LastIndexByteString.l0] at H_17
  refine V_run hN hn 3 0 [0, 1, 5, 10] [] ⟨[(0, cS s_1), (1, .c (.val (.int .u8 c_2))), (5, cI i_4), (10, cB (decide (i_4 ≥ (0 : Int))))], [], 0⟩ [] (by kernel_rfl) rfl rfl ap0 ?_
  refine VL_cond ((decide (i_4 ≥ (0 : Int)))) (by kernel_rfl) ?_ ?_
  · intro b_7; have H_18 := of_t H_17 b_7
    refine V_run hN hn 2 0 [0, 1, 5, 10] [] ⟨[(0, cS s_1), (1, .c (.val (.int .u8 c_2))), (5, cI i_4), (10, cB (decide (i_4 ≥ (0 : Int))))], [], 0⟩ [] (by kernel_rfl) rfl rfl ap0 ?_
    refine VL_block ?_
    obtain ⟨c_9, H_20⟩ := of_if H_18
    refine V_run hN hn 2 0 [0, 1, 5, 17] [] ⟨[(0, cS s_1), (1, .c (.val (.int .u8 c_2))), (5, cI i_4), (17, cB ((bt s_1 i_4) == c_2))], [], 0⟩ [0 ≤ i_4, i_4 < (((ByteArray.size s_1) : Nat) : Int)] (by kernel_rfl) rfl rfl (ap2 c_9.1 (ap1 c_9.2)) ?_
    refine VL_cond (((bt s_1 i_4) == c_2)) (by kernel_rfl) ?_ ?_
    · intro b_10; have H_21 := of_t H_20 b_10
      refine V_run hN hn 2 0 [4] [] ⟨[(4, cI i_4)], [], 0⟩ [] (by kernel_rfl) rfl rfl ap0 ?_
      have H_23 := Option.some.inj (show some i_4 = some r from H_21); subst H_23
      refine VL_ret ?_
      refine QB_ret ?_
      refine QL_ret ?_
      refine QB_ret ?_
      exact P_to [(4, cI i_4)] [] [] hn (by kernel_rfl) (by kernel_rfl) rfl rfl rfl (QF_retS (by kernel_rfl) (by kernel_rfl) rfl)
    · intro b_10; have H_22 := of_f H_20 b_10
      refine V_run hN hn 1 0 [0, 1, 5, 17] [] ⟨[(0, cS s_1), (1, .c (.val (.int .u8 c_2))), (5, cI i_4), (17, cB ((bt s_1 i_4) == c_2))], [], 0⟩ [] (by kernel_rfl) rfl rfl ap0 ?_
      refine VL_nil (QB_end ?_)
      refine V_run hN hn 1 0 [0, 1, 5] [] ⟨[(0, cS s_1), (1, .c (.val (.int .u8 c_2))), (5, cI (w6 (i_4 - (1 : Int))))], [], 0⟩ [] (by kernel_rfl) rfl rfl ap0 ?_
      refine VL_nil ?_
      exact V_roundEnd (w6 (i_4 - (1 : Int))) H_22 [] hn (by kernel_rfl) (by kernel_rfl) rfl rfl rfl
  · intro b_7; have H_19 := of_f H_17 b_7
    refine VL_exit ?_
    refine QL_exit ?_
    refine QB_here ?_
    refine V_run hN hn 2 0 [4] [] ⟨[(4, cI (-1 : Int))], [], 0⟩ [] (by kernel_rfl) rfl rfl ap0 ?_
    have H_24 := Option.some.inj (show some (-1 : Int) = some r from H_19); subst H_24
    refine VL_ret ?_
    exact P_to [(4, cI (-1 : Int))] [] [] hn (by kernel_rfl) (by kernel_rfl) rfl rfl rfl (QF_retS (by kernel_rfl) (by kernel_rfl) rfl)

theorem strings_LastIndexByte_spec (K : Nat) (s_1 : ByteArray) (c_2 : Int) (r : Int) (H : strings_LastIndexByte K s_1 c_2 = some r) : Spec Try.prog 35 0 [cS s_1, .c (.val (.int .u8 c_2))] [] (cI r) [] := by
  refine Spec_mk (fn := Try.f35) (c := (Try.f35.body).get!) Try.func35 (by kernel_rfl) rfl ?_
  intro C hN hn
  replace hN : C.N = 8 := hN
  unfold strings_LastIndexByte at H
  refine V_run hN hn 3 0 [0, 1] [] ⟨[(0, cS s_1), (1, .c (.val (.int .u8 c_2)))], [], 0⟩ [] (by kernel_rfl) rfl rfl ap0 ?_
  obtain ⟨r_4, h_5, H_8⟩ := of_bind H
  refine V_reg hN hn [(2, ⟨42, 0, [cS s_1, .c (.val (.int .u8 c_2))], [], cI r_4, [], [], 0⟩)] [] (calls_cons (bytealg_LastIndexByteString_spec K s_1 c_2 r_4 h_5) (by kernel_rfl) calls_nil) 0 [4] [] ⟨[(4, cI r_4)], [], 0⟩ [] (by kernel_rfl) rfl rfl ap0 (by kernel_rfl) (by kernel_rfl) ?_
  have H_9 := Option.some.inj (show some r_4 = some r from H_8); subst H_9
  refine VL_ret ?_
  exact P_to [(4, cI r_4)] [] [] hn (by kernel_rfl) (by kernel_rfl) rfl rfl rfl (QF_retS (by kernel_rfl) (by kernel_rfl) rfl)

def ixbRen : Go.Shelf.Ren := ⟨fun n => match n with | 137 => 36 | 217 => 43 | 266 => 52 | n => n, fun n => match n with | 3 => 3 | 5 => 5 | 9 => 9 | n => n, fun n => n⟩

theorem ixbLays : Lays.n137 Try.prog ixbRen where
  mixed := by kernel_rfl
  f137 := by kernel_rfl
  f217 := by kernel_rfl
  f266 := by kernel_rfl
  t3 := by kernel_rfl
  a3 := fun _ => by kernel_rfl
  z3 := fun _ => by kernel_rfl
  v3 := fun _ => by kernel_rfl
  t5 := by kernel_rfl
  a5 := fun _ => by kernel_rfl
  z5 := fun _ => by kernel_rfl
  v5 := fun _ => by kernel_rfl
  t9 := by kernel_rfl
  a9 := fun _ => by kernel_rfl
  z9 := fun _ => by kernel_rfl
  v9 := fun _ => by kernel_rfl

theorem strings_IndexByte_spec (K : Nat) (s_1 : ByteArray) (c_2 : Int) (r : Int) (H : strings_IndexByte K s_1 c_2 = some r) : Spec Try.prog 36 0 [.c (.val (.string s_1)), .c (.val (.int .u8 c_2))] [] (.c (.val (.int .i64 r))) [] := by
  unfold strings_IndexByte at H
  have e := Option.some.inj H
  subst e
  exact IndexByte_spec ixbLays s_1 c_2

theorem carets_Lines_1_sggb_5389a_spec (K : Nat) (r_1 : Int) (r_2 : Int) (p_3 : ByteArray) (r : (Int × Int)) (H : carets_Lines_1_sggb_5389a K r_1 r_2 p_3 = some r) : Spec Try.prog 33 1 [.agg [.val (.int .i64 r_1), .val (.int .i64 r_2)], .c (.h 0)] [(0, .box [.val (.string p_3)])] (.agg [.val (.int .i64 r.1), .val (.int .i64 r.2)]) [(0, .box [.val (.string p_3)])] := by
  refine Spec_mk (fn := Try.f33) (c := (Try.f33.body).get!) Try.func33 (by kernel_rfl) rfl ?_
  intro C hN hn
  replace hN : C.N = 32 := hN
  unfold carets_Lines_1_sggb_5389a at H
  refine V_run hN hn 3 1 [1, 2, 3] [0, 1, 2] ⟨[(1, .c (.h 0)), (2, .c (.h 1)), (3, .c (.h 2))], [(0, .box [.val (.string p_3)]), (1, .box [.val (.int .i64 r_1), .val (.int .i64 r_2)]), (2, .box [.val (.int .i64 (0 : Int)), .val (.int .i64 (0 : Int))])], 3⟩ [] (by kernel_rfl) rfl rfl ap0 ?_
  obtain ⟨r_5, h_6, H_22⟩ := of_bind H
  refine V_reg hN hn [(1, ⟨34, 0, [.agg [.val (.int .i64 r_1), .val (.int .i64 r_2)]], [], .agg [.val (.int .i64 r_5.1), .val (.int .i64 r_5.2)], [], [], 3⟩)] [] (calls_cons (region_Span_spec K r_1 r_2 r_5 h_6) (by kernel_rfl) calls_nil) 3 [1, 3, 4] [0, 2, 3] ⟨[(1, .c (.h 0)), (3, .c (.h 2)), (4, .c (.h 3))], [(0, .box [.val (.string p_3)]), (2, .box [.val (.int .i64 (0 : Int)), .val (.int .i64 (0 : Int))]), (3, .box [.val (.int .i64 r_5.1), .val (.int .i64 r_5.2)])], 4⟩ [] (by kernel_rfl) rfl rfl ap0 (by kernel_rfl) (by kernel_rfl) ?_
  refine V_run hN hn 1 4 [1, 3, 4] [0, 2, 3] ⟨[(1, .c (.h 0)), (3, .c (.h 2)), (4, .c (.h 3))], [(0, .box [.val (.string p_3)]), (2, .box [.val (.int .i64 (0 : Int)), .val (.int .i64 (0 : Int))]), (3, .box [.val (.int .i64 r_5.1), .val (.int .i64 r_5.2)])], 4⟩ [] (by kernel_rfl) rfl rfl ap0 ?_
  obtain ⟨r_9, h_10, H_23⟩ := of_bind H_22
  obtain ⟨c_11, H_24⟩ := of_if H_23
  refine V_reg hN hn [(4, ⟨35, 0, [cS (ByteArray.extract p_3 0 (Int.toNat r_5.1)), .c (.val (.int .u8 (10 : Int)))], [], cI r_9, [], [], 4⟩)] [] (calls_cons (strings_LastIndexByte_spec K (ByteArray.extract p_3 0 (Int.toNat r_5.1)) (10 : Int) r_9 h_10) (by kernel_rfl) calls_nil) 4 [1, 3, 4, 5] [0, 2, 3] ⟨[(1, .c (.h 0)), (3, .c (.h 2)), (4, .c (.h 3)), (5, cI (w6 (r_9 + (1 : Int))))], [(0, .box [.val (.string p_3)]), (2, .box [.val (.int .i64 (0 : Int)), .val (.int .i64 (0 : Int))]), (3, .box [.val (.int .i64 r_5.1), .val (.int .i64 r_5.2)])], 4⟩ [(0 : Int) ≤ r_5.1, r_5.1 ≤ (((ByteArray.size p_3) : Nat) : Int)] (by kernel_rfl) rfl rfl (ap2 c_11.1 (ap1 c_11.2)) (by kernel_rfl) (by kernel_rfl) ?_
  refine V_run hN hn 4 4 [1, 3, 4, 5, 6] [0, 2, 3] ⟨[(1, .c (.h 0)), (3, .c (.h 2)), (4, .c (.h 3)), (5, cI (w6 (r_9 + (1 : Int)))), (6, cI (((ByteArray.size p_3) : Nat) : Int))], [(0, .box [.val (.string p_3)]), (2, .box [.val (.int .i64 (0 : Int)), .val (.int .i64 (0 : Int))]), (3, .box [.val (.int .i64 r_5.1), .val (.int .i64 r_5.2)])], 4⟩ [] (by kernel_rfl) rfl rfl ap0 ?_
  obtain ⟨r_13, h_14, H_25⟩ := of_bind H_24
  obtain ⟨c_15, H_26⟩ := of_if H_25
  refine V_reg hN hn [(4, ⟨36, 0, [cS (ByteArray.extract p_3 (Int.toNat r_5.2) (ByteArray.size p_3)), .c (.val (.int .u8 (10 : Int)))], [], cI r_13, [], [], 4⟩)] [] (calls_cons (strings_IndexByte_spec K (ByteArray.extract p_3 (Int.toNat r_5.2) (ByteArray.size p_3)) (10 : Int) r_13 h_14) (by kernel_rfl) calls_nil) 4 [3, 4, 5, 6, 7] [0, 2, 3] ⟨[(3, .c (.h 2)), (4, .c (.h 3)), (5, cI (w6 (r_9 + (1 : Int)))), (6, cI (((ByteArray.size p_3) : Nat) : Int)), (7, cI r_13)], [(0, .box [.val (.string p_3)]), (2, .box [.val (.int .i64 (0 : Int)), .val (.int .i64 (0 : Int))]), (3, .box [.val (.int .i64 r_5.1), .val (.int .i64 r_5.2)])], 4⟩ [(0 : Int) ≤ r_5.2, r_5.2 ≤ (((ByteArray.size p_3) : Nat) : Int)] (by kernel_rfl) rfl rfl (ap2 c_15.1 (ap1 c_15.2)) (by kernel_rfl) (by kernel_rfl) ?_
  refine V_run hN hn 2 4 [3, 4, 5, 6, 7, 24] [0, 2, 3] ⟨[(3, .c (.h 2)), (4, .c (.h 3)), (5, cI (w6 (r_9 + (1 : Int)))), (6, cI (((ByteArray.size p_3) : Nat) : Int)), (7, cI r_13), (24, cB (decide (r_13 ≥ (0 : Int))))], [(0, .box [.val (.string p_3)]), (2, .box [.val (.int .i64 (0 : Int)), .val (.int .i64 (0 : Int))]), (3, .box [.val (.int .i64 r_5.1), .val (.int .i64 r_5.2)])], 4⟩ [] (by kernel_rfl) rfl rfl ap0 ?_
  refine VL_cond ((decide (r_13 ≥ (0 : Int)))) (by kernel_rfl) ?_ ?_
  · intro b_17; have H_27 := of_t H_26 b_17
    refine V_run hN hn 3 4 [3] [0, 2] ⟨[(3, .c (.h 2))], [(0, .box [.val (.string p_3)]), (2, .box [.val (.int .i64 (w6 (r_9 + (1 : Int)))), .val (.int .i64 (w6 (r_5.2 + r_13)))])], 4⟩ [] (by kernel_rfl) rfl rfl ap0 ?_
    have H_29 := Option.some.inj (show some ((w6 (r_9 + (1 : Int))), (w6 (r_5.2 + r_13))) = some r from H_27); subst H_29
    refine VL_ret ?_
    exact P_to [(3, .c (.h 2))] [(0, .box [.val (.string p_3)]), (2, .box [.val (.int .i64 (w6 (r_9 + (1 : Int)))), .val (.int .i64 (w6 (r_5.2 + r_13)))])] [(2, 2)] hn (by kernel_rfl) (by kernel_rfl) rfl rfl rfl (QF_retS (by kernel_rfl) (by kernel_rfl) rfl)
  · intro b_17; have H_28 := of_f H_26 b_17
    refine V_run hN hn 3 4 [3] [0, 2] ⟨[(3, .c (.h 2))], [(0, .box [.val (.string p_3)]), (2, .box [.val (.int .i64 (w6 (r_9 + (1 : Int)))), .val (.int .i64 (((ByteArray.size p_3) : Nat) : Int))])], 4⟩ [] (by kernel_rfl) rfl rfl ap0 ?_
    have H_30 := Option.some.inj (show some ((w6 (r_9 + (1 : Int))), (((ByteArray.size p_3) : Nat) : Int)) = some r from H_28); subst H_30
    refine VL_ret ?_
    exact P_to [(3, .c (.h 2))] [(0, .box [.val (.string p_3)]), (2, .box [.val (.int .i64 (w6 (r_9 + (1 : Int)))), .val (.int .i64 (((ByteArray.size p_3) : Nat) : Int))])] [(2, 2)] hn (by kernel_rfl) (by kernel_rfl) rfl rfl rfl (QF_retS (by kernel_rfl) (by kernel_rfl) rfl)

end Go.Pal
