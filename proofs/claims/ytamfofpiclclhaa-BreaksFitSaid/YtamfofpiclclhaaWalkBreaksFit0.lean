/- The Go functions that BreaksFit reaches compute what the plain functions say: part 0, printed by a program of this workplace. -/
import Derived.Test.YtamfofpiclclhaaChecked
import Derived.Test.YtamfofpiclclhaaFunBreaksFit
namespace Go.Pal
open Go Go.Proofs
set_option maxRecDepth 100000
set_option linter.unusedVariables false

theorem breaks_Is_ng_spec (K : Nat) (n_2 : Int) (r : Bool) (H : breaks_Is_ng K ([] : (List Int)) n_2 = some r) : Spec Try.prog 14 0 [.c (.val (.slice none 0 0)), .c (.val (.int .i64 n_2))] [] (.c (.val (.bool r))) [] := by
  refine Spec_mk (fn := Try.f14) (c := (Try.f14.body).get!) Try.func14 (by kernel_rfl) rfl ?_
  intro C hN hn
  replace hN : C.N = 40 := hN
  unfold breaks_Is_ng at H
  refine V_run hN hn 7 0 [0, 1, 9, 10, 11] [] ⟨[(0, .c (.val (.slice none 0 0))), (1, .c (.val (.int .i64 (mn2 n_2 (20000 : Int))))), (9, .c (.val (.slice none 0 0))), (10, .c (.val (.int .i64 (((List.length ([] : (List Int))) : Nat) : Int)))), (11, .c (.val (.int .i64 (0 : Int))))], [], 0⟩ [] (by kernel_rfl) rfl rfl ap0 ?_
  refine VL_block ?_
  refine V_to [(0, .c (.val (.slice none 0 0))), (1, .c (.val (.int .i64 (mn2 n_2 (20000 : Int))))), (9, .c (.val (.slice none 0 0))), (10, .c (.val (.int .i64 (((List.length ([] : (List Int))) : Nat) : Int)))), (11, .c (.val (.int .i64 (0 : Int))))] [] [] hn (by kernel_rfl) (by kernel_rfl) rfl rfl rfl ?_
  refine VL_loop (X := Int) (fun x => [(0, .c (.val (.slice none 0 0))), (1, .c (.val (.int .i64 (mn2 n_2 (20000 : Int))))), (9, .c (.val (.slice none 0 0))), (10, .c (.val (.int .i64 (((List.length ([] : (List Int))) : Nat) : Int)))), (11, .c (.val (.int .i64 x)))]) (fun x => []) (fun k x => breaks_Is_ng.l0 K ([] : (List Int)) n_2 k x = some r) K (0 : Int) H (fun _ h => no_none h) ?_
  intro k_5 t_4 H_26
  have H_27 : breaks_Is_ng.l0 K ([] : (List Int)) n_2 (k_5 + 1) t_4 = some r := H_26
  rw [breaks_Is_ng.l0] at H_27
  refine V_run hN hn 3 0 [0, 1, 9, 10, 11, 12] [] ⟨[(0, .c (.val (.slice none 0 0))), (1, .c (.val (.int .i64 (mn2 n_2 (20000 : Int))))), (9, .c (.val (.slice none 0 0))), (10, .c (.val (.int .i64 (((List.length ([] : (List Int))) : Nat) : Int)))), (11, .c (.val (.int .i64 t_4))), (12, .c (.val (.bool (decide (t_4 < (((List.length ([] : (List Int))) : Nat) : Int))))))], [], 0⟩ [] (by kernel_rfl) rfl rfl ap0 ?_
  refine VL_cond ((decide (t_4 < (((List.length ([] : (List Int))) : Nat) : Int)))) (by kernel_rfl) ?_ ?_
  · intro b_7; have H_28 := of_t H_27 b_7
    refine V_run hN hn 2 0 [0, 1, 9, 10, 11, 12] [] ⟨[(0, .c (.val (.slice none 0 0))), (1, .c (.val (.int .i64 (mn2 n_2 (20000 : Int))))), (9, .c (.val (.slice none 0 0))), (10, .c (.val (.int .i64 (((List.length ([] : (List Int))) : Nat) : Int)))), (11, .c (.val (.int .i64 t_4))), (12, .c (.val (.bool (decide (t_4 < (((List.length ([] : (List Int))) : Nat) : Int))))))], [], 0⟩ [] (by kernel_rfl) rfl rfl ap0 ?_
    refine VL_block ?_
    obtain ⟨c_9, H_30⟩ := of_if H_28
    refine V_run hN hn 3 0 [0, 1, 5, 6, 9, 10, 11] [] ⟨[(0, .c (.val (.slice none 0 0))), (1, .c (.val (.int .i64 (mn2 n_2 (20000 : Int))))), (5, .c (.val (.int .i64 t_4))), (6, .c (.val (.int .i64 (List.getD ([] : (List Int)) (Int.toNat t_4) (0 : Int))))), (9, .c (.val (.slice none 0 0))), (10, .c (.val (.int .i64 (((List.length ([] : (List Int))) : Nat) : Int)))), (11, .c (.val (.int .i64 t_4)))], [], 0⟩ [0 ≤ t_4, t_4 < (((List.length ([] : (List Int))) : Nat) : Int)] (by kernel_rfl) rfl rfl (ap2 c_9.1 (ap1 c_9.2)) ?_
    obtain ⟨q_31, H_32, H_33⟩ := of_bind H_30
    refine V_cut (Y := Bool) (R := Bool) q_31 (fun y => y) (fun y => [(0, .c (.val (.slice none 0 0))), (1, .c (.val (.int .i64 (mn2 n_2 (20000 : Int))))), (9, .c (.val (.slice none 0 0))), (10, .c (.val (.int .i64 (((List.length ([] : (List Int))) : Nat) : Int)))), (11, .c (.val (.int .i64 t_4))), (35, .c (.val (.bool y)))]) (fun y => []) ?_ ?_
    · skip
      rcases Bool.eq_false_or_eq_true ((decide ((List.getD ([] : (List Int)) (Int.toNat t_4) (0 : Int)) ≤ (0 : Int)))) with b_10 | b_10
      · have H_35 := of_t H_32 b_10
        refine V_reg hN hn [] [(18, true)] calls_nil 0 [0, 1, 9, 10, 11, 35] [] ⟨[(0, .c (.val (.slice none 0 0))), (1, .c (.val (.int .i64 (mn2 n_2 (20000 : Int))))), (9, .c (.val (.slice none 0 0))), (10, .c (.val (.int .i64 (((List.length ([] : (List Int))) : Nat) : Int)))), (11, .c (.val (.int .i64 t_4))), (35, .c (.val (.bool true)))], [], 0⟩ [(decide ((List.getD ([] : (List Int)) (Int.toNat t_4) (0 : Int)) ≤ (0 : Int))) = true] (by kernel_rfl) rfl rfl (ap1 b_10) (by kernel_rfl) (by kernel_rfl) ?_
        have H_37 := Option.some.inj (show some true = some q_31 from H_35); subst H_37
        refine VL_nil ?_
        exact QP_end true rfl [] hn (by kernel_rfl) (by kernel_rfl) rfl rfl rfl
      · have H_36 := of_f H_32 b_10
        rcases Bool.eq_false_or_eq_true ((decide ((List.getD ([] : (List Int)) (Int.toNat t_4) (0 : Int)) ≥ (mn2 n_2 (20000 : Int))))) with b_12 | b_12
        · have H_38 := of_t H_36 b_12
          refine V_reg hN hn [] [(18, false), (23, true)] calls_nil 0 [0, 1, 9, 10, 11, 35] [] ⟨[(0, .c (.val (.slice none 0 0))), (1, .c (.val (.int .i64 (mn2 n_2 (20000 : Int))))), (9, .c (.val (.slice none 0 0))), (10, .c (.val (.int .i64 (((List.length ([] : (List Int))) : Nat) : Int)))), (11, .c (.val (.int .i64 t_4))), (35, .c (.val (.bool true)))], [], 0⟩ [(decide ((List.getD ([] : (List Int)) (Int.toNat t_4) (0 : Int)) ≤ (0 : Int))) = false, (decide ((List.getD ([] : (List Int)) (Int.toNat t_4) (0 : Int)) ≥ (mn2 n_2 (20000 : Int)))) = true] (by kernel_rfl) rfl rfl (ap2 b_10 (ap1 b_12)) (by kernel_rfl) (by kernel_rfl) ?_
          have H_40 := Option.some.inj (show some true = some q_31 from H_38); subst H_40
          refine VL_nil ?_
          exact QP_end true rfl [] hn (by kernel_rfl) (by kernel_rfl) rfl rfl rfl
        · have H_39 := of_f H_36 b_12
          rcases Bool.eq_false_or_eq_true ((decide (t_4 > (0 : Int)))) with b_14 | b_14
          · have H_41 := of_t H_39 b_14
            obtain ⟨c_15, H_43⟩ := of_if H_41
            refine V_reg hN hn [] [(18, false), (23, false), (26, true)] calls_nil 0 [0, 1, 9, 10, 11, 35] [] ⟨[(0, .c (.val (.slice none 0 0))), (1, .c (.val (.int .i64 (mn2 n_2 (20000 : Int))))), (9, .c (.val (.slice none 0 0))), (10, .c (.val (.int .i64 (((List.length ([] : (List Int))) : Nat) : Int)))), (11, .c (.val (.int .i64 t_4))), (35, .c (.val (.bool (decide ((List.getD ([] : (List Int)) (Int.toNat t_4) (0 : Int)) ≤ (List.getD ([] : (List Int)) (Int.toNat (IntKind.wrap .i64 (t_4 - (1 : Int)))) (0 : Int)))))))], [], 0⟩ [(decide ((List.getD ([] : (List Int)) (Int.toNat t_4) (0 : Int)) ≤ (0 : Int))) = false, (decide ((List.getD ([] : (List Int)) (Int.toNat t_4) (0 : Int)) ≥ (mn2 n_2 (20000 : Int)))) = false, (decide (t_4 > (0 : Int))) = true, 0 ≤ (IntKind.wrap .i64 (t_4 - (1 : Int))), (IntKind.wrap .i64 (t_4 - (1 : Int))) < (((List.length ([] : (List Int))) : Nat) : Int)] (by kernel_rfl) rfl rfl (ap2 b_10 (ap2 b_12 (ap2 b_14 (ap2 c_15.1 (ap1 c_15.2))))) (by kernel_rfl) (by kernel_rfl) ?_
            have H_44 := Option.some.inj (show some (decide ((List.getD ([] : (List Int)) (Int.toNat t_4) (0 : Int)) ≤ (List.getD ([] : (List Int)) (Int.toNat (IntKind.wrap .i64 (t_4 - (1 : Int)))) (0 : Int)))) = some q_31 from H_43); subst H_44
            refine VL_nil ?_
            exact QP_end (decide ((List.getD ([] : (List Int)) (Int.toNat t_4) (0 : Int)) ≤ (List.getD ([] : (List Int)) (Int.toNat (IntKind.wrap .i64 (t_4 - (1 : Int)))) (0 : Int)))) rfl [] hn (by kernel_rfl) (by kernel_rfl) rfl rfl rfl
          · have H_42 := of_f H_39 b_14
            refine V_reg hN hn [] [(18, false), (23, false), (26, false)] calls_nil 0 [0, 1, 9, 10, 11, 35] [] ⟨[(0, .c (.val (.slice none 0 0))), (1, .c (.val (.int .i64 (mn2 n_2 (20000 : Int))))), (9, .c (.val (.slice none 0 0))), (10, .c (.val (.int .i64 (((List.length ([] : (List Int))) : Nat) : Int)))), (11, .c (.val (.int .i64 t_4))), (35, .c (.val (.bool false)))], [], 0⟩ [(decide ((List.getD ([] : (List Int)) (Int.toNat t_4) (0 : Int)) ≤ (0 : Int))) = false, (decide ((List.getD ([] : (List Int)) (Int.toNat t_4) (0 : Int)) ≥ (mn2 n_2 (20000 : Int)))) = false, (decide (t_4 > (0 : Int))) = false] (by kernel_rfl) rfl rfl (ap2 b_10 (ap2 b_12 (ap1 b_14))) (by kernel_rfl) (by kernel_rfl) ?_
            have H_45 := Option.some.inj (show some false = some q_31 from H_42); subst H_45
            refine VL_nil ?_
            exact QP_end false rfl [] hn (by kernel_rfl) (by kernel_rfl) rfl rfl rfl
    · intro y_34 hy; subst hy
      skip
      skip
      refine VL_cond (y_34) (by kernel_rfl) ?_ ?_
      · intro b_18; have H_46 := of_t H_33 b_18
        refine V_run hN hn 2 0 [4] [] ⟨[(4, .c (.val (.bool false)))], [], 0⟩ [] (by kernel_rfl) rfl rfl ap0 ?_
        have H_48 := Option.some.inj (show some false = some r from H_46); subst H_48
        refine VL_ret ?_
        refine QB_ret ?_
        refine QL_ret ?_
        refine QB_ret ?_
        exact P_to [(4, .c (.val (.bool false)))] [] [] hn (by kernel_rfl) (by kernel_rfl) rfl rfl rfl (QF_retS (by kernel_rfl) (by kernel_rfl) rfl)
      · intro b_18; have H_47 := of_f H_33 b_18
        refine V_run hN hn 1 0 [0, 1, 9, 10, 11, 35] [] ⟨[(0, .c (.val (.slice none 0 0))), (1, .c (.val (.int .i64 (mn2 n_2 (20000 : Int))))), (9, .c (.val (.slice none 0 0))), (10, .c (.val (.int .i64 (((List.length ([] : (List Int))) : Nat) : Int)))), (11, .c (.val (.int .i64 t_4))), (35, .c (.val (.bool y_34)))], [], 0⟩ [] (by kernel_rfl) rfl rfl ap0 ?_
        refine VL_nil (QB_end ?_)
        refine V_run hN hn 1 0 [0, 1, 9, 10, 11] [] ⟨[(0, .c (.val (.slice none 0 0))), (1, .c (.val (.int .i64 (mn2 n_2 (20000 : Int))))), (9, .c (.val (.slice none 0 0))), (10, .c (.val (.int .i64 (((List.length ([] : (List Int))) : Nat) : Int)))), (11, .c (.val (.int .i64 (IntKind.wrap .i64 (t_4 + (1 : Int))))))], [], 0⟩ [] (by kernel_rfl) rfl rfl ap0 ?_
        refine VL_nil ?_
        exact V_roundEnd (IntKind.wrap .i64 (t_4 + (1 : Int))) H_47 [] hn (by kernel_rfl) (by kernel_rfl) rfl rfl rfl
  · intro b_7; have H_29 := of_f H_27 b_7
    refine VL_exit ?_
    refine QL_exit ?_
    refine QB_here ?_
    refine V_run hN hn 2 0 [4] [] ⟨[(4, .c (.val (.bool (decide ((((List.length ([] : (List Int))) : Nat) : Int) ≤ (60 : Int))))))], [], 0⟩ [] (by kernel_rfl) rfl rfl ap0 ?_
    have H_49 := Option.some.inj (show some (decide ((((List.length ([] : (List Int))) : Nat) : Int) ≤ (60 : Int))) = some r from H_29); subst H_49
    refine VL_ret ?_
    exact P_to [(4, .c (.val (.bool (decide ((((List.length ([] : (List Int))) : Nat) : Int) ≤ (60 : Int))))))] [] [] hn (by kernel_rfl) (by kernel_rfl) rfl rfl rfl (QF_retS (by kernel_rfl) (by kernel_rfl) rfl)

theorem cmp_isNaN_spec (K : Nat) (x_1 : Int) (r : Bool) (H : cmp_isNaN K x_1 = some r) : Spec Try.prog 55 0 [.c (.val (.int .i64 x_1))] [] (.c (.val (.bool r))) [] := by
  refine Spec_mk (fn := Try.f55) (c := (Try.f55.body).get!) Try.func55 (by kernel_rfl) rfl ?_
  intro C hN hn
  replace hN : C.N = 6 := hN
  unfold cmp_isNaN at H
  refine V_run hN hn 4 0 [2] [] ⟨[(2, .c (.val (.bool (x_1 != x_1))))], [], 0⟩ [] (by kernel_rfl) rfl rfl ap0 ?_
  have H_4 := Option.some.inj (show some (x_1 != x_1) = some r from H); subst H_4
  refine VL_ret ?_
  exact P_to [(2, .c (.val (.bool (x_1 != x_1))))] [] [] hn (by kernel_rfl) (by kernel_rfl) rfl rfl rfl (QF_retS (by kernel_rfl) (by kernel_rfl) rfl)

theorem cmp_Less_spec (K : Nat) (x_1 : Int) (y_2 : Int) (r : Bool) (H : cmp_Less K x_1 y_2 = some r) : Spec Try.prog 45 0 [.c (.val (.int .i64 x_1)), .c (.val (.int .i64 y_2))] [] (.c (.val (.bool r))) [] := by
  refine Spec_mk (fn := Try.f45) (c := (Try.f45.body).get!) Try.func45 (by kernel_rfl) rfl ?_
  intro C hN hn
  replace hN : C.N = 17 := hN
  unfold cmp_Less at H
  refine V_run hN hn 3 0 [0, 1] [] ⟨[(0, .c (.val (.int .i64 x_1))), (1, .c (.val (.int .i64 y_2)))], [], 0⟩ [] (by kernel_rfl) rfl rfl ap0 ?_
  obtain ⟨r_4, h_5, H_14⟩ := of_bind H
  rcases Bool.eq_false_or_eq_true (r_4) with b_6 | b_6
  · have H_15 := of_t H_14 b_6
    obtain ⟨r_7, h_8, H_17⟩ := of_bind H_15
    rcases Bool.eq_false_or_eq_true ((!r_7)) with b_9 | b_9
    · have H_18 := of_t H_17 b_9
      refine V_reg hN hn [(1, ⟨55, 0, [.c (.val (.int .i64 x_1))], [], .c (.val (.bool r_4)), [], [], 0⟩), (4, ⟨55, 0, [.c (.val (.int .i64 y_2))], [], .c (.val (.bool r_7)), [], [], 0⟩)] [(7, true), (12, true)] (calls_cons (cmp_isNaN_spec K x_1 r_4 h_5) (by kernel_rfl) (calls_cons (cmp_isNaN_spec K y_2 r_7 h_8) (by kernel_rfl) calls_nil)) 0 [4] [] ⟨[(4, .c (.val (.bool true)))], [], 0⟩ [r_4 = true, (!r_7) = true] (by kernel_rfl) rfl rfl (ap2 b_6 (ap1 b_9)) (by kernel_rfl) (by kernel_rfl) ?_
      have H_20 := Option.some.inj (show some true = some r from H_18); subst H_20
      refine VL_ret ?_
      exact P_to [(4, .c (.val (.bool true)))] [] [] hn (by kernel_rfl) (by kernel_rfl) rfl rfl rfl (QF_retS (by kernel_rfl) (by kernel_rfl) rfl)
    · have H_19 := of_f H_17 b_9
      refine V_reg hN hn [(1, ⟨55, 0, [.c (.val (.int .i64 x_1))], [], .c (.val (.bool r_4)), [], [], 0⟩), (4, ⟨55, 0, [.c (.val (.int .i64 y_2))], [], .c (.val (.bool r_7)), [], [], 0⟩)] [(7, true), (12, false)] (calls_cons (cmp_isNaN_spec K x_1 r_4 h_5) (by kernel_rfl) (calls_cons (cmp_isNaN_spec K y_2 r_7 h_8) (by kernel_rfl) calls_nil)) 0 [4] [] ⟨[(4, .c (.val (.bool (decide (x_1 < y_2)))))], [], 0⟩ [r_4 = true, (!r_7) = false] (by kernel_rfl) rfl rfl (ap2 b_6 (ap1 b_9)) (by kernel_rfl) (by kernel_rfl) ?_
      have H_21 := Option.some.inj (show some (decide (x_1 < y_2)) = some r from H_19); subst H_21
      refine VL_ret ?_
      exact P_to [(4, .c (.val (.bool (decide (x_1 < y_2)))))] [] [] hn (by kernel_rfl) (by kernel_rfl) rfl rfl rfl (QF_retS (by kernel_rfl) (by kernel_rfl) rfl)
  · have H_16 := of_f H_14 b_6
    refine V_reg hN hn [(1, ⟨55, 0, [.c (.val (.int .i64 x_1))], [], .c (.val (.bool r_4)), [], [], 0⟩)] [(7, false)] (calls_cons (cmp_isNaN_spec K x_1 r_4 h_5) (by kernel_rfl) calls_nil) 0 [4] [] ⟨[(4, .c (.val (.bool (decide (x_1 < y_2)))))], [], 0⟩ [r_4 = false] (by kernel_rfl) rfl rfl (ap1 b_6) (by kernel_rfl) (by kernel_rfl) ?_
    have H_22 := Option.some.inj (show some (decide (x_1 < y_2)) = some r from H_16); subst H_22
    refine VL_ret ?_
    exact P_to [(4, .c (.val (.bool (decide (x_1 < y_2)))))] [] [] hn (by kernel_rfl) (by kernel_rfl) rfl rfl rfl (QF_retS (by kernel_rfl) (by kernel_rfl) rfl)

theorem slices_isNaN_spec (K : Nat) (x_1 : Int) (r : Bool) (H : slices_isNaN K x_1 = some r) : Spec Try.prog 46 0 [.c (.val (.int .i64 x_1))] [] (.c (.val (.bool r))) [] := by
  refine Spec_mk (fn := Try.f46) (c := (Try.f46.body).get!) Try.func46 (by kernel_rfl) rfl ?_
  intro C hN hn
  replace hN : C.N = 6 := hN
  unfold slices_isNaN at H
  refine V_run hN hn 4 0 [2] [] ⟨[(2, .c (.val (.bool (x_1 != x_1))))], [], 0⟩ [] (by kernel_rfl) rfl rfl ap0 ?_
  have H_4 := Option.some.inj (show some (x_1 != x_1) = some r from H); subst H_4
  refine VL_ret ?_
  exact P_to [(2, .c (.val (.bool (x_1 != x_1))))] [] [] hn (by kernel_rfl) (by kernel_rfl) rfl rfl rfl (QF_retS (by kernel_rfl) (by kernel_rfl) rfl)

theorem slices_BinarySearch_ng_spec (K : Nat) (target_2 : Int) (r : (Int × Bool)) (H : slices_BinarySearch_ng K ([] : (List Int)) target_2 = some r) : Spec Try.prog 30 0 [.c (.val (.slice none 0 0)), .c (.val (.int .i64 target_2))] [] (.tup [(false, [.val (.int .i64 r.1)]), (false, [.val (.bool r.2)])]) [] := by
  refine Spec_mk (fn := Try.f30) (c := (Try.f30.body).get!) Try.func30 (by kernel_rfl) rfl ?_
  intro C hN hn
  replace hN : C.N = 54 := hN
  unfold slices_BinarySearch_ng at H
  refine V_run hN hn 7 0 [0, 1, 6, 7, 8] [] ⟨[(0, .c (.val (.slice none 0 0))), (1, .c (.val (.int .i64 target_2))), (6, .c (.val (.int .i64 (((List.length ([] : (List Int))) : Nat) : Int)))), (7, .c (.val (.int .i64 (0 : Int)))), (8, .c (.val (.int .i64 (((List.length ([] : (List Int))) : Nat) : Int))))], [], 0⟩ [] (by kernel_rfl) rfl rfl ap0 ?_
  obtain ⟨q_33, H_34, H_35⟩ := of_bind H
  refine V_cut (Y := Int) (R := Int) q_33 (fun y => y) (fun y => [(0, .c (.val (.slice none 0 0))), (1, .c (.val (.int .i64 target_2))), (6, .c (.val (.int .i64 (((List.length ([] : (List Int))) : Nat) : Int)))), (7, .c (.val (.int .i64 y)))]) (fun y => []) ?_ ?_
  · skip
    refine VL_block ?_
    refine V_to [(0, .c (.val (.slice none 0 0))), (1, .c (.val (.int .i64 target_2))), (6, .c (.val (.int .i64 (((List.length ([] : (List Int))) : Nat) : Int)))), (7, .c (.val (.int .i64 (0 : Int)))), (8, .c (.val (.int .i64 (((List.length ([] : (List Int))) : Nat) : Int))))] [] [] hn (by kernel_rfl) (by kernel_rfl) rfl rfl rfl ?_
    refine VL_loop (X := (Int × Int)) (fun x => [(0, .c (.val (.slice none 0 0))), (1, .c (.val (.int .i64 target_2))), (6, .c (.val (.int .i64 (((List.length ([] : (List Int))) : Nat) : Int)))), (7, .c (.val (.int .i64 x.1))), (8, .c (.val (.int .i64 x.2)))]) (fun x => []) (fun k x => slices_BinarySearch_ng.l0 K ([] : (List Int)) target_2 k x.1 x.2 = some q_33) K ((0 : Int), (((List.length ([] : (List Int))) : Nat) : Int)) H_34 (fun _ h => no_none h) ?_
    intro k_6 x_6 H_37
    obtain ⟨i_4, j_5⟩ := x_6
    have H_38 : slices_BinarySearch_ng.l0 K ([] : (List Int)) target_2 (k_6 + 1) i_4 j_5 = some q_33 := H_37
    rw [slices_BinarySearch_ng.l0] at H_38
    refine V_run hN hn 3 0 [0, 1, 6, 7, 8, 15] [] ⟨[(0, .c (.val (.slice none 0 0))), (1, .c (.val (.int .i64 target_2))), (6, .c (.val (.int .i64 (((List.length ([] : (List Int))) : Nat) : Int)))), (7, .c (.val (.int .i64 i_4))), (8, .c (.val (.int .i64 j_5))), (15, .c (.val (.bool (decide (i_4 < j_5)))))], [], 0⟩ [] (by kernel_rfl) rfl rfl ap0 ?_
    refine VL_cond ((decide (i_4 < j_5))) (by kernel_rfl) ?_ ?_
    · intro b_8; have H_39 := of_t H_38 b_8
      refine V_run hN hn 1 0 [0, 1, 6, 7, 8, 15] [] ⟨[(0, .c (.val (.slice none 0 0))), (1, .c (.val (.int .i64 target_2))), (6, .c (.val (.int .i64 (((List.length ([] : (List Int))) : Nat) : Int)))), (7, .c (.val (.int .i64 i_4))), (8, .c (.val (.int .i64 j_5))), (15, .c (.val (.bool (decide (i_4 < j_5)))))], [], 0⟩ [] (by kernel_rfl) rfl rfl ap0 ?_
      refine VL_block ?_
      refine V_run hN hn 3 0 [0, 1, 6, 7, 8, 9] [] ⟨[(0, .c (.val (.slice none 0 0))), (1, .c (.val (.int .i64 target_2))), (6, .c (.val (.int .i64 (((List.length ([] : (List Int))) : Nat) : Int)))), (7, .c (.val (.int .i64 i_4))), (8, .c (.val (.int .i64 j_5))), (9, .c (.val (.int .i64 (IntKind.wrap .i64 (Int.fdiv (IntKind.wrap .u64 (IntKind.wrap .i64 (i_4 + j_5))) (2 : Int))))))], [], 0⟩ [(0 : Int) ≤ (1 : Int)] (by kernel_rfl) rfl rfl (ap1 (by decide)) ?_
      obtain ⟨r_11, h_12, H_41⟩ := of_bind H_39
      obtain ⟨c_13, H_42⟩ := of_if H_41
      refine V_reg hN hn [(5, ⟨45, 0, [.c (.val (.int .i64 (List.getD ([] : (List Int)) (Int.toNat (IntKind.wrap .i64 (Int.fdiv (IntKind.wrap .u64 (IntKind.wrap .i64 (i_4 + j_5))) (2 : Int)))) (0 : Int)))), .c (.val (.int .i64 target_2))], [], .c (.val (.bool r_11)), [], [], 0⟩)] [] (calls_cons (cmp_Less_spec K (List.getD ([] : (List Int)) (Int.toNat (IntKind.wrap .i64 (Int.fdiv (IntKind.wrap .u64 (IntKind.wrap .i64 (i_4 + j_5))) (2 : Int)))) (0 : Int)) target_2 r_11 h_12) (by kernel_rfl) calls_nil) 0 [0, 1, 6, 7, 8, 9, 27] [] ⟨[(0, .c (.val (.slice none 0 0))), (1, .c (.val (.int .i64 target_2))), (6, .c (.val (.int .i64 (((List.length ([] : (List Int))) : Nat) : Int)))), (7, .c (.val (.int .i64 i_4))), (8, .c (.val (.int .i64 j_5))), (9, .c (.val (.int .i64 (IntKind.wrap .i64 (Int.fdiv (IntKind.wrap .u64 (IntKind.wrap .i64 (i_4 + j_5))) (2 : Int)))))), (27, .c (.val (.bool r_11)))], [], 0⟩ [0 ≤ (IntKind.wrap .i64 (Int.fdiv (IntKind.wrap .u64 (IntKind.wrap .i64 (i_4 + j_5))) (2 : Int))), (IntKind.wrap .i64 (Int.fdiv (IntKind.wrap .u64 (IntKind.wrap .i64 (i_4 + j_5))) (2 : Int))) < (((List.length ([] : (List Int))) : Nat) : Int)] (by kernel_rfl) rfl rfl (ap2 c_13.1 (ap1 c_13.2)) (by kernel_rfl) (by kernel_rfl) ?_
      refine VL_cond (r_11) (by kernel_rfl) ?_ ?_
      · intro b_14; have H_43 := of_t H_42 b_14
        refine V_run hN hn 1 0 [0, 1, 6, 7, 8] [] ⟨[(0, .c (.val (.slice none 0 0))), (1, .c (.val (.int .i64 target_2))), (6, .c (.val (.int .i64 (((List.length ([] : (List Int))) : Nat) : Int)))), (7, .c (.val (.int .i64 (IntKind.wrap .i64 ((IntKind.wrap .i64 (Int.fdiv (IntKind.wrap .u64 (IntKind.wrap .i64 (i_4 + j_5))) (2 : Int))) + (1 : Int)))))), (8, .c (.val (.int .i64 j_5)))], [], 0⟩ [] (by kernel_rfl) rfl rfl ap0 ?_
        refine VL_nil (QB_end ?_)
        refine VL_nil ?_
        exact V_roundEnd ((IntKind.wrap .i64 ((IntKind.wrap .i64 (Int.fdiv (IntKind.wrap .u64 (IntKind.wrap .i64 (i_4 + j_5))) (2 : Int))) + (1 : Int))), j_5) H_43 [] hn (by kernel_rfl) (by kernel_rfl) rfl rfl rfl
      · intro b_14; have H_44 := of_f H_42 b_14
        refine V_run hN hn 1 0 [0, 1, 6, 7, 8] [] ⟨[(0, .c (.val (.slice none 0 0))), (1, .c (.val (.int .i64 target_2))), (6, .c (.val (.int .i64 (((List.length ([] : (List Int))) : Nat) : Int)))), (7, .c (.val (.int .i64 i_4))), (8, .c (.val (.int .i64 (IntKind.wrap .i64 (Int.fdiv (IntKind.wrap .u64 (IntKind.wrap .i64 (i_4 + j_5))) (2 : Int))))))], [], 0⟩ [] (by kernel_rfl) rfl rfl ap0 ?_
        refine VL_nil (QB_end ?_)
        refine VL_nil ?_
        exact V_roundEnd (i_4, (IntKind.wrap .i64 (Int.fdiv (IntKind.wrap .u64 (IntKind.wrap .i64 (i_4 + j_5))) (2 : Int)))) H_44 [] hn (by kernel_rfl) (by kernel_rfl) rfl rfl rfl
    · intro b_8; have H_40 := of_f H_38 b_8
      refine VL_exit ?_
      refine QL_exit ?_
      refine QB_here ?_
      have H_45 := Option.some.inj (show some i_4 = some q_33 from H_40); subst H_45
      refine VL_nil ?_
      exact QP_end i_4 rfl [] hn (by kernel_rfl) (by kernel_rfl) rfl rfl rfl
  · intro y_36 hy; subst hy
    skip
    skip
    refine V_run hN hn 1 0 [0, 1, 6, 7] [] ⟨[(0, .c (.val (.slice none 0 0))), (1, .c (.val (.int .i64 target_2))), (6, .c (.val (.int .i64 (((List.length ([] : (List Int))) : Nat) : Int)))), (7, .c (.val (.int .i64 y_36)))], [], 0⟩ [] (by kernel_rfl) rfl rfl ap0 ?_
    rcases Bool.eq_false_or_eq_true ((decide (y_36 < (((List.length ([] : (List Int))) : Nat) : Int)))) with b_19 | b_19
    · have H_46 := of_t H_35 b_19
      rcases Bool.eq_false_or_eq_true (((List.getD ([] : (List Int)) (Int.toNat y_36) (0 : Int)) == target_2)) with b_20 | b_20
      · have H_48 := of_t H_46 b_20
        obtain ⟨c_21, H_50⟩ := of_if H_48
        refine V_reg hN hn [] [(35, true), (42, true)] calls_nil 0 [4, 5] [] ⟨[(4, .c (.val (.int .i64 y_36))), (5, .c (.val (.bool true)))], [], 0⟩ [(decide (y_36 < (((List.length ([] : (List Int))) : Nat) : Int))) = true, 0 ≤ y_36, y_36 < (((List.length ([] : (List Int))) : Nat) : Int), ((List.getD ([] : (List Int)) (Int.toNat y_36) (0 : Int)) == target_2) = true] (by kernel_rfl) rfl rfl (ap2 b_19 (ap2 c_21.1 (ap2 c_21.2 (ap1 b_20)))) (by kernel_rfl) (by kernel_rfl) ?_
        have H_51 := Option.some.inj (show some (y_36, true) = some r from H_50); subst H_51
        refine VL_ret ?_
        exact P_to [(4, .c (.val (.int .i64 y_36))), (5, .c (.val (.bool true)))] [] [] hn (by kernel_rfl) (by kernel_rfl) rfl rfl rfl (QF_retS (by kernel_rfl) (by kernel_rfl) rfl)
      · have H_49 := of_f H_46 b_20
        obtain ⟨r_22, h_23, H_52⟩ := of_bind H_49
        rcases Bool.eq_false_or_eq_true (r_22) with b_24 | b_24
        · have H_53 := of_t H_52 b_24
          obtain ⟨r_25, h_26, H_55⟩ := of_bind H_53
          obtain ⟨c_27, H_56⟩ := of_if H_55
          refine V_reg hN hn [(16, ⟨46, 0, [.c (.val (.int .i64 (List.getD ([] : (List Int)) (Int.toNat y_36) (0 : Int))))], [], .c (.val (.bool r_22)), [], [], 0⟩), (19, ⟨46, 0, [.c (.val (.int .i64 target_2))], [], .c (.val (.bool r_25)), [], [], 0⟩)] [(35, true), (42, false), (48, true)] (calls_cons (slices_isNaN_spec K (List.getD ([] : (List Int)) (Int.toNat y_36) (0 : Int)) r_22 h_23) (by kernel_rfl) (calls_cons (slices_isNaN_spec K target_2 r_25 h_26) (by kernel_rfl) calls_nil)) 0 [4, 5] [] ⟨[(4, .c (.val (.int .i64 y_36))), (5, .c (.val (.bool r_25)))], [], 0⟩ [(decide (y_36 < (((List.length ([] : (List Int))) : Nat) : Int))) = true, 0 ≤ y_36, y_36 < (((List.length ([] : (List Int))) : Nat) : Int), ((List.getD ([] : (List Int)) (Int.toNat y_36) (0 : Int)) == target_2) = false, 0 ≤ y_36, y_36 < (((List.length ([] : (List Int))) : Nat) : Int), r_22 = true] (by kernel_rfl) rfl rfl (ap2 b_19 (ap2 c_27.1 (ap2 c_27.2 (ap2 b_20 (ap2 c_27.1 (ap2 c_27.2 (ap1 b_24))))))) (by kernel_rfl) (by kernel_rfl) ?_
          have H_57 := Option.some.inj (show some (y_36, r_25) = some r from H_56); subst H_57
          refine VL_ret ?_
          exact P_to [(4, .c (.val (.int .i64 y_36))), (5, .c (.val (.bool r_25)))] [] [] hn (by kernel_rfl) (by kernel_rfl) rfl rfl rfl (QF_retS (by kernel_rfl) (by kernel_rfl) rfl)
        · have H_54 := of_f H_52 b_24
          obtain ⟨c_28, H_58⟩ := of_if H_54
          refine V_reg hN hn [(16, ⟨46, 0, [.c (.val (.int .i64 (List.getD ([] : (List Int)) (Int.toNat y_36) (0 : Int))))], [], .c (.val (.bool r_22)), [], [], 0⟩)] [(35, true), (42, false), (48, false)] (calls_cons (slices_isNaN_spec K (List.getD ([] : (List Int)) (Int.toNat y_36) (0 : Int)) r_22 h_23) (by kernel_rfl) calls_nil) 0 [4, 5] [] ⟨[(4, .c (.val (.int .i64 y_36))), (5, .c (.val (.bool false)))], [], 0⟩ [(decide (y_36 < (((List.length ([] : (List Int))) : Nat) : Int))) = true, 0 ≤ y_36, y_36 < (((List.length ([] : (List Int))) : Nat) : Int), ((List.getD ([] : (List Int)) (Int.toNat y_36) (0 : Int)) == target_2) = false, 0 ≤ y_36, y_36 < (((List.length ([] : (List Int))) : Nat) : Int), r_22 = false] (by kernel_rfl) rfl rfl (ap2 b_19 (ap2 c_28.1 (ap2 c_28.2 (ap2 b_20 (ap2 c_28.1 (ap2 c_28.2 (ap1 b_24))))))) (by kernel_rfl) (by kernel_rfl) ?_
          have H_59 := Option.some.inj (show some (y_36, false) = some r from H_58); subst H_59
          refine VL_ret ?_
          exact P_to [(4, .c (.val (.int .i64 y_36))), (5, .c (.val (.bool false)))] [] [] hn (by kernel_rfl) (by kernel_rfl) rfl rfl rfl (QF_retS (by kernel_rfl) (by kernel_rfl) rfl)
    · have H_47 := of_f H_35 b_19
      refine V_reg hN hn [] [(35, false)] calls_nil 0 [4, 5] [] ⟨[(4, .c (.val (.int .i64 y_36))), (5, .c (.val (.bool false)))], [], 0⟩ [(decide (y_36 < (((List.length ([] : (List Int))) : Nat) : Int))) = false] (by kernel_rfl) rfl rfl (ap1 b_19) (by kernel_rfl) (by kernel_rfl) ?_
      have H_60 := Option.some.inj (show some (y_36, false) = some r from H_47); subst H_60
      refine VL_ret ?_
      exact P_to [(4, .c (.val (.int .i64 y_36))), (5, .c (.val (.bool false)))] [] [] hn (by kernel_rfl) (by kernel_rfl) rfl rfl rfl (QF_retS (by kernel_rfl) (by kernel_rfl) rfl)

def insRen : Go.Shelf.Ren := ⟨fun n => match n with | 21 => 31 | 27 => 47 | 28 => 48 | 35 => 56 | 39 => 59 | n => n, fun n => match n with | 0 => 0 | 3 => 3 | 4 => 4 | 22 => 23 | n => n, fun n => n⟩

theorem insLays : Lays2.n21 Try.prog insRen where
  mixed := by kernel_rfl
  f21 := by kernel_rfl
  f27 := by kernel_rfl
  f28 := by kernel_rfl
  f35 := by kernel_rfl
  f39 := by kernel_rfl
  t0 := by kernel_rfl
  a0 := fun _ => by kernel_rfl
  z0 := fun _ => by kernel_rfl
  v0 := fun _ => by kernel_rfl
  t3 := by kernel_rfl
  a3 := fun _ => by kernel_rfl
  z3 := fun _ => by kernel_rfl
  v3 := fun _ => by kernel_rfl
  t4 := by kernel_rfl
  a4 := fun _ => by kernel_rfl
  z4 := fun _ => by kernel_rfl
  v4 := fun _ => by kernel_rfl
  t22 := by kernel_rfl
  a22 := fun _ => by kernel_rfl
  z22 := fun _ => by kernel_rfl
  v22 := fun _ => by kernel_rfl
  i3 := by kernel_rfl

theorem slices_Insert_rgr_spec (K : Nat) (s_1 : (List Int)) (i_2 : Int) (v_3 : (List Int)) (r : (List Int)) (H : slices_Insert_rgr K s_1 i_2 v_3 = some r) : Spec Try.prog 31 2 [.c (.h 0), .c (.val (.int .i64 i_2)), .c (.h 1)] [(0, .row (.int .i64) s_1), (1, .row (.int .i64) v_3)] (.c (.h 2)) [(2, .row (.int .i64) r)] := by
  unfold slices_Insert_rgr at H
  obtain ⟨c_1, H⟩ := of_if H
  have e := Option.some.inj H
  subst e
  exact Insert_spec insLays s_1 v_3 i_2 c_1.1 c_1.2.1 c_1.2.2.1 c_1.2.2.2

theorem breaks_Put_ng_spec (K : Nat) (at_2 : Int) (r : ((List Int) × Int)) (H : breaks_Put_ng K ([] : (List Int)) at_2 = some r) : Spec Try.prog 18 0 [.c (.val (.slice none 0 0)), .c (.val (.int .i64 at_2))] [] (.tup [(false, [.h 3]), (false, [.val (.int .i64 r.2)])]) [(3, .row (.int .i64) r.1)] := by
  refine Spec_mk (fn := Try.f18) (c := (Try.f18.body).get!) Try.func18 (by kernel_rfl) rfl ?_
  intro C hN hn
  replace hN : C.N = 45 := hN
  unfold breaks_Put_ng at H
  refine V_run hN hn 4 0 [0, 1] [] ⟨[(0, .c (.val (.slice none 0 0))), (1, .c (.val (.int .i64 at_2)))], [], 0⟩ [] (by kernel_rfl) rfl rfl ap0 ?_
  obtain ⟨q_31, H_32, H_33⟩ := of_bind H
  refine V_cut (Y := Bool) (R := Bool) q_31 (fun y => y) (fun y => [(0, .c (.val (.slice none 0 0))), (1, .c (.val (.int .i64 at_2))), (19, .c (.val (.bool y)))]) (fun y => []) ?_ ?_
  · skip
    obtain ⟨r_4, h_5, H_35⟩ := of_bind H_32
    rcases Bool.eq_false_or_eq_true ((!r_4)) with b_6 | b_6
    · have H_36 := of_t H_35 b_6
      refine V_reg hN hn [(1, ⟨14, 0, [.c (.val (.slice none 0 0)), .c (.val (.int .i64 (20000 : Int)))], [], .c (.val (.bool r_4)), [], [], 0⟩)] [(12, true)] (calls_cons (breaks_Is_ng_spec K (20000 : Int) r_4 h_5) (by kernel_rfl) calls_nil) 0 [0, 1, 19] [] ⟨[(0, .c (.val (.slice none 0 0))), (1, .c (.val (.int .i64 at_2))), (19, .c (.val (.bool true)))], [], 0⟩ [(!r_4) = true] (by kernel_rfl) rfl rfl (ap1 b_6) (by kernel_rfl) (by kernel_rfl) ?_
      have H_38 := Option.some.inj (show some true = some q_31 from H_36); subst H_38
      refine VL_nil ?_
      exact QP_end true rfl [] hn (by kernel_rfl) (by kernel_rfl) rfl rfl rfl
    · have H_37 := of_f H_35 b_6
      rcases Bool.eq_false_or_eq_true ((decide (at_2 ≤ (0 : Int)))) with b_8 | b_8
      · have H_39 := of_t H_37 b_8
        refine V_reg hN hn [(1, ⟨14, 0, [.c (.val (.slice none 0 0)), .c (.val (.int .i64 (20000 : Int)))], [], .c (.val (.bool r_4)), [], [], 0⟩)] [(12, false), (16, true)] (calls_cons (breaks_Is_ng_spec K (20000 : Int) r_4 h_5) (by kernel_rfl) calls_nil) 0 [0, 1, 19] [] ⟨[(0, .c (.val (.slice none 0 0))), (1, .c (.val (.int .i64 at_2))), (19, .c (.val (.bool true)))], [], 0⟩ [(!r_4) = false, (decide (at_2 ≤ (0 : Int))) = true] (by kernel_rfl) rfl rfl (ap2 b_6 (ap1 b_8)) (by kernel_rfl) (by kernel_rfl) ?_
        have H_41 := Option.some.inj (show some true = some q_31 from H_39); subst H_41
        refine VL_nil ?_
        exact QP_end true rfl [] hn (by kernel_rfl) (by kernel_rfl) rfl rfl rfl
      · have H_40 := of_f H_37 b_8
        refine V_reg hN hn [(1, ⟨14, 0, [.c (.val (.slice none 0 0)), .c (.val (.int .i64 (20000 : Int)))], [], .c (.val (.bool r_4)), [], [], 0⟩)] [(12, false), (16, false)] (calls_cons (breaks_Is_ng_spec K (20000 : Int) r_4 h_5) (by kernel_rfl) calls_nil) 0 [0, 1, 19] [] ⟨[(0, .c (.val (.slice none 0 0))), (1, .c (.val (.int .i64 at_2))), (19, .c (.val (.bool (decide (at_2 ≥ (20000 : Int))))))], [], 0⟩ [(!r_4) = false, (decide (at_2 ≤ (0 : Int))) = false] (by kernel_rfl) rfl rfl (ap2 b_6 (ap1 b_8)) (by kernel_rfl) (by kernel_rfl) ?_
        have H_42 := Option.some.inj (show some (decide (at_2 ≥ (20000 : Int))) = some q_31 from H_40); subst H_42
        refine VL_nil ?_
        exact QP_end (decide (at_2 ≥ (20000 : Int))) rfl [] hn (by kernel_rfl) (by kernel_rfl) rfl rfl rfl
  · intro y_34 hy; subst hy
    skip
    skip
    refine VL_cond (y_34) (by kernel_rfl) ?_ ?_
    · intro b_12; have H_43 := of_t H_33 b_12
      refine V_run hN hn 2 0 [4, 5] [] ⟨[(4, .c (.val (.slice none 0 0))), (5, .c (.val (.int .i64 (12 : Int))))], [], 0⟩ [] (by kernel_rfl) rfl rfl ap0 ?_
      have H_45 := Option.some.inj (show some (([] : List Int), (12 : Int)) = some r from H_43); subst H_45
      refine VL_ret ?_
      refine P_ghost [.nilSlot 4 (.int .i64)] 0 hn [4, 5] [0] ⟨[(4, .c (.h 0)), (5, .c (.val (.int .i64 (12 : Int))))], [(0, .row (.int .i64) ([] : List Int))], 1⟩ (by kernel_rfl) rfl rfl ?_
      exact P_to [(4, .c (.h 3)), (5, .c (.val (.int .i64 (12 : Int))))] [(3, .row (.int .i64) ([] : List Int))] [(3, 0)] hn (by kernel_rfl) (by kernel_rfl) rfl rfl rfl (QF_retS (by kernel_rfl) (by kernel_rfl) rfl)
    · intro b_12; have H_44 := of_f H_33 b_12
      refine V_run hN hn 2 0 [0, 1, 19] [] ⟨[(0, .c (.val (.slice none 0 0))), (1, .c (.val (.int .i64 at_2))), (19, .c (.val (.bool y_34)))], [], 0⟩ [] (by kernel_rfl) rfl rfl ap0 ?_
      obtain ⟨r_15, h_16, H_46⟩ := of_bind H_44
      refine V_reg hN hn [(2, ⟨30, 0, [.c (.val (.slice none 0 0)), .c (.val (.int .i64 at_2))], [], .tup [(false, [.val (.int .i64 r_15.1)]), (false, [.val (.bool r_15.2)])], [], [], 0⟩)] [] (calls_cons (slices_BinarySearch_ng_spec K at_2 r_15 h_16) (by kernel_rfl) calls_nil) 0 [0, 1, 6, 7] [] ⟨[(0, .c (.val (.slice none 0 0))), (1, .c (.val (.int .i64 at_2))), (6, .c (.val (.int .i64 r_15.1))), (7, .c (.val (.bool r_15.2)))], [], 0⟩ [] (by kernel_rfl) rfl rfl ap0 (by kernel_rfl) (by kernel_rfl) ?_
      obtain ⟨c_18, H_47⟩ := of_if H_46
      refine V_run hN hn 7 0 [0, 1, 6, 8, 35] [0] ⟨[(0, .c (.val (.slice none 0 0))), (1, .c (.val (.int .i64 at_2))), (6, .c (.val (.int .i64 r_15.1))), (8, .c (.h 0)), (35, .c (.val (.bool r_15.2)))], [(0, .row (.int .i64) (putAt (List.replicate (Int.toNat (((List.length ([] : (List Int))) : Nat) : Int)) (0 : Int)) (List.take (List.length (List.replicate (Int.toNat (((List.length ([] : (List Int))) : Nat) : Int)) (0 : Int))) ([] : (List Int))) 0))], 1⟩ [(0 : Int) ≤ (((List.length ([] : (List Int))) : Nat) : Int), (((List.length ([] : (List Int))) : Nat) : Int) ≤ (IntKind.wrap .i64 ((((List.length ([] : (List Int))) : Nat) : Int) + (1 : Int))), (IntKind.wrap .i64 ((((List.length ([] : (List Int))) : Nat) : Int) + (1 : Int))) * 8 ≤ (140737488355328 : Int), (IntKind.wrap .i64 ((((List.length ([] : (List Int))) : Nat) : Int) + (1 : Int))) ≤ (9223372036854775807 : Int)] (by kernel_rfl) rfl rfl (ap2 c_18.1 (ap2 c_18.2.1 (ap2 c_18.2.2.1 (ap1 c_18.2.2.2)))) ?_
      refine VL_cond (r_15.2) (by kernel_rfl) ?_ ?_
      · intro b_19; have H_48 := of_t H_47 b_19
        refine V_run hN hn 2 1 [4, 5] [0] ⟨[(4, .c (.h 0)), (5, .c (.val (.int .i64 (0 : Int))))], [(0, .row (.int .i64) (putAt (List.replicate (Int.toNat (((List.length ([] : (List Int))) : Nat) : Int)) (0 : Int)) (List.take (List.length (List.replicate (Int.toNat (((List.length ([] : (List Int))) : Nat) : Int)) (0 : Int))) ([] : (List Int))) 0))], 1⟩ [] (by kernel_rfl) rfl rfl ap0 ?_
        have H_50 := Option.some.inj (show some ((putAt (List.replicate (Int.toNat (((List.length ([] : (List Int))) : Nat) : Int)) (0 : Int)) (List.take (List.length (List.replicate (Int.toNat (((List.length ([] : (List Int))) : Nat) : Int)) (0 : Int))) ([] : (List Int))) 0), (0 : Int)) = some r from H_48); subst H_50
        refine VL_ret ?_
        exact P_to [(4, .c (.h 3)), (5, .c (.val (.int .i64 (0 : Int))))] [(3, .row (.int .i64) (putAt (List.replicate (Int.toNat (((List.length ([] : (List Int))) : Nat) : Int)) (0 : Int)) (List.take (List.length (List.replicate (Int.toNat (((List.length ([] : (List Int))) : Nat) : Int)) (0 : Int))) ([] : (List Int))) 0))] [(3, 0)] hn (by kernel_rfl) (by kernel_rfl) rfl rfl rfl (QF_retS (by kernel_rfl) (by kernel_rfl) rfl)
      · intro b_19; have H_49 := of_f H_47 b_19
        refine V_run hN hn 4 1 [1, 6, 8, 39] [0] ⟨[(1, .c (.val (.int .i64 at_2))), (6, .c (.val (.int .i64 r_15.1))), (8, .c (.h 0)), (39, .c (.val (.bool (decide ((((List.length ([] : (List Int))) : Nat) : Int) ≥ (60 : Int))))))], [(0, .row (.int .i64) (putAt (List.replicate (Int.toNat (((List.length ([] : (List Int))) : Nat) : Int)) (0 : Int)) (List.take (List.length (List.replicate (Int.toNat (((List.length ([] : (List Int))) : Nat) : Int)) (0 : Int))) ([] : (List Int))) 0))], 1⟩ [] (by kernel_rfl) rfl rfl ap0 ?_
        refine VL_cond ((decide ((((List.length ([] : (List Int))) : Nat) : Int) ≥ (60 : Int)))) (by kernel_rfl) ?_ ?_
        · intro b_22; have H_51 := of_t H_49 b_22
          refine V_run hN hn 2 1 [4, 5] [] ⟨[(4, .c (.val (.slice none 0 0))), (5, .c (.val (.int .i64 (70 : Int))))], [], 1⟩ [] (by kernel_rfl) rfl rfl ap0 ?_
          have H_53 := Option.some.inj (show some (([] : List Int), (70 : Int)) = some r from H_51); subst H_53
          refine VL_ret ?_
          refine P_ghost [.nilSlot 4 (.int .i64)] 1 hn [4, 5] [1] ⟨[(4, .c (.h 1)), (5, .c (.val (.int .i64 (70 : Int))))], [(1, .row (.int .i64) ([] : List Int))], 2⟩ (by kernel_rfl) rfl rfl ?_
          exact P_to [(4, .c (.h 3)), (5, .c (.val (.int .i64 (70 : Int))))] [(3, .row (.int .i64) ([] : List Int))] [(3, 1)] hn (by kernel_rfl) (by kernel_rfl) rfl rfl rfl (QF_retS (by kernel_rfl) (by kernel_rfl) rfl)
        · intro b_22; have H_52 := of_f H_49 b_22
          refine V_run hN hn 2 1 [1, 6, 8, 39] [0] ⟨[(1, .c (.val (.int .i64 at_2))), (6, .c (.val (.int .i64 r_15.1))), (8, .c (.h 0)), (39, .c (.val (.bool (decide ((((List.length ([] : (List Int))) : Nat) : Int) ≥ (60 : Int))))))], [(0, .row (.int .i64) (putAt (List.replicate (Int.toNat (((List.length ([] : (List Int))) : Nat) : Int)) (0 : Int)) (List.take (List.length (List.replicate (Int.toNat (((List.length ([] : (List Int))) : Nat) : Int)) (0 : Int))) ([] : (List Int))) 0))], 1⟩ [] (by kernel_rfl) rfl rfl ap0 ?_
          obtain ⟨r_25, h_26, H_54⟩ := of_bind H_52
          refine V_reg hN hn [(4, ⟨31, 2, [.c (.h 0), .c (.val (.int .i64 r_15.1)), .c (.h 1)], [(0, .row (.int .i64) (putAt (List.replicate (Int.toNat (((List.length ([] : (List Int))) : Nat) : Int)) (0 : Int)) (List.take (List.length (List.replicate (Int.toNat (((List.length ([] : (List Int))) : Nat) : Int)) (0 : Int))) ([] : (List Int))) 0)), (1, .row (.int .i64) ([at_2] : List Int))], .c (.h 2), [(2, .row (.int .i64) r_25)], [(0, 0), (1, 1), (2, 2)], 3⟩)] [] (calls_cons (slices_Insert_rgr_spec K (putAt (List.replicate (Int.toNat (((List.length ([] : (List Int))) : Nat) : Int)) (0 : Int)) (List.take (List.length (List.replicate (Int.toNat (((List.length ([] : (List Int))) : Nat) : Int)) (0 : Int))) ([] : (List Int))) 0) r_15.1 ([at_2] : List Int) r_25 h_26) (by kernel_rfl) calls_nil) 1 [4, 5] [2] ⟨[(4, .c (.h 2)), (5, .c (.val (.int .i64 (0 : Int))))], [(2, .row (.int .i64) r_25)], 3⟩ [] (by kernel_rfl) rfl rfl ap0 (by kernel_rfl) (by kernel_rfl) ?_
          have H_55 := Option.some.inj (show some (r_25, (0 : Int)) = some r from H_54); subst H_55
          refine VL_ret ?_
          exact P_to [(4, .c (.h 3)), (5, .c (.val (.int .i64 (0 : Int))))] [(3, .row (.int .i64) r_25)] [(3, 2)] hn (by kernel_rfl) (by kernel_rfl) rfl rfl rfl (QF_retS (by kernel_rfl) (by kernel_rfl) rfl)

theorem breaks_Is_rg_spec (K : Nat) (l_1 : (List Int)) (n_2 : Int) (r : Bool) (H : breaks_Is_ng K l_1 n_2 = some r) : Spec Try.prog 14 1 [.c (.h 0), .c (.val (.int .i64 n_2))] [(0, .row (.int .i64) l_1)] (.c (.val (.bool r))) [(0, .row (.int .i64) l_1)] := by
  refine Spec_mk (fn := Try.f14) (c := (Try.f14.body).get!) Try.func14 (by kernel_rfl) rfl ?_
  intro C hN hn
  replace hN : C.N = 40 := hN
  unfold breaks_Is_ng at H
  refine V_run hN hn 7 1 [0, 1, 9, 10, 11] [0] ⟨[(0, .c (.h 0)), (1, .c (.val (.int .i64 (mn2 n_2 (20000 : Int))))), (9, .c (.h 0)), (10, .c (.val (.int .i64 (((List.length l_1) : Nat) : Int)))), (11, .c (.val (.int .i64 (0 : Int))))], [(0, .row (.int .i64) l_1)], 1⟩ [] (by kernel_rfl) rfl rfl ap0 ?_
  refine VL_block ?_
  refine V_to [(0, .c (.h 0)), (1, .c (.val (.int .i64 (mn2 n_2 (20000 : Int))))), (9, .c (.h 0)), (10, .c (.val (.int .i64 (((List.length l_1) : Nat) : Int)))), (11, .c (.val (.int .i64 (0 : Int))))] [(0, .row (.int .i64) l_1)] [] hn (by kernel_rfl) (by kernel_rfl) rfl rfl rfl ?_
  refine VL_loop (X := Int) (fun x => [(0, .c (.h 0)), (1, .c (.val (.int .i64 (mn2 n_2 (20000 : Int))))), (9, .c (.h 0)), (10, .c (.val (.int .i64 (((List.length l_1) : Nat) : Int)))), (11, .c (.val (.int .i64 x)))]) (fun x => [(0, .row (.int .i64) l_1)]) (fun k x => breaks_Is_ng.l0 K l_1 n_2 k x = some r) K (0 : Int) H (fun _ h => no_none h) ?_
  intro k_5 t_4 H_26
  have H_27 : breaks_Is_ng.l0 K l_1 n_2 (k_5 + 1) t_4 = some r := H_26
  rw [breaks_Is_ng.l0] at H_27
  refine V_run hN hn 3 1 [0, 1, 9, 10, 11, 12] [0] ⟨[(0, .c (.h 0)), (1, .c (.val (.int .i64 (mn2 n_2 (20000 : Int))))), (9, .c (.h 0)), (10, .c (.val (.int .i64 (((List.length l_1) : Nat) : Int)))), (11, .c (.val (.int .i64 t_4))), (12, .c (.val (.bool (decide (t_4 < (((List.length l_1) : Nat) : Int))))))], [(0, .row (.int .i64) l_1)], 1⟩ [] (by kernel_rfl) rfl rfl ap0 ?_
  refine VL_cond ((decide (t_4 < (((List.length l_1) : Nat) : Int)))) (by kernel_rfl) ?_ ?_
  · intro b_7; have H_28 := of_t H_27 b_7
    refine V_run hN hn 2 1 [0, 1, 9, 10, 11, 12] [0] ⟨[(0, .c (.h 0)), (1, .c (.val (.int .i64 (mn2 n_2 (20000 : Int))))), (9, .c (.h 0)), (10, .c (.val (.int .i64 (((List.length l_1) : Nat) : Int)))), (11, .c (.val (.int .i64 t_4))), (12, .c (.val (.bool (decide (t_4 < (((List.length l_1) : Nat) : Int))))))], [(0, .row (.int .i64) l_1)], 1⟩ [] (by kernel_rfl) rfl rfl ap0 ?_
    refine VL_block ?_
    obtain ⟨c_9, H_30⟩ := of_if H_28
    refine V_run hN hn 3 1 [0, 1, 5, 6, 9, 10, 11] [0] ⟨[(0, .c (.h 0)), (1, .c (.val (.int .i64 (mn2 n_2 (20000 : Int))))), (5, .c (.val (.int .i64 t_4))), (6, .c (.val (.int .i64 (List.getD l_1 (Int.toNat t_4) (0 : Int))))), (9, .c (.h 0)), (10, .c (.val (.int .i64 (((List.length l_1) : Nat) : Int)))), (11, .c (.val (.int .i64 t_4)))], [(0, .row (.int .i64) l_1)], 1⟩ [0 ≤ t_4, t_4 < (((List.length l_1) : Nat) : Int)] (by kernel_rfl) rfl rfl (ap2 c_9.1 (ap1 c_9.2)) ?_
    obtain ⟨q_31, H_32, H_33⟩ := of_bind H_30
    refine V_cut (Y := Bool) (R := Bool) q_31 (fun y => y) (fun y => [(0, .c (.h 0)), (1, .c (.val (.int .i64 (mn2 n_2 (20000 : Int))))), (9, .c (.h 0)), (10, .c (.val (.int .i64 (((List.length l_1) : Nat) : Int)))), (11, .c (.val (.int .i64 t_4))), (35, .c (.val (.bool y)))]) (fun y => [(0, .row (.int .i64) l_1)]) ?_ ?_
    · skip
      rcases Bool.eq_false_or_eq_true ((decide ((List.getD l_1 (Int.toNat t_4) (0 : Int)) ≤ (0 : Int)))) with b_10 | b_10
      · have H_35 := of_t H_32 b_10
        refine V_reg hN hn [] [(18, true)] calls_nil 1 [0, 1, 9, 10, 11, 35] [0] ⟨[(0, .c (.h 0)), (1, .c (.val (.int .i64 (mn2 n_2 (20000 : Int))))), (9, .c (.h 0)), (10, .c (.val (.int .i64 (((List.length l_1) : Nat) : Int)))), (11, .c (.val (.int .i64 t_4))), (35, .c (.val (.bool true)))], [(0, .row (.int .i64) l_1)], 1⟩ [(decide ((List.getD l_1 (Int.toNat t_4) (0 : Int)) ≤ (0 : Int))) = true] (by kernel_rfl) rfl rfl (ap1 b_10) (by kernel_rfl) (by kernel_rfl) ?_
        have H_37 := Option.some.inj (show some true = some q_31 from H_35); subst H_37
        refine VL_nil ?_
        exact QP_end true rfl [] hn (by kernel_rfl) (by kernel_rfl) rfl rfl rfl
      · have H_36 := of_f H_32 b_10
        rcases Bool.eq_false_or_eq_true ((decide ((List.getD l_1 (Int.toNat t_4) (0 : Int)) ≥ (mn2 n_2 (20000 : Int))))) with b_12 | b_12
        · have H_38 := of_t H_36 b_12
          refine V_reg hN hn [] [(18, false), (23, true)] calls_nil 1 [0, 1, 9, 10, 11, 35] [0] ⟨[(0, .c (.h 0)), (1, .c (.val (.int .i64 (mn2 n_2 (20000 : Int))))), (9, .c (.h 0)), (10, .c (.val (.int .i64 (((List.length l_1) : Nat) : Int)))), (11, .c (.val (.int .i64 t_4))), (35, .c (.val (.bool true)))], [(0, .row (.int .i64) l_1)], 1⟩ [(decide ((List.getD l_1 (Int.toNat t_4) (0 : Int)) ≤ (0 : Int))) = false, (decide ((List.getD l_1 (Int.toNat t_4) (0 : Int)) ≥ (mn2 n_2 (20000 : Int)))) = true] (by kernel_rfl) rfl rfl (ap2 b_10 (ap1 b_12)) (by kernel_rfl) (by kernel_rfl) ?_
          have H_40 := Option.some.inj (show some true = some q_31 from H_38); subst H_40
          refine VL_nil ?_
          exact QP_end true rfl [] hn (by kernel_rfl) (by kernel_rfl) rfl rfl rfl
        · have H_39 := of_f H_36 b_12
          rcases Bool.eq_false_or_eq_true ((decide (t_4 > (0 : Int)))) with b_14 | b_14
          · have H_41 := of_t H_39 b_14
            obtain ⟨c_15, H_43⟩ := of_if H_41
            refine V_reg hN hn [] [(18, false), (23, false), (26, true)] calls_nil 1 [0, 1, 9, 10, 11, 35] [0] ⟨[(0, .c (.h 0)), (1, .c (.val (.int .i64 (mn2 n_2 (20000 : Int))))), (9, .c (.h 0)), (10, .c (.val (.int .i64 (((List.length l_1) : Nat) : Int)))), (11, .c (.val (.int .i64 t_4))), (35, .c (.val (.bool (decide ((List.getD l_1 (Int.toNat t_4) (0 : Int)) ≤ (List.getD l_1 (Int.toNat (IntKind.wrap .i64 (t_4 - (1 : Int)))) (0 : Int)))))))], [(0, .row (.int .i64) l_1)], 1⟩ [(decide ((List.getD l_1 (Int.toNat t_4) (0 : Int)) ≤ (0 : Int))) = false, (decide ((List.getD l_1 (Int.toNat t_4) (0 : Int)) ≥ (mn2 n_2 (20000 : Int)))) = false, (decide (t_4 > (0 : Int))) = true, 0 ≤ (IntKind.wrap .i64 (t_4 - (1 : Int))), (IntKind.wrap .i64 (t_4 - (1 : Int))) < (((List.length l_1) : Nat) : Int)] (by kernel_rfl) rfl rfl (ap2 b_10 (ap2 b_12 (ap2 b_14 (ap2 c_15.1 (ap1 c_15.2))))) (by kernel_rfl) (by kernel_rfl) ?_
            have H_44 := Option.some.inj (show some (decide ((List.getD l_1 (Int.toNat t_4) (0 : Int)) ≤ (List.getD l_1 (Int.toNat (IntKind.wrap .i64 (t_4 - (1 : Int)))) (0 : Int)))) = some q_31 from H_43); subst H_44
            refine VL_nil ?_
            exact QP_end (decide ((List.getD l_1 (Int.toNat t_4) (0 : Int)) ≤ (List.getD l_1 (Int.toNat (IntKind.wrap .i64 (t_4 - (1 : Int)))) (0 : Int)))) rfl [] hn (by kernel_rfl) (by kernel_rfl) rfl rfl rfl
          · have H_42 := of_f H_39 b_14
            refine V_reg hN hn [] [(18, false), (23, false), (26, false)] calls_nil 1 [0, 1, 9, 10, 11, 35] [0] ⟨[(0, .c (.h 0)), (1, .c (.val (.int .i64 (mn2 n_2 (20000 : Int))))), (9, .c (.h 0)), (10, .c (.val (.int .i64 (((List.length l_1) : Nat) : Int)))), (11, .c (.val (.int .i64 t_4))), (35, .c (.val (.bool false)))], [(0, .row (.int .i64) l_1)], 1⟩ [(decide ((List.getD l_1 (Int.toNat t_4) (0 : Int)) ≤ (0 : Int))) = false, (decide ((List.getD l_1 (Int.toNat t_4) (0 : Int)) ≥ (mn2 n_2 (20000 : Int)))) = false, (decide (t_4 > (0 : Int))) = false] (by kernel_rfl) rfl rfl (ap2 b_10 (ap2 b_12 (ap1 b_14))) (by kernel_rfl) (by kernel_rfl) ?_
            have H_45 := Option.some.inj (show some false = some q_31 from H_42); subst H_45
            refine VL_nil ?_
            exact QP_end false rfl [] hn (by kernel_rfl) (by kernel_rfl) rfl rfl rfl
    · intro y_34 hy; subst hy
      skip
      skip
      refine VL_cond (y_34) (by kernel_rfl) ?_ ?_
      · intro b_18; have H_46 := of_t H_33 b_18
        refine V_run hN hn 2 1 [4] [0] ⟨[(4, .c (.val (.bool false)))], [(0, .row (.int .i64) l_1)], 1⟩ [] (by kernel_rfl) rfl rfl ap0 ?_
        have H_48 := Option.some.inj (show some false = some r from H_46); subst H_48
        refine VL_ret ?_
        refine QB_ret ?_
        refine QL_ret ?_
        refine QB_ret ?_
        exact P_to [(4, .c (.val (.bool false)))] [(0, .row (.int .i64) l_1)] [] hn (by kernel_rfl) (by kernel_rfl) rfl rfl rfl (QF_retS (by kernel_rfl) (by kernel_rfl) rfl)
      · intro b_18; have H_47 := of_f H_33 b_18
        refine V_run hN hn 1 1 [0, 1, 9, 10, 11, 35] [0] ⟨[(0, .c (.h 0)), (1, .c (.val (.int .i64 (mn2 n_2 (20000 : Int))))), (9, .c (.h 0)), (10, .c (.val (.int .i64 (((List.length l_1) : Nat) : Int)))), (11, .c (.val (.int .i64 t_4))), (35, .c (.val (.bool y_34)))], [(0, .row (.int .i64) l_1)], 1⟩ [] (by kernel_rfl) rfl rfl ap0 ?_
        refine VL_nil (QB_end ?_)
        refine V_run hN hn 1 1 [0, 1, 9, 10, 11] [0] ⟨[(0, .c (.h 0)), (1, .c (.val (.int .i64 (mn2 n_2 (20000 : Int))))), (9, .c (.h 0)), (10, .c (.val (.int .i64 (((List.length l_1) : Nat) : Int)))), (11, .c (.val (.int .i64 (IntKind.wrap .i64 (t_4 + (1 : Int))))))], [(0, .row (.int .i64) l_1)], 1⟩ [] (by kernel_rfl) rfl rfl ap0 ?_
        refine VL_nil ?_
        exact V_roundEnd (IntKind.wrap .i64 (t_4 + (1 : Int))) H_47 [] hn (by kernel_rfl) (by kernel_rfl) rfl rfl rfl
  · intro b_7; have H_29 := of_f H_27 b_7
    refine VL_exit ?_
    refine QL_exit ?_
    refine QB_here ?_
    refine V_run hN hn 2 1 [4] [0] ⟨[(4, .c (.val (.bool (decide ((((List.length l_1) : Nat) : Int) ≤ (60 : Int))))))], [(0, .row (.int .i64) l_1)], 1⟩ [] (by kernel_rfl) rfl rfl ap0 ?_
    have H_49 := Option.some.inj (show some (decide ((((List.length l_1) : Nat) : Int) ≤ (60 : Int))) = some r from H_29); subst H_49
    refine VL_ret ?_
    exact P_to [(4, .c (.val (.bool (decide ((((List.length l_1) : Nat) : Int) ≤ (60 : Int))))))] [(0, .row (.int .i64) l_1)] [] hn (by kernel_rfl) (by kernel_rfl) rfl rfl rfl (QF_retS (by kernel_rfl) (by kernel_rfl) rfl)

theorem slices_BinarySearch_rg_spec (K : Nat) (x_1 : (List Int)) (target_2 : Int) (r : (Int × Bool)) (H : slices_BinarySearch_ng K x_1 target_2 = some r) : Spec Try.prog 30 1 [.c (.h 0), .c (.val (.int .i64 target_2))] [(0, .row (.int .i64) x_1)] (.tup [(false, [.val (.int .i64 r.1)]), (false, [.val (.bool r.2)])]) [(0, .row (.int .i64) x_1)] := by
  refine Spec_mk (fn := Try.f30) (c := (Try.f30.body).get!) Try.func30 (by kernel_rfl) rfl ?_
  intro C hN hn
  replace hN : C.N = 54 := hN
  unfold slices_BinarySearch_ng at H
  refine V_run hN hn 7 1 [0, 1, 6, 7, 8] [0] ⟨[(0, .c (.h 0)), (1, .c (.val (.int .i64 target_2))), (6, .c (.val (.int .i64 (((List.length x_1) : Nat) : Int)))), (7, .c (.val (.int .i64 (0 : Int)))), (8, .c (.val (.int .i64 (((List.length x_1) : Nat) : Int))))], [(0, .row (.int .i64) x_1)], 1⟩ [] (by kernel_rfl) rfl rfl ap0 ?_
  obtain ⟨q_33, H_34, H_35⟩ := of_bind H
  refine V_cut (Y := Int) (R := Int) q_33 (fun y => y) (fun y => [(0, .c (.h 0)), (1, .c (.val (.int .i64 target_2))), (6, .c (.val (.int .i64 (((List.length x_1) : Nat) : Int)))), (7, .c (.val (.int .i64 y)))]) (fun y => [(0, .row (.int .i64) x_1)]) ?_ ?_
  · skip
    refine VL_block ?_
    refine V_to [(0, .c (.h 0)), (1, .c (.val (.int .i64 target_2))), (6, .c (.val (.int .i64 (((List.length x_1) : Nat) : Int)))), (7, .c (.val (.int .i64 (0 : Int)))), (8, .c (.val (.int .i64 (((List.length x_1) : Nat) : Int))))] [(0, .row (.int .i64) x_1)] [] hn (by kernel_rfl) (by kernel_rfl) rfl rfl rfl ?_
    refine VL_loop (X := (Int × Int)) (fun x => [(0, .c (.h 0)), (1, .c (.val (.int .i64 target_2))), (6, .c (.val (.int .i64 (((List.length x_1) : Nat) : Int)))), (7, .c (.val (.int .i64 x.1))), (8, .c (.val (.int .i64 x.2)))]) (fun x => [(0, .row (.int .i64) x_1)]) (fun k x => slices_BinarySearch_ng.l0 K x_1 target_2 k x.1 x.2 = some q_33) K ((0 : Int), (((List.length x_1) : Nat) : Int)) H_34 (fun _ h => no_none h) ?_
    intro k_6 x_6 H_37
    obtain ⟨i_4, j_5⟩ := x_6
    have H_38 : slices_BinarySearch_ng.l0 K x_1 target_2 (k_6 + 1) i_4 j_5 = some q_33 := H_37
    rw [slices_BinarySearch_ng.l0] at H_38
    refine V_run hN hn 3 1 [0, 1, 6, 7, 8, 15] [0] ⟨[(0, .c (.h 0)), (1, .c (.val (.int .i64 target_2))), (6, .c (.val (.int .i64 (((List.length x_1) : Nat) : Int)))), (7, .c (.val (.int .i64 i_4))), (8, .c (.val (.int .i64 j_5))), (15, .c (.val (.bool (decide (i_4 < j_5)))))], [(0, .row (.int .i64) x_1)], 1⟩ [] (by kernel_rfl) rfl rfl ap0 ?_
    refine VL_cond ((decide (i_4 < j_5))) (by kernel_rfl) ?_ ?_
    · intro b_8; have H_39 := of_t H_38 b_8
      refine V_run hN hn 1 1 [0, 1, 6, 7, 8, 15] [0] ⟨[(0, .c (.h 0)), (1, .c (.val (.int .i64 target_2))), (6, .c (.val (.int .i64 (((List.length x_1) : Nat) : Int)))), (7, .c (.val (.int .i64 i_4))), (8, .c (.val (.int .i64 j_5))), (15, .c (.val (.bool (decide (i_4 < j_5)))))], [(0, .row (.int .i64) x_1)], 1⟩ [] (by kernel_rfl) rfl rfl ap0 ?_
      refine VL_block ?_
      refine V_run hN hn 3 1 [0, 1, 6, 7, 8, 9] [0] ⟨[(0, .c (.h 0)), (1, .c (.val (.int .i64 target_2))), (6, .c (.val (.int .i64 (((List.length x_1) : Nat) : Int)))), (7, .c (.val (.int .i64 i_4))), (8, .c (.val (.int .i64 j_5))), (9, .c (.val (.int .i64 (IntKind.wrap .i64 (Int.fdiv (IntKind.wrap .u64 (IntKind.wrap .i64 (i_4 + j_5))) (2 : Int))))))], [(0, .row (.int .i64) x_1)], 1⟩ [(0 : Int) ≤ (1 : Int)] (by kernel_rfl) rfl rfl (ap1 (by decide)) ?_
      obtain ⟨r_11, h_12, H_41⟩ := of_bind H_39
      obtain ⟨c_13, H_42⟩ := of_if H_41
      refine V_reg hN hn [(5, ⟨45, 0, [.c (.val (.int .i64 (List.getD x_1 (Int.toNat (IntKind.wrap .i64 (Int.fdiv (IntKind.wrap .u64 (IntKind.wrap .i64 (i_4 + j_5))) (2 : Int)))) (0 : Int)))), .c (.val (.int .i64 target_2))], [], .c (.val (.bool r_11)), [], [], 1⟩)] [] (calls_cons (cmp_Less_spec K (List.getD x_1 (Int.toNat (IntKind.wrap .i64 (Int.fdiv (IntKind.wrap .u64 (IntKind.wrap .i64 (i_4 + j_5))) (2 : Int)))) (0 : Int)) target_2 r_11 h_12) (by kernel_rfl) calls_nil) 1 [0, 1, 6, 7, 8, 9, 27] [0] ⟨[(0, .c (.h 0)), (1, .c (.val (.int .i64 target_2))), (6, .c (.val (.int .i64 (((List.length x_1) : Nat) : Int)))), (7, .c (.val (.int .i64 i_4))), (8, .c (.val (.int .i64 j_5))), (9, .c (.val (.int .i64 (IntKind.wrap .i64 (Int.fdiv (IntKind.wrap .u64 (IntKind.wrap .i64 (i_4 + j_5))) (2 : Int)))))), (27, .c (.val (.bool r_11)))], [(0, .row (.int .i64) x_1)], 1⟩ [0 ≤ (IntKind.wrap .i64 (Int.fdiv (IntKind.wrap .u64 (IntKind.wrap .i64 (i_4 + j_5))) (2 : Int))), (IntKind.wrap .i64 (Int.fdiv (IntKind.wrap .u64 (IntKind.wrap .i64 (i_4 + j_5))) (2 : Int))) < (((List.length x_1) : Nat) : Int)] (by kernel_rfl) rfl rfl (ap2 c_13.1 (ap1 c_13.2)) (by kernel_rfl) (by kernel_rfl) ?_
      refine VL_cond (r_11) (by kernel_rfl) ?_ ?_
      · intro b_14; have H_43 := of_t H_42 b_14
        refine V_run hN hn 1 1 [0, 1, 6, 7, 8] [0] ⟨[(0, .c (.h 0)), (1, .c (.val (.int .i64 target_2))), (6, .c (.val (.int .i64 (((List.length x_1) : Nat) : Int)))), (7, .c (.val (.int .i64 (IntKind.wrap .i64 ((IntKind.wrap .i64 (Int.fdiv (IntKind.wrap .u64 (IntKind.wrap .i64 (i_4 + j_5))) (2 : Int))) + (1 : Int)))))), (8, .c (.val (.int .i64 j_5)))], [(0, .row (.int .i64) x_1)], 1⟩ [] (by kernel_rfl) rfl rfl ap0 ?_
        refine VL_nil (QB_end ?_)
        refine VL_nil ?_
        exact V_roundEnd ((IntKind.wrap .i64 ((IntKind.wrap .i64 (Int.fdiv (IntKind.wrap .u64 (IntKind.wrap .i64 (i_4 + j_5))) (2 : Int))) + (1 : Int))), j_5) H_43 [] hn (by kernel_rfl) (by kernel_rfl) rfl rfl rfl
      · intro b_14; have H_44 := of_f H_42 b_14
        refine V_run hN hn 1 1 [0, 1, 6, 7, 8] [0] ⟨[(0, .c (.h 0)), (1, .c (.val (.int .i64 target_2))), (6, .c (.val (.int .i64 (((List.length x_1) : Nat) : Int)))), (7, .c (.val (.int .i64 i_4))), (8, .c (.val (.int .i64 (IntKind.wrap .i64 (Int.fdiv (IntKind.wrap .u64 (IntKind.wrap .i64 (i_4 + j_5))) (2 : Int))))))], [(0, .row (.int .i64) x_1)], 1⟩ [] (by kernel_rfl) rfl rfl ap0 ?_
        refine VL_nil (QB_end ?_)
        refine VL_nil ?_
        exact V_roundEnd (i_4, (IntKind.wrap .i64 (Int.fdiv (IntKind.wrap .u64 (IntKind.wrap .i64 (i_4 + j_5))) (2 : Int)))) H_44 [] hn (by kernel_rfl) (by kernel_rfl) rfl rfl rfl
    · intro b_8; have H_40 := of_f H_38 b_8
      refine VL_exit ?_
      refine QL_exit ?_
      refine QB_here ?_
      have H_45 := Option.some.inj (show some i_4 = some q_33 from H_40); subst H_45
      refine VL_nil ?_
      exact QP_end i_4 rfl [] hn (by kernel_rfl) (by kernel_rfl) rfl rfl rfl
  · intro y_36 hy; subst hy
    skip
    skip
    refine V_run hN hn 1 1 [0, 1, 6, 7] [0] ⟨[(0, .c (.h 0)), (1, .c (.val (.int .i64 target_2))), (6, .c (.val (.int .i64 (((List.length x_1) : Nat) : Int)))), (7, .c (.val (.int .i64 y_36)))], [(0, .row (.int .i64) x_1)], 1⟩ [] (by kernel_rfl) rfl rfl ap0 ?_
    rcases Bool.eq_false_or_eq_true ((decide (y_36 < (((List.length x_1) : Nat) : Int)))) with b_19 | b_19
    · have H_46 := of_t H_35 b_19
      rcases Bool.eq_false_or_eq_true (((List.getD x_1 (Int.toNat y_36) (0 : Int)) == target_2)) with b_20 | b_20
      · have H_48 := of_t H_46 b_20
        obtain ⟨c_21, H_50⟩ := of_if H_48
        refine V_reg hN hn [] [(35, true), (42, true)] calls_nil 1 [4, 5] [0] ⟨[(4, .c (.val (.int .i64 y_36))), (5, .c (.val (.bool true)))], [(0, .row (.int .i64) x_1)], 1⟩ [(decide (y_36 < (((List.length x_1) : Nat) : Int))) = true, 0 ≤ y_36, y_36 < (((List.length x_1) : Nat) : Int), ((List.getD x_1 (Int.toNat y_36) (0 : Int)) == target_2) = true] (by kernel_rfl) rfl rfl (ap2 b_19 (ap2 c_21.1 (ap2 c_21.2 (ap1 b_20)))) (by kernel_rfl) (by kernel_rfl) ?_
        have H_51 := Option.some.inj (show some (y_36, true) = some r from H_50); subst H_51
        refine VL_ret ?_
        exact P_to [(4, .c (.val (.int .i64 y_36))), (5, .c (.val (.bool true)))] [(0, .row (.int .i64) x_1)] [] hn (by kernel_rfl) (by kernel_rfl) rfl rfl rfl (QF_retS (by kernel_rfl) (by kernel_rfl) rfl)
      · have H_49 := of_f H_46 b_20
        obtain ⟨r_22, h_23, H_52⟩ := of_bind H_49
        rcases Bool.eq_false_or_eq_true (r_22) with b_24 | b_24
        · have H_53 := of_t H_52 b_24
          obtain ⟨r_25, h_26, H_55⟩ := of_bind H_53
          obtain ⟨c_27, H_56⟩ := of_if H_55
          refine V_reg hN hn [(16, ⟨46, 0, [.c (.val (.int .i64 (List.getD x_1 (Int.toNat y_36) (0 : Int))))], [], .c (.val (.bool r_22)), [], [], 1⟩), (19, ⟨46, 0, [.c (.val (.int .i64 target_2))], [], .c (.val (.bool r_25)), [], [], 1⟩)] [(35, true), (42, false), (48, true)] (calls_cons (slices_isNaN_spec K (List.getD x_1 (Int.toNat y_36) (0 : Int)) r_22 h_23) (by kernel_rfl) (calls_cons (slices_isNaN_spec K target_2 r_25 h_26) (by kernel_rfl) calls_nil)) 1 [4, 5] [0] ⟨[(4, .c (.val (.int .i64 y_36))), (5, .c (.val (.bool r_25)))], [(0, .row (.int .i64) x_1)], 1⟩ [(decide (y_36 < (((List.length x_1) : Nat) : Int))) = true, 0 ≤ y_36, y_36 < (((List.length x_1) : Nat) : Int), ((List.getD x_1 (Int.toNat y_36) (0 : Int)) == target_2) = false, 0 ≤ y_36, y_36 < (((List.length x_1) : Nat) : Int), r_22 = true] (by kernel_rfl) rfl rfl (ap2 b_19 (ap2 c_27.1 (ap2 c_27.2 (ap2 b_20 (ap2 c_27.1 (ap2 c_27.2 (ap1 b_24))))))) (by kernel_rfl) (by kernel_rfl) ?_
          have H_57 := Option.some.inj (show some (y_36, r_25) = some r from H_56); subst H_57
          refine VL_ret ?_
          exact P_to [(4, .c (.val (.int .i64 y_36))), (5, .c (.val (.bool r_25)))] [(0, .row (.int .i64) x_1)] [] hn (by kernel_rfl) (by kernel_rfl) rfl rfl rfl (QF_retS (by kernel_rfl) (by kernel_rfl) rfl)
        · have H_54 := of_f H_52 b_24
          obtain ⟨c_28, H_58⟩ := of_if H_54
          refine V_reg hN hn [(16, ⟨46, 0, [.c (.val (.int .i64 (List.getD x_1 (Int.toNat y_36) (0 : Int))))], [], .c (.val (.bool r_22)), [], [], 1⟩)] [(35, true), (42, false), (48, false)] (calls_cons (slices_isNaN_spec K (List.getD x_1 (Int.toNat y_36) (0 : Int)) r_22 h_23) (by kernel_rfl) calls_nil) 1 [4, 5] [0] ⟨[(4, .c (.val (.int .i64 y_36))), (5, .c (.val (.bool false)))], [(0, .row (.int .i64) x_1)], 1⟩ [(decide (y_36 < (((List.length x_1) : Nat) : Int))) = true, 0 ≤ y_36, y_36 < (((List.length x_1) : Nat) : Int), ((List.getD x_1 (Int.toNat y_36) (0 : Int)) == target_2) = false, 0 ≤ y_36, y_36 < (((List.length x_1) : Nat) : Int), r_22 = false] (by kernel_rfl) rfl rfl (ap2 b_19 (ap2 c_28.1 (ap2 c_28.2 (ap2 b_20 (ap2 c_28.1 (ap2 c_28.2 (ap1 b_24))))))) (by kernel_rfl) (by kernel_rfl) ?_
          have H_59 := Option.some.inj (show some (y_36, false) = some r from H_58); subst H_59
          refine VL_ret ?_
          exact P_to [(4, .c (.val (.int .i64 y_36))), (5, .c (.val (.bool false)))] [(0, .row (.int .i64) x_1)] [] hn (by kernel_rfl) (by kernel_rfl) rfl rfl rfl (QF_retS (by kernel_rfl) (by kernel_rfl) rfl)
    · have H_47 := of_f H_35 b_19
      refine V_reg hN hn [] [(35, false)] calls_nil 1 [4, 5] [0] ⟨[(4, .c (.val (.int .i64 y_36))), (5, .c (.val (.bool false)))], [(0, .row (.int .i64) x_1)], 1⟩ [(decide (y_36 < (((List.length x_1) : Nat) : Int))) = false] (by kernel_rfl) rfl rfl (ap1 b_19) (by kernel_rfl) (by kernel_rfl) ?_
      have H_60 := Option.some.inj (show some (y_36, false) = some r from H_47); subst H_60
      refine VL_ret ?_
      exact P_to [(4, .c (.val (.int .i64 y_36))), (5, .c (.val (.bool false)))] [(0, .row (.int .i64) x_1)] [] hn (by kernel_rfl) (by kernel_rfl) rfl rfl rfl (QF_retS (by kernel_rfl) (by kernel_rfl) rfl)

theorem breaks_Put_rg_spec (K : Nat) (l_1 : (List Int)) (at_2 : Int) (r : ((List Int) × Int)) (H : breaks_Put_ng K l_1 at_2 = some r) : Spec Try.prog 18 1 [.c (.h 0), .c (.val (.int .i64 at_2))] [(0, .row (.int .i64) l_1)] (.tup [(false, [.h 4]), (false, [.val (.int .i64 r.2)])]) [(0, .row (.int .i64) l_1), (4, .row (.int .i64) r.1)] := by
  refine Spec_mk (fn := Try.f18) (c := (Try.f18.body).get!) Try.func18 (by kernel_rfl) rfl ?_
  intro C hN hn
  replace hN : C.N = 45 := hN
  unfold breaks_Put_ng at H
  refine V_run hN hn 4 1 [0, 1] [0] ⟨[(0, .c (.h 0)), (1, .c (.val (.int .i64 at_2)))], [(0, .row (.int .i64) l_1)], 1⟩ [] (by kernel_rfl) rfl rfl ap0 ?_
  obtain ⟨q_31, H_32, H_33⟩ := of_bind H
  refine V_cut (Y := Bool) (R := Bool) q_31 (fun y => y) (fun y => [(0, .c (.h 0)), (1, .c (.val (.int .i64 at_2))), (19, .c (.val (.bool y)))]) (fun y => [(0, .row (.int .i64) l_1)]) ?_ ?_
  · skip
    obtain ⟨r_4, h_5, H_35⟩ := of_bind H_32
    rcases Bool.eq_false_or_eq_true ((!r_4)) with b_6 | b_6
    · have H_36 := of_t H_35 b_6
      refine V_reg hN hn [(1, ⟨14, 1, [.c (.h 0), .c (.val (.int .i64 (20000 : Int)))], [(0, .row (.int .i64) l_1)], .c (.val (.bool r_4)), [(0, .row (.int .i64) l_1)], [(0, 0)], 1⟩)] [(12, true)] (calls_cons (breaks_Is_rg_spec K l_1 (20000 : Int) r_4 h_5) (by kernel_rfl) calls_nil) 1 [0, 1, 19] [0] ⟨[(0, .c (.h 0)), (1, .c (.val (.int .i64 at_2))), (19, .c (.val (.bool true)))], [(0, .row (.int .i64) l_1)], 1⟩ [(!r_4) = true] (by kernel_rfl) rfl rfl (ap1 b_6) (by kernel_rfl) (by kernel_rfl) ?_
      have H_38 := Option.some.inj (show some true = some q_31 from H_36); subst H_38
      refine VL_nil ?_
      exact QP_end true rfl [] hn (by kernel_rfl) (by kernel_rfl) rfl rfl rfl
    · have H_37 := of_f H_35 b_6
      rcases Bool.eq_false_or_eq_true ((decide (at_2 ≤ (0 : Int)))) with b_8 | b_8
      · have H_39 := of_t H_37 b_8
        refine V_reg hN hn [(1, ⟨14, 1, [.c (.h 0), .c (.val (.int .i64 (20000 : Int)))], [(0, .row (.int .i64) l_1)], .c (.val (.bool r_4)), [(0, .row (.int .i64) l_1)], [(0, 0)], 1⟩)] [(12, false), (16, true)] (calls_cons (breaks_Is_rg_spec K l_1 (20000 : Int) r_4 h_5) (by kernel_rfl) calls_nil) 1 [0, 1, 19] [0] ⟨[(0, .c (.h 0)), (1, .c (.val (.int .i64 at_2))), (19, .c (.val (.bool true)))], [(0, .row (.int .i64) l_1)], 1⟩ [(!r_4) = false, (decide (at_2 ≤ (0 : Int))) = true] (by kernel_rfl) rfl rfl (ap2 b_6 (ap1 b_8)) (by kernel_rfl) (by kernel_rfl) ?_
        have H_41 := Option.some.inj (show some true = some q_31 from H_39); subst H_41
        refine VL_nil ?_
        exact QP_end true rfl [] hn (by kernel_rfl) (by kernel_rfl) rfl rfl rfl
      · have H_40 := of_f H_37 b_8
        refine V_reg hN hn [(1, ⟨14, 1, [.c (.h 0), .c (.val (.int .i64 (20000 : Int)))], [(0, .row (.int .i64) l_1)], .c (.val (.bool r_4)), [(0, .row (.int .i64) l_1)], [(0, 0)], 1⟩)] [(12, false), (16, false)] (calls_cons (breaks_Is_rg_spec K l_1 (20000 : Int) r_4 h_5) (by kernel_rfl) calls_nil) 1 [0, 1, 19] [0] ⟨[(0, .c (.h 0)), (1, .c (.val (.int .i64 at_2))), (19, .c (.val (.bool (decide (at_2 ≥ (20000 : Int))))))], [(0, .row (.int .i64) l_1)], 1⟩ [(!r_4) = false, (decide (at_2 ≤ (0 : Int))) = false] (by kernel_rfl) rfl rfl (ap2 b_6 (ap1 b_8)) (by kernel_rfl) (by kernel_rfl) ?_
        have H_42 := Option.some.inj (show some (decide (at_2 ≥ (20000 : Int))) = some q_31 from H_40); subst H_42
        refine VL_nil ?_
        exact QP_end (decide (at_2 ≥ (20000 : Int))) rfl [] hn (by kernel_rfl) (by kernel_rfl) rfl rfl rfl
  · intro y_34 hy; subst hy
    skip
    skip
    refine VL_cond (y_34) (by kernel_rfl) ?_ ?_
    · intro b_12; have H_43 := of_t H_33 b_12
      refine V_run hN hn 2 1 [4, 5] [0] ⟨[(4, .c (.val (.slice none 0 0))), (5, .c (.val (.int .i64 (12 : Int))))], [(0, .row (.int .i64) l_1)], 1⟩ [] (by kernel_rfl) rfl rfl ap0 ?_
      have H_45 := Option.some.inj (show some (([] : List Int), (12 : Int)) = some r from H_43); subst H_45
      refine VL_ret ?_
      refine P_ghost [.nilSlot 4 (.int .i64)] 1 hn [4, 5] [0, 1] ⟨[(4, .c (.h 1)), (5, .c (.val (.int .i64 (12 : Int))))], [(0, .row (.int .i64) l_1), (1, .row (.int .i64) ([] : List Int))], 2⟩ (by kernel_rfl) rfl rfl ?_
      exact P_to [(4, .c (.h 4)), (5, .c (.val (.int .i64 (12 : Int))))] [(0, .row (.int .i64) l_1), (4, .row (.int .i64) ([] : List Int))] [(4, 1)] hn (by kernel_rfl) (by kernel_rfl) rfl rfl rfl (QF_retS (by kernel_rfl) (by kernel_rfl) rfl)
    · intro b_12; have H_44 := of_f H_33 b_12
      refine V_run hN hn 2 1 [0, 1, 19] [0] ⟨[(0, .c (.h 0)), (1, .c (.val (.int .i64 at_2))), (19, .c (.val (.bool y_34)))], [(0, .row (.int .i64) l_1)], 1⟩ [] (by kernel_rfl) rfl rfl ap0 ?_
      obtain ⟨r_15, h_16, H_46⟩ := of_bind H_44
      refine V_reg hN hn [(2, ⟨30, 1, [.c (.h 0), .c (.val (.int .i64 at_2))], [(0, .row (.int .i64) l_1)], .tup [(false, [.val (.int .i64 r_15.1)]), (false, [.val (.bool r_15.2)])], [(0, .row (.int .i64) l_1)], [(0, 0)], 1⟩)] [] (calls_cons (slices_BinarySearch_rg_spec K l_1 at_2 r_15 h_16) (by kernel_rfl) calls_nil) 1 [0, 1, 6, 7] [0] ⟨[(0, .c (.h 0)), (1, .c (.val (.int .i64 at_2))), (6, .c (.val (.int .i64 r_15.1))), (7, .c (.val (.bool r_15.2)))], [(0, .row (.int .i64) l_1)], 1⟩ [] (by kernel_rfl) rfl rfl ap0 (by kernel_rfl) (by kernel_rfl) ?_
      obtain ⟨c_18, H_47⟩ := of_if H_46
      refine V_run hN hn 7 1 [0, 1, 6, 8, 35] [0, 1] ⟨[(0, .c (.h 0)), (1, .c (.val (.int .i64 at_2))), (6, .c (.val (.int .i64 r_15.1))), (8, .c (.h 1)), (35, .c (.val (.bool r_15.2)))], [(0, .row (.int .i64) l_1), (1, .row (.int .i64) (putAt (List.replicate (Int.toNat (((List.length l_1) : Nat) : Int)) (0 : Int)) (List.take (List.length (List.replicate (Int.toNat (((List.length l_1) : Nat) : Int)) (0 : Int))) l_1) 0))], 2⟩ [(0 : Int) ≤ (((List.length l_1) : Nat) : Int), (((List.length l_1) : Nat) : Int) ≤ (IntKind.wrap .i64 ((((List.length l_1) : Nat) : Int) + (1 : Int))), (IntKind.wrap .i64 ((((List.length l_1) : Nat) : Int) + (1 : Int))) * 8 ≤ (140737488355328 : Int), (IntKind.wrap .i64 ((((List.length l_1) : Nat) : Int) + (1 : Int))) ≤ (9223372036854775807 : Int)] (by kernel_rfl) rfl rfl (ap2 c_18.1 (ap2 c_18.2.1 (ap2 c_18.2.2.1 (ap1 c_18.2.2.2)))) ?_
      refine VL_cond (r_15.2) (by kernel_rfl) ?_ ?_
      · intro b_19; have H_48 := of_t H_47 b_19
        refine V_run hN hn 2 2 [4, 5] [0, 1] ⟨[(4, .c (.h 1)), (5, .c (.val (.int .i64 (0 : Int))))], [(0, .row (.int .i64) l_1), (1, .row (.int .i64) (putAt (List.replicate (Int.toNat (((List.length l_1) : Nat) : Int)) (0 : Int)) (List.take (List.length (List.replicate (Int.toNat (((List.length l_1) : Nat) : Int)) (0 : Int))) l_1) 0))], 2⟩ [] (by kernel_rfl) rfl rfl ap0 ?_
        have H_50 := Option.some.inj (show some ((putAt (List.replicate (Int.toNat (((List.length l_1) : Nat) : Int)) (0 : Int)) (List.take (List.length (List.replicate (Int.toNat (((List.length l_1) : Nat) : Int)) (0 : Int))) l_1) 0), (0 : Int)) = some r from H_48); subst H_50
        refine VL_ret ?_
        exact P_to [(4, .c (.h 4)), (5, .c (.val (.int .i64 (0 : Int))))] [(0, .row (.int .i64) l_1), (4, .row (.int .i64) (putAt (List.replicate (Int.toNat (((List.length l_1) : Nat) : Int)) (0 : Int)) (List.take (List.length (List.replicate (Int.toNat (((List.length l_1) : Nat) : Int)) (0 : Int))) l_1) 0))] [(4, 1)] hn (by kernel_rfl) (by kernel_rfl) rfl rfl rfl (QF_retS (by kernel_rfl) (by kernel_rfl) rfl)
      · intro b_19; have H_49 := of_f H_47 b_19
        refine V_run hN hn 4 2 [1, 6, 8, 39] [0, 1] ⟨[(1, .c (.val (.int .i64 at_2))), (6, .c (.val (.int .i64 r_15.1))), (8, .c (.h 1)), (39, .c (.val (.bool (decide ((((List.length l_1) : Nat) : Int) ≥ (60 : Int))))))], [(0, .row (.int .i64) l_1), (1, .row (.int .i64) (putAt (List.replicate (Int.toNat (((List.length l_1) : Nat) : Int)) (0 : Int)) (List.take (List.length (List.replicate (Int.toNat (((List.length l_1) : Nat) : Int)) (0 : Int))) l_1) 0))], 2⟩ [] (by kernel_rfl) rfl rfl ap0 ?_
        refine VL_cond ((decide ((((List.length l_1) : Nat) : Int) ≥ (60 : Int)))) (by kernel_rfl) ?_ ?_
        · intro b_22; have H_51 := of_t H_49 b_22
          refine V_run hN hn 2 2 [4, 5] [0] ⟨[(4, .c (.val (.slice none 0 0))), (5, .c (.val (.int .i64 (70 : Int))))], [(0, .row (.int .i64) l_1)], 2⟩ [] (by kernel_rfl) rfl rfl ap0 ?_
          have H_53 := Option.some.inj (show some (([] : List Int), (70 : Int)) = some r from H_51); subst H_53
          refine VL_ret ?_
          refine P_ghost [.nilSlot 4 (.int .i64)] 2 hn [4, 5] [0, 2] ⟨[(4, .c (.h 2)), (5, .c (.val (.int .i64 (70 : Int))))], [(0, .row (.int .i64) l_1), (2, .row (.int .i64) ([] : List Int))], 3⟩ (by kernel_rfl) rfl rfl ?_
          exact P_to [(4, .c (.h 4)), (5, .c (.val (.int .i64 (70 : Int))))] [(0, .row (.int .i64) l_1), (4, .row (.int .i64) ([] : List Int))] [(4, 2)] hn (by kernel_rfl) (by kernel_rfl) rfl rfl rfl (QF_retS (by kernel_rfl) (by kernel_rfl) rfl)
        · intro b_22; have H_52 := of_f H_49 b_22
          refine V_run hN hn 2 2 [1, 6, 8, 39] [0, 1] ⟨[(1, .c (.val (.int .i64 at_2))), (6, .c (.val (.int .i64 r_15.1))), (8, .c (.h 1)), (39, .c (.val (.bool (decide ((((List.length l_1) : Nat) : Int) ≥ (60 : Int))))))], [(0, .row (.int .i64) l_1), (1, .row (.int .i64) (putAt (List.replicate (Int.toNat (((List.length l_1) : Nat) : Int)) (0 : Int)) (List.take (List.length (List.replicate (Int.toNat (((List.length l_1) : Nat) : Int)) (0 : Int))) l_1) 0))], 2⟩ [] (by kernel_rfl) rfl rfl ap0 ?_
          obtain ⟨r_25, h_26, H_54⟩ := of_bind H_52
          refine V_reg hN hn [(4, ⟨31, 2, [.c (.h 0), .c (.val (.int .i64 r_15.1)), .c (.h 1)], [(0, .row (.int .i64) (putAt (List.replicate (Int.toNat (((List.length l_1) : Nat) : Int)) (0 : Int)) (List.take (List.length (List.replicate (Int.toNat (((List.length l_1) : Nat) : Int)) (0 : Int))) l_1) 0)), (1, .row (.int .i64) ([at_2] : List Int))], .c (.h 2), [(2, .row (.int .i64) r_25)], [(0, 1), (1, 2), (2, 3)], 4⟩)] [] (calls_cons (slices_Insert_rgr_spec K (putAt (List.replicate (Int.toNat (((List.length l_1) : Nat) : Int)) (0 : Int)) (List.take (List.length (List.replicate (Int.toNat (((List.length l_1) : Nat) : Int)) (0 : Int))) l_1) 0) r_15.1 ([at_2] : List Int) r_25 h_26) (by kernel_rfl) calls_nil) 2 [4, 5] [0, 3] ⟨[(4, .c (.h 3)), (5, .c (.val (.int .i64 (0 : Int))))], [(0, .row (.int .i64) l_1), (3, .row (.int .i64) r_25)], 4⟩ [] (by kernel_rfl) rfl rfl ap0 (by kernel_rfl) (by kernel_rfl) ?_
          have H_55 := Option.some.inj (show some (r_25, (0 : Int)) = some r from H_54); subst H_55
          refine VL_ret ?_
          exact P_to [(4, .c (.h 4)), (5, .c (.val (.int .i64 (0 : Int))))] [(0, .row (.int .i64) l_1), (4, .row (.int .i64) r_25)] [(4, 3)] hn (by kernel_rfl) (by kernel_rfl) rfl rfl rfl (QF_retS (by kernel_rfl) (by kernel_rfl) rfl)

theorem slices_Index_rg_spec (K : Nat) (s_1 : (List Int)) (v_2 : Int) (r : Int) (H : slices_Index_rg K s_1 v_2 = some r) : Spec Try.prog 29 1 [.c (.h 0), .c (.val (.int .i64 v_2))] [(0, .row (.int .i64) s_1)] (.c (.val (.int .i64 r))) [(0, .row (.int .i64) s_1)] := by
  refine Spec_mk (fn := Try.f29) (c := (Try.f29.body).get!) Try.func29 (by kernel_rfl) rfl ?_
  intro C hN hn
  replace hN : C.N = 19 := hN
  unfold slices_Index_rg at H
  refine V_run hN hn 5 1 [0, 1, 7, 8] [0] ⟨[(0, .c (.h 0)), (1, .c (.val (.int .i64 v_2))), (7, .c (.val (.int .i64 (((List.length s_1) : Nat) : Int)))), (8, .c (.val (.int .i64 (0 : Int))))], [(0, .row (.int .i64) s_1)], 1⟩ [] (by kernel_rfl) rfl rfl ap0 ?_
  refine VL_block ?_
  refine V_to [(0, .c (.h 0)), (1, .c (.val (.int .i64 v_2))), (7, .c (.val (.int .i64 (((List.length s_1) : Nat) : Int)))), (8, .c (.val (.int .i64 (0 : Int))))] [(0, .row (.int .i64) s_1)] [] hn (by kernel_rfl) (by kernel_rfl) rfl rfl rfl ?_
  refine VL_loop (X := Int) (fun x => [(0, .c (.h 0)), (1, .c (.val (.int .i64 v_2))), (7, .c (.val (.int .i64 (((List.length s_1) : Nat) : Int)))), (8, .c (.val (.int .i64 x)))]) (fun x => [(0, .row (.int .i64) s_1)]) (fun k x => slices_Index_rg.l0 K s_1 v_2 k x = some r) K (0 : Int) H (fun _ h => no_none h) ?_
  intro k_5 t_4 H_16
  have H_17 : slices_Index_rg.l0 K s_1 v_2 (k_5 + 1) t_4 = some r := H_16
  rw [slices_Index_rg.l0] at H_17
  refine V_run hN hn 3 1 [0, 1, 7, 8, 9] [0] ⟨[(0, .c (.h 0)), (1, .c (.val (.int .i64 v_2))), (7, .c (.val (.int .i64 (((List.length s_1) : Nat) : Int)))), (8, .c (.val (.int .i64 t_4))), (9, .c (.val (.bool (decide (t_4 < (((List.length s_1) : Nat) : Int))))))], [(0, .row (.int .i64) s_1)], 1⟩ [] (by kernel_rfl) rfl rfl ap0 ?_
  refine VL_cond ((decide (t_4 < (((List.length s_1) : Nat) : Int)))) (by kernel_rfl) ?_ ?_
  · intro b_7; have H_18 := of_t H_17 b_7
    refine V_run hN hn 2 1 [0, 1, 7, 8, 9] [0] ⟨[(0, .c (.h 0)), (1, .c (.val (.int .i64 v_2))), (7, .c (.val (.int .i64 (((List.length s_1) : Nat) : Int)))), (8, .c (.val (.int .i64 t_4))), (9, .c (.val (.bool (decide (t_4 < (((List.length s_1) : Nat) : Int))))))], [(0, .row (.int .i64) s_1)], 1⟩ [] (by kernel_rfl) rfl rfl ap0 ?_
    refine VL_block ?_
    obtain ⟨c_9, H_20⟩ := of_if H_18
    refine V_run hN hn 4 1 [0, 1, 5, 7, 8, 16] [0] ⟨[(0, .c (.h 0)), (1, .c (.val (.int .i64 v_2))), (5, .c (.val (.int .i64 t_4))), (7, .c (.val (.int .i64 (((List.length s_1) : Nat) : Int)))), (8, .c (.val (.int .i64 t_4))), (16, .c (.val (.bool (v_2 == (List.getD s_1 (Int.toNat t_4) (0 : Int))))))], [(0, .row (.int .i64) s_1)], 1⟩ [0 ≤ t_4, t_4 < (((List.length s_1) : Nat) : Int)] (by kernel_rfl) rfl rfl (ap2 c_9.1 (ap1 c_9.2)) ?_
    refine VL_cond ((v_2 == (List.getD s_1 (Int.toNat t_4) (0 : Int)))) (by kernel_rfl) ?_ ?_
    · intro b_10; have H_21 := of_t H_20 b_10
      refine V_run hN hn 2 1 [4] [0] ⟨[(4, .c (.val (.int .i64 t_4)))], [(0, .row (.int .i64) s_1)], 1⟩ [] (by kernel_rfl) rfl rfl ap0 ?_
      have H_23 := Option.some.inj (show some t_4 = some r from H_21); subst H_23
      refine VL_ret ?_
      refine QB_ret ?_
      refine QL_ret ?_
      refine QB_ret ?_
      exact P_to [(4, .c (.val (.int .i64 t_4)))] [(0, .row (.int .i64) s_1)] [] hn (by kernel_rfl) (by kernel_rfl) rfl rfl rfl (QF_retS (by kernel_rfl) (by kernel_rfl) rfl)
    · intro b_10; have H_22 := of_f H_20 b_10
      refine V_run hN hn 1 1 [0, 1, 5, 7, 8, 16] [0] ⟨[(0, .c (.h 0)), (1, .c (.val (.int .i64 v_2))), (5, .c (.val (.int .i64 t_4))), (7, .c (.val (.int .i64 (((List.length s_1) : Nat) : Int)))), (8, .c (.val (.int .i64 t_4))), (16, .c (.val (.bool (v_2 == (List.getD s_1 (Int.toNat t_4) (0 : Int))))))], [(0, .row (.int .i64) s_1)], 1⟩ [] (by kernel_rfl) rfl rfl ap0 ?_
      refine VL_nil (QB_end ?_)
      refine V_run hN hn 1 1 [0, 1, 7, 8] [0] ⟨[(0, .c (.h 0)), (1, .c (.val (.int .i64 v_2))), (7, .c (.val (.int .i64 (((List.length s_1) : Nat) : Int)))), (8, .c (.val (.int .i64 (IntKind.wrap .i64 (t_4 + (1 : Int))))))], [(0, .row (.int .i64) s_1)], 1⟩ [] (by kernel_rfl) rfl rfl ap0 ?_
      refine VL_nil ?_
      exact V_roundEnd (IntKind.wrap .i64 (t_4 + (1 : Int))) H_22 [] hn (by kernel_rfl) (by kernel_rfl) rfl rfl rfl
  · intro b_7; have H_19 := of_f H_17 b_7
    refine VL_exit ?_
    refine QL_exit ?_
    refine QB_here ?_
    refine V_run hN hn 2 1 [4] [0] ⟨[(4, .c (.val (.int .i64 (-1 : Int))))], [(0, .row (.int .i64) s_1)], 1⟩ [] (by kernel_rfl) rfl rfl ap0 ?_
    have H_24 := Option.some.inj (show some (-1 : Int) = some r from H_19); subst H_24
    refine VL_ret ?_
    exact P_to [(4, .c (.val (.int .i64 (-1 : Int))))] [(0, .row (.int .i64) s_1)] [] hn (by kernel_rfl) (by kernel_rfl) rfl rfl rfl (QF_retS (by kernel_rfl) (by kernel_rfl) rfl)

theorem breaks_Take_rg_spec (K : Nat) (l_1 : (List Int)) (at_2 : Int) (r : ((List Int) × Int)) (H : breaks_Take_rg K l_1 at_2 = some r) : Spec Try.prog 17 1 [.c (.h 0), .c (.val (.int .i64 at_2))] [(0, .row (.int .i64) l_1)] (.tup [(false, [.h 1]), (false, [.val (.int .i64 r.2)])]) [(0, .row (.int .i64) l_1), (1, .row (.int .i64) r.1)] := by
  refine Spec_mk (fn := Try.f17) (c := (Try.f17.body).get!) Try.func17 (by kernel_rfl) rfl ?_
  intro C hN hn
  replace hN : C.N = 30 := hN
  unfold breaks_Take_rg at H
  refine V_run hN hn 3 1 [0, 1] [0] ⟨[(0, .c (.h 0)), (1, .c (.val (.int .i64 at_2)))], [(0, .row (.int .i64) l_1)], 1⟩ [] (by kernel_rfl) rfl rfl ap0 ?_
  obtain ⟨r_4, h_5, H_15⟩ := of_bind H
  refine V_reg hN hn [(2, ⟨29, 1, [.c (.h 0), .c (.val (.int .i64 at_2))], [(0, .row (.int .i64) l_1)], .c (.val (.int .i64 r_4)), [(0, .row (.int .i64) l_1)], [(0, 0)], 1⟩)] [] (calls_cons (slices_Index_rg_spec K l_1 at_2 r_4 h_5) (by kernel_rfl) calls_nil) 1 [0, 6] [0] ⟨[(0, .c (.h 0)), (6, .c (.val (.int .i64 r_4)))], [(0, .row (.int .i64) l_1)], 1⟩ [] (by kernel_rfl) rfl rfl ap0 (by kernel_rfl) (by kernel_rfl) ?_
  refine V_run hN hn 3 1 [0, 6, 12] [0] ⟨[(0, .c (.h 0)), (6, .c (.val (.int .i64 r_4))), (12, .c (.val (.bool (decide (r_4 < (0 : Int))))))], [(0, .row (.int .i64) l_1)], 1⟩ [] (by kernel_rfl) rfl rfl ap0 ?_
  refine VL_cond ((decide (r_4 < (0 : Int)))) (by kernel_rfl) ?_ ?_
  · intro b_8; have H_16 := of_t H_15 b_8
    refine V_run hN hn 2 1 [4, 5] [0] ⟨[(4, .c (.val (.slice none 0 0))), (5, .c (.val (.int .i64 (10 : Int))))], [(0, .row (.int .i64) l_1)], 1⟩ [] (by kernel_rfl) rfl rfl ap0 ?_
    have H_18 := Option.some.inj (show some (([] : List Int), (10 : Int)) = some r from H_16); subst H_18
    refine VL_ret ?_
    refine P_ghost [.nilSlot 4 (.int .i64)] 1 hn [4, 5] [0, 1] ⟨[(4, .c (.h 1)), (5, .c (.val (.int .i64 (10 : Int))))], [(0, .row (.int .i64) l_1), (1, .row (.int .i64) ([] : List Int))], 2⟩ (by kernel_rfl) rfl rfl ?_
    exact P_to [(4, .c (.h 1)), (5, .c (.val (.int .i64 (10 : Int))))] [(0, .row (.int .i64) l_1), (1, .row (.int .i64) ([] : List Int))] [(1, 1)] hn (by kernel_rfl) (by kernel_rfl) rfl rfl rfl (QF_retS (by kernel_rfl) (by kernel_rfl) rfl)
  · intro b_8; have H_17 := of_f H_15 b_8
    obtain ⟨c_10, H_19⟩ := of_if H_17
    refine V_run hN hn 4 1 [0, 6, 7] [0, 1] ⟨[(0, .c (.h 0)), (6, .c (.val (.int .i64 r_4))), (7, .c (.h 1))], [(0, .row (.int .i64) l_1), (1, .row (.int .i64) (List.replicate (Int.toNat (IntKind.wrap .i64 ((((List.length l_1) : Nat) : Int) - (1 : Int)))) (0 : Int)))], 2⟩ [(0 : Int) ≤ (IntKind.wrap .i64 ((((List.length l_1) : Nat) : Int) - (1 : Int))), (IntKind.wrap .i64 ((((List.length l_1) : Nat) : Int) - (1 : Int))) ≤ (IntKind.wrap .i64 ((((List.length l_1) : Nat) : Int) - (1 : Int))), (IntKind.wrap .i64 ((((List.length l_1) : Nat) : Int) - (1 : Int))) * 8 ≤ (140737488355328 : Int), (IntKind.wrap .i64 ((((List.length l_1) : Nat) : Int) - (1 : Int))) ≤ (9223372036854775807 : Int)] (by kernel_rfl) rfl rfl (ap2 c_10.1 (ap2 c_10.2.1 (ap2 c_10.2.2.1 (ap1 c_10.2.2.2)))) ?_
    obtain ⟨c_11, H_20⟩ := of_if H_19
    refine V_draw hN hn (by kernel_rfl) [] [] calls_nil 2 [7] [0, 1] ⟨[(7, .c (.h 1))], [(0, .row (.int .i64) l_1), (1, .row (.int .i64) (putAt (putAt (List.replicate (Int.toNat (IntKind.wrap .i64 ((((List.length l_1) : Nat) : Int) - (1 : Int)))) (0 : Int)) (List.take (List.length (List.replicate (Int.toNat (IntKind.wrap .i64 ((((List.length l_1) : Nat) : Int) - (1 : Int)))) (0 : Int))) (List.take ((Int.toNat r_4) - 0) (List.drop 0 l_1))) 0) (List.take ((List.length (putAt (List.replicate (Int.toNat (IntKind.wrap .i64 ((((List.length l_1) : Nat) : Int) - (1 : Int)))) (0 : Int)) (List.take (List.length (List.replicate (Int.toNat (IntKind.wrap .i64 ((((List.length l_1) : Nat) : Int) - (1 : Int)))) (0 : Int))) (List.take ((Int.toNat r_4) - 0) (List.drop 0 l_1))) 0)) - (Int.toNat (((List.length (List.take (List.length (List.replicate (Int.toNat (IntKind.wrap .i64 ((((List.length l_1) : Nat) : Int) - (1 : Int)))) (0 : Int))) (List.take ((Int.toNat r_4) - 0) (List.drop 0 l_1)))) : Nat) : Int))) (List.take ((List.length l_1) - (Int.toNat (IntKind.wrap .i64 (r_4 + (1 : Int))))) (List.drop (Int.toNat (IntKind.wrap .i64 (r_4 + (1 : Int)))) l_1))) (Int.toNat (((List.length (List.take (List.length (List.replicate (Int.toNat (IntKind.wrap .i64 ((((List.length l_1) : Nat) : Int) - (1 : Int)))) (0 : Int))) (List.take ((Int.toNat r_4) - 0) (List.drop 0 l_1)))) : Nat) : Int))))], 2⟩ [(0 : Int) ≤ r_4, r_4 ≤ (((List.length l_1) : Nat) : Int), (0 : Int) ≤ (((List.length (List.take (List.length (List.replicate (Int.toNat (IntKind.wrap .i64 ((((List.length l_1) : Nat) : Int) - (1 : Int)))) (0 : Int))) (List.take ((Int.toNat r_4) - 0) (List.drop 0 l_1)))) : Nat) : Int), (((List.length (List.take (List.length (List.replicate (Int.toNat (IntKind.wrap .i64 ((((List.length l_1) : Nat) : Int) - (1 : Int)))) (0 : Int))) (List.take ((Int.toNat r_4) - 0) (List.drop 0 l_1)))) : Nat) : Int) ≤ (((List.length (putAt (List.replicate (Int.toNat (IntKind.wrap .i64 ((((List.length l_1) : Nat) : Int) - (1 : Int)))) (0 : Int)) (List.take (List.length (List.replicate (Int.toNat (IntKind.wrap .i64 ((((List.length l_1) : Nat) : Int) - (1 : Int)))) (0 : Int))) (List.take ((Int.toNat r_4) - 0) (List.drop 0 l_1))) 0)) : Nat) : Int), (0 : Int) ≤ (IntKind.wrap .i64 (r_4 + (1 : Int))), (IntKind.wrap .i64 (r_4 + (1 : Int))) ≤ (((List.length l_1) : Nat) : Int), (0 : Int) ≤ (IntKind.wrap .i64 (r_4 + (1 : Int))), (IntKind.wrap .i64 (r_4 + (1 : Int))) ≤ (((List.length l_1) : Nat) : Int)] (by kernel_rfl) rfl rfl (ap2 c_11.1 (ap2 c_11.2.1 (ap2 c_11.2.2.1 (ap2 c_11.2.2.2.1 (ap2 c_11.2.2.2.2.1 (ap2 c_11.2.2.2.2.2 (ap2 c_11.2.2.2.2.1 (ap1 c_11.2.2.2.2.2)))))))) (by kernel_rfl) (by kernel_rfl) ?_
    refine V_run hN hn 2 2 [4, 5] [0, 1] ⟨[(4, .c (.h 1)), (5, .c (.val (.int .i64 (0 : Int))))], [(0, .row (.int .i64) l_1), (1, .row (.int .i64) (putAt (putAt (List.replicate (Int.toNat (IntKind.wrap .i64 ((((List.length l_1) : Nat) : Int) - (1 : Int)))) (0 : Int)) (List.take (List.length (List.replicate (Int.toNat (IntKind.wrap .i64 ((((List.length l_1) : Nat) : Int) - (1 : Int)))) (0 : Int))) (List.take ((Int.toNat r_4) - 0) (List.drop 0 l_1))) 0) (List.take ((List.length (putAt (List.replicate (Int.toNat (IntKind.wrap .i64 ((((List.length l_1) : Nat) : Int) - (1 : Int)))) (0 : Int)) (List.take (List.length (List.replicate (Int.toNat (IntKind.wrap .i64 ((((List.length l_1) : Nat) : Int) - (1 : Int)))) (0 : Int))) (List.take ((Int.toNat r_4) - 0) (List.drop 0 l_1))) 0)) - (Int.toNat (((List.length (List.take (List.length (List.replicate (Int.toNat (IntKind.wrap .i64 ((((List.length l_1) : Nat) : Int) - (1 : Int)))) (0 : Int))) (List.take ((Int.toNat r_4) - 0) (List.drop 0 l_1)))) : Nat) : Int))) (List.take ((List.length l_1) - (Int.toNat (IntKind.wrap .i64 (r_4 + (1 : Int))))) (List.drop (Int.toNat (IntKind.wrap .i64 (r_4 + (1 : Int)))) l_1))) (Int.toNat (((List.length (List.take (List.length (List.replicate (Int.toNat (IntKind.wrap .i64 ((((List.length l_1) : Nat) : Int) - (1 : Int)))) (0 : Int))) (List.take ((Int.toNat r_4) - 0) (List.drop 0 l_1)))) : Nat) : Int))))], 2⟩ [] (by kernel_rfl) rfl rfl ap0 ?_
    have H_21 := Option.some.inj (show some ((putAt (putAt (List.replicate (Int.toNat (IntKind.wrap .i64 ((((List.length l_1) : Nat) : Int) - (1 : Int)))) (0 : Int)) (List.take (List.length (List.replicate (Int.toNat (IntKind.wrap .i64 ((((List.length l_1) : Nat) : Int) - (1 : Int)))) (0 : Int))) (List.take ((Int.toNat r_4) - 0) (List.drop 0 l_1))) 0) (List.take ((List.length (putAt (List.replicate (Int.toNat (IntKind.wrap .i64 ((((List.length l_1) : Nat) : Int) - (1 : Int)))) (0 : Int)) (List.take (List.length (List.replicate (Int.toNat (IntKind.wrap .i64 ((((List.length l_1) : Nat) : Int) - (1 : Int)))) (0 : Int))) (List.take ((Int.toNat r_4) - 0) (List.drop 0 l_1))) 0)) - (Int.toNat (((List.length (List.take (List.length (List.replicate (Int.toNat (IntKind.wrap .i64 ((((List.length l_1) : Nat) : Int) - (1 : Int)))) (0 : Int))) (List.take ((Int.toNat r_4) - 0) (List.drop 0 l_1)))) : Nat) : Int))) (List.take ((List.length l_1) - (Int.toNat (IntKind.wrap .i64 (r_4 + (1 : Int))))) (List.drop (Int.toNat (IntKind.wrap .i64 (r_4 + (1 : Int)))) l_1))) (Int.toNat (((List.length (List.take (List.length (List.replicate (Int.toNat (IntKind.wrap .i64 ((((List.length l_1) : Nat) : Int) - (1 : Int)))) (0 : Int))) (List.take ((Int.toNat r_4) - 0) (List.drop 0 l_1)))) : Nat) : Int))), (0 : Int)) = some r from H_20); subst H_21
    refine VL_ret ?_
    exact P_to [(4, .c (.h 1)), (5, .c (.val (.int .i64 (0 : Int))))] [(0, .row (.int .i64) l_1), (1, .row (.int .i64) (putAt (putAt (List.replicate (Int.toNat (IntKind.wrap .i64 ((((List.length l_1) : Nat) : Int) - (1 : Int)))) (0 : Int)) (List.take (List.length (List.replicate (Int.toNat (IntKind.wrap .i64 ((((List.length l_1) : Nat) : Int) - (1 : Int)))) (0 : Int))) (List.take ((Int.toNat r_4) - 0) (List.drop 0 l_1))) 0) (List.take ((List.length (putAt (List.replicate (Int.toNat (IntKind.wrap .i64 ((((List.length l_1) : Nat) : Int) - (1 : Int)))) (0 : Int)) (List.take (List.length (List.replicate (Int.toNat (IntKind.wrap .i64 ((((List.length l_1) : Nat) : Int) - (1 : Int)))) (0 : Int))) (List.take ((Int.toNat r_4) - 0) (List.drop 0 l_1))) 0)) - (Int.toNat (((List.length (List.take (List.length (List.replicate (Int.toNat (IntKind.wrap .i64 ((((List.length l_1) : Nat) : Int) - (1 : Int)))) (0 : Int))) (List.take ((Int.toNat r_4) - 0) (List.drop 0 l_1)))) : Nat) : Int))) (List.take ((List.length l_1) - (Int.toNat (IntKind.wrap .i64 (r_4 + (1 : Int))))) (List.drop (Int.toNat (IntKind.wrap .i64 (r_4 + (1 : Int)))) l_1))) (Int.toNat (((List.length (List.take (List.length (List.replicate (Int.toNat (IntKind.wrap .i64 ((((List.length l_1) : Nat) : Int) - (1 : Int)))) (0 : Int))) (List.take ((Int.toNat r_4) - 0) (List.drop 0 l_1)))) : Nat) : Int))))] [(1, 1)] hn (by kernel_rfl) (by kernel_rfl) rfl rfl rfl (QF_retS (by kernel_rfl) (by kernel_rfl) rfl)

theorem utf_forms_spec (K : Nat) (r : (Int × Int × Int × Int × Int × Int × Int × Int × Int × Int × Int × Int)) (H : utf_forms K  = some r) : Spec Try.prog 57 0 [] [] (.agg [.val (.int .u8 r.1), .val (.int .u8 r.2.1), .val (.int .i32 r.2.2.1), .val (.int .u8 r.2.2.2.1), .val (.int .u8 r.2.2.2.2.1), .val (.int .i32 r.2.2.2.2.2.1), .val (.int .u8 r.2.2.2.2.2.2.1), .val (.int .u8 r.2.2.2.2.2.2.2.1), .val (.int .i32 r.2.2.2.2.2.2.2.2.1), .val (.int .u8 r.2.2.2.2.2.2.2.2.2.1), .val (.int .u8 r.2.2.2.2.2.2.2.2.2.2.1), .val (.int .i32 r.2.2.2.2.2.2.2.2.2.2.2)]) [] := by
  refine Spec_mk (fn := Try.f57) (c := (Try.f57.body).get!) Try.func57 (by kernel_rfl) rfl ?_
  intro C hN hn
  replace hN : C.N = 6 := hN
  unfold utf_forms at H
  refine V_run hN hn 4 0 [0] [0] ⟨[(0, .c (.h 0))], [(0, .box [.val (.int .u8 (128 : Int)), .val (.int .u8 (0 : Int)), .val (.int .i32 (0 : Int)), .val (.int .u8 (224 : Int)), .val (.int .u8 (192 : Int)), .val (.int .i32 (128 : Int)), .val (.int .u8 (240 : Int)), .val (.int .u8 (224 : Int)), .val (.int .i32 (2048 : Int)), .val (.int .u8 (248 : Int)), .val (.int .u8 (240 : Int)), .val (.int .i32 (65536 : Int))])], 1⟩ [] (by kernel_rfl) rfl rfl ap0 ?_
  have H_14 := Option.some.inj (show some ((128 : Int), (0 : Int), (0 : Int), (224 : Int), (192 : Int), (128 : Int), (240 : Int), (224 : Int), (2048 : Int), (248 : Int), (240 : Int), (65536 : Int)) = some r from H); subst H_14
  refine VL_ret ?_
  exact P_to [(0, .c (.h 0))] [(0, .box [.val (.int .u8 (128 : Int)), .val (.int .u8 (0 : Int)), .val (.int .i32 (0 : Int)), .val (.int .u8 (224 : Int)), .val (.int .u8 (192 : Int)), .val (.int .i32 (128 : Int)), .val (.int .u8 (240 : Int)), .val (.int .u8 (224 : Int)), .val (.int .i32 (2048 : Int)), .val (.int .u8 (248 : Int)), .val (.int .u8 (240 : Int)), .val (.int .i32 (65536 : Int))])] [(0, 0)] hn (by kernel_rfl) (by kernel_rfl) rfl rfl rfl (QF_retS (by kernel_rfl) (by kernel_rfl) rfl)

theorem utf_isPoint_spec (K : Nat) (r_1 : Int) (r : Bool) (H : utf_isPoint K r_1 = some r) : Spec Try.prog 60 0 [.c (.val (.int .i32 r_1))] [] (.c (.val (.bool r))) [] := by
  refine Spec_mk (fn := Try.f60) (c := (Try.f60.body).get!) Try.func60 (by kernel_rfl) rfl ?_
  intro C hN hn
  replace hN : C.N = 17 := hN
  unfold utf_isPoint at H
  refine V_run hN hn 3 0 [0] [] ⟨[(0, .c (.val (.int .i32 r_1)))], [], 0⟩ [] (by kernel_rfl) rfl rfl ap0 ?_
  rcases Bool.eq_false_or_eq_true ((decide (r_1 ≥ (0 : Int)))) with b_3 | b_3
  · have H_11 := of_t H b_3
    rcases Bool.eq_false_or_eq_true ((decide (r_1 ≤ (1114111 : Int)))) with b_4 | b_4
    · have H_13 := of_t H_11 b_4
      rcases Bool.eq_false_or_eq_true ((decide (r_1 < (55296 : Int)))) with b_5 | b_5
      · have H_15 := of_t H_13 b_5
        refine V_reg hN hn [] [(5, true), (9, true), (12, true)] calls_nil 0 [2] [] ⟨[(2, .c (.val (.bool true)))], [], 0⟩ [(decide (r_1 ≥ (0 : Int))) = true, (decide (r_1 ≤ (1114111 : Int))) = true, (decide (r_1 < (55296 : Int))) = true] (by kernel_rfl) rfl rfl (ap2 b_3 (ap2 b_4 (ap1 b_5))) (by kernel_rfl) (by kernel_rfl) ?_
        have H_17 := Option.some.inj (show some true = some r from H_15); subst H_17
        refine VL_ret ?_
        exact P_to [(2, .c (.val (.bool true)))] [] [] hn (by kernel_rfl) (by kernel_rfl) rfl rfl rfl (QF_retS (by kernel_rfl) (by kernel_rfl) rfl)
      · have H_16 := of_f H_13 b_5
        refine V_reg hN hn [] [(5, true), (9, true), (12, false)] calls_nil 0 [2] [] ⟨[(2, .c (.val (.bool (decide (r_1 > (57343 : Int))))))], [], 0⟩ [(decide (r_1 ≥ (0 : Int))) = true, (decide (r_1 ≤ (1114111 : Int))) = true, (decide (r_1 < (55296 : Int))) = false] (by kernel_rfl) rfl rfl (ap2 b_3 (ap2 b_4 (ap1 b_5))) (by kernel_rfl) (by kernel_rfl) ?_
        have H_18 := Option.some.inj (show some (decide (r_1 > (57343 : Int))) = some r from H_16); subst H_18
        refine VL_ret ?_
        exact P_to [(2, .c (.val (.bool (decide (r_1 > (57343 : Int))))))] [] [] hn (by kernel_rfl) (by kernel_rfl) rfl rfl rfl (QF_retS (by kernel_rfl) (by kernel_rfl) rfl)
    · have H_14 := of_f H_11 b_4
      refine V_reg hN hn [] [(5, true), (9, false)] calls_nil 0 [2] [] ⟨[(2, .c (.val (.bool false)))], [], 0⟩ [(decide (r_1 ≥ (0 : Int))) = true, (decide (r_1 ≤ (1114111 : Int))) = false] (by kernel_rfl) rfl rfl (ap2 b_3 (ap1 b_4)) (by kernel_rfl) (by kernel_rfl) ?_
      have H_19 := Option.some.inj (show some false = some r from H_14); subst H_19
      refine VL_ret ?_
      exact P_to [(2, .c (.val (.bool false)))] [] [] hn (by kernel_rfl) (by kernel_rfl) rfl rfl rfl (QF_retS (by kernel_rfl) (by kernel_rfl) rfl)
  · have H_12 := of_f H b_3
    refine V_reg hN hn [] [(5, false)] calls_nil 0 [2] [] ⟨[(2, .c (.val (.bool false)))], [], 0⟩ [(decide (r_1 ≥ (0 : Int))) = false] (by kernel_rfl) rfl rfl (ap1 b_3) (by kernel_rfl) (by kernel_rfl) ?_
    have H_20 := Option.some.inj (show some false = some r from H_12); subst H_20
    refine VL_ret ?_
    exact P_to [(2, .c (.val (.bool false)))] [] [] hn (by kernel_rfl) (by kernel_rfl) rfl rfl rfl (QF_retS (by kernel_rfl) (by kernel_rfl) rfl)

theorem utf_long_spec (K : Nat) (s_1 : ByteArray) (at_2 : Int) (n_3 : Int) (f_4 : Int) (f_5 : Int) (f_6 : Int) (r : (Int × Int)) (H : utf_long K s_1 at_2 n_3 f_4 f_5 f_6 = some r) : Spec Try.prog 58 0 [.c (.val (.string s_1)), .c (.val (.int .i64 at_2)), .c (.val (.int .i64 n_3)), .agg [.val (.int .u8 f_4), .val (.int .u8 f_5), .val (.int .i32 f_6)]] [] (.tup [(false, [.val (.int .i32 r.1)]), (false, [.val (.int .i64 r.2)])]) [] := by
  refine Spec_mk (fn := Try.f58) (c := (Try.f58.body).get!) Try.func58 (by kernel_rfl) rfl ?_
  intro C hN hn
  replace hN : C.N = 56 := hN
  unfold utf_long at H
  refine V_run hN hn 5 0 [0, 1, 2, 7, 18] [0] ⟨[(0, .c (.val (.string s_1))), (1, .c (.val (.int .i64 at_2))), (2, .c (.val (.int .i64 n_3))), (7, .c (.h 0)), (18, .c (.val (.bool (decide ((IntKind.wrap .i64 ((((ByteArray.size s_1) : Nat) : Int) - at_2)) < n_3)))))], [(0, .box [.val (.int .u8 f_4), .val (.int .u8 f_5), .val (.int .i32 f_6)])], 1⟩ [] (by kernel_rfl) rfl rfl ap0 ?_
  refine VL_cond ((decide ((IntKind.wrap .i64 ((((ByteArray.size s_1) : Nat) : Int) - at_2)) < n_3))) (by kernel_rfl) ?_ ?_
  · intro b_8; have H_40 := of_t H b_8
    refine V_run hN hn 2 1 [8, 9] [] ⟨[(8, .c (.val (.int .i32 (0 : Int)))), (9, .c (.val (.int .i64 (0 : Int))))], [], 1⟩ [] (by kernel_rfl) rfl rfl ap0 ?_
    have H_42 := Option.some.inj (show some ((0 : Int), (0 : Int)) = some r from H_40); subst H_42
    refine VL_ret ?_
    exact P_to [(8, .c (.val (.int .i32 (0 : Int)))), (9, .c (.val (.int .i64 (0 : Int))))] [] [] hn (by kernel_rfl) (by kernel_rfl) rfl rfl rfl (QF_retS (by kernel_rfl) (by kernel_rfl) rfl)
  · intro b_8; have H_41 := of_f H b_8
    refine V_run hN hn 2 1 [0, 1, 2, 7, 18] [0] ⟨[(0, .c (.val (.string s_1))), (1, .c (.val (.int .i64 at_2))), (2, .c (.val (.int .i64 n_3))), (7, .c (.h 0)), (18, .c (.val (.bool (decide ((IntKind.wrap .i64 ((((ByteArray.size s_1) : Nat) : Int) - at_2)) < n_3)))))], [(0, .box [.val (.int .u8 f_4), .val (.int .u8 f_5), .val (.int .i32 f_6)])], 1⟩ [] (by kernel_rfl) rfl rfl ap0 ?_
    obtain ⟨c_11, H_43⟩ := of_if H_41
    refine V_draw hN hn (by kernel_rfl) [] [] calls_nil 1 [0, 1, 2, 7, 10] [0] ⟨[(0, .c (.val (.string s_1))), (1, .c (.val (.int .i64 at_2))), (2, .c (.val (.int .i64 n_3))), (7, .c (.h 0)), (10, .c (.val (.int .i32 (IntKind.wrap .i32 (IntKind.wrap .u8 (BitVec.toNat (BitVec.ofInt (IntKind.bits .u8) (bt s_1 at_2) &&& ~~~BitVec.ofInt (IntKind.bits .u8) f_4)))))))], [(0, .box [.val (.int .u8 f_4), .val (.int .u8 f_5), .val (.int .i32 f_6)])], 1⟩ [0 ≤ at_2, at_2 < (((ByteArray.size s_1) : Nat) : Int)] (by kernel_rfl) rfl rfl (ap2 c_11.1 (ap1 c_11.2)) (by kernel_rfl) (by kernel_rfl) ?_
    refine V_run hN hn 3 1 [0, 1, 2, 7, 10, 11] [0] ⟨[(0, .c (.val (.string s_1))), (1, .c (.val (.int .i64 at_2))), (2, .c (.val (.int .i64 n_3))), (7, .c (.h 0)), (10, .c (.val (.int .i32 (IntKind.wrap .i32 (IntKind.wrap .u8 (BitVec.toNat (BitVec.ofInt (IntKind.bits .u8) (bt s_1 at_2) &&& ~~~BitVec.ofInt (IntKind.bits .u8) f_4))))))), (11, .c (.val (.int .i64 (1 : Int))))], [(0, .box [.val (.int .u8 f_4), .val (.int .u8 f_5), .val (.int .i32 f_6)])], 1⟩ [] (by kernel_rfl) rfl rfl ap0 ?_
    obtain ⟨q_44, H_45, H_46⟩ := of_bind H_43
    refine V_cut (Y := Int) (R := ((Int × Int) ⊕ Int)) q_44 (fun y => (Sum.inr y)) (fun y => [(2, .c (.val (.int .i64 n_3))), (7, .c (.h 0)), (10, .c (.val (.int .i32 y)))]) (fun y => [(0, .box [.val (.int .u8 f_4), .val (.int .u8 f_5), .val (.int .i32 f_6)])]) ?_ ?_
    · skip
      refine VL_block ?_
      refine V_to [(0, .c (.val (.string s_1))), (1, .c (.val (.int .i64 at_2))), (2, .c (.val (.int .i64 n_3))), (7, .c (.h 0)), (10, .c (.val (.int .i32 (IntKind.wrap .i32 (IntKind.wrap .u8 (BitVec.toNat (BitVec.ofInt (IntKind.bits .u8) (bt s_1 at_2) &&& ~~~BitVec.ofInt (IntKind.bits .u8) f_4))))))), (11, .c (.val (.int .i64 (1 : Int))))] [(0, .box [.val (.int .u8 f_4), .val (.int .u8 f_5), .val (.int .i32 f_6)])] [(0, 0)] hn (by kernel_rfl) (by kernel_rfl) rfl rfl rfl ?_
      refine VL_loop (X := (Int × Int)) (fun x => [(0, .c (.val (.string s_1))), (1, .c (.val (.int .i64 at_2))), (2, .c (.val (.int .i64 n_3))), (7, .c (.h 0)), (10, .c (.val (.int .i32 x.1))), (11, .c (.val (.int .i64 x.2)))]) (fun x => [(0, .box [.val (.int .u8 f_4), .val (.int .u8 f_5), .val (.int .i32 f_6)])]) (fun k x => utf_long.l0 K n_3 at_2 s_1 k x.1 x.2 = some q_44) K ((IntKind.wrap .i32 (IntKind.wrap .u8 (BitVec.toNat (BitVec.ofInt (IntKind.bits .u8) (bt s_1 at_2) &&& ~~~BitVec.ofInt (IntKind.bits .u8) f_4)))), (1 : Int)) H_45 (fun _ h => no_none h) ?_
      intro k_15 x_15 H_48
      obtain ⟨r_13, i_14⟩ := x_15
      have H_49 : utf_long.l0 K n_3 at_2 s_1 (k_15 + 1) r_13 i_14 = some q_44 := H_48
      rw [utf_long.l0] at H_49
      refine V_run hN hn 3 1 [0, 1, 2, 7, 10, 11, 28] [0] ⟨[(0, .c (.val (.string s_1))), (1, .c (.val (.int .i64 at_2))), (2, .c (.val (.int .i64 n_3))), (7, .c (.h 0)), (10, .c (.val (.int .i32 r_13))), (11, .c (.val (.int .i64 i_14))), (28, .c (.val (.bool (decide (i_14 < n_3)))))], [(0, .box [.val (.int .u8 f_4), .val (.int .u8 f_5), .val (.int .i32 f_6)])], 1⟩ [] (by kernel_rfl) rfl rfl ap0 ?_
      refine VL_cond ((decide (i_14 < n_3))) (by kernel_rfl) ?_ ?_
      · intro b_17; have H_50 := of_t H_49 b_17
        refine V_run hN hn 2 1 [0, 1, 2, 7, 10, 11, 28] [0] ⟨[(0, .c (.val (.string s_1))), (1, .c (.val (.int .i64 at_2))), (2, .c (.val (.int .i64 n_3))), (7, .c (.h 0)), (10, .c (.val (.int .i32 r_13))), (11, .c (.val (.int .i64 i_14))), (28, .c (.val (.bool (decide (i_14 < n_3)))))], [(0, .box [.val (.int .u8 f_4), .val (.int .u8 f_5), .val (.int .i32 f_6)])], 1⟩ [] (by kernel_rfl) rfl rfl ap0 ?_
        refine VL_block ?_
        obtain ⟨c_19, H_52⟩ := of_if H_50
        refine V_run hN hn 5 1 [0, 1, 2, 7, 10, 11, 12, 38] [0] ⟨[(0, .c (.val (.string s_1))), (1, .c (.val (.int .i64 at_2))), (2, .c (.val (.int .i64 n_3))), (7, .c (.h 0)), (10, .c (.val (.int .i32 r_13))), (11, .c (.val (.int .i64 i_14))), (12, .c (.val (.int .u8 (bt s_1 (IntKind.wrap .i64 (at_2 + i_14)))))), (38, .c (.val (.bool ((IntKind.wrap .u8 (BitVec.toNat (BitVec.ofInt (IntKind.bits .u8) (bt s_1 (IntKind.wrap .i64 (at_2 + i_14))) &&& BitVec.ofInt (IntKind.bits .u8) (192 : Int)))) != (128 : Int)))))], [(0, .box [.val (.int .u8 f_4), .val (.int .u8 f_5), .val (.int .i32 f_6)])], 1⟩ [0 ≤ (IntKind.wrap .i64 (at_2 + i_14)), (IntKind.wrap .i64 (at_2 + i_14)) < (((ByteArray.size s_1) : Nat) : Int)] (by kernel_rfl) rfl rfl (ap2 c_19.1 (ap1 c_19.2)) ?_
        refine VL_cond (((IntKind.wrap .u8 (BitVec.toNat (BitVec.ofInt (IntKind.bits .u8) (bt s_1 (IntKind.wrap .i64 (at_2 + i_14))) &&& BitVec.ofInt (IntKind.bits .u8) (192 : Int)))) != (128 : Int))) (by kernel_rfl) ?_ ?_
        · intro b_20; have H_53 := of_t H_52 b_20
          refine V_run hN hn 2 1 [8, 9] [] ⟨[(8, .c (.val (.int .i32 (0 : Int)))), (9, .c (.val (.int .i64 (0 : Int))))], [], 1⟩ [] (by kernel_rfl) rfl rfl ap0 ?_
          have H_55 := Option.some.inj (show some (Sum.inl ((0 : Int), (0 : Int))) = some q_44 from H_53); subst H_55
          have H_56 := Option.some.inj (show some ((0 : Int), (0 : Int)) = some r from H_46); subst H_56
          refine VL_ret ?_
          refine QB_ret ?_
          refine QL_ret ?_
          refine QB_ret ?_
          refine QP_ret ?_
          exact P_to [(8, .c (.val (.int .i32 (0 : Int)))), (9, .c (.val (.int .i64 (0 : Int))))] [] [] hn (by kernel_rfl) (by kernel_rfl) rfl rfl rfl (QF_retS (by kernel_rfl) (by kernel_rfl) rfl)
        · intro b_20; have H_54 := of_f H_52 b_20
          refine V_run hN hn 2 1 [0, 1, 2, 7, 10, 11] [0] ⟨[(0, .c (.val (.string s_1))), (1, .c (.val (.int .i64 at_2))), (2, .c (.val (.int .i64 n_3))), (7, .c (.h 0)), (10, .c (.val (.int .i32 (IntKind.wrap .i32 (BitVec.toNat (BitVec.ofInt (IntKind.bits .i32) (IntKind.wrap .i32 (r_13 * (64 : Int))) ||| BitVec.ofInt (IntKind.bits .i32) (IntKind.wrap .i32 (IntKind.wrap .u8 (BitVec.toNat (BitVec.ofInt (IntKind.bits .u8) (bt s_1 (IntKind.wrap .i64 (at_2 + i_14))) &&& ~~~BitVec.ofInt (IntKind.bits .u8) (192 : Int))))))))))), (11, .c (.val (.int .i64 i_14)))], [(0, .box [.val (.int .u8 f_4), .val (.int .u8 f_5), .val (.int .i32 f_6)])], 1⟩ [(0 : Int) ≤ (6 : Int)] (by kernel_rfl) rfl rfl (ap1 (by decide)) ?_
          refine VL_nil (QB_end ?_)
          refine V_run hN hn 1 1 [0, 1, 2, 7, 10, 11] [0] ⟨[(0, .c (.val (.string s_1))), (1, .c (.val (.int .i64 at_2))), (2, .c (.val (.int .i64 n_3))), (7, .c (.h 0)), (10, .c (.val (.int .i32 (IntKind.wrap .i32 (BitVec.toNat (BitVec.ofInt (IntKind.bits .i32) (IntKind.wrap .i32 (r_13 * (64 : Int))) ||| BitVec.ofInt (IntKind.bits .i32) (IntKind.wrap .i32 (IntKind.wrap .u8 (BitVec.toNat (BitVec.ofInt (IntKind.bits .u8) (bt s_1 (IntKind.wrap .i64 (at_2 + i_14))) &&& ~~~BitVec.ofInt (IntKind.bits .u8) (192 : Int))))))))))), (11, .c (.val (.int .i64 (IntKind.wrap .i64 (i_14 + (1 : Int))))))], [(0, .box [.val (.int .u8 f_4), .val (.int .u8 f_5), .val (.int .i32 f_6)])], 1⟩ [] (by kernel_rfl) rfl rfl ap0 ?_
          refine VL_nil ?_
          exact V_roundEnd ((IntKind.wrap .i32 (BitVec.toNat (BitVec.ofInt (IntKind.bits .i32) (IntKind.wrap .i32 (r_13 * (64 : Int))) ||| BitVec.ofInt (IntKind.bits .i32) (IntKind.wrap .i32 (IntKind.wrap .u8 (BitVec.toNat (BitVec.ofInt (IntKind.bits .u8) (bt s_1 (IntKind.wrap .i64 (at_2 + i_14))) &&& ~~~BitVec.ofInt (IntKind.bits .u8) (192 : Int)))))))), (IntKind.wrap .i64 (i_14 + (1 : Int)))) H_54 [(0, 0)] hn (by kernel_rfl) (by kernel_rfl) rfl rfl rfl
      · intro b_17; have H_51 := of_f H_49 b_17
        refine VL_exit ?_
        refine QL_exit ?_
        refine QB_here ?_
        have H_57 := Option.some.inj (show some (Sum.inr r_13) = some q_44 from H_51); subst H_57
        refine VL_nil ?_
        exact QP_end r_13 rfl [(0, 0)] hn (by kernel_rfl) (by kernel_rfl) rfl rfl rfl
    · intro y_47 hy; subst hy
      skip
      skip
      refine V_run hN hn 2 1 [2, 7, 10] [0] ⟨[(2, .c (.val (.int .i64 n_3))), (7, .c (.h 0)), (10, .c (.val (.int .i32 y_47)))], [(0, .box [.val (.int .u8 f_4), .val (.int .u8 f_5), .val (.int .i32 f_6)])], 1⟩ [] (by kernel_rfl) rfl rfl ap0 ?_
      obtain ⟨q_58, H_59, H_60⟩ := of_bind H_46
      refine V_cut (Y := Bool) (R := Bool) q_58 (fun y => y) (fun y => [(2, .c (.val (.int .i64 n_3))), (10, .c (.val (.int .i32 y_47))), (53, .c (.val (.bool y)))]) (fun y => []) ?_ ?_
      · skip
        rcases Bool.eq_false_or_eq_true ((decide (y_47 < f_6))) with b_26 | b_26
        · have H_62 := of_t H_59 b_26
          refine V_reg hN hn [] [(49, true)] calls_nil 1 [2, 10, 53] [] ⟨[(2, .c (.val (.int .i64 n_3))), (10, .c (.val (.int .i32 y_47))), (53, .c (.val (.bool true)))], [], 1⟩ [(decide (y_47 < f_6)) = true] (by kernel_rfl) rfl rfl (ap1 b_26) (by kernel_rfl) (by kernel_rfl) ?_
          have H_64 := Option.some.inj (show some true = some q_58 from H_62); subst H_64
          refine VL_nil ?_
          exact QP_end true rfl [] hn (by kernel_rfl) (by kernel_rfl) rfl rfl rfl
        · have H_63 := of_f H_59 b_26
          obtain ⟨r_28, h_29, H_65⟩ := of_bind H_63
          refine V_reg hN hn [(6, ⟨60, 0, [.c (.val (.int .i32 y_47))], [], .c (.val (.bool r_28)), [], [], 1⟩)] [(49, false)] (calls_cons (utf_isPoint_spec K y_47 r_28 h_29) (by kernel_rfl) calls_nil) 1 [2, 10, 53] [] ⟨[(2, .c (.val (.int .i64 n_3))), (10, .c (.val (.int .i32 y_47))), (53, .c (.val (.bool (!r_28))))], [], 1⟩ [(decide (y_47 < f_6)) = false] (by kernel_rfl) rfl rfl (ap1 b_26) (by kernel_rfl) (by kernel_rfl) ?_
          have H_66 := Option.some.inj (show some (!r_28) = some q_58 from H_65); subst H_66
          refine VL_nil ?_
          exact QP_end (!r_28) rfl [] hn (by kernel_rfl) (by kernel_rfl) rfl rfl rfl
      · intro y_61 hy; subst hy
        skip
        skip
        refine VL_cond (y_61) (by kernel_rfl) ?_ ?_
        · intro b_32; have H_67 := of_t H_60 b_32
          refine V_run hN hn 2 1 [8, 9] [] ⟨[(8, .c (.val (.int .i32 (0 : Int)))), (9, .c (.val (.int .i64 (0 : Int))))], [], 1⟩ [] (by kernel_rfl) rfl rfl ap0 ?_
          have H_69 := Option.some.inj (show some ((0 : Int), (0 : Int)) = some r from H_67); subst H_69
          refine VL_ret ?_
          exact P_to [(8, .c (.val (.int .i32 (0 : Int)))), (9, .c (.val (.int .i64 (0 : Int))))] [] [] hn (by kernel_rfl) (by kernel_rfl) rfl rfl rfl (QF_retS (by kernel_rfl) (by kernel_rfl) rfl)
        · intro b_32; have H_68 := of_f H_60 b_32
          refine V_run hN hn 3 1 [8, 9] [] ⟨[(8, .c (.val (.int .i32 y_47))), (9, .c (.val (.int .i64 n_3)))], [], 1⟩ [] (by kernel_rfl) rfl rfl ap0 ?_
          have H_70 := Option.some.inj (show some (y_47, n_3) = some r from H_68); subst H_70
          refine VL_ret ?_
          exact P_to [(8, .c (.val (.int .i32 y_47))), (9, .c (.val (.int .i64 n_3)))] [] [] hn (by kernel_rfl) (by kernel_rfl) rfl rfl rfl (QF_retS (by kernel_rfl) (by kernel_rfl) rfl)

theorem utf_point_spec (K : Nat) (s_1 : ByteArray) (at_2 : Int) (r : (Int × Int)) (H : utf_point K s_1 at_2 = some r) : Spec Try.prog 54 0 [.c (.val (.string s_1)), .c (.val (.int .i64 at_2))] [] (.tup [(false, [.val (.int .i32 r.1)]), (false, [.val (.int .i64 r.2)])]) [] := by
  refine Spec_mk (fn := Try.f54) (c := (Try.f54.body).get!) Try.func54 (by kernel_rfl) rfl ?_
  intro C hN hn
  replace hN : C.N = 39 := hN
  unfold utf_point at H
  refine V_run hN hn 4 0 [0, 1] [] ⟨[(0, .c (.val (.string s_1))), (1, .c (.val (.int .i64 at_2)))], [], 0⟩ [] (by kernel_rfl) rfl rfl ap0 ?_
  obtain ⟨q_32, H_33, H_34⟩ := of_bind H
  refine V_cut (Y := Bool) (R := Bool) q_32 (fun y => y) (fun y => [(0, .c (.val (.string s_1))), (1, .c (.val (.int .i64 at_2))), (15, .c (.val (.bool y)))]) (fun y => []) ?_ ?_
  · skip
    rcases Bool.eq_false_or_eq_true ((decide (at_2 < (0 : Int)))) with b_4 | b_4
    · have H_36 := of_t H_33 b_4
      refine V_reg hN hn [] [(10, true)] calls_nil 0 [0, 1, 15] [] ⟨[(0, .c (.val (.string s_1))), (1, .c (.val (.int .i64 at_2))), (15, .c (.val (.bool true)))], [], 0⟩ [(decide (at_2 < (0 : Int))) = true] (by kernel_rfl) rfl rfl (ap1 b_4) (by kernel_rfl) (by kernel_rfl) ?_
      have H_38 := Option.some.inj (show some true = some q_32 from H_36); subst H_38
      refine VL_nil ?_
      exact QP_end true rfl [] hn (by kernel_rfl) (by kernel_rfl) rfl rfl rfl
    · have H_37 := of_f H_33 b_4
      refine V_reg hN hn [] [(10, false)] calls_nil 0 [0, 1, 15] [] ⟨[(0, .c (.val (.string s_1))), (1, .c (.val (.int .i64 at_2))), (15, .c (.val (.bool (decide (at_2 ≥ (((ByteArray.size s_1) : Nat) : Int))))))], [], 0⟩ [(decide (at_2 < (0 : Int))) = false] (by kernel_rfl) rfl rfl (ap1 b_4) (by kernel_rfl) (by kernel_rfl) ?_
      have H_39 := Option.some.inj (show some (decide (at_2 ≥ (((ByteArray.size s_1) : Nat) : Int))) = some q_32 from H_37); subst H_39
      refine VL_nil ?_
      exact QP_end (decide (at_2 ≥ (((ByteArray.size s_1) : Nat) : Int))) rfl [] hn (by kernel_rfl) (by kernel_rfl) rfl rfl rfl
  · intro y_35 hy; subst hy
    skip
    skip
    refine VL_cond (y_35) (by kernel_rfl) ?_ ?_
    · intro b_8; have H_40 := of_t H_34 b_8
      refine V_run hN hn 2 0 [4, 5] [] ⟨[(4, .c (.val (.int .i32 (0 : Int)))), (5, .c (.val (.int .i64 (0 : Int))))], [], 0⟩ [] (by kernel_rfl) rfl rfl ap0 ?_
      have H_42 := Option.some.inj (show some ((0 : Int), (0 : Int)) = some r from H_40); subst H_42
      refine VL_ret ?_
      exact P_to [(4, .c (.val (.int .i32 (0 : Int)))), (5, .c (.val (.int .i64 (0 : Int))))] [] [] hn (by kernel_rfl) (by kernel_rfl) rfl rfl rfl (QF_retS (by kernel_rfl) (by kernel_rfl) rfl)
    · intro b_8; have H_41 := of_f H_34 b_8
      refine V_run hN hn 3 0 [0, 1, 15] [] ⟨[(0, .c (.val (.string s_1))), (1, .c (.val (.int .i64 at_2))), (15, .c (.val (.bool y_35)))], [], 0⟩ [] (by kernel_rfl) rfl rfl ap0 ?_
      obtain ⟨r_11, h_12, H_43⟩ := of_bind H_41
      refine V_reg hN hn [(0, ⟨57, 0, [], [], .agg [.val (.int .u8 r_11.1), .val (.int .u8 r_11.2.1), .val (.int .i32 r_11.2.2.1), .val (.int .u8 r_11.2.2.2.1), .val (.int .u8 r_11.2.2.2.2.1), .val (.int .i32 r_11.2.2.2.2.2.1), .val (.int .u8 r_11.2.2.2.2.2.2.1), .val (.int .u8 r_11.2.2.2.2.2.2.2.1), .val (.int .i32 r_11.2.2.2.2.2.2.2.2.1), .val (.int .u8 r_11.2.2.2.2.2.2.2.2.2.1), .val (.int .u8 r_11.2.2.2.2.2.2.2.2.2.2.1), .val (.int .i32 r_11.2.2.2.2.2.2.2.2.2.2.2)], [], [], 0⟩)] [] (calls_cons (utf_forms_spec K  r_11 h_12) (by kernel_rfl) calls_nil) 0 [0, 1, 16, 17] [] ⟨[(0, .c (.val (.string s_1))), (1, .c (.val (.int .i64 at_2))), (16, .agg [.val (.int .u8 r_11.1), .val (.int .u8 r_11.2.1), .val (.int .i32 r_11.2.2.1), .val (.int .u8 r_11.2.2.2.1), .val (.int .u8 r_11.2.2.2.2.1), .val (.int .i32 r_11.2.2.2.2.2.1), .val (.int .u8 r_11.2.2.2.2.2.2.1), .val (.int .u8 r_11.2.2.2.2.2.2.2.1), .val (.int .i32 r_11.2.2.2.2.2.2.2.2.1), .val (.int .u8 r_11.2.2.2.2.2.2.2.2.2.1), .val (.int .u8 r_11.2.2.2.2.2.2.2.2.2.2.1), .val (.int .i32 r_11.2.2.2.2.2.2.2.2.2.2.2)]), (17, .c (.val (.int .i64 (0 : Int))))], [], 0⟩ [] (by kernel_rfl) rfl rfl ap0 (by kernel_rfl) (by kernel_rfl) ?_
      refine VL_block ?_
      refine V_to [(0, .c (.val (.string s_1))), (1, .c (.val (.int .i64 at_2))), (16, .agg [.val (.int .u8 r_11.1), .val (.int .u8 r_11.2.1), .val (.int .i32 r_11.2.2.1), .val (.int .u8 r_11.2.2.2.1), .val (.int .u8 r_11.2.2.2.2.1), .val (.int .i32 r_11.2.2.2.2.2.1), .val (.int .u8 r_11.2.2.2.2.2.2.1), .val (.int .u8 r_11.2.2.2.2.2.2.2.1), .val (.int .i32 r_11.2.2.2.2.2.2.2.2.1), .val (.int .u8 r_11.2.2.2.2.2.2.2.2.2.1), .val (.int .u8 r_11.2.2.2.2.2.2.2.2.2.2.1), .val (.int .i32 r_11.2.2.2.2.2.2.2.2.2.2.2)]), (17, .c (.val (.int .i64 (0 : Int))))] [] [] hn (by kernel_rfl) (by kernel_rfl) rfl rfl rfl ?_
      refine VL_loop (X := Int) (fun x => [(0, .c (.val (.string s_1))), (1, .c (.val (.int .i64 at_2))), (16, .agg [.val (.int .u8 r_11.1), .val (.int .u8 r_11.2.1), .val (.int .i32 r_11.2.2.1), .val (.int .u8 r_11.2.2.2.1), .val (.int .u8 r_11.2.2.2.2.1), .val (.int .i32 r_11.2.2.2.2.2.1), .val (.int .u8 r_11.2.2.2.2.2.2.1), .val (.int .u8 r_11.2.2.2.2.2.2.2.1), .val (.int .i32 r_11.2.2.2.2.2.2.2.2.1), .val (.int .u8 r_11.2.2.2.2.2.2.2.2.2.1), .val (.int .u8 r_11.2.2.2.2.2.2.2.2.2.2.1), .val (.int .i32 r_11.2.2.2.2.2.2.2.2.2.2.2)]), (17, .c (.val (.int .i64 x)))]) (fun x => []) (fun k x => utf_point.l0 K at_2 s_1 r_11 k x = some r) K (0 : Int) H_43 (fun _ h => no_none h) ?_
      intro k_15 t_14 H_44
      have H_45 : utf_point.l0 K at_2 s_1 r_11 (k_15 + 1) t_14 = some r := H_44
      rw [utf_point.l0] at H_45
      refine V_run hN hn 3 0 [0, 1, 16, 17, 18] [] ⟨[(0, .c (.val (.string s_1))), (1, .c (.val (.int .i64 at_2))), (16, .agg [.val (.int .u8 r_11.1), .val (.int .u8 r_11.2.1), .val (.int .i32 r_11.2.2.1), .val (.int .u8 r_11.2.2.2.1), .val (.int .u8 r_11.2.2.2.2.1), .val (.int .i32 r_11.2.2.2.2.2.1), .val (.int .u8 r_11.2.2.2.2.2.2.1), .val (.int .u8 r_11.2.2.2.2.2.2.2.1), .val (.int .i32 r_11.2.2.2.2.2.2.2.2.1), .val (.int .u8 r_11.2.2.2.2.2.2.2.2.2.1), .val (.int .u8 r_11.2.2.2.2.2.2.2.2.2.2.1), .val (.int .i32 r_11.2.2.2.2.2.2.2.2.2.2.2)]), (17, .c (.val (.int .i64 t_14))), (18, .c (.val (.bool (decide (t_14 < (4 : Int))))))], [], 0⟩ [] (by kernel_rfl) rfl rfl ap0 ?_
      refine VL_cond ((decide (t_14 < (4 : Int)))) (by kernel_rfl) ?_ ?_
      · intro b_17; have H_46 := of_t H_45 b_17
        refine V_run hN hn 2 0 [0, 1, 16, 17, 18] [] ⟨[(0, .c (.val (.string s_1))), (1, .c (.val (.int .i64 at_2))), (16, .agg [.val (.int .u8 r_11.1), .val (.int .u8 r_11.2.1), .val (.int .i32 r_11.2.2.1), .val (.int .u8 r_11.2.2.2.1), .val (.int .u8 r_11.2.2.2.2.1), .val (.int .i32 r_11.2.2.2.2.2.1), .val (.int .u8 r_11.2.2.2.2.2.2.1), .val (.int .u8 r_11.2.2.2.2.2.2.2.1), .val (.int .i32 r_11.2.2.2.2.2.2.2.2.1), .val (.int .u8 r_11.2.2.2.2.2.2.2.2.2.1), .val (.int .u8 r_11.2.2.2.2.2.2.2.2.2.2.1), .val (.int .i32 r_11.2.2.2.2.2.2.2.2.2.2.2)]), (17, .c (.val (.int .i64 t_14))), (18, .c (.val (.bool (decide (t_14 < (4 : Int))))))], [], 0⟩ [] (by kernel_rfl) rfl rfl ap0 ?_
        refine VL_block ?_
        obtain ⟨c_19, H_48⟩ := of_if H_46
        refine V_run hN hn 3 0 [0, 1, 6, 7, 16, 17] [0] ⟨[(0, .c (.val (.string s_1))), (1, .c (.val (.int .i64 at_2))), (6, .c (.val (.int .i64 t_14))), (7, .c (.h 0)), (16, .agg [.val (.int .u8 r_11.1), .val (.int .u8 r_11.2.1), .val (.int .i32 r_11.2.2.1), .val (.int .u8 r_11.2.2.2.1), .val (.int .u8 r_11.2.2.2.2.1), .val (.int .i32 r_11.2.2.2.2.2.1), .val (.int .u8 r_11.2.2.2.2.2.2.1), .val (.int .u8 r_11.2.2.2.2.2.2.2.1), .val (.int .i32 r_11.2.2.2.2.2.2.2.2.1), .val (.int .u8 r_11.2.2.2.2.2.2.2.2.2.1), .val (.int .u8 r_11.2.2.2.2.2.2.2.2.2.2.1), .val (.int .i32 r_11.2.2.2.2.2.2.2.2.2.2.2)]), (17, .c (.val (.int .i64 t_14)))], [(0, .box [.val (.int .u8 (List.getD ([(r_11.1, (r_11.2.1, r_11.2.2.1)), (r_11.2.2.2.1, (r_11.2.2.2.2.1, r_11.2.2.2.2.2.1)), (r_11.2.2.2.2.2.2.1, (r_11.2.2.2.2.2.2.2.1, r_11.2.2.2.2.2.2.2.2.1)), (r_11.2.2.2.2.2.2.2.2.2.1, (r_11.2.2.2.2.2.2.2.2.2.2.1, r_11.2.2.2.2.2.2.2.2.2.2.2))] : List (Int × (Int × Int))) (Int.toNat t_14) ((0 : Int), ((0 : Int), (0 : Int)))).1), .val (.int .u8 (List.getD ([(r_11.1, (r_11.2.1, r_11.2.2.1)), (r_11.2.2.2.1, (r_11.2.2.2.2.1, r_11.2.2.2.2.2.1)), (r_11.2.2.2.2.2.2.1, (r_11.2.2.2.2.2.2.2.1, r_11.2.2.2.2.2.2.2.2.1)), (r_11.2.2.2.2.2.2.2.2.2.1, (r_11.2.2.2.2.2.2.2.2.2.2.1, r_11.2.2.2.2.2.2.2.2.2.2.2))] : List (Int × (Int × Int))) (Int.toNat t_14) ((0 : Int), ((0 : Int), (0 : Int)))).2.1), .val (.int .i32 (List.getD ([(r_11.1, (r_11.2.1, r_11.2.2.1)), (r_11.2.2.2.1, (r_11.2.2.2.2.1, r_11.2.2.2.2.2.1)), (r_11.2.2.2.2.2.2.1, (r_11.2.2.2.2.2.2.2.1, r_11.2.2.2.2.2.2.2.2.1)), (r_11.2.2.2.2.2.2.2.2.2.1, (r_11.2.2.2.2.2.2.2.2.2.2.1, r_11.2.2.2.2.2.2.2.2.2.2.2))] : List (Int × (Int × Int))) (Int.toNat t_14) ((0 : Int), ((0 : Int), (0 : Int)))).2.2)])], 1⟩ [0 ≤ t_14, t_14 < ((4 : Nat) : Int)] (by kernel_rfl) rfl rfl (ap2 c_19.1 (ap1 c_19.2)) ?_
        obtain ⟨c_20, H_49⟩ := of_if H_48
        refine V_draw hN hn (by kernel_rfl) [] [] calls_nil 1 [0, 1, 6, 7, 16, 17, 29] [0] ⟨[(0, .c (.val (.string s_1))), (1, .c (.val (.int .i64 at_2))), (6, .c (.val (.int .i64 t_14))), (7, .c (.h 0)), (16, .agg [.val (.int .u8 r_11.1), .val (.int .u8 r_11.2.1), .val (.int .i32 r_11.2.2.1), .val (.int .u8 r_11.2.2.2.1), .val (.int .u8 r_11.2.2.2.2.1), .val (.int .i32 r_11.2.2.2.2.2.1), .val (.int .u8 r_11.2.2.2.2.2.2.1), .val (.int .u8 r_11.2.2.2.2.2.2.2.1), .val (.int .i32 r_11.2.2.2.2.2.2.2.2.1), .val (.int .u8 r_11.2.2.2.2.2.2.2.2.2.1), .val (.int .u8 r_11.2.2.2.2.2.2.2.2.2.2.1), .val (.int .i32 r_11.2.2.2.2.2.2.2.2.2.2.2)]), (17, .c (.val (.int .i64 t_14))), (29, .c (.val (.bool ((IntKind.wrap .u8 (BitVec.toNat (BitVec.ofInt (IntKind.bits .u8) (bt s_1 at_2) &&& BitVec.ofInt (IntKind.bits .u8) (List.getD ([(r_11.1, (r_11.2.1, r_11.2.2.1)), (r_11.2.2.2.1, (r_11.2.2.2.2.1, r_11.2.2.2.2.2.1)), (r_11.2.2.2.2.2.2.1, (r_11.2.2.2.2.2.2.2.1, r_11.2.2.2.2.2.2.2.2.1)), (r_11.2.2.2.2.2.2.2.2.2.1, (r_11.2.2.2.2.2.2.2.2.2.2.1, r_11.2.2.2.2.2.2.2.2.2.2.2))] : List (Int × (Int × Int))) (Int.toNat t_14) ((0 : Int), ((0 : Int), (0 : Int)))).1))) == (List.getD ([(r_11.1, (r_11.2.1, r_11.2.2.1)), (r_11.2.2.2.1, (r_11.2.2.2.2.1, r_11.2.2.2.2.2.1)), (r_11.2.2.2.2.2.2.1, (r_11.2.2.2.2.2.2.2.1, r_11.2.2.2.2.2.2.2.2.1)), (r_11.2.2.2.2.2.2.2.2.2.1, (r_11.2.2.2.2.2.2.2.2.2.2.1, r_11.2.2.2.2.2.2.2.2.2.2.2))] : List (Int × (Int × Int))) (Int.toNat t_14) ((0 : Int), ((0 : Int), (0 : Int)))).2.1))))], [(0, .box [.val (.int .u8 (List.getD ([(r_11.1, (r_11.2.1, r_11.2.2.1)), (r_11.2.2.2.1, (r_11.2.2.2.2.1, r_11.2.2.2.2.2.1)), (r_11.2.2.2.2.2.2.1, (r_11.2.2.2.2.2.2.2.1, r_11.2.2.2.2.2.2.2.2.1)), (r_11.2.2.2.2.2.2.2.2.2.1, (r_11.2.2.2.2.2.2.2.2.2.2.1, r_11.2.2.2.2.2.2.2.2.2.2.2))] : List (Int × (Int × Int))) (Int.toNat t_14) ((0 : Int), ((0 : Int), (0 : Int)))).1), .val (.int .u8 (List.getD ([(r_11.1, (r_11.2.1, r_11.2.2.1)), (r_11.2.2.2.1, (r_11.2.2.2.2.1, r_11.2.2.2.2.2.1)), (r_11.2.2.2.2.2.2.1, (r_11.2.2.2.2.2.2.2.1, r_11.2.2.2.2.2.2.2.2.1)), (r_11.2.2.2.2.2.2.2.2.2.1, (r_11.2.2.2.2.2.2.2.2.2.2.1, r_11.2.2.2.2.2.2.2.2.2.2.2))] : List (Int × (Int × Int))) (Int.toNat t_14) ((0 : Int), ((0 : Int), (0 : Int)))).2.1), .val (.int .i32 (List.getD ([(r_11.1, (r_11.2.1, r_11.2.2.1)), (r_11.2.2.2.1, (r_11.2.2.2.2.1, r_11.2.2.2.2.2.1)), (r_11.2.2.2.2.2.2.1, (r_11.2.2.2.2.2.2.2.1, r_11.2.2.2.2.2.2.2.2.1)), (r_11.2.2.2.2.2.2.2.2.2.1, (r_11.2.2.2.2.2.2.2.2.2.2.1, r_11.2.2.2.2.2.2.2.2.2.2.2))] : List (Int × (Int × Int))) (Int.toNat t_14) ((0 : Int), ((0 : Int), (0 : Int)))).2.2)])], 1⟩ [0 ≤ at_2, at_2 < (((ByteArray.size s_1) : Nat) : Int)] (by kernel_rfl) rfl rfl (ap2 c_20.1 (ap1 c_20.2)) (by kernel_rfl) (by kernel_rfl) ?_
        refine VL_cond (((IntKind.wrap .u8 (BitVec.toNat (BitVec.ofInt (IntKind.bits .u8) (bt s_1 at_2) &&& BitVec.ofInt (IntKind.bits .u8) (List.getD ([(r_11.1, (r_11.2.1, r_11.2.2.1)), (r_11.2.2.2.1, (r_11.2.2.2.2.1, r_11.2.2.2.2.2.1)), (r_11.2.2.2.2.2.2.1, (r_11.2.2.2.2.2.2.2.1, r_11.2.2.2.2.2.2.2.2.1)), (r_11.2.2.2.2.2.2.2.2.2.1, (r_11.2.2.2.2.2.2.2.2.2.2.1, r_11.2.2.2.2.2.2.2.2.2.2.2))] : List (Int × (Int × Int))) (Int.toNat t_14) ((0 : Int), ((0 : Int), (0 : Int)))).1))) == (List.getD ([(r_11.1, (r_11.2.1, r_11.2.2.1)), (r_11.2.2.2.1, (r_11.2.2.2.2.1, r_11.2.2.2.2.2.1)), (r_11.2.2.2.2.2.2.1, (r_11.2.2.2.2.2.2.2.1, r_11.2.2.2.2.2.2.2.2.1)), (r_11.2.2.2.2.2.2.2.2.2.1, (r_11.2.2.2.2.2.2.2.2.2.2.1, r_11.2.2.2.2.2.2.2.2.2.2.2))] : List (Int × (Int × Int))) (Int.toNat t_14) ((0 : Int), ((0 : Int), (0 : Int)))).2.1)) (by kernel_rfl) ?_ ?_
        · intro b_21; have H_50 := of_t H_49 b_21
          refine V_run hN hn 1 1 [0, 1, 6, 7, 16, 17, 29] [0] ⟨[(0, .c (.val (.string s_1))), (1, .c (.val (.int .i64 at_2))), (6, .c (.val (.int .i64 t_14))), (7, .c (.h 0)), (16, .agg [.val (.int .u8 r_11.1), .val (.int .u8 r_11.2.1), .val (.int .i32 r_11.2.2.1), .val (.int .u8 r_11.2.2.2.1), .val (.int .u8 r_11.2.2.2.2.1), .val (.int .i32 r_11.2.2.2.2.2.1), .val (.int .u8 r_11.2.2.2.2.2.2.1), .val (.int .u8 r_11.2.2.2.2.2.2.2.1), .val (.int .i32 r_11.2.2.2.2.2.2.2.2.1), .val (.int .u8 r_11.2.2.2.2.2.2.2.2.2.1), .val (.int .u8 r_11.2.2.2.2.2.2.2.2.2.2.1), .val (.int .i32 r_11.2.2.2.2.2.2.2.2.2.2.2)]), (17, .c (.val (.int .i64 t_14))), (29, .c (.val (.bool ((IntKind.wrap .u8 (BitVec.toNat (BitVec.ofInt (IntKind.bits .u8) (bt s_1 at_2) &&& BitVec.ofInt (IntKind.bits .u8) (List.getD ([(r_11.1, (r_11.2.1, r_11.2.2.1)), (r_11.2.2.2.1, (r_11.2.2.2.2.1, r_11.2.2.2.2.2.1)), (r_11.2.2.2.2.2.2.1, (r_11.2.2.2.2.2.2.2.1, r_11.2.2.2.2.2.2.2.2.1)), (r_11.2.2.2.2.2.2.2.2.2.1, (r_11.2.2.2.2.2.2.2.2.2.2.1, r_11.2.2.2.2.2.2.2.2.2.2.2))] : List (Int × (Int × Int))) (Int.toNat t_14) ((0 : Int), ((0 : Int), (0 : Int)))).1))) == (List.getD ([(r_11.1, (r_11.2.1, r_11.2.2.1)), (r_11.2.2.2.1, (r_11.2.2.2.2.1, r_11.2.2.2.2.2.1)), (r_11.2.2.2.2.2.2.1, (r_11.2.2.2.2.2.2.2.1, r_11.2.2.2.2.2.2.2.2.1)), (r_11.2.2.2.2.2.2.2.2.2.1, (r_11.2.2.2.2.2.2.2.2.2.2.1, r_11.2.2.2.2.2.2.2.2.2.2.2))] : List (Int × (Int × Int))) (Int.toNat t_14) ((0 : Int), ((0 : Int), (0 : Int)))).2.1))))], [(0, .box [.val (.int .u8 (List.getD ([(r_11.1, (r_11.2.1, r_11.2.2.1)), (r_11.2.2.2.1, (r_11.2.2.2.2.1, r_11.2.2.2.2.2.1)), (r_11.2.2.2.2.2.2.1, (r_11.2.2.2.2.2.2.2.1, r_11.2.2.2.2.2.2.2.2.1)), (r_11.2.2.2.2.2.2.2.2.2.1, (r_11.2.2.2.2.2.2.2.2.2.2.1, r_11.2.2.2.2.2.2.2.2.2.2.2))] : List (Int × (Int × Int))) (Int.toNat t_14) ((0 : Int), ((0 : Int), (0 : Int)))).1), .val (.int .u8 (List.getD ([(r_11.1, (r_11.2.1, r_11.2.2.1)), (r_11.2.2.2.1, (r_11.2.2.2.2.1, r_11.2.2.2.2.2.1)), (r_11.2.2.2.2.2.2.1, (r_11.2.2.2.2.2.2.2.1, r_11.2.2.2.2.2.2.2.2.1)), (r_11.2.2.2.2.2.2.2.2.2.1, (r_11.2.2.2.2.2.2.2.2.2.2.1, r_11.2.2.2.2.2.2.2.2.2.2.2))] : List (Int × (Int × Int))) (Int.toNat t_14) ((0 : Int), ((0 : Int), (0 : Int)))).2.1), .val (.int .i32 (List.getD ([(r_11.1, (r_11.2.1, r_11.2.2.1)), (r_11.2.2.2.1, (r_11.2.2.2.2.1, r_11.2.2.2.2.2.1)), (r_11.2.2.2.2.2.2.1, (r_11.2.2.2.2.2.2.2.1, r_11.2.2.2.2.2.2.2.2.1)), (r_11.2.2.2.2.2.2.2.2.2.1, (r_11.2.2.2.2.2.2.2.2.2.2.1, r_11.2.2.2.2.2.2.2.2.2.2.2))] : List (Int × (Int × Int))) (Int.toNat t_14) ((0 : Int), ((0 : Int), (0 : Int)))).2.2)])], 1⟩ [] (by kernel_rfl) rfl rfl ap0 ?_
          obtain ⟨r_23, h_24, H_52⟩ := of_bind H_50
          refine V_reg hN hn [(5, ⟨58, 0, [.c (.val (.string s_1)), .c (.val (.int .i64 at_2)), .c (.val (.int .i64 (IntKind.wrap .i64 (t_14 + (1 : Int))))), .agg [.val (.int .u8 (List.getD ([(r_11.1, (r_11.2.1, r_11.2.2.1)), (r_11.2.2.2.1, (r_11.2.2.2.2.1, r_11.2.2.2.2.2.1)), (r_11.2.2.2.2.2.2.1, (r_11.2.2.2.2.2.2.2.1, r_11.2.2.2.2.2.2.2.2.1)), (r_11.2.2.2.2.2.2.2.2.2.1, (r_11.2.2.2.2.2.2.2.2.2.2.1, r_11.2.2.2.2.2.2.2.2.2.2.2))] : List (Int × (Int × Int))) (Int.toNat t_14) ((0 : Int), ((0 : Int), (0 : Int)))).1), .val (.int .u8 (List.getD ([(r_11.1, (r_11.2.1, r_11.2.2.1)), (r_11.2.2.2.1, (r_11.2.2.2.2.1, r_11.2.2.2.2.2.1)), (r_11.2.2.2.2.2.2.1, (r_11.2.2.2.2.2.2.2.1, r_11.2.2.2.2.2.2.2.2.1)), (r_11.2.2.2.2.2.2.2.2.2.1, (r_11.2.2.2.2.2.2.2.2.2.2.1, r_11.2.2.2.2.2.2.2.2.2.2.2))] : List (Int × (Int × Int))) (Int.toNat t_14) ((0 : Int), ((0 : Int), (0 : Int)))).2.1), .val (.int .i32 (List.getD ([(r_11.1, (r_11.2.1, r_11.2.2.1)), (r_11.2.2.2.1, (r_11.2.2.2.2.1, r_11.2.2.2.2.2.1)), (r_11.2.2.2.2.2.2.1, (r_11.2.2.2.2.2.2.2.1, r_11.2.2.2.2.2.2.2.2.1)), (r_11.2.2.2.2.2.2.2.2.2.1, (r_11.2.2.2.2.2.2.2.2.2.2.1, r_11.2.2.2.2.2.2.2.2.2.2.2))] : List (Int × (Int × Int))) (Int.toNat t_14) ((0 : Int), ((0 : Int), (0 : Int)))).2.2)]], [], .tup [(false, [.val (.int .i32 r_23.1)]), (false, [.val (.int .i64 r_23.2)])], [], [], 1⟩)] [] (calls_cons (utf_long_spec K s_1 at_2 (IntKind.wrap .i64 (t_14 + (1 : Int))) (List.getD ([(r_11.1, (r_11.2.1, r_11.2.2.1)), (r_11.2.2.2.1, (r_11.2.2.2.2.1, r_11.2.2.2.2.2.1)), (r_11.2.2.2.2.2.2.1, (r_11.2.2.2.2.2.2.2.1, r_11.2.2.2.2.2.2.2.2.1)), (r_11.2.2.2.2.2.2.2.2.2.1, (r_11.2.2.2.2.2.2.2.2.2.2.1, r_11.2.2.2.2.2.2.2.2.2.2.2))] : List (Int × (Int × Int))) (Int.toNat t_14) ((0 : Int), ((0 : Int), (0 : Int)))).1 (List.getD ([(r_11.1, (r_11.2.1, r_11.2.2.1)), (r_11.2.2.2.1, (r_11.2.2.2.2.1, r_11.2.2.2.2.2.1)), (r_11.2.2.2.2.2.2.1, (r_11.2.2.2.2.2.2.2.1, r_11.2.2.2.2.2.2.2.2.1)), (r_11.2.2.2.2.2.2.2.2.2.1, (r_11.2.2.2.2.2.2.2.2.2.2.1, r_11.2.2.2.2.2.2.2.2.2.2.2))] : List (Int × (Int × Int))) (Int.toNat t_14) ((0 : Int), ((0 : Int), (0 : Int)))).2.1 (List.getD ([(r_11.1, (r_11.2.1, r_11.2.2.1)), (r_11.2.2.2.1, (r_11.2.2.2.2.1, r_11.2.2.2.2.2.1)), (r_11.2.2.2.2.2.2.1, (r_11.2.2.2.2.2.2.2.1, r_11.2.2.2.2.2.2.2.2.1)), (r_11.2.2.2.2.2.2.2.2.2.1, (r_11.2.2.2.2.2.2.2.2.2.2.1, r_11.2.2.2.2.2.2.2.2.2.2.2))] : List (Int × (Int × Int))) (Int.toNat t_14) ((0 : Int), ((0 : Int), (0 : Int)))).2.2 r_23 h_24) (by kernel_rfl) calls_nil) 1 [4, 5] [] ⟨[(4, .c (.val (.int .i32 r_23.1))), (5, .c (.val (.int .i64 r_23.2)))], [], 1⟩ [] (by kernel_rfl) rfl rfl ap0 (by kernel_rfl) (by kernel_rfl) ?_
          have H_53 := Option.some.inj (show some (r_23.1, r_23.2) = some r from H_52); subst H_53
          refine VL_ret ?_
          refine QB_ret ?_
          refine QL_ret ?_
          refine QB_ret ?_
          exact P_to [(4, .c (.val (.int .i32 r_23.1))), (5, .c (.val (.int .i64 r_23.2)))] [] [] hn (by kernel_rfl) (by kernel_rfl) rfl rfl rfl (QF_retS (by kernel_rfl) (by kernel_rfl) rfl)
        · intro b_21; have H_51 := of_f H_49 b_21
          refine V_run hN hn 1 1 [0, 1, 6, 7, 16, 17, 29] [0] ⟨[(0, .c (.val (.string s_1))), (1, .c (.val (.int .i64 at_2))), (6, .c (.val (.int .i64 t_14))), (7, .c (.h 0)), (16, .agg [.val (.int .u8 r_11.1), .val (.int .u8 r_11.2.1), .val (.int .i32 r_11.2.2.1), .val (.int .u8 r_11.2.2.2.1), .val (.int .u8 r_11.2.2.2.2.1), .val (.int .i32 r_11.2.2.2.2.2.1), .val (.int .u8 r_11.2.2.2.2.2.2.1), .val (.int .u8 r_11.2.2.2.2.2.2.2.1), .val (.int .i32 r_11.2.2.2.2.2.2.2.2.1), .val (.int .u8 r_11.2.2.2.2.2.2.2.2.2.1), .val (.int .u8 r_11.2.2.2.2.2.2.2.2.2.2.1), .val (.int .i32 r_11.2.2.2.2.2.2.2.2.2.2.2)]), (17, .c (.val (.int .i64 t_14))), (29, .c (.val (.bool ((IntKind.wrap .u8 (BitVec.toNat (BitVec.ofInt (IntKind.bits .u8) (bt s_1 at_2) &&& BitVec.ofInt (IntKind.bits .u8) (List.getD ([(r_11.1, (r_11.2.1, r_11.2.2.1)), (r_11.2.2.2.1, (r_11.2.2.2.2.1, r_11.2.2.2.2.2.1)), (r_11.2.2.2.2.2.2.1, (r_11.2.2.2.2.2.2.2.1, r_11.2.2.2.2.2.2.2.2.1)), (r_11.2.2.2.2.2.2.2.2.2.1, (r_11.2.2.2.2.2.2.2.2.2.2.1, r_11.2.2.2.2.2.2.2.2.2.2.2))] : List (Int × (Int × Int))) (Int.toNat t_14) ((0 : Int), ((0 : Int), (0 : Int)))).1))) == (List.getD ([(r_11.1, (r_11.2.1, r_11.2.2.1)), (r_11.2.2.2.1, (r_11.2.2.2.2.1, r_11.2.2.2.2.2.1)), (r_11.2.2.2.2.2.2.1, (r_11.2.2.2.2.2.2.2.1, r_11.2.2.2.2.2.2.2.2.1)), (r_11.2.2.2.2.2.2.2.2.2.1, (r_11.2.2.2.2.2.2.2.2.2.2.1, r_11.2.2.2.2.2.2.2.2.2.2.2))] : List (Int × (Int × Int))) (Int.toNat t_14) ((0 : Int), ((0 : Int), (0 : Int)))).2.1))))], [(0, .box [.val (.int .u8 (List.getD ([(r_11.1, (r_11.2.1, r_11.2.2.1)), (r_11.2.2.2.1, (r_11.2.2.2.2.1, r_11.2.2.2.2.2.1)), (r_11.2.2.2.2.2.2.1, (r_11.2.2.2.2.2.2.2.1, r_11.2.2.2.2.2.2.2.2.1)), (r_11.2.2.2.2.2.2.2.2.2.1, (r_11.2.2.2.2.2.2.2.2.2.2.1, r_11.2.2.2.2.2.2.2.2.2.2.2))] : List (Int × (Int × Int))) (Int.toNat t_14) ((0 : Int), ((0 : Int), (0 : Int)))).1), .val (.int .u8 (List.getD ([(r_11.1, (r_11.2.1, r_11.2.2.1)), (r_11.2.2.2.1, (r_11.2.2.2.2.1, r_11.2.2.2.2.2.1)), (r_11.2.2.2.2.2.2.1, (r_11.2.2.2.2.2.2.2.1, r_11.2.2.2.2.2.2.2.2.1)), (r_11.2.2.2.2.2.2.2.2.2.1, (r_11.2.2.2.2.2.2.2.2.2.2.1, r_11.2.2.2.2.2.2.2.2.2.2.2))] : List (Int × (Int × Int))) (Int.toNat t_14) ((0 : Int), ((0 : Int), (0 : Int)))).2.1), .val (.int .i32 (List.getD ([(r_11.1, (r_11.2.1, r_11.2.2.1)), (r_11.2.2.2.1, (r_11.2.2.2.2.1, r_11.2.2.2.2.2.1)), (r_11.2.2.2.2.2.2.1, (r_11.2.2.2.2.2.2.2.1, r_11.2.2.2.2.2.2.2.2.1)), (r_11.2.2.2.2.2.2.2.2.2.1, (r_11.2.2.2.2.2.2.2.2.2.2.1, r_11.2.2.2.2.2.2.2.2.2.2.2))] : List (Int × (Int × Int))) (Int.toNat t_14) ((0 : Int), ((0 : Int), (0 : Int)))).2.2)])], 1⟩ [] (by kernel_rfl) rfl rfl ap0 ?_
          refine VL_nil (QB_end ?_)
          refine V_run hN hn 1 1 [0, 1, 16, 17] [] ⟨[(0, .c (.val (.string s_1))), (1, .c (.val (.int .i64 at_2))), (16, .agg [.val (.int .u8 r_11.1), .val (.int .u8 r_11.2.1), .val (.int .i32 r_11.2.2.1), .val (.int .u8 r_11.2.2.2.1), .val (.int .u8 r_11.2.2.2.2.1), .val (.int .i32 r_11.2.2.2.2.2.1), .val (.int .u8 r_11.2.2.2.2.2.2.1), .val (.int .u8 r_11.2.2.2.2.2.2.2.1), .val (.int .i32 r_11.2.2.2.2.2.2.2.2.1), .val (.int .u8 r_11.2.2.2.2.2.2.2.2.2.1), .val (.int .u8 r_11.2.2.2.2.2.2.2.2.2.2.1), .val (.int .i32 r_11.2.2.2.2.2.2.2.2.2.2.2)]), (17, .c (.val (.int .i64 (IntKind.wrap .i64 (t_14 + (1 : Int))))))], [], 1⟩ [] (by kernel_rfl) rfl rfl ap0 ?_
          refine VL_nil ?_
          exact V_roundEnd (IntKind.wrap .i64 (t_14 + (1 : Int))) H_51 [] hn (by kernel_rfl) (by kernel_rfl) rfl rfl rfl
      · intro b_17; have H_47 := of_f H_45 b_17
        refine VL_exit ?_
        refine QL_exit ?_
        refine QB_here ?_
        refine V_run hN hn 2 0 [4, 5] [] ⟨[(4, .c (.val (.int .i32 (0 : Int)))), (5, .c (.val (.int .i64 (0 : Int))))], [], 0⟩ [] (by kernel_rfl) rfl rfl ap0 ?_
        have H_54 := Option.some.inj (show some ((0 : Int), (0 : Int)) = some r from H_47); subst H_54
        refine VL_ret ?_
        exact P_to [(4, .c (.val (.int .i32 (0 : Int)))), (5, .c (.val (.int .i64 (0 : Int))))] [] [] hn (by kernel_rfl) (by kernel_rfl) rfl rfl rfl (QF_retS (by kernel_rfl) (by kernel_rfl) rfl)

theorem utf_Size_spec (K : Nat) (s_1 : ByteArray) (at_2 : Int) (r : Int) (H : utf_Size K s_1 at_2 = some r) : Spec Try.prog 43 0 [.c (.val (.string s_1)), .c (.val (.int .i64 at_2))] [] (.c (.val (.int .i64 r))) [] := by
  refine Spec_mk (fn := Try.f43) (c := (Try.f43.body).get!) Try.func43 (by kernel_rfl) rfl ?_
  intro C hN hn
  replace hN : C.N = 14 := hN
  unfold utf_Size at H
  refine V_run hN hn 3 0 [0, 1] [] ⟨[(0, .c (.val (.string s_1))), (1, .c (.val (.int .i64 at_2)))], [], 0⟩ [] (by kernel_rfl) rfl rfl ap0 ?_
  obtain ⟨r_4, h_5, H_9⟩ := of_bind H
  refine V_reg hN hn [(2, ⟨54, 0, [.c (.val (.string s_1)), .c (.val (.int .i64 at_2))], [], .tup [(false, [.val (.int .i32 r_4.1)]), (false, [.val (.int .i64 r_4.2)])], [], [], 0⟩)] [] (calls_cons (utf_point_spec K s_1 at_2 r_4 h_5) (by kernel_rfl) calls_nil) 0 [6] [] ⟨[(6, .c (.val (.int .i64 r_4.2)))], [], 0⟩ [] (by kernel_rfl) rfl rfl ap0 (by kernel_rfl) (by kernel_rfl) ?_
  refine V_run hN hn 2 0 [4] [] ⟨[(4, .c (.val (.int .i64 r_4.2)))], [], 0⟩ [] (by kernel_rfl) rfl rfl ap0 ?_
  have H_10 := Option.some.inj (show some r_4.2 = some r from H_9); subst H_10
  refine VL_ret ?_
  exact P_to [(4, .c (.val (.int .i64 r_4.2)))] [] [] hn (by kernel_rfl) (by kernel_rfl) rfl rfl rfl (QF_retS (by kernel_rfl) (by kernel_rfl) rfl)

theorem utf_Valid_spec (K : Nat) (s_1 : ByteArray) (r : Bool) (H : utf_Valid K s_1 = some r) : Spec Try.prog 27 0 [.c (.val (.string s_1))] [] (.c (.val (.bool r))) [] := by
  refine Spec_mk (fn := Try.f27) (c := (Try.f27.body).get!) Try.func27 (by kernel_rfl) rfl ?_
  intro C hN hn
  replace hN : C.N = 17 := hN
  unfold utf_Valid at H
  refine V_run hN hn 5 0 [0, 3] [] ⟨[(0, .c (.val (.string s_1))), (3, .c (.val (.int .i64 (0 : Int))))], [], 0⟩ [] (by kernel_rfl) rfl rfl ap0 ?_
  refine VL_block ?_
  refine V_to [(0, .c (.val (.string s_1))), (3, .c (.val (.int .i64 (0 : Int))))] [] [] hn (by kernel_rfl) (by kernel_rfl) rfl rfl rfl ?_
  refine VL_loop (X := Int) (fun x => [(0, .c (.val (.string s_1))), (3, .c (.val (.int .i64 x)))]) (fun x => []) (fun k x => utf_Valid.l0 K s_1 k x = some r) K (0 : Int) H (fun _ h => no_none h) ?_
  intro k_4 at_3 H_18
  have H_19 : utf_Valid.l0 K s_1 (k_4 + 1) at_3 = some r := H_18
  rw [utf_Valid.l0] at H_19
  refine V_run hN hn 3 0 [0, 3, 8] [] ⟨[(0, .c (.val (.string s_1))), (3, .c (.val (.int .i64 at_3))), (8, .c (.val (.bool (decide (at_3 < (((ByteArray.size s_1) : Nat) : Int))))))], [], 0⟩ [] (by kernel_rfl) rfl rfl ap0 ?_
  refine VL_cond ((decide (at_3 < (((ByteArray.size s_1) : Nat) : Int)))) (by kernel_rfl) ?_ ?_
  · intro b_6; have H_20 := of_t H_19 b_6
    refine V_run hN hn 1 0 [0, 3, 8] [] ⟨[(0, .c (.val (.string s_1))), (3, .c (.val (.int .i64 at_3))), (8, .c (.val (.bool (decide (at_3 < (((ByteArray.size s_1) : Nat) : Int))))))], [], 0⟩ [] (by kernel_rfl) rfl rfl ap0 ?_
    refine VL_block ?_
    refine V_run hN hn 1 0 [0, 3, 8] [] ⟨[(0, .c (.val (.string s_1))), (3, .c (.val (.int .i64 at_3))), (8, .c (.val (.bool (decide (at_3 < (((ByteArray.size s_1) : Nat) : Int))))))], [], 0⟩ [] (by kernel_rfl) rfl rfl ap0 ?_
    obtain ⟨r_9, h_10, H_22⟩ := of_bind H_20
    refine V_reg hN hn [(2, ⟨43, 0, [.c (.val (.string s_1)), .c (.val (.int .i64 at_3))], [], .c (.val (.int .i64 r_9)), [], [], 0⟩)] [] (calls_cons (utf_Size_spec K s_1 at_3 r_9 h_10) (by kernel_rfl) calls_nil) 0 [0, 3, 4] [] ⟨[(0, .c (.val (.string s_1))), (3, .c (.val (.int .i64 at_3))), (4, .c (.val (.int .i64 r_9)))], [], 0⟩ [] (by kernel_rfl) rfl rfl ap0 (by kernel_rfl) (by kernel_rfl) ?_
    refine V_run hN hn 3 0 [0, 3, 4, 13] [] ⟨[(0, .c (.val (.string s_1))), (3, .c (.val (.int .i64 at_3))), (4, .c (.val (.int .i64 r_9))), (13, .c (.val (.bool (r_9 == (0 : Int)))))], [], 0⟩ [] (by kernel_rfl) rfl rfl ap0 ?_
    refine VL_cond ((r_9 == (0 : Int))) (by kernel_rfl) ?_ ?_
    · intro b_13; have H_23 := of_t H_22 b_13
      refine V_run hN hn 2 0 [2] [] ⟨[(2, .c (.val (.bool false)))], [], 0⟩ [] (by kernel_rfl) rfl rfl ap0 ?_
      have H_25 := Option.some.inj (show some false = some r from H_23); subst H_25
      refine VL_ret ?_
      refine QB_ret ?_
      refine QL_ret ?_
      refine QB_ret ?_
      exact P_to [(2, .c (.val (.bool false)))] [] [] hn (by kernel_rfl) (by kernel_rfl) rfl rfl rfl (QF_retS (by kernel_rfl) (by kernel_rfl) rfl)
    · intro b_13; have H_24 := of_f H_22 b_13
      refine V_run hN hn 2 0 [0, 3] [] ⟨[(0, .c (.val (.string s_1))), (3, .c (.val (.int .i64 (IntKind.wrap .i64 (at_3 + r_9)))))], [], 0⟩ [] (by kernel_rfl) rfl rfl ap0 ?_
      refine VL_nil (QB_end ?_)
      refine VL_nil ?_
      exact V_roundEnd (IntKind.wrap .i64 (at_3 + r_9)) H_24 [] hn (by kernel_rfl) (by kernel_rfl) rfl rfl rfl
  · intro b_6; have H_21 := of_f H_19 b_6
    refine VL_exit ?_
    refine QL_exit ?_
    refine QB_here ?_
    refine V_run hN hn 2 0 [2] [] ⟨[(2, .c (.val (.bool true)))], [], 0⟩ [] (by kernel_rfl) rfl rfl ap0 ?_
    have H_26 := Option.some.inj (show some true = some r from H_21); subst H_26
    refine VL_ret ?_
    exact P_to [(2, .c (.val (.bool true)))] [] [] hn (by kernel_rfl) (by kernel_rfl) rfl rfl rfl (QF_retS (by kernel_rfl) (by kernel_rfl) rfl)

theorem breaks_Wrap_spec (K : Nat) (s_1 : ByteArray) (width_2 : Int) (r : ((List Int) × Int)) (H : breaks_Wrap K s_1 width_2 = some r) : Spec Try.prog 10 0 [.c (.val (.string s_1)), .c (.val (.int .i64 width_2))] [] (.tup [(false, [.h 6]), (false, [.val (.int .i64 r.2)])]) [(6, .row (.int .i64) r.1)] := by
  refine Spec_mk (fn := Try.f10) (c := (Try.f10.body).get!) Try.func10 (by kernel_rfl) rfl ?_
  intro C hN hn
  replace hN : C.N = 45 := hN
  unfold breaks_Wrap at H
  refine V_run hN hn 4 0 [0, 1] [] ⟨[(0, .c (.val (.string s_1))), (1, .c (.val (.int .i64 width_2)))], [], 0⟩ [] (by kernel_rfl) rfl rfl ap0 ?_
  obtain ⟨q_62, H_63, H_64⟩ := of_bind H
  refine V_cut (Y := Bool) (R := Bool) q_62 (fun y => y) (fun y => [(0, .c (.val (.string s_1))), (1, .c (.val (.int .i64 width_2))), (17, .c (.val (.bool y)))]) (fun y => []) ?_ ?_
  · skip
    obtain ⟨r_4, h_5, H_66⟩ := of_bind H_63
    rcases Bool.eq_false_or_eq_true ((!r_4)) with b_6 | b_6
    · have H_67 := of_t H_66 b_6
      refine V_reg hN hn [(1, ⟨27, 0, [.c (.val (.string s_1))], [], .c (.val (.bool r_4)), [], [], 0⟩)] [(14, true)] (calls_cons (utf_Valid_spec K s_1 r_4 h_5) (by kernel_rfl) calls_nil) 0 [0, 1, 17] [] ⟨[(0, .c (.val (.string s_1))), (1, .c (.val (.int .i64 width_2))), (17, .c (.val (.bool true)))], [], 0⟩ [(!r_4) = true] (by kernel_rfl) rfl rfl (ap1 b_6) (by kernel_rfl) (by kernel_rfl) ?_
      have H_69 := Option.some.inj (show some true = some q_62 from H_67); subst H_69
      refine VL_nil ?_
      exact QP_end true rfl [] hn (by kernel_rfl) (by kernel_rfl) rfl rfl rfl
    · have H_68 := of_f H_66 b_6
      refine V_reg hN hn [(1, ⟨27, 0, [.c (.val (.string s_1))], [], .c (.val (.bool r_4)), [], [], 0⟩)] [(14, false)] (calls_cons (utf_Valid_spec K s_1 r_4 h_5) (by kernel_rfl) calls_nil) 0 [0, 1, 17] [] ⟨[(0, .c (.val (.string s_1))), (1, .c (.val (.int .i64 width_2))), (17, .c (.val (.bool (decide (width_2 < (4 : Int))))))], [], 0⟩ [(!r_4) = false] (by kernel_rfl) rfl rfl (ap1 b_6) (by kernel_rfl) (by kernel_rfl) ?_
      have H_70 := Option.some.inj (show some (decide (width_2 < (4 : Int))) = some q_62 from H_68); subst H_70
      refine VL_nil ?_
      exact QP_end (decide (width_2 < (4 : Int))) rfl [] hn (by kernel_rfl) (by kernel_rfl) rfl rfl rfl
  · intro y_65 hy; subst hy
    skip
    skip
    refine VL_cond (y_65) (by kernel_rfl) ?_ ?_
    · intro b_10; have H_71 := of_t H_64 b_10
      refine V_run hN hn 2 0 [4, 5] [] ⟨[(4, .c (.val (.slice none 0 0))), (5, .c (.val (.int .i64 (12 : Int))))], [], 0⟩ [] (by kernel_rfl) rfl rfl ap0 ?_
      have H_73 := Option.some.inj (show some (([] : List Int), (12 : Int)) = some r from H_71); subst H_73
      refine VL_ret ?_
      refine P_ghost [.nilSlot 4 (.int .i64)] 0 hn [4, 5] [0] ⟨[(4, .c (.h 0)), (5, .c (.val (.int .i64 (12 : Int))))], [(0, .row (.int .i64) ([] : List Int))], 1⟩ (by kernel_rfl) rfl rfl ?_
      exact P_to [(4, .c (.h 6)), (5, .c (.val (.int .i64 (12 : Int))))] [(6, .row (.int .i64) ([] : List Int))] [(6, 0)] hn (by kernel_rfl) (by kernel_rfl) rfl rfl rfl (QF_retS (by kernel_rfl) (by kernel_rfl) rfl)
    · intro b_10; have H_72 := of_f H_64 b_10
      refine V_run hN hn 8 0 [1, 6, 7, 19] [0] ⟨[(1, .c (.val (.int .i64 width_2))), (6, .c (.val (.slice none 0 0))), (7, .c (.val (.int .i64 (0 : Int)))), (19, .c (.h 0))], [(0, .it s_1 0 none)], 1⟩ [] (by kernel_rfl) rfl rfl ap0 ?_
      obtain ⟨q_74, H_75, H_76⟩ := of_bind H_72
      refine V_cut (Y := (List Int)) (R := (List Int)) q_74 (fun y => y) (fun y => [(6, .c (.h 5))]) (fun y => [(5, .row (.int .i64) y)]) ?_ ?_
      · skip
        refine VL_block ?_
        refine V_ghost [.nilSlot 6 (.int .i64)] 1 hn [1, 6, 7, 19] [0, 1] ⟨[(1, .c (.val (.int .i64 width_2))), (6, .c (.h 1)), (7, .c (.val (.int .i64 (0 : Int)))), (19, .c (.h 0))], [(0, .it s_1 0 none), (1, .row (.int .i64) ([] : List Int))], 2⟩ (by kernel_rfl) rfl rfl ?_
        refine V_to [(1, .c (.val (.int .i64 width_2))), (6, .c (.h 5)), (7, .c (.val (.int .i64 (0 : Int)))), (19, .c (.h 0))] [(0, .it s_1 (0 : Nat) none), (5, .row (.int .i64) ([] : List Int))] [(0, 0), (5, 1)] hn (by kernel_rfl) (by kernel_rfl) rfl rfl rfl ?_
        refine VL_loop (X := ((List Int) × Int × Nat)) (fun x => [(1, .c (.val (.int .i64 width_2))), (6, .c (.h 5)), (7, .c (.val (.int .i64 x.2.1))), (19, .c (.h 0))]) (fun x => [(0, .it s_1 x.2.2 none), (5, .row (.int .i64) x.1)]) (fun k x => breaks_Wrap.l0 K s_1 width_2 k x.1 x.2.1 x.2.2 = some q_74) K (([] : List Int), (0 : Int), (0 : Nat)) H_75 (fun _ h => no_none h) ?_
        intro k_34 x_34 H_78
        obtain ⟨out_32, n_13, t_33⟩ := x_34
        have H_79 : breaks_Wrap.l0 K s_1 width_2 (k_34 + 1) out_32 n_13 t_33 = some q_74 := H_78
        rw [breaks_Wrap.l0] at H_79
        refine V_run hN hn 1 6 [1, 6, 7, 19] [0, 5] ⟨[(1, .c (.val (.int .i64 width_2))), (6, .c (.h 5)), (7, .c (.val (.int .i64 n_13))), (19, .c (.h 0))], [(0, .it s_1 t_33 none), (5, .row (.int .i64) out_32)], 6⟩ [] (by kernel_rfl) rfl rfl ap0 ?_
        rcases Bool.eq_false_or_eq_true (decide (t_33 < ByteArray.size s_1)) with b_36 | b_36
        · have H_80 := of_t H_79 b_36
          refine VL_iter 0 true b_36 rfl ?_
          refine V_run hN hn 2 6 [1, 6, 7, 19, 20, 21] [0, 5] ⟨[(1, .c (.val (.int .i64 width_2))), (6, .c (.h 5)), (7, .c (.val (.int .i64 n_13))), (19, .c (.h 0)), (20, .tup [(false, [.val (.bool true)]), (false, [.val (.int .i64 ((t_33 : Nat) : Int))]), (false, [.val (.int .i32 (((Utf8.decode s_1 t_33).1 : Nat) : Int))])]), (21, .c (.val (.bool true)))], [(0, .it s_1 (t_33 + (Utf8.decode s_1 t_33).2) none), (5, .row (.int .i64) out_32)], 6⟩ [] (by kernel_rfl) rfl rfl ap0 ?_
          refine VL_cond (true) (by kernel_rfl) (fun _ => ?_) (fun h => absurd h (by decide))
          refine V_run hN hn 1 6 [1, 6, 7, 19, 20] [0, 5] ⟨[(1, .c (.val (.int .i64 width_2))), (6, .c (.h 5)), (7, .c (.val (.int .i64 n_13))), (19, .c (.h 0)), (20, .tup [(false, [.val (.bool true)]), (false, [.val (.int .i64 ((t_33 : Nat) : Int))]), (false, [.val (.int .i32 (((Utf8.decode s_1 t_33).1 : Nat) : Int))])])], [(0, .it s_1 (t_33 + (Utf8.decode s_1 t_33).2) none), (5, .row (.int .i64) out_32)], 6⟩ [] (by kernel_rfl) rfl rfl ap0 ?_
          refine VL_block ?_
          refine V_run hN hn 7 6 [1, 6, 7, 8, 9, 10, 19, 31] [0, 5] ⟨[(1, .c (.val (.int .i64 width_2))), (6, .c (.h 5)), (7, .c (.val (.int .i64 n_13))), (8, .c (.val (.int .i64 ((t_33 : Nat) : Int)))), (9, .c (.val (.int .i32 (((Utf8.decode s_1 t_33).1 : Nat) : Int)))), (10, .c (.val (.int .i64 (((ByteArray.size (Utf8.encode (((Utf8.decode s_1 t_33).1 : Nat) : Int))) : Nat) : Int)))), (19, .c (.h 0)), (31, .c (.val (.bool (decide (n_13 > (IntKind.wrap .i64 (width_2 - (((ByteArray.size (Utf8.encode (((Utf8.decode s_1 t_33).1 : Nat) : Int))) : Nat) : Int))))))))], [(0, .it s_1 (t_33 + (Utf8.decode s_1 t_33).2) none), (5, .row (.int .i64) out_32)], 6⟩ [] (by kernel_rfl) rfl rfl ap0 ?_
          obtain ⟨q_82, H_83, H_84⟩ := of_bind H_80
          refine V_cut (Y := ((List Int) × Int)) (R := ((List Int) ⊕ ((List Int) × Int))) q_82 (fun y => (Sum.inr y)) (fun y => [(1, .c (.val (.int .i64 width_2))), (6, .c (.h 8)), (7, .c (.val (.int .i64 y.2))), (9, .c (.val (.int .i32 (((Utf8.decode s_1 t_33).1 : Nat) : Int)))), (10, .c (.val (.int .i64 (((ByteArray.size (Utf8.encode (((Utf8.decode s_1 t_33).1 : Nat) : Int))) : Nat) : Int)))), (19, .c (.h 0))]) (fun y => [(0, .it s_1 (t_33 + (Utf8.decode s_1 t_33).2) none), (8, .row (.int .i64) y.1)]) ?_ ?_
          · skip
            refine VL_cond ((decide (n_13 > (IntKind.wrap .i64 (width_2 - (((ByteArray.size (Utf8.encode (((Utf8.decode s_1 t_33).1 : Nat) : Int))) : Nat) : Int)))))) (by kernel_rfl) ?_ ?_
            · intro b_40; have H_86 := of_t H_83 b_40
              refine V_run hN hn 3 6 [1, 6, 8, 9, 10, 19, 34] [0, 5] ⟨[(1, .c (.val (.int .i64 width_2))), (6, .c (.h 5)), (8, .c (.val (.int .i64 ((t_33 : Nat) : Int)))), (9, .c (.val (.int .i32 (((Utf8.decode s_1 t_33).1 : Nat) : Int)))), (10, .c (.val (.int .i64 (((ByteArray.size (Utf8.encode (((Utf8.decode s_1 t_33).1 : Nat) : Int))) : Nat) : Int)))), (19, .c (.h 0)), (34, .c (.val (.bool ((((List.length out_32) : Nat) : Int) == (60 : Int)))))], [(0, .it s_1 (t_33 + (Utf8.decode s_1 t_33).2) none), (5, .row (.int .i64) out_32)], 6⟩ [] (by kernel_rfl) rfl rfl ap0 ?_
              refine VL_cond (((((List.length out_32) : Nat) : Int) == (60 : Int))) (by kernel_rfl) ?_ ?_
              · intro b_42; have H_88 := of_t H_86 b_42
                have H_90 := Option.some.inj (show some (Sum.inl out_32) = some q_82 from H_88); subst H_90
                have H_91 := Option.some.inj (show some out_32 = some q_74 from H_84); subst H_91
                refine VL_exit ?_
                refine QP_exit ?_
                refine QB_out (by decide) ?_
                refine QL_exit ?_
                refine QB_here ?_
                refine VL_nil ?_
                exact QP_end out_32 rfl [(5, 5)] hn (by kernel_rfl) (by kernel_rfl) rfl rfl rfl
              · intro b_42; have H_89 := of_f H_86 b_42
                obtain ⟨c_43, H_92⟩ := of_if H_89
                refine V_run hN hn 4 6 [1, 6, 7, 9, 10, 19] [0, 7] ⟨[(1, .c (.val (.int .i64 width_2))), (6, .c (.h 7)), (7, .c (.val (.int .i64 (0 : Int)))), (9, .c (.val (.int .i32 (((Utf8.decode s_1 t_33).1 : Nat) : Int)))), (10, .c (.val (.int .i64 (((ByteArray.size (Utf8.encode (((Utf8.decode s_1 t_33).1 : Nat) : Int))) : Nat) : Int)))), (19, .c (.h 0))], [(0, .it s_1 (t_33 + (Utf8.decode s_1 t_33).2) none), (7, .row (.int .i64) (out_32 ++ ([((t_33 : Nat) : Int)] : List Int)))], 8⟩ [(List.length out_32 + List.length ([((t_33 : Nat) : Int)] : List Int)) * 8 ≤ 140737488355328] (by kernel_rfl) rfl rfl (ap1 c_43) ?_
                have H_93 := Option.some.inj (show some (Sum.inr ((out_32 ++ ([((t_33 : Nat) : Int)] : List Int)), (0 : Int))) = some q_82 from H_92); subst H_93
                refine VL_nil ?_
                exact QP_end ((out_32 ++ ([((t_33 : Nat) : Int)] : List Int)), (0 : Int)) rfl [(0, 0), (8, 7)] hn (by kernel_rfl) (by kernel_rfl) rfl rfl rfl
            · intro b_40; have H_87 := of_f H_83 b_40
              refine V_run hN hn 1 6 [1, 6, 7, 8, 9, 10, 19, 31] [0, 5] ⟨[(1, .c (.val (.int .i64 width_2))), (6, .c (.h 5)), (7, .c (.val (.int .i64 n_13))), (8, .c (.val (.int .i64 ((t_33 : Nat) : Int)))), (9, .c (.val (.int .i32 (((Utf8.decode s_1 t_33).1 : Nat) : Int)))), (10, .c (.val (.int .i64 (((ByteArray.size (Utf8.encode (((Utf8.decode s_1 t_33).1 : Nat) : Int))) : Nat) : Int)))), (19, .c (.h 0)), (31, .c (.val (.bool (decide (n_13 > (IntKind.wrap .i64 (width_2 - (((ByteArray.size (Utf8.encode (((Utf8.decode s_1 t_33).1 : Nat) : Int))) : Nat) : Int))))))))], [(0, .it s_1 (t_33 + (Utf8.decode s_1 t_33).2) none), (5, .row (.int .i64) out_32)], 6⟩ [] (by kernel_rfl) rfl rfl ap0 ?_
              have H_94 := Option.some.inj (show some (Sum.inr (out_32, n_13)) = some q_82 from H_87); subst H_94
              refine VL_nil ?_
              exact QP_end (out_32, n_13) rfl [(0, 0), (8, 5)] hn (by kernel_rfl) (by kernel_rfl) rfl rfl rfl
          · intro y_85 hy; subst hy
            obtain ⟨out_45, n_46⟩ := y_85
            refine V_run hN hn 4 9 [1, 6, 7, 19, 43] [0, 8] ⟨[(1, .c (.val (.int .i64 width_2))), (6, .c (.h 8)), (7, .c (.val (.int .i64 (IntKind.wrap .i64 (n_46 + (((ByteArray.size (Utf8.encode (((Utf8.decode s_1 t_33).1 : Nat) : Int))) : Nat) : Int)))))), (19, .c (.h 0)), (43, .c (.val (.bool ((((Utf8.decode s_1 t_33).1 : Nat) : Int) == (10 : Int)))))], [(0, .it s_1 (t_33 + (Utf8.decode s_1 t_33).2) none), (8, .row (.int .i64) out_45)], 9⟩ [] (by kernel_rfl) rfl rfl ap0 ?_
            refine VL_cond (((((Utf8.decode s_1 t_33).1 : Nat) : Int) == (10 : Int))) (by kernel_rfl) ?_ ?_
            · intro b_48; have H_95 := of_t H_84 b_48
              refine V_run hN hn 1 9 [1, 6, 7, 19] [0, 8] ⟨[(1, .c (.val (.int .i64 width_2))), (6, .c (.h 8)), (7, .c (.val (.int .i64 (0 : Int)))), (19, .c (.h 0))], [(0, .it s_1 (t_33 + (Utf8.decode s_1 t_33).2) none), (8, .row (.int .i64) out_45)], 9⟩ [] (by kernel_rfl) rfl rfl ap0 ?_
              refine VL_nil (QB_end ?_)
              refine VL_nil ?_
              exact V_roundEnd (out_45, (0 : Int), (t_33 + (Utf8.decode s_1 t_33).2)) H_95 [(0, 0), (5, 8)] hn (by kernel_rfl) (by kernel_rfl) rfl rfl rfl
            · intro b_48; have H_96 := of_f H_84 b_48
              refine V_run hN hn 1 9 [1, 6, 7, 19, 43] [0, 8] ⟨[(1, .c (.val (.int .i64 width_2))), (6, .c (.h 8)), (7, .c (.val (.int .i64 (IntKind.wrap .i64 (n_46 + (((ByteArray.size (Utf8.encode (((Utf8.decode s_1 t_33).1 : Nat) : Int))) : Nat) : Int)))))), (19, .c (.h 0)), (43, .c (.val (.bool ((((Utf8.decode s_1 t_33).1 : Nat) : Int) == (10 : Int)))))], [(0, .it s_1 (t_33 + (Utf8.decode s_1 t_33).2) none), (8, .row (.int .i64) out_45)], 9⟩ [] (by kernel_rfl) rfl rfl ap0 ?_
              refine VL_nil (QB_end ?_)
              refine VL_nil ?_
              exact V_roundEnd (out_45, (IntKind.wrap .i64 (n_46 + (((ByteArray.size (Utf8.encode (((Utf8.decode s_1 t_33).1 : Nat) : Int))) : Nat) : Int))), (t_33 + (Utf8.decode s_1 t_33).2)) H_96 [(0, 0), (5, 8)] hn (by kernel_rfl) (by kernel_rfl) rfl rfl rfl
        · have H_81 := of_f H_79 b_36
          refine VL_iter 0 false b_36 rfl ?_
          refine V_run hN hn 2 6 [1, 6, 7, 19, 20, 21] [0, 5] ⟨[(1, .c (.val (.int .i64 width_2))), (6, .c (.h 5)), (7, .c (.val (.int .i64 n_13))), (19, .c (.h 0)), (20, .tup [(false, [.val (.bool false)])]), (21, .c (.val (.bool false)))], [(0, .it s_1 t_33 (some false)), (5, .row (.int .i64) out_32)], 6⟩ [] (by kernel_rfl) rfl rfl ap0 ?_
          refine VL_cond (false) (by kernel_rfl) (fun h => absurd h (by decide)) (fun _ => ?_)
          refine VL_exit ?_
          refine QL_exit ?_
          refine QB_here ?_
          have H_97 := Option.some.inj (show some out_32 = some q_74 from H_81); subst H_97
          refine VL_nil ?_
          exact QP_end out_32 rfl [(5, 5)] hn (by kernel_rfl) (by kernel_rfl) rfl rfl rfl
      · intro y_77 hy; subst hy
        skip
        skip
        refine V_run hN hn 2 6 [4, 5] [5] ⟨[(4, .c (.h 5)), (5, .c (.val (.int .i64 (0 : Int))))], [(5, .row (.int .i64) y_77)], 6⟩ [] (by kernel_rfl) rfl rfl ap0 ?_
        have H_98 := Option.some.inj (show some (y_77, (0 : Int)) = some r from H_76); subst H_98
        refine VL_ret ?_
        exact P_to [(4, .c (.h 6)), (5, .c (.val (.int .i64 (0 : Int))))] [(6, .row (.int .i64) y_77)] [(6, 5)] hn (by kernel_rfl) (by kernel_rfl) rfl rfl rfl (QF_retS (by kernel_rfl) (by kernel_rfl) rfl)

theorem breaks_Line_rg_spec (K : Nat) (l_1 : (List Int)) (at_2 : Int) (r : Int) (H : breaks_Line_rg K l_1 at_2 = some r) : Spec Try.prog 19 1 [.c (.h 0), .c (.val (.int .i64 at_2))] [(0, .row (.int .i64) l_1)] (.c (.val (.int .i64 r))) [(0, .row (.int .i64) l_1)] := by
  refine Spec_mk (fn := Try.f19) (c := (Try.f19.body).get!) Try.func19 (by kernel_rfl) rfl ?_
  intro C hN hn
  replace hN : C.N = 21 := hN
  unfold breaks_Line_rg at H
  refine V_run hN hn 7 1 [1, 5, 8, 9, 10] [0] ⟨[(1, .c (.val (.int .i64 at_2))), (5, .c (.val (.int .i64 (0 : Int)))), (8, .c (.h 0)), (9, .c (.val (.int .i64 (((List.length l_1) : Nat) : Int)))), (10, .c (.val (.int .i64 (0 : Int))))], [(0, .row (.int .i64) l_1)], 1⟩ [] (by kernel_rfl) rfl rfl ap0 ?_
  refine VL_block ?_
  refine V_to [(1, .c (.val (.int .i64 at_2))), (5, .c (.val (.int .i64 (0 : Int)))), (8, .c (.h 0)), (9, .c (.val (.int .i64 (((List.length l_1) : Nat) : Int)))), (10, .c (.val (.int .i64 (0 : Int))))] [(0, .row (.int .i64) l_1)] [] hn (by kernel_rfl) (by kernel_rfl) rfl rfl rfl ?_
  refine VL_loop (X := (Int × Int)) (fun x => [(1, .c (.val (.int .i64 at_2))), (5, .c (.val (.int .i64 x.1))), (8, .c (.h 0)), (9, .c (.val (.int .i64 (((List.length l_1) : Nat) : Int)))), (10, .c (.val (.int .i64 x.2)))]) (fun x => [(0, .row (.int .i64) l_1)]) (fun k x => breaks_Line_rg.l0 K l_1 at_2 k x.1 x.2 = some r) K ((0 : Int), (0 : Int)) H (fun _ h => no_none h) ?_
  intro k_6 x_6 H_18
  obtain ⟨n_4, t_5⟩ := x_6
  have H_19 : breaks_Line_rg.l0 K l_1 at_2 (k_6 + 1) n_4 t_5 = some r := H_18
  rw [breaks_Line_rg.l0] at H_19
  refine V_run hN hn 3 1 [1, 5, 8, 9, 10, 11] [0] ⟨[(1, .c (.val (.int .i64 at_2))), (5, .c (.val (.int .i64 n_4))), (8, .c (.h 0)), (9, .c (.val (.int .i64 (((List.length l_1) : Nat) : Int)))), (10, .c (.val (.int .i64 t_5))), (11, .c (.val (.bool (decide (t_5 < (((List.length l_1) : Nat) : Int))))))], [(0, .row (.int .i64) l_1)], 1⟩ [] (by kernel_rfl) rfl rfl ap0 ?_
  refine VL_cond ((decide (t_5 < (((List.length l_1) : Nat) : Int)))) (by kernel_rfl) ?_ ?_
  · intro b_8; have H_20 := of_t H_19 b_8
    refine V_run hN hn 2 1 [1, 5, 8, 9, 10, 11] [0] ⟨[(1, .c (.val (.int .i64 at_2))), (5, .c (.val (.int .i64 n_4))), (8, .c (.h 0)), (9, .c (.val (.int .i64 (((List.length l_1) : Nat) : Int)))), (10, .c (.val (.int .i64 t_5))), (11, .c (.val (.bool (decide (t_5 < (((List.length l_1) : Nat) : Int))))))], [(0, .row (.int .i64) l_1)], 1⟩ [] (by kernel_rfl) rfl rfl ap0 ?_
    refine VL_block ?_
    obtain ⟨c_10, H_22⟩ := of_if H_20
    refine V_run hN hn 4 1 [1, 5, 8, 9, 10, 16] [0] ⟨[(1, .c (.val (.int .i64 at_2))), (5, .c (.val (.int .i64 n_4))), (8, .c (.h 0)), (9, .c (.val (.int .i64 (((List.length l_1) : Nat) : Int)))), (10, .c (.val (.int .i64 t_5))), (16, .c (.val (.bool (decide ((List.getD l_1 (Int.toNat t_5) (0 : Int)) ≤ at_2)))))], [(0, .row (.int .i64) l_1)], 1⟩ [0 ≤ t_5, t_5 < (((List.length l_1) : Nat) : Int)] (by kernel_rfl) rfl rfl (ap2 c_10.1 (ap1 c_10.2)) ?_
    refine VL_cond ((decide ((List.getD l_1 (Int.toNat t_5) (0 : Int)) ≤ at_2))) (by kernel_rfl) ?_ ?_
    · intro b_11; have H_23 := of_t H_22 b_11
      refine V_run hN hn 1 1 [1, 5, 8, 9, 10] [0] ⟨[(1, .c (.val (.int .i64 at_2))), (5, .c (.val (.int .i64 (IntKind.wrap .i64 (n_4 + (1 : Int)))))), (8, .c (.h 0)), (9, .c (.val (.int .i64 (((List.length l_1) : Nat) : Int)))), (10, .c (.val (.int .i64 t_5)))], [(0, .row (.int .i64) l_1)], 1⟩ [] (by kernel_rfl) rfl rfl ap0 ?_
      refine VL_nil (QB_end ?_)
      refine V_run hN hn 1 1 [1, 5, 8, 9, 10] [0] ⟨[(1, .c (.val (.int .i64 at_2))), (5, .c (.val (.int .i64 (IntKind.wrap .i64 (n_4 + (1 : Int)))))), (8, .c (.h 0)), (9, .c (.val (.int .i64 (((List.length l_1) : Nat) : Int)))), (10, .c (.val (.int .i64 (IntKind.wrap .i64 (t_5 + (1 : Int))))))], [(0, .row (.int .i64) l_1)], 1⟩ [] (by kernel_rfl) rfl rfl ap0 ?_
      refine VL_nil ?_
      exact V_roundEnd ((IntKind.wrap .i64 (n_4 + (1 : Int))), (IntKind.wrap .i64 (t_5 + (1 : Int)))) H_23 [] hn (by kernel_rfl) (by kernel_rfl) rfl rfl rfl
    · intro b_11; have H_24 := of_f H_22 b_11
      refine V_run hN hn 1 1 [1, 5, 8, 9, 10, 16] [0] ⟨[(1, .c (.val (.int .i64 at_2))), (5, .c (.val (.int .i64 n_4))), (8, .c (.h 0)), (9, .c (.val (.int .i64 (((List.length l_1) : Nat) : Int)))), (10, .c (.val (.int .i64 t_5))), (16, .c (.val (.bool (decide ((List.getD l_1 (Int.toNat t_5) (0 : Int)) ≤ at_2)))))], [(0, .row (.int .i64) l_1)], 1⟩ [] (by kernel_rfl) rfl rfl ap0 ?_
      refine VL_nil (QB_end ?_)
      refine V_run hN hn 1 1 [1, 5, 8, 9, 10] [0] ⟨[(1, .c (.val (.int .i64 at_2))), (5, .c (.val (.int .i64 n_4))), (8, .c (.h 0)), (9, .c (.val (.int .i64 (((List.length l_1) : Nat) : Int)))), (10, .c (.val (.int .i64 (IntKind.wrap .i64 (t_5 + (1 : Int))))))], [(0, .row (.int .i64) l_1)], 1⟩ [] (by kernel_rfl) rfl rfl ap0 ?_
      refine VL_nil ?_
      exact V_roundEnd (n_4, (IntKind.wrap .i64 (t_5 + (1 : Int)))) H_24 [] hn (by kernel_rfl) (by kernel_rfl) rfl rfl rfl
  · intro b_8; have H_21 := of_f H_19 b_8
    refine VL_exit ?_
    refine QL_exit ?_
    refine QB_here ?_
    refine V_run hN hn 2 1 [4] [0] ⟨[(4, .c (.val (.int .i64 n_4)))], [(0, .row (.int .i64) l_1)], 1⟩ [] (by kernel_rfl) rfl rfl ap0 ?_
    have H_25 := Option.some.inj (show some n_4 = some r from H_21); subst H_25
    refine VL_ret ?_
    exact P_to [(4, .c (.val (.int .i64 n_4)))] [(0, .row (.int .i64) l_1)] [] hn (by kernel_rfl) (by kernel_rfl) rfl rfl rfl (QF_retS (by kernel_rfl) (by kernel_rfl) rfl)

theorem palinodelaw16_known_spec (K : Nat) (r : Bool) (H : palinodelaw16_known K  = some r) : Spec Try.prog 9 0 [] [] (.c (.val (.bool r))) [] := by
  refine Spec_mk (fn := Try.f9) (c := (Try.f9.body).get!) Try.func9 (by kernel_rfl) rfl ?_
  intro C hN hn
  replace hN : C.N = 114 := hN
  unfold palinodelaw16_known at H
  refine V_run hN hn 3 0 [] [] ⟨[], [], 0⟩ [] (by kernel_rfl) rfl rfl ap0 ?_
  obtain ⟨r_2, h_3, H_66⟩ := of_bind H
  refine V_reg hN hn [(0, ⟨18, 0, [.c (.val (.slice none 0 0)), .c (.val (.int .i64 (5 : Int)))], [], .tup [(false, [.h 3]), (false, [.val (.int .i64 r_2.2)])], [(3, .row (.int .i64) r_2.1)], [(3, 0)], 1⟩)] [] (calls_cons (breaks_Put_ng_spec K (5 : Int) r_2 h_3) (by kernel_rfl) calls_nil) 0 [1, 2] [0] ⟨[(1, .c (.h 0)), (2, .c (.val (.int .i64 r_2.2)))], [(0, .row (.int .i64) r_2.1)], 1⟩ [] (by kernel_rfl) rfl rfl ap0 (by kernel_rfl) (by kernel_rfl) ?_
  refine V_run hN hn 1 1 [1, 2] [0] ⟨[(1, .c (.h 0)), (2, .c (.val (.int .i64 r_2.2)))], [(0, .row (.int .i64) r_2.1)], 1⟩ [] (by kernel_rfl) rfl rfl ap0 ?_
  obtain ⟨r_6, h_7, H_67⟩ := of_bind H_66
  refine V_reg hN hn [(1, ⟨18, 1, [.c (.h 0), .c (.val (.int .i64 (2 : Int)))], [(0, .row (.int .i64) r_2.1)], .tup [(false, [.h 4]), (false, [.val (.int .i64 r_6.2)])], [(0, .row (.int .i64) r_2.1), (4, .row (.int .i64) r_6.1)], [(0, 0), (4, 1)], 2⟩)] [] (calls_cons (breaks_Put_rg_spec K r_2.1 (2 : Int) r_6 h_7) (by kernel_rfl) calls_nil) 1 [2, 3, 4] [1] ⟨[(2, .c (.val (.int .i64 r_2.2))), (3, .c (.h 1)), (4, .c (.val (.int .i64 r_6.2)))], [(1, .row (.int .i64) r_6.1)], 2⟩ [] (by kernel_rfl) rfl rfl ap0 (by kernel_rfl) (by kernel_rfl) ?_
  refine V_run hN hn 1 2 [2, 3, 4] [1] ⟨[(2, .c (.val (.int .i64 r_2.2))), (3, .c (.h 1)), (4, .c (.val (.int .i64 r_6.2)))], [(1, .row (.int .i64) r_6.1)], 2⟩ [] (by kernel_rfl) rfl rfl ap0 ?_
  obtain ⟨r_10, h_11, H_68⟩ := of_bind H_67
  refine V_reg hN hn [(1, ⟨17, 1, [.c (.h 0), .c (.val (.int .i64 (3 : Int)))], [(0, .row (.int .i64) r_6.1)], .tup [(false, [.h 1]), (false, [.val (.int .i64 r_10.2)])], [(0, .row (.int .i64) r_6.1), (1, .row (.int .i64) r_10.1)], [(0, 1), (1, 2)], 3⟩)] [] (calls_cons (breaks_Take_rg_spec K r_6.1 (3 : Int) r_10 h_11) (by kernel_rfl) calls_nil) 2 [2, 3, 4, 6] [1] ⟨[(2, .c (.val (.int .i64 r_2.2))), (3, .c (.h 1)), (4, .c (.val (.int .i64 r_6.2))), (6, .c (.val (.int .i64 r_10.2)))], [(1, .row (.int .i64) r_6.1)], 3⟩ [] (by kernel_rfl) rfl rfl ap0 (by kernel_rfl) (by kernel_rfl) ?_
  refine V_run hN hn 1 3 [2, 3, 4, 6] [1] ⟨[(2, .c (.val (.int .i64 r_2.2))), (3, .c (.h 1)), (4, .c (.val (.int .i64 r_6.2))), (6, .c (.val (.int .i64 r_10.2)))], [(1, .row (.int .i64) r_6.1)], 3⟩ [] (by kernel_rfl) rfl rfl ap0 ?_
  obtain ⟨r_14, h_15, H_69⟩ := of_bind H_68
  refine V_reg hN hn [(1, ⟨17, 1, [.c (.h 0), .c (.val (.int .i64 (2 : Int)))], [(0, .row (.int .i64) r_6.1)], .tup [(false, [.h 1]), (false, [.val (.int .i64 r_14.2)])], [(0, .row (.int .i64) r_6.1), (1, .row (.int .i64) r_14.1)], [(0, 1), (1, 3)], 4⟩)] [] (calls_cons (breaks_Take_rg_spec K r_6.1 (2 : Int) r_14 h_15) (by kernel_rfl) calls_nil) 3 [2, 3, 4, 6, 7, 8] [1, 3] ⟨[(2, .c (.val (.int .i64 r_2.2))), (3, .c (.h 1)), (4, .c (.val (.int .i64 r_6.2))), (6, .c (.val (.int .i64 r_10.2))), (7, .c (.h 3)), (8, .c (.val (.int .i64 r_14.2)))], [(1, .row (.int .i64) r_6.1), (3, .row (.int .i64) r_14.1)], 4⟩ [] (by kernel_rfl) rfl rfl ap0 (by kernel_rfl) (by kernel_rfl) ?_
  refine V_run hN hn 1 4 [2, 3, 4, 6, 7, 8] [1, 3] ⟨[(2, .c (.val (.int .i64 r_2.2))), (3, .c (.h 1)), (4, .c (.val (.int .i64 r_6.2))), (6, .c (.val (.int .i64 r_10.2))), (7, .c (.h 3)), (8, .c (.val (.int .i64 r_14.2)))], [(1, .row (.int .i64) r_6.1), (3, .row (.int .i64) r_14.1)], 4⟩ [] (by kernel_rfl) rfl rfl ap0 ?_
  obtain ⟨r_18, h_19, H_70⟩ := of_bind H_69
  refine V_reg hN hn [(0, ⟨10, 0, [.c (.val (.string (ByteArray.mk #[97, 98, 99, 100, 101, 102, 103, 104]))), .c (.val (.int .i64 (4 : Int)))], [], .tup [(false, [.h 6]), (false, [.val (.int .i64 r_18.2)])], [(6, .row (.int .i64) r_18.1)], [(6, 4)], 5⟩)] [] (calls_cons (breaks_Wrap_spec K (ByteArray.mk #[97, 98, 99, 100, 101, 102, 103, 104]) (4 : Int) r_18 h_19) (by kernel_rfl) calls_nil) 4 [2, 3, 4, 6, 7, 8, 9, 10] [1, 3, 4] ⟨[(2, .c (.val (.int .i64 r_2.2))), (3, .c (.h 1)), (4, .c (.val (.int .i64 r_6.2))), (6, .c (.val (.int .i64 r_10.2))), (7, .c (.h 3)), (8, .c (.val (.int .i64 r_14.2))), (9, .c (.h 4)), (10, .c (.val (.int .i64 r_18.2)))], [(1, .row (.int .i64) r_6.1), (3, .row (.int .i64) r_14.1), (4, .row (.int .i64) r_18.1)], 5⟩ [] (by kernel_rfl) rfl rfl ap0 (by kernel_rfl) (by kernel_rfl) ?_
  refine V_run hN hn 1 5 [2, 3, 4, 6, 7, 8, 9, 10] [1, 3, 4] ⟨[(2, .c (.val (.int .i64 r_2.2))), (3, .c (.h 1)), (4, .c (.val (.int .i64 r_6.2))), (6, .c (.val (.int .i64 r_10.2))), (7, .c (.h 3)), (8, .c (.val (.int .i64 r_14.2))), (9, .c (.h 4)), (10, .c (.val (.int .i64 r_18.2)))], [(1, .row (.int .i64) r_6.1), (3, .row (.int .i64) r_14.1), (4, .row (.int .i64) r_18.1)], 5⟩ [] (by kernel_rfl) rfl rfl ap0 ?_
  obtain ⟨r_22, h_23, H_71⟩ := of_bind H_70
  refine V_reg hN hn [(0, ⟨10, 0, [.c (.val (.string (ByteArray.mk #[97]))), .c (.val (.int .i64 (3 : Int)))], [], .tup [(false, [.h 6]), (false, [.val (.int .i64 r_22.2)])], [(6, .row (.int .i64) r_22.1)], [(6, 5)], 6⟩)] [] (calls_cons (breaks_Wrap_spec K (ByteArray.mk #[97]) (3 : Int) r_22 h_23) (by kernel_rfl) calls_nil) 5 [2, 3, 4, 6, 7, 8, 9, 10, 12] [1, 3, 4] ⟨[(2, .c (.val (.int .i64 r_2.2))), (3, .c (.h 1)), (4, .c (.val (.int .i64 r_6.2))), (6, .c (.val (.int .i64 r_10.2))), (7, .c (.h 3)), (8, .c (.val (.int .i64 r_14.2))), (9, .c (.h 4)), (10, .c (.val (.int .i64 r_18.2))), (12, .c (.val (.int .i64 r_22.2)))], [(1, .row (.int .i64) r_6.1), (3, .row (.int .i64) r_14.1), (4, .row (.int .i64) r_18.1)], 6⟩ [] (by kernel_rfl) rfl rfl ap0 (by kernel_rfl) (by kernel_rfl) ?_
  refine V_run hN hn 1 6 [2, 3, 4, 6, 7, 8, 9, 10, 12] [1, 3, 4] ⟨[(2, .c (.val (.int .i64 r_2.2))), (3, .c (.h 1)), (4, .c (.val (.int .i64 r_6.2))), (6, .c (.val (.int .i64 r_10.2))), (7, .c (.h 3)), (8, .c (.val (.int .i64 r_14.2))), (9, .c (.h 4)), (10, .c (.val (.int .i64 r_18.2))), (12, .c (.val (.int .i64 r_22.2)))], [(1, .row (.int .i64) r_6.1), (3, .row (.int .i64) r_14.1), (4, .row (.int .i64) r_18.1)], 6⟩ [] (by kernel_rfl) rfl rfl ap0 ?_
  rcases Bool.eq_false_or_eq_true ((r_2.2 == (0 : Int))) with b_26 | b_26
  · have H_72 := of_t H_71 b_26
    rcases Bool.eq_false_or_eq_true ((r_6.2 == (0 : Int))) with b_27 | b_27
    · have H_74 := of_t H_72 b_27
      rcases Bool.eq_false_or_eq_true (((((List.length r_6.1) : Nat) : Int) == (2 : Int))) with b_28 | b_28
      · have H_76 := of_t H_74 b_28
        rcases Bool.eq_false_or_eq_true (((List.getD r_6.1 0 (0 : Int)) == (2 : Int))) with b_29 | b_29
        · have H_78 := of_t H_76 b_29
          rcases Bool.eq_false_or_eq_true ((r_10.2 == (10 : Int))) with b_30 | b_30
          · have H_80 := of_t H_78 b_30
            rcases Bool.eq_false_or_eq_true ((r_14.2 == (0 : Int))) with b_31 | b_31
            · have H_82 := of_t H_80 b_31
              rcases Bool.eq_false_or_eq_true (((((List.length r_14.1) : Nat) : Int) == (1 : Int))) with b_32 | b_32
              · have H_84 := of_t H_82 b_32
                rcases Bool.eq_false_or_eq_true (((List.getD r_14.1 0 (0 : Int)) == (5 : Int))) with b_33 | b_33
                · have H_86 := of_t H_84 b_33
                  rcases Bool.eq_false_or_eq_true ((r_18.2 == (0 : Int))) with b_34 | b_34
                  · have H_88 := of_t H_86 b_34
                    rcases Bool.eq_false_or_eq_true (((((List.length r_18.1) : Nat) : Int) == (1 : Int))) with b_35 | b_35
                    · have H_90 := of_t H_88 b_35
                      rcases Bool.eq_false_or_eq_true (((List.getD r_18.1 0 (0 : Int)) == (4 : Int))) with b_36 | b_36
                      · have H_92 := of_t H_90 b_36
                        rcases Bool.eq_false_or_eq_true ((r_22.2 == (12 : Int))) with b_37 | b_37
                        · have H_94 := of_t H_92 b_37
                          obtain ⟨r_38, h_39, H_96⟩ := of_bind H_94
                          rcases Bool.eq_false_or_eq_true ((r_38 == (1 : Int))) with b_40 | b_40
                          · have H_97 := of_t H_96 b_40
                            obtain ⟨r_41, h_42, H_99⟩ := of_bind H_97
                            rcases Bool.eq_false_or_eq_true ((r_41 == (0 : Int))) with b_43 | b_43
                            · have H_100 := of_t H_99 b_43
                              obtain ⟨r_44, h_45, H_102⟩ := of_bind H_100
                              rcases Bool.eq_false_or_eq_true (r_44) with b_46 | b_46
                              · have H_103 := of_t H_102 b_46
                                obtain ⟨r_47, h_48, H_105⟩ := of_bind H_103
                                obtain ⟨c_49, H_106⟩ := of_if H_105
                                refine V_reg hN hn [(57, ⟨19, 1, [.c (.h 0), .c (.val (.int .i64 (2 : Int)))], [(0, .row (.int .i64) r_6.1)], .c (.val (.int .i64 r_38)), [(0, .row (.int .i64) r_6.1)], [(0, 1)], 6⟩), (62, ⟨19, 1, [.c (.h 0), .c (.val (.int .i64 (1 : Int)))], [(0, .row (.int .i64) r_6.1)], .c (.val (.int .i64 r_41)), [(0, .row (.int .i64) r_6.1)], [(0, 1)], 6⟩), (67, ⟨14, 1, [.c (.h 0), .c (.val (.int .i64 (6 : Int)))], [(0, .row (.int .i64) r_6.1)], .c (.val (.bool r_44)), [(0, .row (.int .i64) r_6.1)], [(0, 1)], 6⟩), (71, ⟨14, 1, [.c (.h 0), .c (.val (.int .i64 (5 : Int)))], [(0, .row (.int .i64) r_6.1)], .c (.val (.bool r_47)), [(0, .row (.int .i64) r_6.1)], [(0, 1)], 6⟩)] [(42, true), (46, true), (51, true), (57, true), (61, true), (65, true), (70, true), (76, true), (80, true), (85, true), (91, true), (95, true), (100, true), (105, true), (109, true)] (calls_cons (breaks_Line_rg_spec K r_6.1 (2 : Int) r_38 h_39) (by kernel_rfl) (calls_cons (breaks_Line_rg_spec K r_6.1 (1 : Int) r_41 h_42) (by kernel_rfl) (calls_cons (breaks_Is_rg_spec K r_6.1 (6 : Int) r_44 h_45) (by kernel_rfl) (calls_cons (breaks_Is_rg_spec K r_6.1 (5 : Int) r_47 h_48) (by kernel_rfl) calls_nil)))) 6 [0] [] ⟨[(0, .c (.val (.bool (!r_47))))], [], 6⟩ [(r_2.2 == (0 : Int)) = true, (r_6.2 == (0 : Int)) = true, ((((List.length r_6.1) : Nat) : Int) == (2 : Int)) = true, (0 : Int) ≤ (0 : Int), (0 : Int) < (((List.length r_6.1) : Nat) : Int), ((List.getD r_6.1 0 (0 : Int)) == (2 : Int)) = true, (r_10.2 == (10 : Int)) = true, (r_14.2 == (0 : Int)) = true, ((((List.length r_14.1) : Nat) : Int) == (1 : Int)) = true, (0 : Int) ≤ (0 : Int), (0 : Int) < (((List.length r_14.1) : Nat) : Int), ((List.getD r_14.1 0 (0 : Int)) == (5 : Int)) = true, (r_18.2 == (0 : Int)) = true, ((((List.length r_18.1) : Nat) : Int) == (1 : Int)) = true, (0 : Int) ≤ (0 : Int), (0 : Int) < (((List.length r_18.1) : Nat) : Int), ((List.getD r_18.1 0 (0 : Int)) == (4 : Int)) = true, (r_22.2 == (12 : Int)) = true, (r_38 == (1 : Int)) = true, (r_41 == (0 : Int)) = true, r_44 = true] (by kernel_rfl) rfl rfl (ap2 b_26 (ap2 b_27 (ap2 b_28 (ap2 (by decide) (ap2 c_49.1 (ap2 b_29 (ap2 b_30 (ap2 b_31 (ap2 b_32 (ap2 (by decide) (ap2 c_49.2.1 (ap2 b_33 (ap2 b_34 (ap2 b_35 (ap2 (by decide) (ap2 c_49.2.2 (ap2 b_36 (ap2 b_37 (ap2 b_40 (ap2 b_43 (ap1 b_46))))))))))))))))))))) (by kernel_rfl) (by kernel_rfl) ?_
                                have H_107 := Option.some.inj (show some (!r_47) = some r from H_106); subst H_107
                                refine VL_ret ?_
                                exact P_to [(0, .c (.val (.bool (!r_47))))] [] [] hn (by kernel_rfl) (by kernel_rfl) rfl rfl rfl (QF_retS (by kernel_rfl) (by kernel_rfl) rfl)
                              · have H_104 := of_f H_102 b_46
                                obtain ⟨c_50, H_108⟩ := of_if H_104
                                refine V_reg hN hn [(57, ⟨19, 1, [.c (.h 0), .c (.val (.int .i64 (2 : Int)))], [(0, .row (.int .i64) r_6.1)], .c (.val (.int .i64 r_38)), [(0, .row (.int .i64) r_6.1)], [(0, 1)], 6⟩), (62, ⟨19, 1, [.c (.h 0), .c (.val (.int .i64 (1 : Int)))], [(0, .row (.int .i64) r_6.1)], .c (.val (.int .i64 r_41)), [(0, .row (.int .i64) r_6.1)], [(0, 1)], 6⟩), (67, ⟨14, 1, [.c (.h 0), .c (.val (.int .i64 (6 : Int)))], [(0, .row (.int .i64) r_6.1)], .c (.val (.bool r_44)), [(0, .row (.int .i64) r_6.1)], [(0, 1)], 6⟩)] [(42, true), (46, true), (51, true), (57, true), (61, true), (65, true), (70, true), (76, true), (80, true), (85, true), (91, true), (95, true), (100, true), (105, true), (109, false)] (calls_cons (breaks_Line_rg_spec K r_6.1 (2 : Int) r_38 h_39) (by kernel_rfl) (calls_cons (breaks_Line_rg_spec K r_6.1 (1 : Int) r_41 h_42) (by kernel_rfl) (calls_cons (breaks_Is_rg_spec K r_6.1 (6 : Int) r_44 h_45) (by kernel_rfl) calls_nil))) 6 [0] [] ⟨[(0, .c (.val (.bool false)))], [], 6⟩ [(r_2.2 == (0 : Int)) = true, (r_6.2 == (0 : Int)) = true, ((((List.length r_6.1) : Nat) : Int) == (2 : Int)) = true, (0 : Int) ≤ (0 : Int), (0 : Int) < (((List.length r_6.1) : Nat) : Int), ((List.getD r_6.1 0 (0 : Int)) == (2 : Int)) = true, (r_10.2 == (10 : Int)) = true, (r_14.2 == (0 : Int)) = true, ((((List.length r_14.1) : Nat) : Int) == (1 : Int)) = true, (0 : Int) ≤ (0 : Int), (0 : Int) < (((List.length r_14.1) : Nat) : Int), ((List.getD r_14.1 0 (0 : Int)) == (5 : Int)) = true, (r_18.2 == (0 : Int)) = true, ((((List.length r_18.1) : Nat) : Int) == (1 : Int)) = true, (0 : Int) ≤ (0 : Int), (0 : Int) < (((List.length r_18.1) : Nat) : Int), ((List.getD r_18.1 0 (0 : Int)) == (4 : Int)) = true, (r_22.2 == (12 : Int)) = true, (r_38 == (1 : Int)) = true, (r_41 == (0 : Int)) = true, r_44 = false] (by kernel_rfl) rfl rfl (ap2 b_26 (ap2 b_27 (ap2 b_28 (ap2 (by decide) (ap2 c_50.1 (ap2 b_29 (ap2 b_30 (ap2 b_31 (ap2 b_32 (ap2 (by decide) (ap2 c_50.2.1 (ap2 b_33 (ap2 b_34 (ap2 b_35 (ap2 (by decide) (ap2 c_50.2.2 (ap2 b_36 (ap2 b_37 (ap2 b_40 (ap2 b_43 (ap1 b_46))))))))))))))))))))) (by kernel_rfl) (by kernel_rfl) ?_
                                have H_109 := Option.some.inj (show some false = some r from H_108); subst H_109
                                refine VL_ret ?_
                                exact P_to [(0, .c (.val (.bool false)))] [] [] hn (by kernel_rfl) (by kernel_rfl) rfl rfl rfl (QF_retS (by kernel_rfl) (by kernel_rfl) rfl)
                            · have H_101 := of_f H_99 b_43
                              obtain ⟨c_51, H_110⟩ := of_if H_101
                              refine V_reg hN hn [(57, ⟨19, 1, [.c (.h 0), .c (.val (.int .i64 (2 : Int)))], [(0, .row (.int .i64) r_6.1)], .c (.val (.int .i64 r_38)), [(0, .row (.int .i64) r_6.1)], [(0, 1)], 6⟩), (62, ⟨19, 1, [.c (.h 0), .c (.val (.int .i64 (1 : Int)))], [(0, .row (.int .i64) r_6.1)], .c (.val (.int .i64 r_41)), [(0, .row (.int .i64) r_6.1)], [(0, 1)], 6⟩)] [(42, true), (46, true), (51, true), (57, true), (61, true), (65, true), (70, true), (76, true), (80, true), (85, true), (91, true), (95, true), (100, true), (105, false)] (calls_cons (breaks_Line_rg_spec K r_6.1 (2 : Int) r_38 h_39) (by kernel_rfl) (calls_cons (breaks_Line_rg_spec K r_6.1 (1 : Int) r_41 h_42) (by kernel_rfl) calls_nil)) 6 [0] [] ⟨[(0, .c (.val (.bool false)))], [], 6⟩ [(r_2.2 == (0 : Int)) = true, (r_6.2 == (0 : Int)) = true, ((((List.length r_6.1) : Nat) : Int) == (2 : Int)) = true, (0 : Int) ≤ (0 : Int), (0 : Int) < (((List.length r_6.1) : Nat) : Int), ((List.getD r_6.1 0 (0 : Int)) == (2 : Int)) = true, (r_10.2 == (10 : Int)) = true, (r_14.2 == (0 : Int)) = true, ((((List.length r_14.1) : Nat) : Int) == (1 : Int)) = true, (0 : Int) ≤ (0 : Int), (0 : Int) < (((List.length r_14.1) : Nat) : Int), ((List.getD r_14.1 0 (0 : Int)) == (5 : Int)) = true, (r_18.2 == (0 : Int)) = true, ((((List.length r_18.1) : Nat) : Int) == (1 : Int)) = true, (0 : Int) ≤ (0 : Int), (0 : Int) < (((List.length r_18.1) : Nat) : Int), ((List.getD r_18.1 0 (0 : Int)) == (4 : Int)) = true, (r_22.2 == (12 : Int)) = true, (r_38 == (1 : Int)) = true, (r_41 == (0 : Int)) = false] (by kernel_rfl) rfl rfl (ap2 b_26 (ap2 b_27 (ap2 b_28 (ap2 (by decide) (ap2 c_51.1 (ap2 b_29 (ap2 b_30 (ap2 b_31 (ap2 b_32 (ap2 (by decide) (ap2 c_51.2.1 (ap2 b_33 (ap2 b_34 (ap2 b_35 (ap2 (by decide) (ap2 c_51.2.2 (ap2 b_36 (ap2 b_37 (ap2 b_40 (ap1 b_43)))))))))))))))))))) (by kernel_rfl) (by kernel_rfl) ?_
                              have H_111 := Option.some.inj (show some false = some r from H_110); subst H_111
                              refine VL_ret ?_
                              exact P_to [(0, .c (.val (.bool false)))] [] [] hn (by kernel_rfl) (by kernel_rfl) rfl rfl rfl (QF_retS (by kernel_rfl) (by kernel_rfl) rfl)
                          · have H_98 := of_f H_96 b_40
                            obtain ⟨c_52, H_112⟩ := of_if H_98
                            refine V_reg hN hn [(57, ⟨19, 1, [.c (.h 0), .c (.val (.int .i64 (2 : Int)))], [(0, .row (.int .i64) r_6.1)], .c (.val (.int .i64 r_38)), [(0, .row (.int .i64) r_6.1)], [(0, 1)], 6⟩)] [(42, true), (46, true), (51, true), (57, true), (61, true), (65, true), (70, true), (76, true), (80, true), (85, true), (91, true), (95, true), (100, false)] (calls_cons (breaks_Line_rg_spec K r_6.1 (2 : Int) r_38 h_39) (by kernel_rfl) calls_nil) 6 [0] [] ⟨[(0, .c (.val (.bool false)))], [], 6⟩ [(r_2.2 == (0 : Int)) = true, (r_6.2 == (0 : Int)) = true, ((((List.length r_6.1) : Nat) : Int) == (2 : Int)) = true, (0 : Int) ≤ (0 : Int), (0 : Int) < (((List.length r_6.1) : Nat) : Int), ((List.getD r_6.1 0 (0 : Int)) == (2 : Int)) = true, (r_10.2 == (10 : Int)) = true, (r_14.2 == (0 : Int)) = true, ((((List.length r_14.1) : Nat) : Int) == (1 : Int)) = true, (0 : Int) ≤ (0 : Int), (0 : Int) < (((List.length r_14.1) : Nat) : Int), ((List.getD r_14.1 0 (0 : Int)) == (5 : Int)) = true, (r_18.2 == (0 : Int)) = true, ((((List.length r_18.1) : Nat) : Int) == (1 : Int)) = true, (0 : Int) ≤ (0 : Int), (0 : Int) < (((List.length r_18.1) : Nat) : Int), ((List.getD r_18.1 0 (0 : Int)) == (4 : Int)) = true, (r_22.2 == (12 : Int)) = true, (r_38 == (1 : Int)) = false] (by kernel_rfl) rfl rfl (ap2 b_26 (ap2 b_27 (ap2 b_28 (ap2 (by decide) (ap2 c_52.1 (ap2 b_29 (ap2 b_30 (ap2 b_31 (ap2 b_32 (ap2 (by decide) (ap2 c_52.2.1 (ap2 b_33 (ap2 b_34 (ap2 b_35 (ap2 (by decide) (ap2 c_52.2.2 (ap2 b_36 (ap2 b_37 (ap1 b_40))))))))))))))))))) (by kernel_rfl) (by kernel_rfl) ?_
                            have H_113 := Option.some.inj (show some false = some r from H_112); subst H_113
                            refine VL_ret ?_
                            exact P_to [(0, .c (.val (.bool false)))] [] [] hn (by kernel_rfl) (by kernel_rfl) rfl rfl rfl (QF_retS (by kernel_rfl) (by kernel_rfl) rfl)
                        · have H_95 := of_f H_92 b_37
                          obtain ⟨c_53, H_114⟩ := of_if H_95
                          refine V_reg hN hn [] [(42, true), (46, true), (51, true), (57, true), (61, true), (65, true), (70, true), (76, true), (80, true), (85, true), (91, true), (95, false)] calls_nil 6 [0] [] ⟨[(0, .c (.val (.bool false)))], [], 6⟩ [(r_2.2 == (0 : Int)) = true, (r_6.2 == (0 : Int)) = true, ((((List.length r_6.1) : Nat) : Int) == (2 : Int)) = true, (0 : Int) ≤ (0 : Int), (0 : Int) < (((List.length r_6.1) : Nat) : Int), ((List.getD r_6.1 0 (0 : Int)) == (2 : Int)) = true, (r_10.2 == (10 : Int)) = true, (r_14.2 == (0 : Int)) = true, ((((List.length r_14.1) : Nat) : Int) == (1 : Int)) = true, (0 : Int) ≤ (0 : Int), (0 : Int) < (((List.length r_14.1) : Nat) : Int), ((List.getD r_14.1 0 (0 : Int)) == (5 : Int)) = true, (r_18.2 == (0 : Int)) = true, ((((List.length r_18.1) : Nat) : Int) == (1 : Int)) = true, (0 : Int) ≤ (0 : Int), (0 : Int) < (((List.length r_18.1) : Nat) : Int), ((List.getD r_18.1 0 (0 : Int)) == (4 : Int)) = true, (r_22.2 == (12 : Int)) = false] (by kernel_rfl) rfl rfl (ap2 b_26 (ap2 b_27 (ap2 b_28 (ap2 (by decide) (ap2 c_53.1 (ap2 b_29 (ap2 b_30 (ap2 b_31 (ap2 b_32 (ap2 (by decide) (ap2 c_53.2.1 (ap2 b_33 (ap2 b_34 (ap2 b_35 (ap2 (by decide) (ap2 c_53.2.2 (ap2 b_36 (ap1 b_37)))))))))))))))))) (by kernel_rfl) (by kernel_rfl) ?_
                          have H_115 := Option.some.inj (show some false = some r from H_114); subst H_115
                          refine VL_ret ?_
                          exact P_to [(0, .c (.val (.bool false)))] [] [] hn (by kernel_rfl) (by kernel_rfl) rfl rfl rfl (QF_retS (by kernel_rfl) (by kernel_rfl) rfl)
                      · have H_93 := of_f H_90 b_36
                        obtain ⟨c_54, H_116⟩ := of_if H_93
                        refine V_reg hN hn [] [(42, true), (46, true), (51, true), (57, true), (61, true), (65, true), (70, true), (76, true), (80, true), (85, true), (91, false)] calls_nil 6 [0] [] ⟨[(0, .c (.val (.bool false)))], [], 6⟩ [(r_2.2 == (0 : Int)) = true, (r_6.2 == (0 : Int)) = true, ((((List.length r_6.1) : Nat) : Int) == (2 : Int)) = true, (0 : Int) ≤ (0 : Int), (0 : Int) < (((List.length r_6.1) : Nat) : Int), ((List.getD r_6.1 0 (0 : Int)) == (2 : Int)) = true, (r_10.2 == (10 : Int)) = true, (r_14.2 == (0 : Int)) = true, ((((List.length r_14.1) : Nat) : Int) == (1 : Int)) = true, (0 : Int) ≤ (0 : Int), (0 : Int) < (((List.length r_14.1) : Nat) : Int), ((List.getD r_14.1 0 (0 : Int)) == (5 : Int)) = true, (r_18.2 == (0 : Int)) = true, ((((List.length r_18.1) : Nat) : Int) == (1 : Int)) = true, (0 : Int) ≤ (0 : Int), (0 : Int) < (((List.length r_18.1) : Nat) : Int), ((List.getD r_18.1 0 (0 : Int)) == (4 : Int)) = false] (by kernel_rfl) rfl rfl (ap2 b_26 (ap2 b_27 (ap2 b_28 (ap2 (by decide) (ap2 c_54.1 (ap2 b_29 (ap2 b_30 (ap2 b_31 (ap2 b_32 (ap2 (by decide) (ap2 c_54.2.1 (ap2 b_33 (ap2 b_34 (ap2 b_35 (ap2 (by decide) (ap2 c_54.2.2 (ap1 b_36))))))))))))))))) (by kernel_rfl) (by kernel_rfl) ?_
                        have H_117 := Option.some.inj (show some false = some r from H_116); subst H_117
                        refine VL_ret ?_
                        exact P_to [(0, .c (.val (.bool false)))] [] [] hn (by kernel_rfl) (by kernel_rfl) rfl rfl rfl (QF_retS (by kernel_rfl) (by kernel_rfl) rfl)
                    · have H_91 := of_f H_88 b_35
                      obtain ⟨c_55, H_118⟩ := of_if H_91
                      refine V_reg hN hn [] [(42, true), (46, true), (51, true), (57, true), (61, true), (65, true), (70, true), (76, true), (80, true), (85, false)] calls_nil 6 [0] [] ⟨[(0, .c (.val (.bool false)))], [], 6⟩ [(r_2.2 == (0 : Int)) = true, (r_6.2 == (0 : Int)) = true, ((((List.length r_6.1) : Nat) : Int) == (2 : Int)) = true, (0 : Int) ≤ (0 : Int), (0 : Int) < (((List.length r_6.1) : Nat) : Int), ((List.getD r_6.1 0 (0 : Int)) == (2 : Int)) = true, (r_10.2 == (10 : Int)) = true, (r_14.2 == (0 : Int)) = true, ((((List.length r_14.1) : Nat) : Int) == (1 : Int)) = true, (0 : Int) ≤ (0 : Int), (0 : Int) < (((List.length r_14.1) : Nat) : Int), ((List.getD r_14.1 0 (0 : Int)) == (5 : Int)) = true, (r_18.2 == (0 : Int)) = true, ((((List.length r_18.1) : Nat) : Int) == (1 : Int)) = false] (by kernel_rfl) rfl rfl (ap2 b_26 (ap2 b_27 (ap2 b_28 (ap2 (by decide) (ap2 c_55.1 (ap2 b_29 (ap2 b_30 (ap2 b_31 (ap2 b_32 (ap2 (by decide) (ap2 c_55.2 (ap2 b_33 (ap2 b_34 (ap1 b_35)))))))))))))) (by kernel_rfl) (by kernel_rfl) ?_
                      have H_119 := Option.some.inj (show some false = some r from H_118); subst H_119
                      refine VL_ret ?_
                      exact P_to [(0, .c (.val (.bool false)))] [] [] hn (by kernel_rfl) (by kernel_rfl) rfl rfl rfl (QF_retS (by kernel_rfl) (by kernel_rfl) rfl)
                  · have H_89 := of_f H_86 b_34
                    obtain ⟨c_56, H_120⟩ := of_if H_89
                    refine V_reg hN hn [] [(42, true), (46, true), (51, true), (57, true), (61, true), (65, true), (70, true), (76, true), (80, false)] calls_nil 6 [0] [] ⟨[(0, .c (.val (.bool false)))], [], 6⟩ [(r_2.2 == (0 : Int)) = true, (r_6.2 == (0 : Int)) = true, ((((List.length r_6.1) : Nat) : Int) == (2 : Int)) = true, (0 : Int) ≤ (0 : Int), (0 : Int) < (((List.length r_6.1) : Nat) : Int), ((List.getD r_6.1 0 (0 : Int)) == (2 : Int)) = true, (r_10.2 == (10 : Int)) = true, (r_14.2 == (0 : Int)) = true, ((((List.length r_14.1) : Nat) : Int) == (1 : Int)) = true, (0 : Int) ≤ (0 : Int), (0 : Int) < (((List.length r_14.1) : Nat) : Int), ((List.getD r_14.1 0 (0 : Int)) == (5 : Int)) = true, (r_18.2 == (0 : Int)) = false] (by kernel_rfl) rfl rfl (ap2 b_26 (ap2 b_27 (ap2 b_28 (ap2 (by decide) (ap2 c_56.1 (ap2 b_29 (ap2 b_30 (ap2 b_31 (ap2 b_32 (ap2 (by decide) (ap2 c_56.2 (ap2 b_33 (ap1 b_34))))))))))))) (by kernel_rfl) (by kernel_rfl) ?_
                    have H_121 := Option.some.inj (show some false = some r from H_120); subst H_121
                    refine VL_ret ?_
                    exact P_to [(0, .c (.val (.bool false)))] [] [] hn (by kernel_rfl) (by kernel_rfl) rfl rfl rfl (QF_retS (by kernel_rfl) (by kernel_rfl) rfl)
                · have H_87 := of_f H_84 b_33
                  obtain ⟨c_57, H_122⟩ := of_if H_87
                  refine V_reg hN hn [] [(42, true), (46, true), (51, true), (57, true), (61, true), (65, true), (70, true), (76, false)] calls_nil 6 [0] [] ⟨[(0, .c (.val (.bool false)))], [], 6⟩ [(r_2.2 == (0 : Int)) = true, (r_6.2 == (0 : Int)) = true, ((((List.length r_6.1) : Nat) : Int) == (2 : Int)) = true, (0 : Int) ≤ (0 : Int), (0 : Int) < (((List.length r_6.1) : Nat) : Int), ((List.getD r_6.1 0 (0 : Int)) == (2 : Int)) = true, (r_10.2 == (10 : Int)) = true, (r_14.2 == (0 : Int)) = true, ((((List.length r_14.1) : Nat) : Int) == (1 : Int)) = true, (0 : Int) ≤ (0 : Int), (0 : Int) < (((List.length r_14.1) : Nat) : Int), ((List.getD r_14.1 0 (0 : Int)) == (5 : Int)) = false] (by kernel_rfl) rfl rfl (ap2 b_26 (ap2 b_27 (ap2 b_28 (ap2 (by decide) (ap2 c_57.1 (ap2 b_29 (ap2 b_30 (ap2 b_31 (ap2 b_32 (ap2 (by decide) (ap2 c_57.2 (ap1 b_33)))))))))))) (by kernel_rfl) (by kernel_rfl) ?_
                  have H_123 := Option.some.inj (show some false = some r from H_122); subst H_123
                  refine VL_ret ?_
                  exact P_to [(0, .c (.val (.bool false)))] [] [] hn (by kernel_rfl) (by kernel_rfl) rfl rfl rfl (QF_retS (by kernel_rfl) (by kernel_rfl) rfl)
              · have H_85 := of_f H_82 b_32
                obtain ⟨c_58, H_124⟩ := of_if H_85
                refine V_reg hN hn [] [(42, true), (46, true), (51, true), (57, true), (61, true), (65, true), (70, false)] calls_nil 6 [0] [] ⟨[(0, .c (.val (.bool false)))], [], 6⟩ [(r_2.2 == (0 : Int)) = true, (r_6.2 == (0 : Int)) = true, ((((List.length r_6.1) : Nat) : Int) == (2 : Int)) = true, (0 : Int) ≤ (0 : Int), (0 : Int) < (((List.length r_6.1) : Nat) : Int), ((List.getD r_6.1 0 (0 : Int)) == (2 : Int)) = true, (r_10.2 == (10 : Int)) = true, (r_14.2 == (0 : Int)) = true, ((((List.length r_14.1) : Nat) : Int) == (1 : Int)) = false] (by kernel_rfl) rfl rfl (ap2 b_26 (ap2 b_27 (ap2 b_28 (ap2 (by decide) (ap2 c_58 (ap2 b_29 (ap2 b_30 (ap2 b_31 (ap1 b_32))))))))) (by kernel_rfl) (by kernel_rfl) ?_
                have H_125 := Option.some.inj (show some false = some r from H_124); subst H_125
                refine VL_ret ?_
                exact P_to [(0, .c (.val (.bool false)))] [] [] hn (by kernel_rfl) (by kernel_rfl) rfl rfl rfl (QF_retS (by kernel_rfl) (by kernel_rfl) rfl)
            · have H_83 := of_f H_80 b_31
              obtain ⟨c_59, H_126⟩ := of_if H_83
              refine V_reg hN hn [] [(42, true), (46, true), (51, true), (57, true), (61, true), (65, false)] calls_nil 6 [0] [] ⟨[(0, .c (.val (.bool false)))], [], 6⟩ [(r_2.2 == (0 : Int)) = true, (r_6.2 == (0 : Int)) = true, ((((List.length r_6.1) : Nat) : Int) == (2 : Int)) = true, (0 : Int) ≤ (0 : Int), (0 : Int) < (((List.length r_6.1) : Nat) : Int), ((List.getD r_6.1 0 (0 : Int)) == (2 : Int)) = true, (r_10.2 == (10 : Int)) = true, (r_14.2 == (0 : Int)) = false] (by kernel_rfl) rfl rfl (ap2 b_26 (ap2 b_27 (ap2 b_28 (ap2 (by decide) (ap2 c_59 (ap2 b_29 (ap2 b_30 (ap1 b_31)))))))) (by kernel_rfl) (by kernel_rfl) ?_
              have H_127 := Option.some.inj (show some false = some r from H_126); subst H_127
              refine VL_ret ?_
              exact P_to [(0, .c (.val (.bool false)))] [] [] hn (by kernel_rfl) (by kernel_rfl) rfl rfl rfl (QF_retS (by kernel_rfl) (by kernel_rfl) rfl)
          · have H_81 := of_f H_78 b_30
            obtain ⟨c_60, H_128⟩ := of_if H_81
            refine V_reg hN hn [] [(42, true), (46, true), (51, true), (57, true), (61, false)] calls_nil 6 [0] [] ⟨[(0, .c (.val (.bool false)))], [], 6⟩ [(r_2.2 == (0 : Int)) = true, (r_6.2 == (0 : Int)) = true, ((((List.length r_6.1) : Nat) : Int) == (2 : Int)) = true, (0 : Int) ≤ (0 : Int), (0 : Int) < (((List.length r_6.1) : Nat) : Int), ((List.getD r_6.1 0 (0 : Int)) == (2 : Int)) = true, (r_10.2 == (10 : Int)) = false] (by kernel_rfl) rfl rfl (ap2 b_26 (ap2 b_27 (ap2 b_28 (ap2 (by decide) (ap2 c_60 (ap2 b_29 (ap1 b_30))))))) (by kernel_rfl) (by kernel_rfl) ?_
            have H_129 := Option.some.inj (show some false = some r from H_128); subst H_129
            refine VL_ret ?_
            exact P_to [(0, .c (.val (.bool false)))] [] [] hn (by kernel_rfl) (by kernel_rfl) rfl rfl rfl (QF_retS (by kernel_rfl) (by kernel_rfl) rfl)
        · have H_79 := of_f H_76 b_29
          obtain ⟨c_61, H_130⟩ := of_if H_79
          refine V_reg hN hn [] [(42, true), (46, true), (51, true), (57, false)] calls_nil 6 [0] [] ⟨[(0, .c (.val (.bool false)))], [], 6⟩ [(r_2.2 == (0 : Int)) = true, (r_6.2 == (0 : Int)) = true, ((((List.length r_6.1) : Nat) : Int) == (2 : Int)) = true, (0 : Int) ≤ (0 : Int), (0 : Int) < (((List.length r_6.1) : Nat) : Int), ((List.getD r_6.1 0 (0 : Int)) == (2 : Int)) = false] (by kernel_rfl) rfl rfl (ap2 b_26 (ap2 b_27 (ap2 b_28 (ap2 (by decide) (ap2 c_61 (ap1 b_29)))))) (by kernel_rfl) (by kernel_rfl) ?_
          have H_131 := Option.some.inj (show some false = some r from H_130); subst H_131
          refine VL_ret ?_
          exact P_to [(0, .c (.val (.bool false)))] [] [] hn (by kernel_rfl) (by kernel_rfl) rfl rfl rfl (QF_retS (by kernel_rfl) (by kernel_rfl) rfl)
      · have H_77 := of_f H_74 b_28
        refine V_reg hN hn [] [(42, true), (46, true), (51, false)] calls_nil 6 [0] [] ⟨[(0, .c (.val (.bool false)))], [], 6⟩ [(r_2.2 == (0 : Int)) = true, (r_6.2 == (0 : Int)) = true, ((((List.length r_6.1) : Nat) : Int) == (2 : Int)) = false] (by kernel_rfl) rfl rfl (ap2 b_26 (ap2 b_27 (ap1 b_28))) (by kernel_rfl) (by kernel_rfl) ?_
        have H_132 := Option.some.inj (show some false = some r from H_77); subst H_132
        refine VL_ret ?_
        exact P_to [(0, .c (.val (.bool false)))] [] [] hn (by kernel_rfl) (by kernel_rfl) rfl rfl rfl (QF_retS (by kernel_rfl) (by kernel_rfl) rfl)
    · have H_75 := of_f H_72 b_27
      refine V_reg hN hn [] [(42, true), (46, false)] calls_nil 6 [0] [] ⟨[(0, .c (.val (.bool false)))], [], 6⟩ [(r_2.2 == (0 : Int)) = true, (r_6.2 == (0 : Int)) = false] (by kernel_rfl) rfl rfl (ap2 b_26 (ap1 b_27)) (by kernel_rfl) (by kernel_rfl) ?_
      have H_133 := Option.some.inj (show some false = some r from H_75); subst H_133
      refine VL_ret ?_
      exact P_to [(0, .c (.val (.bool false)))] [] [] hn (by kernel_rfl) (by kernel_rfl) rfl rfl rfl (QF_retS (by kernel_rfl) (by kernel_rfl) rfl)
  · have H_73 := of_f H_71 b_26
    refine V_reg hN hn [] [(42, false)] calls_nil 6 [0] [] ⟨[(0, .c (.val (.bool false)))], [], 6⟩ [(r_2.2 == (0 : Int)) = false] (by kernel_rfl) rfl rfl (ap1 b_26) (by kernel_rfl) (by kernel_rfl) ?_
    have H_134 := Option.some.inj (show some false = some r from H_73); subst H_134
    refine VL_ret ?_
    exact P_to [(0, .c (.val (.bool false)))] [] [] hn (by kernel_rfl) (by kernel_rfl) rfl rfl rfl (QF_retS (by kernel_rfl) (by kernel_rfl) rfl)

theorem palinoderef1_Size_spec (K : Nat) (s_1 : ByteArray) (at_2 : Int) (r : Int) (H : palinoderef1_Size K s_1 at_2 = some r) : Spec Try.prog 16 0 [.c (.val (.string s_1)), .c (.val (.int .i64 at_2))] [] (.c (.val (.int .i64 r))) [] := by
  refine Spec_mk (fn := Try.f16) (c := (Try.f16.body).get!) Try.func16 (by kernel_rfl) rfl ?_
  intro C hN hn
  replace hN : C.N = 94 := hN
  unfold palinoderef1_Size at H
  refine V_run hN hn 4 0 [0, 1] [] ⟨[(0, .c (.val (.string s_1))), (1, .c (.val (.int .i64 at_2)))], [], 0⟩ [] (by kernel_rfl) rfl rfl ap0 ?_
  obtain ⟨q_77, H_78, H_79⟩ := of_bind H
  refine V_cut (Y := Bool) (R := Bool) q_77 (fun y => y) (fun y => [(0, .c (.val (.string s_1))), (1, .c (.val (.int .i64 at_2))), (18, .c (.val (.bool y)))]) (fun y => []) ?_ ?_
  · skip
    rcases Bool.eq_false_or_eq_true ((decide (at_2 < (0 : Int)))) with b_4 | b_4
    · have H_81 := of_t H_78 b_4
      refine V_reg hN hn [] [(13, true)] calls_nil 0 [0, 1, 18] [] ⟨[(0, .c (.val (.string s_1))), (1, .c (.val (.int .i64 at_2))), (18, .c (.val (.bool true)))], [], 0⟩ [(decide (at_2 < (0 : Int))) = true] (by kernel_rfl) rfl rfl (ap1 b_4) (by kernel_rfl) (by kernel_rfl) ?_
      have H_83 := Option.some.inj (show some true = some q_77 from H_81); subst H_83
      refine VL_nil ?_
      exact QP_end true rfl [] hn (by kernel_rfl) (by kernel_rfl) rfl rfl rfl
    · have H_82 := of_f H_78 b_4
      refine V_reg hN hn [] [(13, false)] calls_nil 0 [0, 1, 18] [] ⟨[(0, .c (.val (.string s_1))), (1, .c (.val (.int .i64 at_2))), (18, .c (.val (.bool (decide (at_2 ≥ (((ByteArray.size s_1) : Nat) : Int))))))], [], 0⟩ [(decide (at_2 < (0 : Int))) = false] (by kernel_rfl) rfl rfl (ap1 b_4) (by kernel_rfl) (by kernel_rfl) ?_
      have H_84 := Option.some.inj (show some (decide (at_2 ≥ (((ByteArray.size s_1) : Nat) : Int))) = some q_77 from H_82); subst H_84
      refine VL_nil ?_
      exact QP_end (decide (at_2 ≥ (((ByteArray.size s_1) : Nat) : Int))) rfl [] hn (by kernel_rfl) (by kernel_rfl) rfl rfl rfl
  · intro y_80 hy; subst hy
    skip
    skip
    refine VL_cond (y_80) (by kernel_rfl) ?_ ?_
    · intro b_8; have H_85 := of_t H_79 b_8
      refine V_run hN hn 2 0 [4] [] ⟨[(4, .c (.val (.int .i64 (0 : Int))))], [], 0⟩ [] (by kernel_rfl) rfl rfl ap0 ?_
      have H_87 := Option.some.inj (show some (0 : Int) = some r from H_85); subst H_87
      refine VL_ret ?_
      exact P_to [(4, .c (.val (.int .i64 (0 : Int))))] [] [] hn (by kernel_rfl) (by kernel_rfl) rfl rfl rfl (QF_retS (by kernel_rfl) (by kernel_rfl) rfl)
    · intro b_8; have H_86 := of_f H_79 b_8
      obtain ⟨c_10, H_88⟩ := of_if H_86
      refine V_run hN hn 6 0 [0, 1, 5] [] ⟨[(0, .c (.val (.string s_1))), (1, .c (.val (.int .i64 at_2))), (5, .c (.val (.int .i64 (IntKind.wrap .i64 (bt s_1 at_2)))))], [], 0⟩ [0 ≤ at_2, at_2 < (((ByteArray.size s_1) : Nat) : Int)] (by kernel_rfl) rfl rfl (ap2 c_10.1 (ap1 c_10.2)) ?_
      refine VL_block ?_
      refine V_run hN hn 2 0 [0, 1, 5, 23] [] ⟨[(0, .c (.val (.string s_1))), (1, .c (.val (.int .i64 at_2))), (5, .c (.val (.int .i64 (IntKind.wrap .i64 (bt s_1 at_2))))), (23, .c (.val (.bool (decide ((IntKind.wrap .i64 (bt s_1 at_2)) < (128 : Int))))))], [], 0⟩ [] (by kernel_rfl) rfl rfl ap0 ?_
      refine VL_cond ((decide ((IntKind.wrap .i64 (bt s_1 at_2)) < (128 : Int)))) (by kernel_rfl) ?_ ?_
      · intro b_12; have H_89 := of_t H_88 b_12
        refine V_run hN hn 2 0 [4] [] ⟨[(4, .c (.val (.int .i64 (1 : Int))))], [], 0⟩ [] (by kernel_rfl) rfl rfl ap0 ?_
        have H_91 := Option.some.inj (show some (1 : Int) = some r from H_89); subst H_91
        refine VL_ret ?_
        refine QB_ret ?_
        exact P_to [(4, .c (.val (.int .i64 (1 : Int))))] [] [] hn (by kernel_rfl) (by kernel_rfl) rfl rfl rfl (QF_retS (by kernel_rfl) (by kernel_rfl) rfl)
      · intro b_12; have H_90 := of_f H_88 b_12
        refine V_run hN hn 1 0 [0, 1, 5, 23] [] ⟨[(0, .c (.val (.string s_1))), (1, .c (.val (.int .i64 at_2))), (5, .c (.val (.int .i64 (IntKind.wrap .i64 (bt s_1 at_2))))), (23, .c (.val (.bool (decide ((IntKind.wrap .i64 (bt s_1 at_2)) < (128 : Int))))))], [], 0⟩ [] (by kernel_rfl) rfl rfl ap0 ?_
        obtain ⟨q_92, H_93, H_94⟩ := of_bind H_90
        refine V_cut (Y := Bool) (R := Bool) q_92 (fun y => y) (fun y => [(0, .c (.val (.string s_1))), (1, .c (.val (.int .i64 at_2))), (5, .c (.val (.int .i64 (IntKind.wrap .i64 (bt s_1 at_2))))), (26, .c (.val (.bool y)))]) (fun y => []) ?_ ?_
        · skip
          rcases Bool.eq_false_or_eq_true ((decide ((IntKind.wrap .i64 (bt s_1 at_2)) ≥ (192 : Int)))) with b_15 | b_15
          · have H_96 := of_t H_93 b_15
            refine V_reg hN hn [] [(29, true)] calls_nil 0 [0, 1, 5, 26] [] ⟨[(0, .c (.val (.string s_1))), (1, .c (.val (.int .i64 at_2))), (5, .c (.val (.int .i64 (IntKind.wrap .i64 (bt s_1 at_2))))), (26, .c (.val (.bool (decide ((IntKind.wrap .i64 (bt s_1 at_2)) < (224 : Int))))))], [], 0⟩ [(decide ((IntKind.wrap .i64 (bt s_1 at_2)) ≥ (192 : Int))) = true] (by kernel_rfl) rfl rfl (ap1 b_15) (by kernel_rfl) (by kernel_rfl) ?_
            have H_98 := Option.some.inj (show some (decide ((IntKind.wrap .i64 (bt s_1 at_2)) < (224 : Int))) = some q_92 from H_96); subst H_98
            refine VL_nil ?_
            exact QP_end (decide ((IntKind.wrap .i64 (bt s_1 at_2)) < (224 : Int))) rfl [] hn (by kernel_rfl) (by kernel_rfl) rfl rfl rfl
          · have H_97 := of_f H_93 b_15
            refine V_reg hN hn [] [(29, false)] calls_nil 0 [0, 1, 5, 26] [] ⟨[(0, .c (.val (.string s_1))), (1, .c (.val (.int .i64 at_2))), (5, .c (.val (.int .i64 (IntKind.wrap .i64 (bt s_1 at_2))))), (26, .c (.val (.bool false)))], [], 0⟩ [(decide ((IntKind.wrap .i64 (bt s_1 at_2)) ≥ (192 : Int))) = false] (by kernel_rfl) rfl rfl (ap1 b_15) (by kernel_rfl) (by kernel_rfl) ?_
            have H_99 := Option.some.inj (show some false = some q_92 from H_97); subst H_99
            refine VL_nil ?_
            exact QP_end false rfl [] hn (by kernel_rfl) (by kernel_rfl) rfl rfl rfl
        · intro y_95 hy; subst hy
          skip
          skip
          obtain ⟨q_100, H_101, H_102⟩ := of_bind H_94
          refine V_cut (Y := (Int × Int × Int)) (R := (Int ⊕ (Int × Int × Int))) q_100 (fun y => (Sum.inr y)) (fun y => [(0, .c (.val (.string s_1))), (1, .c (.val (.int .i64 at_2))), (6, .c (.val (.int .i64 y.1))), (7, .c (.val (.int .i64 y.2.1))), (8, .c (.val (.int .i64 y.2.2)))]) (fun y => []) ?_ ?_
          · skip
            refine VL_cond (y_95) (by kernel_rfl) ?_ ?_
            · intro b_19; have H_104 := of_t H_101 b_19
              refine V_run hN hn 1 0 [0, 1, 6, 7, 8] [] ⟨[(0, .c (.val (.string s_1))), (1, .c (.val (.int .i64 at_2))), (6, .c (.val (.int .i64 (2 : Int)))), (7, .c (.val (.int .i64 (IntKind.wrap .i64 (BitVec.toNat (BitVec.ofInt (IntKind.bits .i64) (IntKind.wrap .i64 (bt s_1 at_2)) &&& BitVec.ofInt (IntKind.bits .i64) (31 : Int))))))), (8, .c (.val (.int .i64 (128 : Int))))], [], 0⟩ [] (by kernel_rfl) rfl rfl ap0 ?_
              have H_106 := Option.some.inj (show some (Sum.inr ((2 : Int), (IntKind.wrap .i64 (BitVec.toNat (BitVec.ofInt (IntKind.bits .i64) (IntKind.wrap .i64 (bt s_1 at_2)) &&& BitVec.ofInt (IntKind.bits .i64) (31 : Int)))), (128 : Int))) = some q_100 from H_104); subst H_106
              refine VL_nil ?_
              exact QP_end ((2 : Int), (IntKind.wrap .i64 (BitVec.toNat (BitVec.ofInt (IntKind.bits .i64) (IntKind.wrap .i64 (bt s_1 at_2)) &&& BitVec.ofInt (IntKind.bits .i64) (31 : Int)))), (128 : Int)) rfl [] hn (by kernel_rfl) (by kernel_rfl) rfl rfl rfl
            · intro b_19; have H_105 := of_f H_101 b_19
              refine V_run hN hn 1 0 [0, 1, 5, 26] [] ⟨[(0, .c (.val (.string s_1))), (1, .c (.val (.int .i64 at_2))), (5, .c (.val (.int .i64 (IntKind.wrap .i64 (bt s_1 at_2))))), (26, .c (.val (.bool y_95)))], [], 0⟩ [] (by kernel_rfl) rfl rfl ap0 ?_
              obtain ⟨q_107, H_108, H_109⟩ := of_bind H_105
              refine V_cut (Y := Bool) (R := Bool) q_107 (fun y => y) (fun y => [(0, .c (.val (.string s_1))), (1, .c (.val (.int .i64 at_2))), (5, .c (.val (.int .i64 (IntKind.wrap .i64 (bt s_1 at_2))))), (35, .c (.val (.bool y)))]) (fun y => []) ?_ ?_
              · skip
                rcases Bool.eq_false_or_eq_true ((decide ((IntKind.wrap .i64 (bt s_1 at_2)) ≥ (224 : Int)))) with b_22 | b_22
                · have H_111 := of_t H_108 b_22
                  refine V_reg hN hn [] [(38, true)] calls_nil 0 [0, 1, 5, 35] [] ⟨[(0, .c (.val (.string s_1))), (1, .c (.val (.int .i64 at_2))), (5, .c (.val (.int .i64 (IntKind.wrap .i64 (bt s_1 at_2))))), (35, .c (.val (.bool (decide ((IntKind.wrap .i64 (bt s_1 at_2)) < (240 : Int))))))], [], 0⟩ [(decide ((IntKind.wrap .i64 (bt s_1 at_2)) ≥ (224 : Int))) = true] (by kernel_rfl) rfl rfl (ap1 b_22) (by kernel_rfl) (by kernel_rfl) ?_
                  have H_113 := Option.some.inj (show some (decide ((IntKind.wrap .i64 (bt s_1 at_2)) < (240 : Int))) = some q_107 from H_111); subst H_113
                  refine VL_nil ?_
                  exact QP_end (decide ((IntKind.wrap .i64 (bt s_1 at_2)) < (240 : Int))) rfl [] hn (by kernel_rfl) (by kernel_rfl) rfl rfl rfl
                · have H_112 := of_f H_108 b_22
                  refine V_reg hN hn [] [(38, false)] calls_nil 0 [0, 1, 5, 35] [] ⟨[(0, .c (.val (.string s_1))), (1, .c (.val (.int .i64 at_2))), (5, .c (.val (.int .i64 (IntKind.wrap .i64 (bt s_1 at_2))))), (35, .c (.val (.bool false)))], [], 0⟩ [(decide ((IntKind.wrap .i64 (bt s_1 at_2)) ≥ (224 : Int))) = false] (by kernel_rfl) rfl rfl (ap1 b_22) (by kernel_rfl) (by kernel_rfl) ?_
                  have H_114 := Option.some.inj (show some false = some q_107 from H_112); subst H_114
                  refine VL_nil ?_
                  exact QP_end false rfl [] hn (by kernel_rfl) (by kernel_rfl) rfl rfl rfl
              · intro y_110 hy; subst hy
                skip
                skip
                refine VL_cond (y_110) (by kernel_rfl) ?_ ?_
                · intro b_26; have H_115 := of_t H_109 b_26
                  refine V_run hN hn 1 0 [0, 1, 6, 7, 8] [] ⟨[(0, .c (.val (.string s_1))), (1, .c (.val (.int .i64 at_2))), (6, .c (.val (.int .i64 (3 : Int)))), (7, .c (.val (.int .i64 (IntKind.wrap .i64 (BitVec.toNat (BitVec.ofInt (IntKind.bits .i64) (IntKind.wrap .i64 (bt s_1 at_2)) &&& BitVec.ofInt (IntKind.bits .i64) (15 : Int))))))), (8, .c (.val (.int .i64 (2048 : Int))))], [], 0⟩ [] (by kernel_rfl) rfl rfl ap0 ?_
                  have H_117 := Option.some.inj (show some (Sum.inr ((3 : Int), (IntKind.wrap .i64 (BitVec.toNat (BitVec.ofInt (IntKind.bits .i64) (IntKind.wrap .i64 (bt s_1 at_2)) &&& BitVec.ofInt (IntKind.bits .i64) (15 : Int)))), (2048 : Int))) = some q_100 from H_115); subst H_117
                  refine VL_nil ?_
                  exact QP_end ((3 : Int), (IntKind.wrap .i64 (BitVec.toNat (BitVec.ofInt (IntKind.bits .i64) (IntKind.wrap .i64 (bt s_1 at_2)) &&& BitVec.ofInt (IntKind.bits .i64) (15 : Int)))), (2048 : Int)) rfl [] hn (by kernel_rfl) (by kernel_rfl) rfl rfl rfl
                · intro b_26; have H_116 := of_f H_109 b_26
                  refine V_run hN hn 1 0 [0, 1, 5, 35] [] ⟨[(0, .c (.val (.string s_1))), (1, .c (.val (.int .i64 at_2))), (5, .c (.val (.int .i64 (IntKind.wrap .i64 (bt s_1 at_2))))), (35, .c (.val (.bool y_110)))], [], 0⟩ [] (by kernel_rfl) rfl rfl ap0 ?_
                  obtain ⟨q_118, H_119, H_120⟩ := of_bind H_116
                  refine V_cut (Y := Bool) (R := Bool) q_118 (fun y => y) (fun y => [(0, .c (.val (.string s_1))), (1, .c (.val (.int .i64 at_2))), (5, .c (.val (.int .i64 (IntKind.wrap .i64 (bt s_1 at_2))))), (44, .c (.val (.bool y)))]) (fun y => []) ?_ ?_
                  · skip
                    rcases Bool.eq_false_or_eq_true ((decide ((IntKind.wrap .i64 (bt s_1 at_2)) ≥ (240 : Int)))) with b_29 | b_29
                    · have H_122 := of_t H_119 b_29
                      refine V_reg hN hn [] [(47, true)] calls_nil 0 [0, 1, 5, 44] [] ⟨[(0, .c (.val (.string s_1))), (1, .c (.val (.int .i64 at_2))), (5, .c (.val (.int .i64 (IntKind.wrap .i64 (bt s_1 at_2))))), (44, .c (.val (.bool (decide ((IntKind.wrap .i64 (bt s_1 at_2)) < (248 : Int))))))], [], 0⟩ [(decide ((IntKind.wrap .i64 (bt s_1 at_2)) ≥ (240 : Int))) = true] (by kernel_rfl) rfl rfl (ap1 b_29) (by kernel_rfl) (by kernel_rfl) ?_
                      have H_124 := Option.some.inj (show some (decide ((IntKind.wrap .i64 (bt s_1 at_2)) < (248 : Int))) = some q_118 from H_122); subst H_124
                      refine VL_nil ?_
                      exact QP_end (decide ((IntKind.wrap .i64 (bt s_1 at_2)) < (248 : Int))) rfl [] hn (by kernel_rfl) (by kernel_rfl) rfl rfl rfl
                    · have H_123 := of_f H_119 b_29
                      refine V_reg hN hn [] [(47, false)] calls_nil 0 [0, 1, 5, 44] [] ⟨[(0, .c (.val (.string s_1))), (1, .c (.val (.int .i64 at_2))), (5, .c (.val (.int .i64 (IntKind.wrap .i64 (bt s_1 at_2))))), (44, .c (.val (.bool false)))], [], 0⟩ [(decide ((IntKind.wrap .i64 (bt s_1 at_2)) ≥ (240 : Int))) = false] (by kernel_rfl) rfl rfl (ap1 b_29) (by kernel_rfl) (by kernel_rfl) ?_
                      have H_125 := Option.some.inj (show some false = some q_118 from H_123); subst H_125
                      refine VL_nil ?_
                      exact QP_end false rfl [] hn (by kernel_rfl) (by kernel_rfl) rfl rfl rfl
                  · intro y_121 hy; subst hy
                    skip
                    skip
                    refine VL_cond (y_121) (by kernel_rfl) ?_ ?_
                    · intro b_33; have H_126 := of_t H_120 b_33
                      refine V_run hN hn 1 0 [0, 1, 6, 7, 8] [] ⟨[(0, .c (.val (.string s_1))), (1, .c (.val (.int .i64 at_2))), (6, .c (.val (.int .i64 (4 : Int)))), (7, .c (.val (.int .i64 (IntKind.wrap .i64 (BitVec.toNat (BitVec.ofInt (IntKind.bits .i64) (IntKind.wrap .i64 (bt s_1 at_2)) &&& BitVec.ofInt (IntKind.bits .i64) (7 : Int))))))), (8, .c (.val (.int .i64 (65536 : Int))))], [], 0⟩ [] (by kernel_rfl) rfl rfl ap0 ?_
                      have H_128 := Option.some.inj (show some (Sum.inr ((4 : Int), (IntKind.wrap .i64 (BitVec.toNat (BitVec.ofInt (IntKind.bits .i64) (IntKind.wrap .i64 (bt s_1 at_2)) &&& BitVec.ofInt (IntKind.bits .i64) (7 : Int)))), (65536 : Int))) = some q_100 from H_126); subst H_128
                      refine VL_nil ?_
                      exact QP_end ((4 : Int), (IntKind.wrap .i64 (BitVec.toNat (BitVec.ofInt (IntKind.bits .i64) (IntKind.wrap .i64 (bt s_1 at_2)) &&& BitVec.ofInt (IntKind.bits .i64) (7 : Int)))), (65536 : Int)) rfl [] hn (by kernel_rfl) (by kernel_rfl) rfl rfl rfl
                    · intro b_33; have H_127 := of_f H_120 b_33
                      refine V_run hN hn 2 0 [4] [] ⟨[(4, .c (.val (.int .i64 (0 : Int))))], [], 0⟩ [] (by kernel_rfl) rfl rfl ap0 ?_
                      have H_129 := Option.some.inj (show some (Sum.inl (0 : Int)) = some q_100 from H_127); subst H_129
                      have H_130 := Option.some.inj (show some (0 : Int) = some r from H_102); subst H_130
                      refine VL_ret ?_
                      refine QP_ret ?_
                      refine QB_ret ?_
                      exact P_to [(4, .c (.val (.int .i64 (0 : Int))))] [] [] hn (by kernel_rfl) (by kernel_rfl) rfl rfl rfl (QF_retS (by kernel_rfl) (by kernel_rfl) rfl)
          · intro y_103 hy; subst hy
            obtain ⟨n_36, v_37, least_38⟩ := y_103
            refine VL_nil (QB_end ?_)
            refine V_run hN hn 3 0 [0, 1, 6, 7, 8, 58] [] ⟨[(0, .c (.val (.string s_1))), (1, .c (.val (.int .i64 at_2))), (6, .c (.val (.int .i64 n_36))), (7, .c (.val (.int .i64 v_37))), (8, .c (.val (.int .i64 least_38))), (58, .c (.val (.bool (decide ((IntKind.wrap .i64 ((((ByteArray.size s_1) : Nat) : Int) - at_2)) < n_36)))))], [], 0⟩ [] (by kernel_rfl) rfl rfl ap0 ?_
            refine VL_cond ((decide ((IntKind.wrap .i64 ((((ByteArray.size s_1) : Nat) : Int) - at_2)) < n_36))) (by kernel_rfl) ?_ ?_
            · intro b_40; have H_131 := of_t H_102 b_40
              refine V_run hN hn 2 0 [4] [] ⟨[(4, .c (.val (.int .i64 (0 : Int))))], [], 0⟩ [] (by kernel_rfl) rfl rfl ap0 ?_
              have H_133 := Option.some.inj (show some (0 : Int) = some r from H_131); subst H_133
              refine VL_ret ?_
              exact P_to [(4, .c (.val (.int .i64 (0 : Int))))] [] [] hn (by kernel_rfl) (by kernel_rfl) rfl rfl rfl (QF_retS (by kernel_rfl) (by kernel_rfl) rfl)
            · intro b_40; have H_132 := of_f H_102 b_40
              refine V_run hN hn 4 0 [0, 1, 6, 7, 8, 9] [] ⟨[(0, .c (.val (.string s_1))), (1, .c (.val (.int .i64 at_2))), (6, .c (.val (.int .i64 n_36))), (7, .c (.val (.int .i64 v_37))), (8, .c (.val (.int .i64 least_38))), (9, .c (.val (.int .i64 (1 : Int))))], [], 0⟩ [] (by kernel_rfl) rfl rfl ap0 ?_
              obtain ⟨q_134, H_135, H_136⟩ := of_bind H_132
              refine V_cut (Y := Int) (R := (Int ⊕ Int)) q_134 (fun y => (Sum.inr y)) (fun y => [(6, .c (.val (.int .i64 n_36))), (7, .c (.val (.int .i64 y))), (8, .c (.val (.int .i64 least_38)))]) (fun y => []) ?_ ?_
              · skip
                refine VL_block ?_
                refine V_to [(0, .c (.val (.string s_1))), (1, .c (.val (.int .i64 at_2))), (6, .c (.val (.int .i64 n_36))), (7, .c (.val (.int .i64 v_37))), (8, .c (.val (.int .i64 least_38))), (9, .c (.val (.int .i64 (1 : Int))))] [] [] hn (by kernel_rfl) (by kernel_rfl) rfl rfl rfl ?_
                refine VL_loop (X := (Int × Int)) (fun x => [(0, .c (.val (.string s_1))), (1, .c (.val (.int .i64 at_2))), (6, .c (.val (.int .i64 n_36))), (7, .c (.val (.int .i64 x.1))), (8, .c (.val (.int .i64 least_38))), (9, .c (.val (.int .i64 x.2)))]) (fun x => []) (fun k x => palinoderef1_Size.l0 K n_36 at_2 s_1 k x.1 x.2 = some q_134) K (v_37, (1 : Int)) H_135 (fun _ h => no_none h) ?_
                intro k_45 x_45 H_138
                obtain ⟨v_43, i_44⟩ := x_45
                have H_139 : palinoderef1_Size.l0 K n_36 at_2 s_1 (k_45 + 1) v_43 i_44 = some q_134 := H_138
                rw [palinoderef1_Size.l0] at H_139
                refine V_run hN hn 3 0 [0, 1, 6, 7, 8, 9, 61] [] ⟨[(0, .c (.val (.string s_1))), (1, .c (.val (.int .i64 at_2))), (6, .c (.val (.int .i64 n_36))), (7, .c (.val (.int .i64 v_43))), (8, .c (.val (.int .i64 least_38))), (9, .c (.val (.int .i64 i_44))), (61, .c (.val (.bool (decide (i_44 < n_36)))))], [], 0⟩ [] (by kernel_rfl) rfl rfl ap0 ?_
                refine VL_cond ((decide (i_44 < n_36))) (by kernel_rfl) ?_ ?_
                · intro b_47; have H_140 := of_t H_139 b_47
                  refine V_run hN hn 2 0 [0, 1, 6, 7, 8, 9, 61] [] ⟨[(0, .c (.val (.string s_1))), (1, .c (.val (.int .i64 at_2))), (6, .c (.val (.int .i64 n_36))), (7, .c (.val (.int .i64 v_43))), (8, .c (.val (.int .i64 least_38))), (9, .c (.val (.int .i64 i_44))), (61, .c (.val (.bool (decide (i_44 < n_36)))))], [], 0⟩ [] (by kernel_rfl) rfl rfl ap0 ?_
                  refine VL_block ?_
                  obtain ⟨c_49, H_142⟩ := of_if H_140
                  refine V_run hN hn 5 0 [0, 1, 6, 7, 8, 9, 10, 72] [] ⟨[(0, .c (.val (.string s_1))), (1, .c (.val (.int .i64 at_2))), (6, .c (.val (.int .i64 n_36))), (7, .c (.val (.int .i64 v_43))), (8, .c (.val (.int .i64 least_38))), (9, .c (.val (.int .i64 i_44))), (10, .c (.val (.int .i64 (IntKind.wrap .i64 (bt s_1 (IntKind.wrap .i64 (at_2 + i_44))))))), (72, .c (.val (.bool ((Int.fdiv (IntKind.wrap .i64 (bt s_1 (IntKind.wrap .i64 (at_2 + i_44)))) (64 : Int)) != (2 : Int)))))], [], 0⟩ [0 ≤ (IntKind.wrap .i64 (at_2 + i_44)), (IntKind.wrap .i64 (at_2 + i_44)) < (((ByteArray.size s_1) : Nat) : Int), (0 : Int) ≤ (6 : Int)] (by kernel_rfl) rfl rfl (ap2 c_49.1 (ap2 c_49.2 (ap1 (by decide)))) ?_
                  refine VL_cond (((Int.fdiv (IntKind.wrap .i64 (bt s_1 (IntKind.wrap .i64 (at_2 + i_44)))) (64 : Int)) != (2 : Int))) (by kernel_rfl) ?_ ?_
                  · intro b_50; have H_143 := of_t H_142 b_50
                    refine V_run hN hn 2 0 [4] [] ⟨[(4, .c (.val (.int .i64 (0 : Int))))], [], 0⟩ [] (by kernel_rfl) rfl rfl ap0 ?_
                    have H_145 := Option.some.inj (show some (Sum.inl (0 : Int)) = some q_134 from H_143); subst H_145
                    have H_146 := Option.some.inj (show some (0 : Int) = some r from H_136); subst H_146
                    refine VL_ret ?_
                    refine QB_ret ?_
                    refine QL_ret ?_
                    refine QB_ret ?_
                    refine QP_ret ?_
                    exact P_to [(4, .c (.val (.int .i64 (0 : Int))))] [] [] hn (by kernel_rfl) (by kernel_rfl) rfl rfl rfl (QF_retS (by kernel_rfl) (by kernel_rfl) rfl)
                  · intro b_50; have H_144 := of_f H_142 b_50
                    refine V_run hN hn 2 0 [0, 1, 6, 7, 8, 9] [] ⟨[(0, .c (.val (.string s_1))), (1, .c (.val (.int .i64 at_2))), (6, .c (.val (.int .i64 n_36))), (7, .c (.val (.int .i64 (IntKind.wrap .i64 (BitVec.toNat (BitVec.ofInt (IntKind.bits .i64) (IntKind.wrap .i64 (v_43 * (64 : Int))) ||| BitVec.ofInt (IntKind.bits .i64) (IntKind.wrap .i64 (BitVec.toNat (BitVec.ofInt (IntKind.bits .i64) (IntKind.wrap .i64 (bt s_1 (IntKind.wrap .i64 (at_2 + i_44)))) &&& BitVec.ofInt (IntKind.bits .i64) (63 : Int)))))))))), (8, .c (.val (.int .i64 least_38))), (9, .c (.val (.int .i64 i_44)))], [], 0⟩ [(0 : Int) ≤ (6 : Int)] (by kernel_rfl) rfl rfl (ap1 (by decide)) ?_
                    refine VL_nil (QB_end ?_)
                    refine V_run hN hn 1 0 [0, 1, 6, 7, 8, 9] [] ⟨[(0, .c (.val (.string s_1))), (1, .c (.val (.int .i64 at_2))), (6, .c (.val (.int .i64 n_36))), (7, .c (.val (.int .i64 (IntKind.wrap .i64 (BitVec.toNat (BitVec.ofInt (IntKind.bits .i64) (IntKind.wrap .i64 (v_43 * (64 : Int))) ||| BitVec.ofInt (IntKind.bits .i64) (IntKind.wrap .i64 (BitVec.toNat (BitVec.ofInt (IntKind.bits .i64) (IntKind.wrap .i64 (bt s_1 (IntKind.wrap .i64 (at_2 + i_44)))) &&& BitVec.ofInt (IntKind.bits .i64) (63 : Int)))))))))), (8, .c (.val (.int .i64 least_38))), (9, .c (.val (.int .i64 (IntKind.wrap .i64 (i_44 + (1 : Int))))))], [], 0⟩ [] (by kernel_rfl) rfl rfl ap0 ?_
                    refine VL_nil ?_
                    exact V_roundEnd ((IntKind.wrap .i64 (BitVec.toNat (BitVec.ofInt (IntKind.bits .i64) (IntKind.wrap .i64 (v_43 * (64 : Int))) ||| BitVec.ofInt (IntKind.bits .i64) (IntKind.wrap .i64 (BitVec.toNat (BitVec.ofInt (IntKind.bits .i64) (IntKind.wrap .i64 (bt s_1 (IntKind.wrap .i64 (at_2 + i_44)))) &&& BitVec.ofInt (IntKind.bits .i64) (63 : Int))))))), (IntKind.wrap .i64 (i_44 + (1 : Int)))) H_144 [] hn (by kernel_rfl) (by kernel_rfl) rfl rfl rfl
                · intro b_47; have H_141 := of_f H_139 b_47
                  refine VL_exit ?_
                  refine QL_exit ?_
                  refine QB_here ?_
                  have H_147 := Option.some.inj (show some (Sum.inr v_43) = some q_134 from H_141); subst H_147
                  refine VL_nil ?_
                  exact QP_end v_43 rfl [] hn (by kernel_rfl) (by kernel_rfl) rfl rfl rfl
              · intro y_137 hy; subst hy
                skip
                skip
                refine V_run hN hn 2 0 [6, 7, 8] [] ⟨[(6, .c (.val (.int .i64 n_36))), (7, .c (.val (.int .i64 y_137))), (8, .c (.val (.int .i64 least_38)))], [], 0⟩ [] (by kernel_rfl) rfl rfl ap0 ?_
                obtain ⟨q_148, H_149, H_150⟩ := of_bind H_136
                refine V_cut (Y := Bool) (R := Bool) q_148 (fun y => y) (fun y => [(6, .c (.val (.int .i64 n_36))), (92, .c (.val (.bool y)))]) (fun y => []) ?_ ?_
                · skip
                  rcases Bool.eq_false_or_eq_true ((decide (y_137 < least_38))) with b_56 | b_56
                  · have H_152 := of_t H_149 b_56
                    refine V_reg hN hn [] [(81, true)] calls_nil 0 [6, 92] [] ⟨[(6, .c (.val (.int .i64 n_36))), (92, .c (.val (.bool true)))], [], 0⟩ [(decide (y_137 < least_38)) = true] (by kernel_rfl) rfl rfl (ap1 b_56) (by kernel_rfl) (by kernel_rfl) ?_
                    have H_154 := Option.some.inj (show some true = some q_148 from H_152); subst H_154
                    refine VL_nil ?_
                    exact QP_end true rfl [] hn (by kernel_rfl) (by kernel_rfl) rfl rfl rfl
                  · have H_153 := of_f H_149 b_56
                    rcases Bool.eq_false_or_eq_true ((decide (y_137 > (1114111 : Int)))) with b_58 | b_58
                    · have H_155 := of_t H_153 b_58
                      refine V_reg hN hn [] [(81, false), (85, true)] calls_nil 0 [6, 92] [] ⟨[(6, .c (.val (.int .i64 n_36))), (92, .c (.val (.bool true)))], [], 0⟩ [(decide (y_137 < least_38)) = false, (decide (y_137 > (1114111 : Int))) = true] (by kernel_rfl) rfl rfl (ap2 b_56 (ap1 b_58)) (by kernel_rfl) (by kernel_rfl) ?_
                      have H_157 := Option.some.inj (show some true = some q_148 from H_155); subst H_157
                      refine VL_nil ?_
                      exact QP_end true rfl [] hn (by kernel_rfl) (by kernel_rfl) rfl rfl rfl
                    · have H_156 := of_f H_153 b_58
                      rcases Bool.eq_false_or_eq_true ((decide (y_137 ≥ (55296 : Int)))) with b_60 | b_60
                      · have H_158 := of_t H_156 b_60
                        refine V_reg hN hn [] [(81, false), (85, false), (88, true)] calls_nil 0 [6, 92] [] ⟨[(6, .c (.val (.int .i64 n_36))), (92, .c (.val (.bool (decide (y_137 < (57344 : Int))))))], [], 0⟩ [(decide (y_137 < least_38)) = false, (decide (y_137 > (1114111 : Int))) = false, (decide (y_137 ≥ (55296 : Int))) = true] (by kernel_rfl) rfl rfl (ap2 b_56 (ap2 b_58 (ap1 b_60))) (by kernel_rfl) (by kernel_rfl) ?_
                        have H_160 := Option.some.inj (show some (decide (y_137 < (57344 : Int))) = some q_148 from H_158); subst H_160
                        refine VL_nil ?_
                        exact QP_end (decide (y_137 < (57344 : Int))) rfl [] hn (by kernel_rfl) (by kernel_rfl) rfl rfl rfl
                      · have H_159 := of_f H_156 b_60
                        refine V_reg hN hn [] [(81, false), (85, false), (88, false)] calls_nil 0 [6, 92] [] ⟨[(6, .c (.val (.int .i64 n_36))), (92, .c (.val (.bool false)))], [], 0⟩ [(decide (y_137 < least_38)) = false, (decide (y_137 > (1114111 : Int))) = false, (decide (y_137 ≥ (55296 : Int))) = false] (by kernel_rfl) rfl rfl (ap2 b_56 (ap2 b_58 (ap1 b_60))) (by kernel_rfl) (by kernel_rfl) ?_
                        have H_161 := Option.some.inj (show some false = some q_148 from H_159); subst H_161
                        refine VL_nil ?_
                        exact QP_end false rfl [] hn (by kernel_rfl) (by kernel_rfl) rfl rfl rfl
                · intro y_151 hy; subst hy
                  skip
                  skip
                  refine VL_cond (y_151) (by kernel_rfl) ?_ ?_
                  · intro b_64; have H_162 := of_t H_150 b_64
                    refine V_run hN hn 2 0 [4] [] ⟨[(4, .c (.val (.int .i64 (0 : Int))))], [], 0⟩ [] (by kernel_rfl) rfl rfl ap0 ?_
                    have H_164 := Option.some.inj (show some (0 : Int) = some r from H_162); subst H_164
                    refine VL_ret ?_
                    exact P_to [(4, .c (.val (.int .i64 (0 : Int))))] [] [] hn (by kernel_rfl) (by kernel_rfl) rfl rfl rfl (QF_retS (by kernel_rfl) (by kernel_rfl) rfl)
                  · intro b_64; have H_163 := of_f H_150 b_64
                    refine V_run hN hn 3 0 [4] [] ⟨[(4, .c (.val (.int .i64 n_36)))], [], 0⟩ [] (by kernel_rfl) rfl rfl ap0 ?_
                    have H_165 := Option.some.inj (show some n_36 = some r from H_163); subst H_165
                    refine VL_ret ?_
                    exact P_to [(4, .c (.val (.int .i64 n_36)))] [] [] hn (by kernel_rfl) (by kernel_rfl) rfl rfl rfl (QF_retS (by kernel_rfl) (by kernel_rfl) rfl)

theorem palinoderef1_Valid_spec (K : Nat) (s_1 : ByteArray) (r : Bool) (H : palinoderef1_Valid K s_1 = some r) : Spec Try.prog 13 0 [.c (.val (.string s_1))] [] (.c (.val (.bool r))) [] := by
  refine Spec_mk (fn := Try.f13) (c := (Try.f13.body).get!) Try.func13 (by kernel_rfl) rfl ?_
  intro C hN hn
  replace hN : C.N = 17 := hN
  unfold palinoderef1_Valid at H
  refine V_run hN hn 5 0 [0, 3] [] ⟨[(0, .c (.val (.string s_1))), (3, .c (.val (.int .i64 (0 : Int))))], [], 0⟩ [] (by kernel_rfl) rfl rfl ap0 ?_
  refine VL_block ?_
  refine V_to [(0, .c (.val (.string s_1))), (3, .c (.val (.int .i64 (0 : Int))))] [] [] hn (by kernel_rfl) (by kernel_rfl) rfl rfl rfl ?_
  refine VL_loop (X := Int) (fun x => [(0, .c (.val (.string s_1))), (3, .c (.val (.int .i64 x)))]) (fun x => []) (fun k x => palinoderef1_Valid.l0 K s_1 k x = some r) K (0 : Int) H (fun _ h => no_none h) ?_
  intro k_4 at_3 H_18
  have H_19 : palinoderef1_Valid.l0 K s_1 (k_4 + 1) at_3 = some r := H_18
  rw [palinoderef1_Valid.l0] at H_19
  refine V_run hN hn 3 0 [0, 3, 8] [] ⟨[(0, .c (.val (.string s_1))), (3, .c (.val (.int .i64 at_3))), (8, .c (.val (.bool (decide (at_3 < (((ByteArray.size s_1) : Nat) : Int))))))], [], 0⟩ [] (by kernel_rfl) rfl rfl ap0 ?_
  refine VL_cond ((decide (at_3 < (((ByteArray.size s_1) : Nat) : Int)))) (by kernel_rfl) ?_ ?_
  · intro b_6; have H_20 := of_t H_19 b_6
    refine V_run hN hn 1 0 [0, 3, 8] [] ⟨[(0, .c (.val (.string s_1))), (3, .c (.val (.int .i64 at_3))), (8, .c (.val (.bool (decide (at_3 < (((ByteArray.size s_1) : Nat) : Int))))))], [], 0⟩ [] (by kernel_rfl) rfl rfl ap0 ?_
    refine VL_block ?_
    refine V_run hN hn 1 0 [0, 3, 8] [] ⟨[(0, .c (.val (.string s_1))), (3, .c (.val (.int .i64 at_3))), (8, .c (.val (.bool (decide (at_3 < (((ByteArray.size s_1) : Nat) : Int))))))], [], 0⟩ [] (by kernel_rfl) rfl rfl ap0 ?_
    obtain ⟨r_9, h_10, H_22⟩ := of_bind H_20
    refine V_reg hN hn [(2, ⟨16, 0, [.c (.val (.string s_1)), .c (.val (.int .i64 at_3))], [], .c (.val (.int .i64 r_9)), [], [], 0⟩)] [] (calls_cons (palinoderef1_Size_spec K s_1 at_3 r_9 h_10) (by kernel_rfl) calls_nil) 0 [0, 3, 4] [] ⟨[(0, .c (.val (.string s_1))), (3, .c (.val (.int .i64 at_3))), (4, .c (.val (.int .i64 r_9)))], [], 0⟩ [] (by kernel_rfl) rfl rfl ap0 (by kernel_rfl) (by kernel_rfl) ?_
    refine V_run hN hn 3 0 [0, 3, 4, 13] [] ⟨[(0, .c (.val (.string s_1))), (3, .c (.val (.int .i64 at_3))), (4, .c (.val (.int .i64 r_9))), (13, .c (.val (.bool (r_9 == (0 : Int)))))], [], 0⟩ [] (by kernel_rfl) rfl rfl ap0 ?_
    refine VL_cond ((r_9 == (0 : Int))) (by kernel_rfl) ?_ ?_
    · intro b_13; have H_23 := of_t H_22 b_13
      refine V_run hN hn 2 0 [2] [] ⟨[(2, .c (.val (.bool false)))], [], 0⟩ [] (by kernel_rfl) rfl rfl ap0 ?_
      have H_25 := Option.some.inj (show some false = some r from H_23); subst H_25
      refine VL_ret ?_
      refine QB_ret ?_
      refine QL_ret ?_
      refine QB_ret ?_
      exact P_to [(2, .c (.val (.bool false)))] [] [] hn (by kernel_rfl) (by kernel_rfl) rfl rfl rfl (QF_retS (by kernel_rfl) (by kernel_rfl) rfl)
    · intro b_13; have H_24 := of_f H_22 b_13
      refine V_run hN hn 2 0 [0, 3] [] ⟨[(0, .c (.val (.string s_1))), (3, .c (.val (.int .i64 (IntKind.wrap .i64 (at_3 + r_9)))))], [], 0⟩ [] (by kernel_rfl) rfl rfl ap0 ?_
      refine VL_nil (QB_end ?_)
      refine VL_nil ?_
      exact V_roundEnd (IntKind.wrap .i64 (at_3 + r_9)) H_24 [] hn (by kernel_rfl) (by kernel_rfl) rfl rfl rfl
  · intro b_6; have H_21 := of_f H_19 b_6
    refine VL_exit ?_
    refine QL_exit ?_
    refine QB_here ?_
    refine V_run hN hn 2 0 [2] [] ⟨[(2, .c (.val (.bool true)))], [], 0⟩ [] (by kernel_rfl) rfl rfl ap0 ?_
    have H_26 := Option.some.inj (show some true = some r from H_21); subst H_26
    refine VL_ret ?_
    exact P_to [(2, .c (.val (.bool true)))] [] [] hn (by kernel_rfl) (by kernel_rfl) rfl rfl rfl (QF_retS (by kernel_rfl) (by kernel_rfl) rfl)

theorem palinoderef1_IsEdge_spec (K : Nat) (s_1 : ByteArray) (at_2 : Int) (r : Bool) (H : palinoderef1_IsEdge K s_1 at_2 = some r) : Spec Try.prog 15 0 [.c (.val (.string s_1)), .c (.val (.int .i64 at_2))] [] (.c (.val (.bool r))) [] := by
  refine Spec_mk (fn := Try.f15) (c := (Try.f15.body).get!) Try.func15 (by kernel_rfl) rfl ?_
  intro C hN hn
  replace hN : C.N = 30 := hN
  unfold palinoderef1_IsEdge at H
  refine V_run hN hn 4 0 [0, 1] [] ⟨[(0, .c (.val (.string s_1))), (1, .c (.val (.int .i64 at_2)))], [], 0⟩ [] (by kernel_rfl) rfl rfl ap0 ?_
  obtain ⟨q_20, H_21, H_22⟩ := of_bind H
  refine V_cut (Y := Bool) (R := Bool) q_20 (fun y => y) (fun y => [(0, .c (.val (.string s_1))), (1, .c (.val (.int .i64 at_2))), (17, .c (.val (.bool y)))]) (fun y => []) ?_ ?_
  · skip
    rcases Bool.eq_false_or_eq_true ((decide (at_2 < (0 : Int)))) with b_4 | b_4
    · have H_24 := of_t H_21 b_4
      refine V_reg hN hn [] [(7, true)] calls_nil 0 [0, 1, 17] [] ⟨[(0, .c (.val (.string s_1))), (1, .c (.val (.int .i64 at_2))), (17, .c (.val (.bool true)))], [], 0⟩ [(decide (at_2 < (0 : Int))) = true] (by kernel_rfl) rfl rfl (ap1 b_4) (by kernel_rfl) (by kernel_rfl) ?_
      have H_26 := Option.some.inj (show some true = some q_20 from H_24); subst H_26
      refine VL_nil ?_
      exact QP_end true rfl [] hn (by kernel_rfl) (by kernel_rfl) rfl rfl rfl
    · have H_25 := of_f H_21 b_4
      rcases Bool.eq_false_or_eq_true ((decide (at_2 > (((ByteArray.size s_1) : Nat) : Int)))) with b_6 | b_6
      · have H_27 := of_t H_25 b_6
        refine V_reg hN hn [] [(7, false), (13, true)] calls_nil 0 [0, 1, 17] [] ⟨[(0, .c (.val (.string s_1))), (1, .c (.val (.int .i64 at_2))), (17, .c (.val (.bool true)))], [], 0⟩ [(decide (at_2 < (0 : Int))) = false, (decide (at_2 > (((ByteArray.size s_1) : Nat) : Int))) = true] (by kernel_rfl) rfl rfl (ap2 b_4 (ap1 b_6)) (by kernel_rfl) (by kernel_rfl) ?_
        have H_29 := Option.some.inj (show some true = some q_20 from H_27); subst H_29
        refine VL_nil ?_
        exact QP_end true rfl [] hn (by kernel_rfl) (by kernel_rfl) rfl rfl rfl
      · have H_28 := of_f H_25 b_6
        obtain ⟨r_8, h_9, H_30⟩ := of_bind H_28
        refine V_reg hN hn [(10, ⟨13, 0, [.c (.val (.string s_1))], [], .c (.val (.bool r_8)), [], [], 0⟩)] [(7, false), (13, false)] (calls_cons (palinoderef1_Valid_spec K s_1 r_8 h_9) (by kernel_rfl) calls_nil) 0 [0, 1, 17] [] ⟨[(0, .c (.val (.string s_1))), (1, .c (.val (.int .i64 at_2))), (17, .c (.val (.bool (!r_8))))], [], 0⟩ [(decide (at_2 < (0 : Int))) = false, (decide (at_2 > (((ByteArray.size s_1) : Nat) : Int))) = false] (by kernel_rfl) rfl rfl (ap2 b_4 (ap1 b_6)) (by kernel_rfl) (by kernel_rfl) ?_
        have H_31 := Option.some.inj (show some (!r_8) = some q_20 from H_30); subst H_31
        refine VL_nil ?_
        exact QP_end (!r_8) rfl [] hn (by kernel_rfl) (by kernel_rfl) rfl rfl rfl
  · intro y_23 hy; subst hy
    skip
    skip
    refine VL_cond (y_23) (by kernel_rfl) ?_ ?_
    · intro b_12; have H_32 := of_t H_22 b_12
      refine V_run hN hn 2 0 [4] [] ⟨[(4, .c (.val (.bool false)))], [], 0⟩ [] (by kernel_rfl) rfl rfl ap0 ?_
      have H_34 := Option.some.inj (show some false = some r from H_32); subst H_34
      refine VL_ret ?_
      exact P_to [(4, .c (.val (.bool false)))] [] [] hn (by kernel_rfl) (by kernel_rfl) rfl rfl rfl (QF_retS (by kernel_rfl) (by kernel_rfl) rfl)
    · intro b_12; have H_33 := of_f H_22 b_12
      refine V_run hN hn 2 0 [0, 1, 17] [] ⟨[(0, .c (.val (.string s_1))), (1, .c (.val (.int .i64 at_2))), (17, .c (.val (.bool y_23)))], [], 0⟩ [] (by kernel_rfl) rfl rfl ap0 ?_
      rcases Bool.eq_false_or_eq_true ((at_2 == (((ByteArray.size s_1) : Nat) : Int))) with b_15 | b_15
      · have H_35 := of_t H_33 b_15
        refine V_reg hN hn [] [(22, true)] calls_nil 0 [4] [] ⟨[(4, .c (.val (.bool true)))], [], 0⟩ [(at_2 == (((ByteArray.size s_1) : Nat) : Int)) = true] (by kernel_rfl) rfl rfl (ap1 b_15) (by kernel_rfl) (by kernel_rfl) ?_
        have H_37 := Option.some.inj (show some true = some r from H_35); subst H_37
        refine VL_ret ?_
        exact P_to [(4, .c (.val (.bool true)))] [] [] hn (by kernel_rfl) (by kernel_rfl) rfl rfl rfl (QF_retS (by kernel_rfl) (by kernel_rfl) rfl)
      · have H_36 := of_f H_33 b_15
        obtain ⟨c_17, H_38⟩ := of_if H_36
        refine V_reg hN hn [] [(22, false)] calls_nil 0 [4] [] ⟨[(4, .c (.val (.bool ((Int.fdiv (IntKind.wrap .i64 (bt s_1 at_2)) (64 : Int)) != (2 : Int)))))], [], 0⟩ [(at_2 == (((ByteArray.size s_1) : Nat) : Int)) = false, 0 ≤ at_2, at_2 < (((ByteArray.size s_1) : Nat) : Int), (0 : Int) ≤ (6 : Int)] (by kernel_rfl) rfl rfl (ap2 b_15 (ap2 c_17.1 (ap2 c_17.2 (ap1 (by decide))))) (by kernel_rfl) (by kernel_rfl) ?_
        have H_39 := Option.some.inj (show some ((Int.fdiv (IntKind.wrap .i64 (bt s_1 at_2)) (64 : Int)) != (2 : Int)) = some r from H_38); subst H_39
        refine VL_ret ?_
        exact P_to [(4, .c (.val (.bool ((Int.fdiv (IntKind.wrap .i64 (bt s_1 at_2)) (64 : Int)) != (2 : Int)))))] [] [] hn (by kernel_rfl) (by kernel_rfl) rfl rfl rfl (QF_retS (by kernel_rfl) (by kernel_rfl) rfl)

theorem palinodelaw16_BreaksFit_spec (K : Nat) (s_1 : ByteArray) (width_2 : Int) (r : Bool) (H : palinodelaw16_BreaksFit K s_1 width_2 = some r) : Spec Try.prog 4 0 [.c (.val (.string s_1)), .c (.val (.int .u8 width_2))] [] (.c (.val (.bool r))) [] := by
  refine Spec_mk (fn := Try.f4) (c := (Try.f4.body).get!) Try.func4 (by kernel_rfl) rfl ?_
  intro C hN hn
  replace hN : C.N = 106 := hN
  unfold palinodelaw16_BreaksFit at H
  refine V_run hN hn 4 0 [0, 1] [] ⟨[(0, .c (.val (.string s_1))), (1, .c (.val (.int .u8 width_2)))], [], 0⟩ [] (by kernel_rfl) rfl rfl ap0 ?_
  obtain ⟨r_4, h_5, H_91⟩ := of_bind H
  refine V_reg hN hn [(0, ⟨9, 0, [], [], .c (.val (.bool r_4)), [], [], 0⟩)] [] (calls_cons (palinodelaw16_known_spec K  r_4 h_5) (by kernel_rfl) calls_nil) 0 [0, 1, 13] [] ⟨[(0, .c (.val (.string s_1))), (1, .c (.val (.int .u8 width_2))), (13, .c (.val (.bool (!r_4))))], [], 0⟩ [] (by kernel_rfl) rfl rfl ap0 (by kernel_rfl) (by kernel_rfl) ?_
  refine VL_cond ((!r_4)) (by kernel_rfl) ?_ ?_
  · intro b_7; have H_92 := of_t H_91 b_7
    refine V_run hN hn 2 0 [4] [] ⟨[(4, .c (.val (.bool false)))], [], 0⟩ [] (by kernel_rfl) rfl rfl ap0 ?_
    have H_94 := Option.some.inj (show some false = some r from H_92); subst H_94
    refine VL_ret ?_
    exact P_to [(4, .c (.val (.bool false)))] [] [] hn (by kernel_rfl) (by kernel_rfl) rfl rfl rfl (QF_retS (by kernel_rfl) (by kernel_rfl) rfl)
  · intro b_7; have H_93 := of_f H_91 b_7
    refine V_run hN hn 3 0 [0, 1, 13] [] ⟨[(0, .c (.val (.string s_1))), (1, .c (.val (.int .u8 width_2))), (13, .c (.val (.bool (!r_4))))], [], 0⟩ [] (by kernel_rfl) rfl rfl ap0 ?_
    obtain ⟨q_95, H_96, H_97⟩ := of_bind H_93
    refine V_cut (Y := Bool) (R := Bool) q_95 (fun y => y) (fun y => [(0, .c (.val (.string s_1))), (1, .c (.val (.int .u8 width_2))), (21, .c (.val (.bool y)))]) (fun y => []) ?_ ?_
    · skip
      rcases Bool.eq_false_or_eq_true ((decide ((((ByteArray.size s_1) : Nat) : Int) > (200 : Int)))) with b_10 | b_10
      · have H_99 := of_t H_96 b_10
        refine V_reg hN hn [] [(17, true)] calls_nil 0 [0, 1, 21] [] ⟨[(0, .c (.val (.string s_1))), (1, .c (.val (.int .u8 width_2))), (21, .c (.val (.bool true)))], [], 0⟩ [(decide ((((ByteArray.size s_1) : Nat) : Int) > (200 : Int))) = true] (by kernel_rfl) rfl rfl (ap1 b_10) (by kernel_rfl) (by kernel_rfl) ?_
        have H_101 := Option.some.inj (show some true = some q_95 from H_99); subst H_101
        refine VL_nil ?_
        exact QP_end true rfl [] hn (by kernel_rfl) (by kernel_rfl) rfl rfl rfl
      · have H_100 := of_f H_96 b_10
        obtain ⟨r_12, h_13, H_102⟩ := of_bind H_100
        refine V_reg hN hn [(5, ⟨13, 0, [.c (.val (.string s_1))], [], .c (.val (.bool r_12)), [], [], 0⟩)] [(17, false)] (calls_cons (palinoderef1_Valid_spec K s_1 r_12 h_13) (by kernel_rfl) calls_nil) 0 [0, 1, 21] [] ⟨[(0, .c (.val (.string s_1))), (1, .c (.val (.int .u8 width_2))), (21, .c (.val (.bool (!r_12))))], [], 0⟩ [(decide ((((ByteArray.size s_1) : Nat) : Int) > (200 : Int))) = false] (by kernel_rfl) rfl rfl (ap1 b_10) (by kernel_rfl) (by kernel_rfl) ?_
        have H_103 := Option.some.inj (show some (!r_12) = some q_95 from H_102); subst H_103
        refine VL_nil ?_
        exact QP_end (!r_12) rfl [] hn (by kernel_rfl) (by kernel_rfl) rfl rfl rfl
    · intro y_98 hy; subst hy
      skip
      skip
      refine VL_cond (y_98) (by kernel_rfl) ?_ ?_
      · intro b_16; have H_104 := of_t H_97 b_16
        refine V_run hN hn 2 0 [4] [] ⟨[(4, .c (.val (.bool true)))], [], 0⟩ [] (by kernel_rfl) rfl rfl ap0 ?_
        have H_106 := Option.some.inj (show some true = some r from H_104); subst H_106
        refine VL_ret ?_
        exact P_to [(4, .c (.val (.bool true)))] [] [] hn (by kernel_rfl) (by kernel_rfl) rfl rfl rfl (QF_retS (by kernel_rfl) (by kernel_rfl) rfl)
      · intro b_16; have H_105 := of_f H_97 b_16
        refine V_run hN hn 4 0 [0, 5] [] ⟨[(0, .c (.val (.string s_1))), (5, .c (.val (.int .i64 (IntKind.wrap .i64 ((IntKind.wrap .i64 (Int.tmod width_2 (30 : Int))) + (4 : Int))))))], [], 0⟩ [(30 : Int) ≠ (0 : Int)] (by kernel_rfl) rfl rfl (ap1 (by decide)) ?_
        obtain ⟨r_19, h_20, H_107⟩ := of_bind H_105
        refine V_reg hN hn [(2, ⟨10, 0, [.c (.val (.string s_1)), .c (.val (.int .i64 (IntKind.wrap .i64 ((IntKind.wrap .i64 (Int.tmod width_2 (30 : Int))) + (4 : Int)))))], [], .tup [(false, [.h 6]), (false, [.val (.int .i64 r_19.2)])], [(6, .row (.int .i64) r_19.1)], [(6, 0)], 1⟩)] [] (calls_cons (breaks_Wrap_spec K s_1 (IntKind.wrap .i64 ((IntKind.wrap .i64 (Int.tmod width_2 (30 : Int))) + (4 : Int))) r_19 h_20) (by kernel_rfl) calls_nil) 0 [0, 5, 6, 7] [0] ⟨[(0, .c (.val (.string s_1))), (5, .c (.val (.int .i64 (IntKind.wrap .i64 ((IntKind.wrap .i64 (Int.tmod width_2 (30 : Int))) + (4 : Int)))))), (6, .c (.h 0)), (7, .c (.val (.int .i64 r_19.2)))], [(0, .row (.int .i64) r_19.1)], 1⟩ [] (by kernel_rfl) rfl rfl ap0 (by kernel_rfl) (by kernel_rfl) ?_
        refine V_run hN hn 2 1 [0, 5, 6, 7] [0] ⟨[(0, .c (.val (.string s_1))), (5, .c (.val (.int .i64 (IntKind.wrap .i64 ((IntKind.wrap .i64 (Int.tmod width_2 (30 : Int))) + (4 : Int)))))), (6, .c (.h 0)), (7, .c (.val (.int .i64 r_19.2)))], [(0, .row (.int .i64) r_19.1)], 1⟩ [] (by kernel_rfl) rfl rfl ap0 ?_
        obtain ⟨q_108, H_109, H_110⟩ := of_bind H_107
        refine V_cut (Y := Bool) (R := Bool) q_108 (fun y => y) (fun y => [(0, .c (.val (.string s_1))), (5, .c (.val (.int .i64 (IntKind.wrap .i64 ((IntKind.wrap .i64 (Int.tmod width_2 (30 : Int))) + (4 : Int)))))), (6, .c (.h 0)), (41, .c (.val (.bool y)))]) (fun y => [(0, .row (.int .i64) r_19.1)]) ?_ ?_
        · skip
          rcases Bool.eq_false_or_eq_true ((r_19.2 != (0 : Int))) with b_23 | b_23
          · have H_112 := of_t H_109 b_23
            refine V_reg hN hn [] [(34, true)] calls_nil 1 [0, 5, 6, 41] [0] ⟨[(0, .c (.val (.string s_1))), (5, .c (.val (.int .i64 (IntKind.wrap .i64 ((IntKind.wrap .i64 (Int.tmod width_2 (30 : Int))) + (4 : Int)))))), (6, .c (.h 0)), (41, .c (.val (.bool true)))], [(0, .row (.int .i64) r_19.1)], 1⟩ [(r_19.2 != (0 : Int)) = true] (by kernel_rfl) rfl rfl (ap1 b_23) (by kernel_rfl) (by kernel_rfl) ?_
            have H_114 := Option.some.inj (show some true = some q_108 from H_112); subst H_114
            refine VL_nil ?_
            exact QP_end true rfl [(0, 0)] hn (by kernel_rfl) (by kernel_rfl) rfl rfl rfl
          · have H_113 := of_f H_109 b_23
            obtain ⟨r_25, h_26, H_115⟩ := of_bind H_113
            refine V_reg hN hn [(7, ⟨14, 1, [.c (.h 0), .c (.val (.int .i64 (IntKind.wrap .i64 ((((ByteArray.size s_1) : Nat) : Int) + (1 : Int)))))], [(0, .row (.int .i64) r_19.1)], .c (.val (.bool r_25)), [(0, .row (.int .i64) r_19.1)], [(0, 0)], 1⟩)] [(34, false)] (calls_cons (breaks_Is_rg_spec K r_19.1 (IntKind.wrap .i64 ((((ByteArray.size s_1) : Nat) : Int) + (1 : Int))) r_25 h_26) (by kernel_rfl) calls_nil) 1 [0, 5, 6, 41] [0] ⟨[(0, .c (.val (.string s_1))), (5, .c (.val (.int .i64 (IntKind.wrap .i64 ((IntKind.wrap .i64 (Int.tmod width_2 (30 : Int))) + (4 : Int)))))), (6, .c (.h 0)), (41, .c (.val (.bool (!r_25))))], [(0, .row (.int .i64) r_19.1)], 1⟩ [(r_19.2 != (0 : Int)) = false] (by kernel_rfl) rfl rfl (ap1 b_23) (by kernel_rfl) (by kernel_rfl) ?_
            have H_116 := Option.some.inj (show some (!r_25) = some q_108 from H_115); subst H_116
            refine VL_nil ?_
            exact QP_end (!r_25) rfl [(0, 0)] hn (by kernel_rfl) (by kernel_rfl) rfl rfl rfl
        · intro y_111 hy; subst hy
          skip
          skip
          refine VL_cond (y_111) (by kernel_rfl) ?_ ?_
          · intro b_29; have H_117 := of_t H_110 b_29
            refine V_run hN hn 2 1 [4] [] ⟨[(4, .c (.val (.bool false)))], [], 1⟩ [] (by kernel_rfl) rfl rfl ap0 ?_
            have H_119 := Option.some.inj (show some false = some r from H_117); subst H_119
            refine VL_ret ?_
            exact P_to [(4, .c (.val (.bool false)))] [] [] hn (by kernel_rfl) (by kernel_rfl) rfl rfl rfl (QF_retS (by kernel_rfl) (by kernel_rfl) rfl)
          · intro b_29; have H_118 := of_f H_110 b_29
            refine V_run hN hn 4 1 [0, 5, 6, 44] [0] ⟨[(0, .c (.val (.string s_1))), (5, .c (.val (.int .i64 (IntKind.wrap .i64 ((IntKind.wrap .i64 (Int.tmod width_2 (30 : Int))) + (4 : Int)))))), (6, .c (.h 0)), (44, .c (.val (.bool ((((List.length r_19.1) : Nat) : Int) == (60 : Int)))))], [(0, .row (.int .i64) r_19.1)], 1⟩ [] (by kernel_rfl) rfl rfl ap0 ?_
            refine VL_cond (((((List.length r_19.1) : Nat) : Int) == (60 : Int))) (by kernel_rfl) ?_ ?_
            · intro b_32; have H_120 := of_t H_118 b_32
              refine V_run hN hn 2 1 [4] [] ⟨[(4, .c (.val (.bool true)))], [], 1⟩ [] (by kernel_rfl) rfl rfl ap0 ?_
              have H_122 := Option.some.inj (show some true = some r from H_120); subst H_122
              refine VL_ret ?_
              exact P_to [(4, .c (.val (.bool true)))] [] [] hn (by kernel_rfl) (by kernel_rfl) rfl rfl rfl (QF_retS (by kernel_rfl) (by kernel_rfl) rfl)
            · intro b_32; have H_121 := of_f H_118 b_32
              refine V_run hN hn 6 1 [0, 5, 6, 8, 9, 10] [0] ⟨[(0, .c (.val (.string s_1))), (5, .c (.val (.int .i64 (IntKind.wrap .i64 ((IntKind.wrap .i64 (Int.tmod width_2 (30 : Int))) + (4 : Int)))))), (6, .c (.h 0)), (8, .c (.val (.int .i64 (0 : Int)))), (9, .c (.val (.int .i64 (0 : Int)))), (10, .c (.val (.int .i64 (0 : Int))))], [(0, .row (.int .i64) r_19.1)], 1⟩ [] (by kernel_rfl) rfl rfl ap0 ?_
              refine VL_block ?_
              refine V_to [(0, .c (.val (.string s_1))), (5, .c (.val (.int .i64 (IntKind.wrap .i64 ((IntKind.wrap .i64 (Int.tmod width_2 (30 : Int))) + (4 : Int)))))), (6, .c (.h 0)), (8, .c (.val (.int .i64 (0 : Int)))), (9, .c (.val (.int .i64 (0 : Int)))), (10, .c (.val (.int .i64 (0 : Int))))] [(0, .row (.int .i64) r_19.1)] [(0, 0)] hn (by kernel_rfl) (by kernel_rfl) rfl rfl rfl ?_
              refine VL_loop (X := (Int × Int × Int)) (fun x => [(0, .c (.val (.string s_1))), (5, .c (.val (.int .i64 (IntKind.wrap .i64 ((IntKind.wrap .i64 (Int.tmod width_2 (30 : Int))) + (4 : Int)))))), (6, .c (.h 0)), (8, .c (.val (.int .i64 x.1))), (9, .c (.val (.int .i64 x.2.1))), (10, .c (.val (.int .i64 x.2.2)))]) (fun x => [(0, .row (.int .i64) r_19.1)]) (fun k x => palinodelaw16_BreaksFit.l0 K s_1 r_19 width_2 k x.1 x.2.1 x.2.2 = some r) K ((0 : Int), (0 : Int), (0 : Int)) H_121 (fun _ h => no_none h) ?_
              intro k_38 x_38 H_123
              obtain ⟨from_35, k_36, at_37⟩ := x_38
              have H_124 : palinodelaw16_BreaksFit.l0 K s_1 r_19 width_2 (k_38 + 1) from_35 k_36 at_37 = some r := H_123
              rw [palinodelaw16_BreaksFit.l0] at H_124
              refine V_run hN hn 3 1 [0, 5, 6, 8, 9, 10, 48] [0] ⟨[(0, .c (.val (.string s_1))), (5, .c (.val (.int .i64 (IntKind.wrap .i64 ((IntKind.wrap .i64 (Int.tmod width_2 (30 : Int))) + (4 : Int)))))), (6, .c (.h 0)), (8, .c (.val (.int .i64 from_35))), (9, .c (.val (.int .i64 k_36))), (10, .c (.val (.int .i64 at_37))), (48, .c (.val (.bool (decide (at_37 ≤ (((ByteArray.size s_1) : Nat) : Int))))))], [(0, .row (.int .i64) r_19.1)], 1⟩ [] (by kernel_rfl) rfl rfl ap0 ?_
              refine VL_cond ((decide (at_37 ≤ (((ByteArray.size s_1) : Nat) : Int)))) (by kernel_rfl) ?_ ?_
              · intro b_40; have H_125 := of_t H_124 b_40
                refine V_run hN hn 2 1 [0, 5, 6, 8, 9, 10, 48] [0] ⟨[(0, .c (.val (.string s_1))), (5, .c (.val (.int .i64 (IntKind.wrap .i64 ((IntKind.wrap .i64 (Int.tmod width_2 (30 : Int))) + (4 : Int)))))), (6, .c (.h 0)), (8, .c (.val (.int .i64 from_35))), (9, .c (.val (.int .i64 k_36))), (10, .c (.val (.int .i64 at_37))), (48, .c (.val (.bool (decide (at_37 ≤ (((ByteArray.size s_1) : Nat) : Int))))))], [(0, .row (.int .i64) r_19.1)], 1⟩ [] (by kernel_rfl) rfl rfl ap0 ?_
                refine VL_block ?_
                refine V_run hN hn 1 1 [0, 5, 6, 8, 9, 10, 48] [0] ⟨[(0, .c (.val (.string s_1))), (5, .c (.val (.int .i64 (IntKind.wrap .i64 ((IntKind.wrap .i64 (Int.tmod width_2 (30 : Int))) + (4 : Int)))))), (6, .c (.h 0)), (8, .c (.val (.int .i64 from_35))), (9, .c (.val (.int .i64 k_36))), (10, .c (.val (.int .i64 at_37))), (48, .c (.val (.bool (decide (at_37 ≤ (((ByteArray.size s_1) : Nat) : Int))))))], [(0, .row (.int .i64) r_19.1)], 1⟩ [] (by kernel_rfl) rfl rfl ap0 ?_
                obtain ⟨q_127, H_128, H_129⟩ := of_bind H_125
                refine V_cut (Y := Bool) (R := Bool) q_127 (fun y => y) (fun y => [(0, .c (.val (.string s_1))), (5, .c (.val (.int .i64 (IntKind.wrap .i64 ((IntKind.wrap .i64 (Int.tmod width_2 (30 : Int))) + (4 : Int)))))), (6, .c (.h 0)), (8, .c (.val (.int .i64 from_35))), (9, .c (.val (.int .i64 k_36))), (10, .c (.val (.int .i64 at_37))), (11, .c (.val (.bool y)))]) (fun y => [(0, .row (.int .i64) r_19.1)]) ?_ ?_
                · skip
                  rcases Bool.eq_false_or_eq_true ((decide (k_36 < (((List.length r_19.1) : Nat) : Int)))) with b_43 | b_43
                  · have H_131 := of_t H_128 b_43
                    obtain ⟨c_44, H_133⟩ := of_if H_131
                    refine V_reg hN hn [] [(55, true)] calls_nil 1 [0, 5, 6, 8, 9, 10, 11] [0] ⟨[(0, .c (.val (.string s_1))), (5, .c (.val (.int .i64 (IntKind.wrap .i64 ((IntKind.wrap .i64 (Int.tmod width_2 (30 : Int))) + (4 : Int)))))), (6, .c (.h 0)), (8, .c (.val (.int .i64 from_35))), (9, .c (.val (.int .i64 k_36))), (10, .c (.val (.int .i64 at_37))), (11, .c (.val (.bool ((List.getD r_19.1 (Int.toNat k_36) (0 : Int)) == at_37))))], [(0, .row (.int .i64) r_19.1)], 1⟩ [(decide (k_36 < (((List.length r_19.1) : Nat) : Int))) = true, 0 ≤ k_36, k_36 < (((List.length r_19.1) : Nat) : Int)] (by kernel_rfl) rfl rfl (ap2 b_43 (ap2 c_44.1 (ap1 c_44.2))) (by kernel_rfl) (by kernel_rfl) ?_
                    have H_134 := Option.some.inj (show some ((List.getD r_19.1 (Int.toNat k_36) (0 : Int)) == at_37) = some q_127 from H_133); subst H_134
                    refine VL_nil ?_
                    exact QP_end ((List.getD r_19.1 (Int.toNat k_36) (0 : Int)) == at_37) rfl [(0, 0)] hn (by kernel_rfl) (by kernel_rfl) rfl rfl rfl
                  · have H_132 := of_f H_128 b_43
                    refine V_reg hN hn [] [(55, false)] calls_nil 1 [0, 5, 6, 8, 9, 10, 11] [0] ⟨[(0, .c (.val (.string s_1))), (5, .c (.val (.int .i64 (IntKind.wrap .i64 ((IntKind.wrap .i64 (Int.tmod width_2 (30 : Int))) + (4 : Int)))))), (6, .c (.h 0)), (8, .c (.val (.int .i64 from_35))), (9, .c (.val (.int .i64 k_36))), (10, .c (.val (.int .i64 at_37))), (11, .c (.val (.bool false)))], [(0, .row (.int .i64) r_19.1)], 1⟩ [(decide (k_36 < (((List.length r_19.1) : Nat) : Int))) = false] (by kernel_rfl) rfl rfl (ap1 b_43) (by kernel_rfl) (by kernel_rfl) ?_
                    have H_135 := Option.some.inj (show some false = some q_127 from H_132); subst H_135
                    refine VL_nil ?_
                    exact QP_end false rfl [(0, 0)] hn (by kernel_rfl) (by kernel_rfl) rfl rfl rfl
                · intro y_130 hy; subst hy
                  skip
                  skip
                  refine V_run hN hn 2 1 [0, 5, 6, 8, 9, 10, 11] [0] ⟨[(0, .c (.val (.string s_1))), (5, .c (.val (.int .i64 (IntKind.wrap .i64 ((IntKind.wrap .i64 (Int.tmod width_2 (30 : Int))) + (4 : Int)))))), (6, .c (.h 0)), (8, .c (.val (.int .i64 from_35))), (9, .c (.val (.int .i64 k_36))), (10, .c (.val (.int .i64 at_37))), (11, .c (.val (.bool y_130)))], [(0, .row (.int .i64) r_19.1)], 1⟩ [] (by kernel_rfl) rfl rfl ap0 ?_
                  obtain ⟨q_136, H_137, H_138⟩ := of_bind H_129
                  refine V_cut (Y := Bool) (R := Bool) q_136 (fun y => y) (fun y => [(0, .c (.val (.string s_1))), (5, .c (.val (.int .i64 (IntKind.wrap .i64 ((IntKind.wrap .i64 (Int.tmod width_2 (30 : Int))) + (4 : Int)))))), (6, .c (.h 0)), (8, .c (.val (.int .i64 from_35))), (9, .c (.val (.int .i64 k_36))), (10, .c (.val (.int .i64 at_37))), (11, .c (.val (.bool y_130))), (80, .c (.val (.bool y)))]) (fun y => [(0, .row (.int .i64) r_19.1)]) ?_ ?_
                  · skip
                    rcases Bool.eq_false_or_eq_true (y_130) with b_48 | b_48
                    · have H_140 := of_t H_137 b_48
                      obtain ⟨r_49, h_50, H_142⟩ := of_bind H_140
                      rcases Bool.eq_false_or_eq_true ((!r_49)) with b_51 | b_51
                      · have H_143 := of_t H_142 b_51
                        refine V_reg hN hn [(4, ⟨15, 0, [.c (.val (.string s_1)), .c (.val (.int .i64 at_37))], [], .c (.val (.bool r_49)), [], [], 1⟩)] [(64, true), (69, true)] (calls_cons (palinoderef1_IsEdge_spec K s_1 at_37 r_49 h_50) (by kernel_rfl) calls_nil) 1 [0, 5, 6, 8, 9, 10, 11, 80] [0] ⟨[(0, .c (.val (.string s_1))), (5, .c (.val (.int .i64 (IntKind.wrap .i64 ((IntKind.wrap .i64 (Int.tmod width_2 (30 : Int))) + (4 : Int)))))), (6, .c (.h 0)), (8, .c (.val (.int .i64 from_35))), (9, .c (.val (.int .i64 k_36))), (10, .c (.val (.int .i64 at_37))), (11, .c (.val (.bool y_130))), (80, .c (.val (.bool true)))], [(0, .row (.int .i64) r_19.1)], 1⟩ [y_130 = true, (!r_49) = true] (by kernel_rfl) rfl rfl (ap2 b_48 (ap1 b_51)) (by kernel_rfl) (by kernel_rfl) ?_
                        have H_145 := Option.some.inj (show some true = some q_136 from H_143); subst H_145
                        refine VL_nil ?_
                        exact QP_end true rfl [(0, 0)] hn (by kernel_rfl) (by kernel_rfl) rfl rfl rfl
                      · have H_144 := of_f H_142 b_51
                        obtain ⟨r_53, h_54, H_146⟩ := of_bind H_144
                        refine V_reg hN hn [(4, ⟨15, 0, [.c (.val (.string s_1)), .c (.val (.int .i64 at_37))], [], .c (.val (.bool r_49)), [], [], 1⟩), (12, ⟨16, 0, [.c (.val (.string s_1)), .c (.val (.int .i64 at_37))], [], .c (.val (.int .i64 r_53)), [], [], 1⟩)] [(64, true), (69, false)] (calls_cons (palinoderef1_IsEdge_spec K s_1 at_37 r_49 h_50) (by kernel_rfl) (calls_cons (palinoderef1_Size_spec K s_1 at_37 r_53 h_54) (by kernel_rfl) calls_nil)) 1 [0, 5, 6, 8, 9, 10, 11, 80] [0] ⟨[(0, .c (.val (.string s_1))), (5, .c (.val (.int .i64 (IntKind.wrap .i64 ((IntKind.wrap .i64 (Int.tmod width_2 (30 : Int))) + (4 : Int)))))), (6, .c (.h 0)), (8, .c (.val (.int .i64 from_35))), (9, .c (.val (.int .i64 k_36))), (10, .c (.val (.int .i64 at_37))), (11, .c (.val (.bool y_130))), (80, .c (.val (.bool (decide ((IntKind.wrap .i64 ((IntKind.wrap .i64 (at_37 - from_35)) + r_53)) ≤ (IntKind.wrap .i64 ((IntKind.wrap .i64 (Int.tmod width_2 (30 : Int))) + (4 : Int))))))))], [(0, .row (.int .i64) r_19.1)], 1⟩ [y_130 = true, (!r_49) = false] (by kernel_rfl) rfl rfl (ap2 b_48 (ap1 b_51)) (by kernel_rfl) (by kernel_rfl) ?_
                        have H_147 := Option.some.inj (show some (decide ((IntKind.wrap .i64 ((IntKind.wrap .i64 (at_37 - from_35)) + r_53)) ≤ (IntKind.wrap .i64 ((IntKind.wrap .i64 (Int.tmod width_2 (30 : Int))) + (4 : Int))))) = some q_136 from H_146); subst H_147
                        refine VL_nil ?_
                        exact QP_end (decide ((IntKind.wrap .i64 ((IntKind.wrap .i64 (at_37 - from_35)) + r_53)) ≤ (IntKind.wrap .i64 ((IntKind.wrap .i64 (Int.tmod width_2 (30 : Int))) + (4 : Int))))) rfl [(0, 0)] hn (by kernel_rfl) (by kernel_rfl) rfl rfl rfl
                    · have H_141 := of_f H_137 b_48
                      refine V_reg hN hn [] [(64, false)] calls_nil 1 [0, 5, 6, 8, 9, 10, 11, 80] [0] ⟨[(0, .c (.val (.string s_1))), (5, .c (.val (.int .i64 (IntKind.wrap .i64 ((IntKind.wrap .i64 (Int.tmod width_2 (30 : Int))) + (4 : Int)))))), (6, .c (.h 0)), (8, .c (.val (.int .i64 from_35))), (9, .c (.val (.int .i64 k_36))), (10, .c (.val (.int .i64 at_37))), (11, .c (.val (.bool y_130))), (80, .c (.val (.bool false)))], [(0, .row (.int .i64) r_19.1)], 1⟩ [y_130 = false] (by kernel_rfl) rfl rfl (ap1 b_48) (by kernel_rfl) (by kernel_rfl) ?_
                      have H_148 := Option.some.inj (show some false = some q_136 from H_141); subst H_148
                      refine VL_nil ?_
                      exact QP_end false rfl [(0, 0)] hn (by kernel_rfl) (by kernel_rfl) rfl rfl rfl
                  · intro y_139 hy; subst hy
                    skip
                    skip
                    refine VL_cond (y_139) (by kernel_rfl) ?_ ?_
                    · intro b_58; have H_149 := of_t H_138 b_58
                      refine V_run hN hn 2 1 [4] [] ⟨[(4, .c (.val (.bool false)))], [], 1⟩ [] (by kernel_rfl) rfl rfl ap0 ?_
                      have H_151 := Option.some.inj (show some false = some r from H_149); subst H_151
                      refine VL_ret ?_
                      refine QB_ret ?_
                      refine QL_ret ?_
                      refine QB_ret ?_
                      exact P_to [(4, .c (.val (.bool false)))] [] [] hn (by kernel_rfl) (by kernel_rfl) rfl rfl rfl (QF_retS (by kernel_rfl) (by kernel_rfl) rfl)
                    · intro b_58; have H_150 := of_f H_138 b_58
                      refine V_run hN hn 4 1 [0, 5, 6, 8, 9, 10, 81] [0] ⟨[(0, .c (.val (.string s_1))), (5, .c (.val (.int .i64 (IntKind.wrap .i64 ((IntKind.wrap .i64 (Int.tmod width_2 (30 : Int))) + (4 : Int)))))), (6, .c (.h 0)), (8, .c (.val (.int .i64 from_35))), (9, .c (.val (.int .i64 k_36))), (10, .c (.val (.int .i64 at_37))), (81, .c (.val (.bool y_130)))], [(0, .row (.int .i64) r_19.1)], 1⟩ [] (by kernel_rfl) rfl rfl ap0 ?_
                      obtain ⟨q_152, H_153, H_154⟩ := of_bind H_150
                      refine V_cut (Y := (Int × Int)) (R := (Int × Int)) q_152 (fun y => y) (fun y => [(0, .c (.val (.string s_1))), (5, .c (.val (.int .i64 (IntKind.wrap .i64 ((IntKind.wrap .i64 (Int.tmod width_2 (30 : Int))) + (4 : Int)))))), (6, .c (.h 0)), (8, .c (.val (.int .i64 y.1))), (9, .c (.val (.int .i64 y.2))), (10, .c (.val (.int .i64 at_37)))]) (fun y => [(0, .row (.int .i64) r_19.1)]) ?_ ?_
                      · skip
                        refine VL_cond (y_130) (by kernel_rfl) ?_ ?_
                        · intro b_61; have H_156 := of_t H_153 b_61
                          refine V_run hN hn 3 1 [0, 5, 6, 8, 9, 10] [0] ⟨[(0, .c (.val (.string s_1))), (5, .c (.val (.int .i64 (IntKind.wrap .i64 ((IntKind.wrap .i64 (Int.tmod width_2 (30 : Int))) + (4 : Int)))))), (6, .c (.h 0)), (8, .c (.val (.int .i64 at_37))), (9, .c (.val (.int .i64 (IntKind.wrap .i64 (k_36 + (1 : Int)))))), (10, .c (.val (.int .i64 at_37)))], [(0, .row (.int .i64) r_19.1)], 1⟩ [] (by kernel_rfl) rfl rfl ap0 ?_
                          have H_158 := Option.some.inj (show some (at_37, (IntKind.wrap .i64 (k_36 + (1 : Int)))) = some q_152 from H_156); subst H_158
                          refine VL_nil ?_
                          exact QP_end (at_37, (IntKind.wrap .i64 (k_36 + (1 : Int)))) rfl [(0, 0)] hn (by kernel_rfl) (by kernel_rfl) rfl rfl rfl
                        · intro b_61; have H_157 := of_f H_153 b_61
                          refine V_run hN hn 1 1 [0, 5, 6, 8, 9, 10, 81] [0] ⟨[(0, .c (.val (.string s_1))), (5, .c (.val (.int .i64 (IntKind.wrap .i64 ((IntKind.wrap .i64 (Int.tmod width_2 (30 : Int))) + (4 : Int)))))), (6, .c (.h 0)), (8, .c (.val (.int .i64 from_35))), (9, .c (.val (.int .i64 k_36))), (10, .c (.val (.int .i64 at_37))), (81, .c (.val (.bool y_130)))], [(0, .row (.int .i64) r_19.1)], 1⟩ [] (by kernel_rfl) rfl rfl ap0 ?_
                          have H_159 := Option.some.inj (show some (from_35, k_36) = some q_152 from H_157); subst H_159
                          refine VL_nil ?_
                          exact QP_end (from_35, k_36) rfl [(0, 0)] hn (by kernel_rfl) (by kernel_rfl) rfl rfl rfl
                      · intro y_155 hy; subst hy
                        obtain ⟨from_64, k_65⟩ := y_155
                        refine V_run hN hn 3 1 [0, 5, 6, 8, 9, 10, 89] [0] ⟨[(0, .c (.val (.string s_1))), (5, .c (.val (.int .i64 (IntKind.wrap .i64 ((IntKind.wrap .i64 (Int.tmod width_2 (30 : Int))) + (4 : Int)))))), (6, .c (.h 0)), (8, .c (.val (.int .i64 from_64))), (9, .c (.val (.int .i64 k_65))), (10, .c (.val (.int .i64 at_37))), (89, .c (.val (.bool (decide ((IntKind.wrap .i64 (at_37 - from_64)) > (IntKind.wrap .i64 ((IntKind.wrap .i64 (Int.tmod width_2 (30 : Int))) + (4 : Int))))))))], [(0, .row (.int .i64) r_19.1)], 1⟩ [] (by kernel_rfl) rfl rfl ap0 ?_
                        refine VL_cond ((decide ((IntKind.wrap .i64 (at_37 - from_64)) > (IntKind.wrap .i64 ((IntKind.wrap .i64 (Int.tmod width_2 (30 : Int))) + (4 : Int)))))) (by kernel_rfl) ?_ ?_
                        · intro b_67; have H_160 := of_t H_154 b_67
                          refine V_run hN hn 2 1 [4] [] ⟨[(4, .c (.val (.bool false)))], [], 1⟩ [] (by kernel_rfl) rfl rfl ap0 ?_
                          have H_162 := Option.some.inj (show some false = some r from H_160); subst H_162
                          refine VL_ret ?_
                          refine QB_ret ?_
                          refine QL_ret ?_
                          refine QB_ret ?_
                          exact P_to [(4, .c (.val (.bool false)))] [] [] hn (by kernel_rfl) (by kernel_rfl) rfl rfl rfl (QF_retS (by kernel_rfl) (by kernel_rfl) rfl)
                        · intro b_67; have H_161 := of_f H_154 b_67
                          refine V_run hN hn 2 1 [0, 5, 6, 8, 9, 10, 89] [0] ⟨[(0, .c (.val (.string s_1))), (5, .c (.val (.int .i64 (IntKind.wrap .i64 ((IntKind.wrap .i64 (Int.tmod width_2 (30 : Int))) + (4 : Int)))))), (6, .c (.h 0)), (8, .c (.val (.int .i64 from_64))), (9, .c (.val (.int .i64 k_65))), (10, .c (.val (.int .i64 at_37))), (89, .c (.val (.bool (decide ((IntKind.wrap .i64 (at_37 - from_64)) > (IntKind.wrap .i64 ((IntKind.wrap .i64 (Int.tmod width_2 (30 : Int))) + (4 : Int))))))))], [(0, .row (.int .i64) r_19.1)], 1⟩ [] (by kernel_rfl) rfl rfl ap0 ?_
                          obtain ⟨q_163, H_164, H_165⟩ := of_bind H_161
                          refine V_cut (Y := Bool) (R := Bool) q_163 (fun y => y) (fun y => [(0, .c (.val (.string s_1))), (5, .c (.val (.int .i64 (IntKind.wrap .i64 ((IntKind.wrap .i64 (Int.tmod width_2 (30 : Int))) + (4 : Int)))))), (6, .c (.h 0)), (8, .c (.val (.int .i64 from_64))), (9, .c (.val (.int .i64 k_65))), (10, .c (.val (.int .i64 at_37))), (99, .c (.val (.bool y)))]) (fun y => [(0, .row (.int .i64) r_19.1)]) ?_ ?_
                          · skip
                            rcases Bool.eq_false_or_eq_true ((decide (at_37 < (((ByteArray.size s_1) : Nat) : Int)))) with b_70 | b_70
                            · have H_167 := of_t H_164 b_70
                              obtain ⟨c_71, H_169⟩ := of_if H_167
                              refine V_reg hN hn [] [(94, true)] calls_nil 1 [0, 5, 6, 8, 9, 10, 99] [0] ⟨[(0, .c (.val (.string s_1))), (5, .c (.val (.int .i64 (IntKind.wrap .i64 ((IntKind.wrap .i64 (Int.tmod width_2 (30 : Int))) + (4 : Int)))))), (6, .c (.h 0)), (8, .c (.val (.int .i64 from_64))), (9, .c (.val (.int .i64 k_65))), (10, .c (.val (.int .i64 at_37))), (99, .c (.val (.bool ((bt s_1 at_37) == (10 : Int)))))], [(0, .row (.int .i64) r_19.1)], 1⟩ [(decide (at_37 < (((ByteArray.size s_1) : Nat) : Int))) = true, 0 ≤ at_37, at_37 < (((ByteArray.size s_1) : Nat) : Int)] (by kernel_rfl) rfl rfl (ap2 b_70 (ap2 c_71.1 (ap1 c_71.2))) (by kernel_rfl) (by kernel_rfl) ?_
                              have H_170 := Option.some.inj (show some ((bt s_1 at_37) == (10 : Int)) = some q_163 from H_169); subst H_170
                              refine VL_nil ?_
                              exact QP_end ((bt s_1 at_37) == (10 : Int)) rfl [(0, 0)] hn (by kernel_rfl) (by kernel_rfl) rfl rfl rfl
                            · have H_168 := of_f H_164 b_70
                              refine V_reg hN hn [] [(94, false)] calls_nil 1 [0, 5, 6, 8, 9, 10, 99] [0] ⟨[(0, .c (.val (.string s_1))), (5, .c (.val (.int .i64 (IntKind.wrap .i64 ((IntKind.wrap .i64 (Int.tmod width_2 (30 : Int))) + (4 : Int)))))), (6, .c (.h 0)), (8, .c (.val (.int .i64 from_64))), (9, .c (.val (.int .i64 k_65))), (10, .c (.val (.int .i64 at_37))), (99, .c (.val (.bool false)))], [(0, .row (.int .i64) r_19.1)], 1⟩ [(decide (at_37 < (((ByteArray.size s_1) : Nat) : Int))) = false] (by kernel_rfl) rfl rfl (ap1 b_70) (by kernel_rfl) (by kernel_rfl) ?_
                              have H_171 := Option.some.inj (show some false = some q_163 from H_168); subst H_171
                              refine VL_nil ?_
                              exact QP_end false rfl [(0, 0)] hn (by kernel_rfl) (by kernel_rfl) rfl rfl rfl
                          · intro y_166 hy; subst hy
                            skip
                            skip
                            refine VL_cond (y_166) (by kernel_rfl) ?_ ?_
                            · intro b_74; have H_172 := of_t H_165 b_74
                              refine V_run hN hn 1 1 [0, 5, 6, 8, 9, 10] [0] ⟨[(0, .c (.val (.string s_1))), (5, .c (.val (.int .i64 (IntKind.wrap .i64 ((IntKind.wrap .i64 (Int.tmod width_2 (30 : Int))) + (4 : Int)))))), (6, .c (.h 0)), (8, .c (.val (.int .i64 (IntKind.wrap .i64 (at_37 + (1 : Int)))))), (9, .c (.val (.int .i64 k_65))), (10, .c (.val (.int .i64 at_37)))], [(0, .row (.int .i64) r_19.1)], 1⟩ [] (by kernel_rfl) rfl rfl ap0 ?_
                              refine VL_nil (QB_end ?_)
                              refine V_run hN hn 1 1 [0, 5, 6, 8, 9, 10] [0] ⟨[(0, .c (.val (.string s_1))), (5, .c (.val (.int .i64 (IntKind.wrap .i64 ((IntKind.wrap .i64 (Int.tmod width_2 (30 : Int))) + (4 : Int)))))), (6, .c (.h 0)), (8, .c (.val (.int .i64 (IntKind.wrap .i64 (at_37 + (1 : Int)))))), (9, .c (.val (.int .i64 k_65))), (10, .c (.val (.int .i64 (IntKind.wrap .i64 (at_37 + (1 : Int))))))], [(0, .row (.int .i64) r_19.1)], 1⟩ [] (by kernel_rfl) rfl rfl ap0 ?_
                              refine VL_nil ?_
                              exact V_roundEnd ((IntKind.wrap .i64 (at_37 + (1 : Int))), k_65, (IntKind.wrap .i64 (at_37 + (1 : Int)))) H_172 [(0, 0)] hn (by kernel_rfl) (by kernel_rfl) rfl rfl rfl
                            · intro b_74; have H_173 := of_f H_165 b_74
                              refine V_run hN hn 1 1 [0, 5, 6, 8, 9, 10, 99] [0] ⟨[(0, .c (.val (.string s_1))), (5, .c (.val (.int .i64 (IntKind.wrap .i64 ((IntKind.wrap .i64 (Int.tmod width_2 (30 : Int))) + (4 : Int)))))), (6, .c (.h 0)), (8, .c (.val (.int .i64 from_64))), (9, .c (.val (.int .i64 k_65))), (10, .c (.val (.int .i64 at_37))), (99, .c (.val (.bool y_166)))], [(0, .row (.int .i64) r_19.1)], 1⟩ [] (by kernel_rfl) rfl rfl ap0 ?_
                              refine VL_nil (QB_end ?_)
                              refine V_run hN hn 1 1 [0, 5, 6, 8, 9, 10] [0] ⟨[(0, .c (.val (.string s_1))), (5, .c (.val (.int .i64 (IntKind.wrap .i64 ((IntKind.wrap .i64 (Int.tmod width_2 (30 : Int))) + (4 : Int)))))), (6, .c (.h 0)), (8, .c (.val (.int .i64 from_64))), (9, .c (.val (.int .i64 k_65))), (10, .c (.val (.int .i64 (IntKind.wrap .i64 (at_37 + (1 : Int))))))], [(0, .row (.int .i64) r_19.1)], 1⟩ [] (by kernel_rfl) rfl rfl ap0 ?_
                              refine VL_nil ?_
                              exact V_roundEnd (from_64, k_65, (IntKind.wrap .i64 (at_37 + (1 : Int)))) H_173 [(0, 0)] hn (by kernel_rfl) (by kernel_rfl) rfl rfl rfl
              · intro b_40; have H_126 := of_f H_124 b_40
                refine VL_exit ?_
                refine QL_exit ?_
                refine QB_here ?_
                refine V_run hN hn 2 1 [4] [] ⟨[(4, .c (.val (.bool (k_36 == (((List.length r_19.1) : Nat) : Int)))))], [], 1⟩ [] (by kernel_rfl) rfl rfl ap0 ?_
                have H_174 := Option.some.inj (show some (k_36 == (((List.length r_19.1) : Nat) : Int)) = some r from H_126); subst H_174
                refine VL_ret ?_
                exact P_to [(4, .c (.val (.bool (k_36 == (((List.length r_19.1) : Nat) : Int)))))] [] [] hn (by kernel_rfl) (by kernel_rfl) rfl rfl rfl (QF_retS (by kernel_rfl) (by kernel_rfl) rfl)

end Go.Pal
