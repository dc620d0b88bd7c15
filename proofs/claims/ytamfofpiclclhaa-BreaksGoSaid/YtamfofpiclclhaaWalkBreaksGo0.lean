/- The Go functions that BreaksGo reaches compute what the plain functions say: part 0, printed by a program of this workplace. -/
import Derived.Test.YtamfofpiclclhaaChecked
import Derived.Test.YtamfofpiclclhaaFunBreaksGo
namespace Go.Pal
open Go Go.Proofs
set_option maxRecDepth 100000
set_option linter.unusedVariables false

theorem breaks_Is_ng_spec (K : Nat) (n_2 : Int) (r : Bool) (H : breaks_Is_ng K ([] : (List Int)) n_2 = some r) : Spec Try.prog 14 0 [.c (.val (.slice none 0 0)), .c (.val (.int .i64 n_2))] [] (.c (.val (.bool r))) [] := by
  refine Spec_mk (fn := Try.f14) (c := (Try.f14.body).get!) Try.func14 (by kernel_rfl) rfl ?_
  intro C hN hn
  replace hN : C.N = 40 := hN
  unfold breaks_Is_ng at H
  refine V_run hN hn 7 0 [0, 1, 9, 10, 11] [] ⟨[(0, .c (.val (.slice none 0 0))), (1, .c (.val (.int .i64 (mn2 n_2 (20000 : Int))))), (9, .c (.val (.slice none 0 0))), (10, .c (.val (.int .i64 (((List.length ([] : (List Int))) : Nat) : Int)))), (11, .c (.val (.int .i64 (0 : Int))))], [], 0⟩ [] (by kernel_rfl) rfl rfl ap0 ?_
  refine VL_block ?_
  refine V_to [(0, .c (.val (.slice none 0 0))), (1, .c (.val (.int .i64 (mn2 n_2 (20000 : Int))))), (9, .c (.val (.slice none 0 0))), (10, .c (.val (.int .i64 (((List.length ([] : (List Int))) : Nat) : Int)))), (11, .c (.val (.int .i64 (0 : Int))))] [] [] hn (by kernel_rfl) (by kernel_rfl) rfl rfl rfl ?_
  refine VL_loop (X := Int) (fun x => [(0, .c (.val (.slice none 0 0))), (1, .c (.val (.int .i64 (mn2 n_2 (20000 : Int))))), (9, .c (.val (.slice none 0 0))), (10, .c (.val (.int .i64 (((List.length ([] : (List Int))) : Nat) : Int)))), (11, .c (.val (.int .i64 x)))]) (fun x => []) (fun k x => breaks_Is_ng.l0 K ([] : (List Int)) n_2 k x = some r) K (0 : Int) H (fun _ h => no_none h) ?_
  intro k_5 t_4 H_26
  have H_27 : breaks_Is_ng.l0 K ([] : (List Int)) n_2 (k_5 + 1) t_4 = some r := H_26
  rw [breaks_Is_ng.l0] at H_27
  refine V_run hN hn 3 0 [0, 1, 9, 10, 11, 12] [] ⟨[(0, .c (.val (.slice none 0 0))), (1, .c (.val (.int .i64 (mn2 n_2 (20000 : Int))))), (9, .c (.val (.slice none 0 0))), (10, .c (.val (.int .i64 (((List.length ([] : (List Int))) : Nat) : Int)))), (11, .c (.val (.int .i64 t_4))), (12, .c (.val (.bool (decide (t_4 < (((List.length ([] : (List Int))) : Nat) : Int))))))], [], 0⟩ [] (by kernel_rfl) rfl rfl ap0 ?_
  refine VL_cond ((decide (t_4 < (((List.length ([] : (List Int))) : Nat) : Int)))) (by kernel_rfl) ?_ ?_
  · intro b_7; have H_28 := of_t H_27 b_7
    refine V_run hN hn 2 0 [0, 1, 9, 10, 11, 12] [] ⟨[(0, .c (.val (.slice none 0 0))), (1, .c (.val (.int .i64 (mn2 n_2 (20000 : Int))))), (9, .c (.val (.slice none 0 0))), (10, .c (.val (.int .i64 (((List.length ([] : (List Int))) : Nat) : Int)))), (11, .c (.val (.int .i64 t_4))), (12, .c (.val (.bool (decide (t_4 < (((List.length ([] : (List Int))) : Nat) : Int))))))], [], 0⟩ [] (by kernel_rfl) rfl rfl ap0 ?_
    refine VL_block ?_
    obtain ⟨c_9, H_30⟩ := of_if H_28
    refine V_run hN hn 3 0 [0, 1, 5, 6, 9, 10, 11] [] ⟨[(0, .c (.val (.slice none 0 0))), (1, .c (.val (.int .i64 (mn2 n_2 (20000 : Int))))), (5, .c (.val (.int .i64 t_4))), (6, .c (.val (.int .i64 (List.getD ([] : (List Int)) (Int.toNat t_4) (0 : Int))))), (9, .c (.val (.slice none 0 0))), (10, .c (.val (.int .i64 (((List.length ([] : (List Int))) : Nat) : Int)))), (11, .c (.val (.int .i64 t_4)))], [], 0⟩ [0 ≤ t_4, t_4 < (((List.length ([] : (List Int))) : Nat) : Int)] (by kernel_rfl) rfl rfl (ap2 c_9.1 (ap1 c_9.2)) ?_
    obtain ⟨q_31, H_32, H_33⟩ := of_bind H_30
    refine V_cut (Y := Bool) (R := Bool) q_31 (fun y => y) (fun y => [(0, .c (.val (.slice none 0 0))), (1, .c (.val (.int .i64 (mn2 n_2 (20000 : Int))))), (9, .c (.val (.slice none 0 0))), (10, .c (.val (.int .i64 (((List.length ([] : (List Int))) : Nat) : Int)))), (11, .c (.val (.int .i64 t_4))), (35, .c (.val (.bool y)))]) (fun y => []) ?_ ?_
    · skip
      rcases Bool.eq_false_or_eq_true ((decide ((List.getD ([] : (List Int)) (Int.toNat t_4) (0 : Int)) ≤ (0 : Int)))) with b_10 | b_10
      · have H_35 := of_t H_32 b_10
        refine V_reg hN hn [] [(18, true)] calls_nil 0 [0, 1, 9, 10, 11, 35] [] ⟨[(0, .c (.val (.slice none 0 0))), (1, .c (.val (.int .i64 (mn2 n_2 (20000 : Int))))), (9, .c (.val (.slice none 0 0))), (10, .c (.val (.int .i64 (((List.length ([] : (List Int))) : Nat) : Int)))), (11, .c (.val (.int .i64 t_4))), (35, .c (.val (.bool true)))], [], 0⟩ [(decide ((List.getD ([] : (List Int)) (Int.toNat t_4) (0 : Int)) ≤ (0 : Int))) = true] (by kernel_rfl) rfl rfl (ap1 b_10) (by kernel_rfl) (by kernel_rfl) ?_
        have H_37 := Option.some.inj (show some true = some q_31 from H_35); subst H_37
        refine VL_nil ?_
        exact QP_end true rfl [] hn (by kernel_rfl) (by kernel_rfl) rfl rfl rfl
      · have H_36 := of_f H_32 b_10
        rcases Bool.eq_false_or_eq_true ((decide ((List.getD ([] : (List Int)) (Int.toNat t_4) (0 : Int)) ≥ (mn2 n_2 (20000 : Int))))) with b_12 | b_12
        · have H_38 := of_t H_36 b_12
          refine V_reg hN hn [] [(18, false), (23, true)] calls_nil 0 [0, 1, 9, 10, 11, 35] [] ⟨[(0, .c (.val (.slice none 0 0))), (1, .c (.val (.int .i64 (mn2 n_2 (20000 : Int))))), (9, .c (.val (.slice none 0 0))), (10, .c (.val (.int .i64 (((List.length ([] : (List Int))) : Nat) : Int)))), (11, .c (.val (.int .i64 t_4))), (35, .c (.val (.bool true)))], [], 0⟩ [(decide ((List.getD ([] : (List Int)) (Int.toNat t_4) (0 : Int)) ≤ (0 : Int))) = false, (decide ((List.getD ([] : (List Int)) (Int.toNat t_4) (0 : Int)) ≥ (mn2 n_2 (20000 : Int)))) = true] (by kernel_rfl) rfl rfl (ap2 b_10 (ap1 b_12)) (by kernel_rfl) (by kernel_rfl) ?_
          have H_40 := Option.some.inj (show some true = some q_31 from H_38); subst H_40
          refine VL_nil ?_
          exact QP_end true rfl [] hn (by kernel_rfl) (by kernel_rfl) rfl rfl rfl
        · have H_39 := of_f H_36 b_12
          rcases Bool.eq_false_or_eq_true ((decide (t_4 > (0 : Int)))) with b_14 | b_14
          · have H_41 := of_t H_39 b_14
            obtain ⟨c_15, H_43⟩ := of_if H_41
            refine V_reg hN hn [] [(18, false), (23, false), (26, true)] calls_nil 0 [0, 1, 9, 10, 11, 35] [] ⟨[(0, .c (.val (.slice none 0 0))), (1, .c (.val (.int .i64 (mn2 n_2 (20000 : Int))))), (9, .c (.val (.slice none 0 0))), (10, .c (.val (.int .i64 (((List.length ([] : (List Int))) : Nat) : Int)))), (11, .c (.val (.int .i64 t_4))), (35, .c (.val (.bool (decide ((List.getD ([] : (List Int)) (Int.toNat t_4) (0 : Int)) ≤ (List.getD ([] : (List Int)) (Int.toNat (IntKind.wrap .i64 (t_4 - (1 : Int)))) (0 : Int)))))))], [], 0⟩ [(decide ((List.getD ([] : (List Int)) (Int.toNat t_4) (0 : Int)) ≤ (0 : Int))) = false, (decide ((List.getD ([] : (List Int)) (Int.toNat t_4) (0 : Int)) ≥ (mn2 n_2 (20000 : Int)))) = false, (decide (t_4 > (0 : Int))) = true, 0 ≤ (IntKind.wrap .i64 (t_4 - (1 : Int))), (IntKind.wrap .i64 (t_4 - (1 : Int))) < (((List.length ([] : (List Int))) : Nat) : Int)] (by kernel_rfl) rfl rfl (ap2 b_10 (ap2 b_12 (ap2 b_14 (ap2 c_15.1 (ap1 c_15.2))))) (by kernel_rfl) (by kernel_rfl) ?_
            have H_44 := Option.some.inj (show some (decide ((List.getD ([] : (List Int)) (Int.toNat t_4) (0 : Int)) ≤ (List.getD ([] : (List Int)) (Int.toNat (IntKind.wrap .i64 (t_4 - (1 : Int)))) (0 : Int)))) = some q_31 from H_43); subst H_44
            refine VL_nil ?_
            exact QP_end (decide ((List.getD ([] : (List Int)) (Int.toNat t_4) (0 : Int)) ≤ (List.getD ([] : (List Int)) (Int.toNat (IntKind.wrap .i64 (t_4 - (1 : Int)))) (0 : Int)))) rfl [] hn (by kernel_rfl) (by kernel_rfl) rfl rfl rfl
          · have H_42 := of_f H_39 b_14
            refine V_reg hN hn [] [(18, false), (23, false), (26, false)] calls_nil 0 [0, 1, 9, 10, 11, 35] [] ⟨[(0, .c (.val (.slice none 0 0))), (1, .c (.val (.int .i64 (mn2 n_2 (20000 : Int))))), (9, .c (.val (.slice none 0 0))), (10, .c (.val (.int .i64 (((List.length ([] : (List Int))) : Nat) : Int)))), (11, .c (.val (.int .i64 t_4))), (35, .c (.val (.bool false)))], [], 0⟩ [(decide ((List.getD ([] : (List Int)) (Int.toNat t_4) (0 : Int)) ≤ (0 : Int))) = false, (decide ((List.getD ([] : (List Int)) (Int.toNat t_4) (0 : Int)) ≥ (mn2 n_2 (20000 : Int)))) = false, (decide (t_4 > (0 : Int))) = false] (by kernel_rfl) rfl rfl (ap2 b_10 (ap2 b_12 (ap1 b_14))) (by kernel_rfl) (by kernel_rfl) ?_
            have H_45 := Option.some.inj (show some false = some q_31 from H_42); subst H_45
            refine VL_nil ?_
            exact QP_end false rfl [] hn (by kernel_rfl) (by kernel_rfl) rfl rfl rfl
    · intro y_34 hy; subst hy
      skip
      skip
      refine VL_cond (y_34) (by kernel_rfl) ?_ ?_
      · intro b_18; have H_46 := of_t H_33 b_18
        refine V_run hN hn 2 0 [4] [] ⟨[(4, .c (.val (.bool false)))], [], 0⟩ [] (by kernel_rfl) rfl rfl ap0 ?_
        have H_48 := Option.some.inj (show some false = some r from H_46); subst H_48
        refine VL_ret ?_
        refine QB_ret ?_
        refine QL_ret ?_
        refine QB_ret ?_
        exact P_to [(4, .c (.val (.bool false)))] [] [] hn (by kernel_rfl) (by kernel_rfl) rfl rfl rfl (QF_retS (by kernel_rfl) (by kernel_rfl) rfl)
      · intro b_18; have H_47 := of_f H_33 b_18
        refine V_run hN hn 1 0 [0, 1, 9, 10, 11, 35] [] ⟨[(0, .c (.val (.slice none 0 0))), (1, .c (.val (.int .i64 (mn2 n_2 (20000 : Int))))), (9, .c (.val (.slice none 0 0))), (10, .c (.val (.int .i64 (((List.length ([] : (List Int))) : Nat) : Int)))), (11, .c (.val (.int .i64 t_4))), (35, .c (.val (.bool y_34)))], [], 0⟩ [] (by kernel_rfl) rfl rfl ap0 ?_
        refine VL_nil (QB_end ?_)
        refine V_run hN hn 1 0 [0, 1, 9, 10, 11] [] ⟨[(0, .c (.val (.slice none 0 0))), (1, .c (.val (.int .i64 (mn2 n_2 (20000 : Int))))), (9, .c (.val (.slice none 0 0))), (10, .c (.val (.int .i64 (((List.length ([] : (List Int))) : Nat) : Int)))), (11, .c (.val (.int .i64 (IntKind.wrap .i64 (t_4 + (1 : Int))))))], [], 0⟩ [] (by kernel_rfl) rfl rfl ap0 ?_
        refine VL_nil ?_
        exact V_roundEnd (IntKind.wrap .i64 (t_4 + (1 : Int))) H_47 [] hn (by kernel_rfl) (by kernel_rfl) rfl rfl rfl
  · intro b_7; have H_29 := of_f H_27 b_7
    refine VL_exit ?_
    refine QL_exit ?_
    refine QB_here ?_
    refine V_run hN hn 2 0 [4] [] ⟨[(4, .c (.val (.bool (decide ((((List.length ([] : (List Int))) : Nat) : Int) ≤ (60 : Int))))))], [], 0⟩ [] (by kernel_rfl) rfl rfl ap0 ?_
    have H_49 := Option.some.inj (show some (decide ((((List.length ([] : (List Int))) : Nat) : Int) ≤ (60 : Int))) = some r from H_29); subst H_49
    refine VL_ret ?_
    exact P_to [(4, .c (.val (.bool (decide ((((List.length ([] : (List Int))) : Nat) : Int) ≤ (60 : Int))))))] [] [] hn (by kernel_rfl) (by kernel_rfl) rfl rfl rfl (QF_retS (by kernel_rfl) (by kernel_rfl) rfl)

theorem cmp_isNaN_spec (K : Nat) (x_1 : Int) (r : Bool) (H : cmp_isNaN K x_1 = some r) : Spec Try.prog 55 0 [.c (.val (.int .i64 x_1))] [] (.c (.val (.bool r))) [] := by
  refine Spec_mk (fn := Try.f55) (c := (Try.f55.body).get!) Try.func55 (by kernel_rfl) rfl ?_
  intro C hN hn
  replace hN : C.N = 6 := hN
  unfold cmp_isNaN at H
  refine V_run hN hn 4 0 [2] [] ⟨[(2, .c (.val (.bool (x_1 != x_1))))], [], 0⟩ [] (by kernel_rfl) rfl rfl ap0 ?_
  have H_4 := Option.some.inj (show some (x_1 != x_1) = some r from H); subst H_4
  refine VL_ret ?_
  exact P_to [(2, .c (.val (.bool (x_1 != x_1))))] [] [] hn (by kernel_rfl) (by kernel_rfl) rfl rfl rfl (QF_retS (by kernel_rfl) (by kernel_rfl) rfl)

theorem cmp_Less_spec (K : Nat) (x_1 : Int) (y_2 : Int) (r : Bool) (H : cmp_Less K x_1 y_2 = some r) : Spec Try.prog 45 0 [.c (.val (.int .i64 x_1)), .c (.val (.int .i64 y_2))] [] (.c (.val (.bool r))) [] := by
  refine Spec_mk (fn := Try.f45) (c := (Try.f45.body).get!) Try.func45 (by kernel_rfl) rfl ?_
  intro C hN hn
  replace hN : C.N = 17 := hN
  unfold cmp_Less at H
  refine V_run hN hn 3 0 [0, 1] [] ⟨[(0, .c (.val (.int .i64 x_1))), (1, .c (.val (.int .i64 y_2)))], [], 0⟩ [] (by kernel_rfl) rfl rfl ap0 ?_
  obtain ⟨r_4, h_5, H_14⟩ := of_bind H
  rcases Bool.eq_false_or_eq_true (r_4) with b_6 | b_6
  · have H_15 := of_t H_14 b_6
    obtain ⟨r_7, h_8, H_17⟩ := of_bind H_15
    rcases Bool.eq_false_or_eq_true ((!r_7)) with b_9 | b_9
    · have H_18 := of_t H_17 b_9
      refine V_reg hN hn [(1, ⟨55, 0, [.c (.val (.int .i64 x_1))], [], .c (.val (.bool r_4)), [], [], 0⟩), (4, ⟨55, 0, [.c (.val (.int .i64 y_2))], [], .c (.val (.bool r_7)), [], [], 0⟩)] [(7, true), (12, true)] (calls_cons (cmp_isNaN_spec K x_1 r_4 h_5) (by kernel_rfl) (calls_cons (cmp_isNaN_spec K y_2 r_7 h_8) (by kernel_rfl) calls_nil)) 0 [4] [] ⟨[(4, .c (.val (.bool true)))], [], 0⟩ [r_4 = true, (!r_7) = true] (by kernel_rfl) rfl rfl (ap2 b_6 (ap1 b_9)) (by kernel_rfl) (by kernel_rfl) ?_
      have H_20 := Option.some.inj (show some true = some r from H_18); subst H_20
      refine VL_ret ?_
      exact P_to [(4, .c (.val (.bool true)))] [] [] hn (by kernel_rfl) (by kernel_rfl) rfl rfl rfl (QF_retS (by kernel_rfl) (by kernel_rfl) rfl)
    · have H_19 := of_f H_17 b_9
      refine V_reg hN hn [(1, ⟨55, 0, [.c (.val (.int .i64 x_1))], [], .c (.val (.bool r_4)), [], [], 0⟩), (4, ⟨55, 0, [.c (.val (.int .i64 y_2))], [], .c (.val (.bool r_7)), [], [], 0⟩)] [(7, true), (12, false)] (calls_cons (cmp_isNaN_spec K x_1 r_4 h_5) (by kernel_rfl) (calls_cons (cmp_isNaN_spec K y_2 r_7 h_8) (by kernel_rfl) calls_nil)) 0 [4] [] ⟨[(4, .c (.val (.bool (decide (x_1 < y_2)))))], [], 0⟩ [r_4 = true, (!r_7) = false] (by kernel_rfl) rfl rfl (ap2 b_6 (ap1 b_9)) (by kernel_rfl) (by kernel_rfl) ?_
      have H_21 := Option.some.inj (show some (decide (x_1 < y_2)) = some r from H_19); subst H_21
      refine VL_ret ?_
      exact P_to [(4, .c (.val (.bool (decide (x_1 < y_2)))))] [] [] hn (by kernel_rfl) (by kernel_rfl) rfl rfl rfl (QF_retS (by kernel_rfl) (by kernel_rfl) rfl)
  · have H_16 := of_f H_14 b_6
    refine V_reg hN hn [(1, ⟨55, 0, [.c (.val (.int .i64 x_1))], [], .c (.val (.bool r_4)), [], [], 0⟩)] [(7, false)] (calls_cons (cmp_isNaN_spec K x_1 r_4 h_5) (by kernel_rfl) calls_nil) 0 [4] [] ⟨[(4, .c (.val (.bool (decide (x_1 < y_2)))))], [], 0⟩ [r_4 = false] (by kernel_rfl) rfl rfl (ap1 b_6) (by kernel_rfl) (by kernel_rfl) ?_
    have H_22 := Option.some.inj (show some (decide (x_1 < y_2)) = some r from H_16); subst H_22
    refine VL_ret ?_
    exact P_to [(4, .c (.val (.bool (decide (x_1 < y_2)))))] [] [] hn (by kernel_rfl) (by kernel_rfl) rfl rfl rfl (QF_retS (by kernel_rfl) (by kernel_rfl) rfl)

theorem slices_isNaN_spec (K : Nat) (x_1 : Int) (r : Bool) (H : slices_isNaN K x_1 = some r) : Spec Try.prog 46 0 [.c (.val (.int .i64 x_1))] [] (.c (.val (.bool r))) [] := by
  refine Spec_mk (fn := Try.f46) (c := (Try.f46.body).get!) Try.func46 (by kernel_rfl) rfl ?_
  intro C hN hn
  replace hN : C.N = 6 := hN
  unfold slices_isNaN at H
  refine V_run hN hn 4 0 [2] [] ⟨[(2, .c (.val (.bool (x_1 != x_1))))], [], 0⟩ [] (by kernel_rfl) rfl rfl ap0 ?_
  have H_4 := Option.some.inj (show some (x_1 != x_1) = some r from H); subst H_4
  refine VL_ret ?_
  exact P_to [(2, .c (.val (.bool (x_1 != x_1))))] [] [] hn (by kernel_rfl) (by kernel_rfl) rfl rfl rfl (QF_retS (by kernel_rfl) (by kernel_rfl) rfl)

theorem slices_BinarySearch_ng_spec (K : Nat) (target_2 : Int) (r : (Int × Bool)) (H : slices_BinarySearch_ng K ([] : (List Int)) target_2 = some r) : Spec Try.prog 30 0 [.c (.val (.slice none 0 0)), .c (.val (.int .i64 target_2))] [] (.tup [(false, [.val (.int .i64 r.1)]), (false, [.val (.bool r.2)])]) [] := by
  refine Spec_mk (fn := Try.f30) (c := (Try.f30.body).get!) Try.func30 (by kernel_rfl) rfl ?_
  intro C hN hn
  replace hN : C.N = 54 := hN
  unfold slices_BinarySearch_ng at H
  refine V_run hN hn 7 0 [0, 1, 6, 7, 8] [] ⟨[(0, .c (.val (.slice none 0 0))), (1, .c (.val (.int .i64 target_2))), (6, .c (.val (.int .i64 (((List.length ([] : (List Int))) : Nat) : Int)))), (7, .c (.val (.int .i64 (0 : Int)))), (8, .c (.val (.int .i64 (((List.length ([] : (List Int))) : Nat) : Int))))], [], 0⟩ [] (by kernel_rfl) rfl rfl ap0 ?_
  obtain ⟨q_33, H_34, H_35⟩ := of_bind H
  refine V_cut (Y := Int) (R := Int) q_33 (fun y => y) (fun y => [(0, .c (.val (.slice none 0 0))), (1, .c (.val (.int .i64 target_2))), (6, .c (.val (.int .i64 (((List.length ([] : (List Int))) : Nat) : Int)))), (7, .c (.val (.int .i64 y)))]) (fun y => []) ?_ ?_
  · skip
    refine VL_block ?_
    refine V_to [(0, .c (.val (.slice none 0 0))), (1, .c (.val (.int .i64 target_2))), (6, .c (.val (.int .i64 (((List.length ([] : (List Int))) : Nat) : Int)))), (7, .c (.val (.int .i64 (0 : Int)))), (8, .c (.val (.int .i64 (((List.length ([] : (List Int))) : Nat) : Int))))] [] [] hn (by kernel_rfl) (by kernel_rfl) rfl rfl rfl ?_
    refine VL_loop (X := (Int × Int)) (fun x => [(0, .c (.val (.slice none 0 0))), (1, .c (.val (.int .i64 target_2))), (6, .c (.val (.int .i64 (((List.length ([] : (List Int))) : Nat) : Int)))), (7, .c (.val (.int .i64 x.1))), (8, .c (.val (.int .i64 x.2)))]) (fun x => []) (fun k x => slices_BinarySearch_ng.l0 K ([] : (List Int)) target_2 k x.1 x.2 = some q_33) K ((0 : Int), (((List.length ([] : (List Int))) : Nat) : Int)) H_34 (fun _ h => no_none h) ?_
    intro k_6 x_6 H_37
    obtain ⟨i_4, j_5⟩ := x_6
    have H_38 : slices_BinarySearch_ng.l0 K ([] : (List Int)) target_2 (k_6 + 1) i_4 j_5 = some q_33 := H_37
    rw [slices_BinarySearch_ng.l0] at H_38
    refine V_run hN hn 3 0 [0, 1, 6, 7, 8, 15] [] ⟨[(0, .c (.val (.slice none 0 0))), (1, .c (.val (.int .i64 target_2))), (6, .c (.val (.int .i64 (((List.length ([] : (List Int))) : Nat) : Int)))), (7, .c (.val (.int .i64 i_4))), (8, .c (.val (.int .i64 j_5))), (15, .c (.val (.bool (decide (i_4 < j_5)))))], [], 0⟩ [] (by kernel_rfl) rfl rfl ap0 ?_
    refine VL_cond ((decide (i_4 < j_5))) (by kernel_rfl) ?_ ?_
    · intro b_8; have H_39 := of_t H_38 b_8
      refine V_run hN hn 1 0 [0, 1, 6, 7, 8, 15] [] ⟨[(0, .c (.val (.slice none 0 0))), (1, .c (.val (.int .i64 target_2))), (6, .c (.val (.int .i64 (((List.length ([] : (List Int))) : Nat) : Int)))), (7, .c (.val (.int .i64 i_4))), (8, .c (.val (.int .i64 j_5))), (15, .c (.val (.bool (decide (i_4 < j_5)))))], [], 0⟩ [] (by kernel_rfl) rfl rfl ap0 ?_
      refine VL_block ?_
      refine V_run hN hn 3 0 [0, 1, 6, 7, 8, 9] [] ⟨[(0, .c (.val (.slice none 0 0))), (1, .c (.val (.int .i64 target_2))), (6, .c (.val (.int .i64 (((List.length ([] : (List Int))) : Nat) : Int)))), (7, .c (.val (.int .i64 i_4))), (8, .c (.val (.int .i64 j_5))), (9, .c (.val (.int .i64 (IntKind.wrap .i64 (Int.fdiv (IntKind.wrap .u64 (IntKind.wrap .i64 (i_4 + j_5))) (2 : Int))))))], [], 0⟩ [(0 : Int) ≤ (1 : Int)] (by kernel_rfl) rfl rfl (ap1 (by decide)) ?_
      obtain ⟨r_11, h_12, H_41⟩ := of_bind H_39
      obtain ⟨c_13, H_42⟩ := of_if H_41
      refine V_reg hN hn [(5, ⟨45, 0, [.c (.val (.int .i64 (List.getD ([] : (List Int)) (Int.toNat (IntKind.wrap .i64 (Int.fdiv (IntKind.wrap .u64 (IntKind.wrap .i64 (i_4 + j_5))) (2 : Int)))) (0 : Int)))), .c (.val (.int .i64 target_2))], [], .c (.val (.bool r_11)), [], [], 0⟩)] [] (calls_cons (cmp_Less_spec K (List.getD ([] : (List Int)) (Int.toNat (IntKind.wrap .i64 (Int.fdiv (IntKind.wrap .u64 (IntKind.wrap .i64 (i_4 + j_5))) (2 : Int)))) (0 : Int)) target_2 r_11 h_12) (by kernel_rfl) calls_nil) 0 [0, 1, 6, 7, 8, 9, 27] [] ⟨[(0, .c (.val (.slice none 0 0))), (1, .c (.val (.int .i64 target_2))), (6, .c (.val (.int .i64 (((List.length ([] : (List Int))) : Nat) : Int)))), (7, .c (.val (.int .i64 i_4))), (8, .c (.val (.int .i64 j_5))), (9, .c (.val (.int .i64 (IntKind.wrap .i64 (Int.fdiv (IntKind.wrap .u64 (IntKind.wrap .i64 (i_4 + j_5))) (2 : Int)))))), (27, .c (.val (.bool r_11)))], [], 0⟩ [0 ≤ (IntKind.wrap .i64 (Int.fdiv (IntKind.wrap .u64 (IntKind.wrap .i64 (i_4 + j_5))) (2 : Int))), (IntKind.wrap .i64 (Int.fdiv (IntKind.wrap .u64 (IntKind.wrap .i64 (i_4 + j_5))) (2 : Int))) < (((List.length ([] : (List Int))) : Nat) : Int)] (by kernel_rfl) rfl rfl (ap2 c_13.1 (ap1 c_13.2)) (by kernel_rfl) (by kernel_rfl) ?_
      refine VL_cond (r_11) (by kernel_rfl) ?_ ?_
      · intro b_14; have H_43 := of_t H_42 b_14
        refine V_run hN hn 1 0 [0, 1, 6, 7, 8] [] ⟨[(0, .c (.val (.slice none 0 0))), (1, .c (.val (.int .i64 target_2))), (6, .c (.val (.int .i64 (((List.length ([] : (List Int))) : Nat) : Int)))), (7, .c (.val (.int .i64 (IntKind.wrap .i64 ((IntKind.wrap .i64 (Int.fdiv (IntKind.wrap .u64 (IntKind.wrap .i64 (i_4 + j_5))) (2 : Int))) + (1 : Int)))))), (8, .c (.val (.int .i64 j_5)))], [], 0⟩ [] (by kernel_rfl) rfl rfl ap0 ?_
        refine VL_nil (QB_end ?_)
        refine VL_nil ?_
        exact V_roundEnd ((IntKind.wrap .i64 ((IntKind.wrap .i64 (Int.fdiv (IntKind.wrap .u64 (IntKind.wrap .i64 (i_4 + j_5))) (2 : Int))) + (1 : Int))), j_5) H_43 [] hn (by kernel_rfl) (by kernel_rfl) rfl rfl rfl
      · intro b_14; have H_44 := of_f H_42 b_14
        refine V_run hN hn 1 0 [0, 1, 6, 7, 8] [] ⟨[(0, .c (.val (.slice none 0 0))), (1, .c (.val (.int .i64 target_2))), (6, .c (.val (.int .i64 (((List.length ([] : (List Int))) : Nat) : Int)))), (7, .c (.val (.int .i64 i_4))), (8, .c (.val (.int .i64 (IntKind.wrap .i64 (Int.fdiv (IntKind.wrap .u64 (IntKind.wrap .i64 (i_4 + j_5))) (2 : Int))))))], [], 0⟩ [] (by kernel_rfl) rfl rfl ap0 ?_
        refine VL_nil (QB_end ?_)
        refine VL_nil ?_
        exact V_roundEnd (i_4, (IntKind.wrap .i64 (Int.fdiv (IntKind.wrap .u64 (IntKind.wrap .i64 (i_4 + j_5))) (2 : Int)))) H_44 [] hn (by kernel_rfl) (by kernel_rfl) rfl rfl rfl
    · intro b_8; have H_40 := of_f H_38 b_8
      refine VL_exit ?_
      refine QL_exit ?_
      refine QB_here ?_
      have H_45 := Option.some.inj (show some i_4 = some q_33 from H_40); subst H_45
      refine VL_nil ?_
      exact QP_end i_4 rfl [] hn (by kernel_rfl) (by kernel_rfl) rfl rfl rfl
  · intro y_36 hy; subst hy
    skip
    skip
    refine V_run hN hn 1 0 [0, 1, 6, 7] [] ⟨[(0, .c (.val (.slice none 0 0))), (1, .c (.val (.int .i64 target_2))), (6, .c (.val (.int .i64 (((List.length ([] : (List Int))) : Nat) : Int)))), (7, .c (.val (.int .i64 y_36)))], [], 0⟩ [] (by kernel_rfl) rfl rfl ap0 ?_
    rcases Bool.eq_false_or_eq_true ((decide (y_36 < (((List.length ([] : (List Int))) : Nat) : Int)))) with b_19 | b_19
    · have H_46 := of_t H_35 b_19
      rcases Bool.eq_false_or_eq_true (((List.getD ([] : (List Int)) (Int.toNat y_36) (0 : Int)) == target_2)) with b_20 | b_20
      · have H_48 := of_t H_46 b_20
        obtain ⟨c_21, H_50⟩ := of_if H_48
        refine V_reg hN hn [] [(35, true), (42, true)] calls_nil 0 [4, 5] [] ⟨[(4, .c (.val (.int .i64 y_36))), (5, .c (.val (.bool true)))], [], 0⟩ [(decide (y_36 < (((List.length ([] : (List Int))) : Nat) : Int))) = true, 0 ≤ y_36, y_36 < (((List.length ([] : (List Int))) : Nat) : Int), ((List.getD ([] : (List Int)) (Int.toNat y_36) (0 : Int)) == target_2) = true] (by kernel_rfl) rfl rfl (ap2 b_19 (ap2 c_21.1 (ap2 c_21.2 (ap1 b_20)))) (by kernel_rfl) (by kernel_rfl) ?_
        have H_51 := Option.some.inj (show some (y_36, true) = some r from H_50); subst H_51
        refine VL_ret ?_
        exact P_to [(4, .c (.val (.int .i64 y_36))), (5, .c (.val (.bool true)))] [] [] hn (by kernel_rfl) (by kernel_rfl) rfl rfl rfl (QF_retS (by kernel_rfl) (by kernel_rfl) rfl)
      · have H_49 := of_f H_46 b_20
        obtain ⟨r_22, h_23, H_52⟩ := of_bind H_49
        rcases Bool.eq_false_or_eq_true (r_22) with b_24 | b_24
        · have H_53 := of_t H_52 b_24
          obtain ⟨r_25, h_26, H_55⟩ := of_bind H_53
          obtain ⟨c_27, H_56⟩ := of_if H_55
          refine V_reg hN hn [(16, ⟨46, 0, [.c (.val (.int .i64 (List.getD ([] : (List Int)) (Int.toNat y_36) (0 : Int))))], [], .c (.val (.bool r_22)), [], [], 0⟩), (19, ⟨46, 0, [.c (.val (.int .i64 target_2))], [], .c (.val (.bool r_25)), [], [], 0⟩)] [(35, true), (42, false), (48, true)] (calls_cons (slices_isNaN_spec K (List.getD ([] : (List Int)) (Int.toNat y_36) (0 : Int)) r_22 h_23) (by kernel_rfl) (calls_cons (slices_isNaN_spec K target_2 r_25 h_26) (by kernel_rfl) calls_nil)) 0 [4, 5] [] ⟨[(4, .c (.val (.int .i64 y_36))), (5, .c (.val (.bool r_25)))], [], 0⟩ [(decide (y_36 < (((List.length ([] : (List Int))) : Nat) : Int))) = true, 0 ≤ y_36, y_36 < (((List.length ([] : (List Int))) : Nat) : Int), ((List.getD ([] : (List Int)) (Int.toNat y_36) (0 : Int)) == target_2) = false, 0 ≤ y_36, y_36 < (((List.length ([] : (List Int))) : Nat) : Int), r_22 = true] (by kernel_rfl) rfl rfl (ap2 b_19 (ap2 c_27.1 (ap2 c_27.2 (ap2 b_20 (ap2 c_27.1 (ap2 c_27.2 (ap1 b_24))))))) (by kernel_rfl) (by kernel_rfl) ?_
          have H_57 := Option.some.inj (show some (y_36, r_25) = some r from H_56); subst H_57
          refine VL_ret ?_
          exact P_to [(4, .c (.val (.int .i64 y_36))), (5, .c (.val (.bool r_25)))] [] [] hn (by kernel_rfl) (by kernel_rfl) rfl rfl rfl (QF_retS (by kernel_rfl) (by kernel_rfl) rfl)
        · have H_54 := of_f H_52 b_24
          obtain ⟨c_28, H_58⟩ := of_if H_54
          refine V_reg hN hn [(16, ⟨46, 0, [.c (.val (.int .i64 (List.getD ([] : (List Int)) (Int.toNat y_36) (0 : Int))))], [], .c (.val (.bool r_22)), [], [], 0⟩)] [(35, true), (42, false), (48, false)] (calls_cons (slices_isNaN_spec K (List.getD ([] : (List Int)) (Int.toNat y_36) (0 : Int)) r_22 h_23) (by kernel_rfl) calls_nil) 0 [4, 5] [] ⟨[(4, .c (.val (.int .i64 y_36))), (5, .c (.val (.bool false)))], [], 0⟩ [(decide (y_36 < (((List.length ([] : (List Int))) : Nat) : Int))) = true, 0 ≤ y_36, y_36 < (((List.length ([] : (List Int))) : Nat) : Int), ((List.getD ([] : (List Int)) (Int.toNat y_36) (0 : Int)) == target_2) = false, 0 ≤ y_36, y_36 < (((List.length ([] : (List Int))) : Nat) : Int), r_22 = false] (by kernel_rfl) rfl rfl (ap2 b_19 (ap2 c_28.1 (ap2 c_28.2 (ap2 b_20 (ap2 c_28.1 (ap2 c_28.2 (ap1 b_24))))))) (by kernel_rfl) (by kernel_rfl) ?_
          have H_59 := Option.some.inj (show some (y_36, false) = some r from H_58); subst H_59
          refine VL_ret ?_
          exact P_to [(4, .c (.val (.int .i64 y_36))), (5, .c (.val (.bool false)))] [] [] hn (by kernel_rfl) (by kernel_rfl) rfl rfl rfl (QF_retS (by kernel_rfl) (by kernel_rfl) rfl)
    · have H_47 := of_f H_35 b_19
      refine V_reg hN hn [] [(35, false)] calls_nil 0 [4, 5] [] ⟨[(4, .c (.val (.int .i64 y_36))), (5, .c (.val (.bool false)))], [], 0⟩ [(decide (y_36 < (((List.length ([] : (List Int))) : Nat) : Int))) = false] (by kernel_rfl) rfl rfl (ap1 b_19) (by kernel_rfl) (by kernel_rfl) ?_
      have H_60 := Option.some.inj (show some (y_36, false) = some r from H_47); subst H_60
      refine VL_ret ?_
      exact P_to [(4, .c (.val (.int .i64 y_36))), (5, .c (.val (.bool false)))] [] [] hn (by kernel_rfl) (by kernel_rfl) rfl rfl rfl (QF_retS (by kernel_rfl) (by kernel_rfl) rfl)

def insRen : Go.Shelf.Ren := ⟨fun n => match n with | 21 => 31 | 27 => 47 | 28 => 48 | 35 => 56 | 39 => 59 | n => n, fun n => match n with | 0 => 0 | 3 => 3 | 4 => 4 | 22 => 23 | n => n, fun n => n⟩

theorem insLays : Lays2.n21 Try.prog insRen where
  mixed := by kernel_rfl
  f21 := by kernel_rfl
  f27 := by kernel_rfl
  f28 := by kernel_rfl
  f35 := by kernel_rfl
  f39 := by kernel_rfl
  t0 := by kernel_rfl
  a0 := fun _ => by kernel_rfl
  z0 := fun _ => by kernel_rfl
  v0 := fun _ => by kernel_rfl
  t3 := by kernel_rfl
  a3 := fun _ => by kernel_rfl
  z3 := fun _ => by kernel_rfl
  v3 := fun _ => by kernel_rfl
  t4 := by kernel_rfl
  a4 := fun _ => by kernel_rfl
  z4 := fun _ => by kernel_rfl
  v4 := fun _ => by kernel_rfl
  t22 := by kernel_rfl
  a22 := fun _ => by kernel_rfl
  z22 := fun _ => by kernel_rfl
  v22 := fun _ => by kernel_rfl
  i3 := by kernel_rfl

theorem slices_Insert_rgr_spec (K : Nat) (s_1 : (List Int)) (i_2 : Int) (v_3 : (List Int)) (r : (List Int)) (H : slices_Insert_rgr K s_1 i_2 v_3 = some r) : Spec Try.prog 31 2 [.c (.h 0), .c (.val (.int .i64 i_2)), .c (.h 1)] [(0, .row (.int .i64) s_1), (1, .row (.int .i64) v_3)] (.c (.h 2)) [(2, .row (.int .i64) r)] := by
  unfold slices_Insert_rgr at H
  obtain ⟨c_1, H⟩ := of_if H
  have e := Option.some.inj H
  subst e
  exact Insert_spec insLays s_1 v_3 i_2 c_1.1 c_1.2.1 c_1.2.2.1 c_1.2.2.2

theorem breaks_Put_ng_spec (K : Nat) (at_2 : Int) (r : ((List Int) × Int)) (H : breaks_Put_ng K ([] : (List Int)) at_2 = some r) : Spec Try.prog 18 0 [.c (.val (.slice none 0 0)), .c (.val (.int .i64 at_2))] [] (.tup [(false, [.h 3]), (false, [.val (.int .i64 r.2)])]) [(3, .row (.int .i64) r.1)] := by
  refine Spec_mk (fn := Try.f18) (c := (Try.f18.body).get!) Try.func18 (by kernel_rfl) rfl ?_
  intro C hN hn
  replace hN : C.N = 45 := hN
  unfold breaks_Put_ng at H
  refine V_run hN hn 4 0 [0, 1] [] ⟨[(0, .c (.val (.slice none 0 0))), (1, .c (.val (.int .i64 at_2)))], [], 0⟩ [] (by kernel_rfl) rfl rfl ap0 ?_
  obtain ⟨q_31, H_32, H_33⟩ := of_bind H
  refine V_cut (Y := Bool) (R := Bool) q_31 (fun y => y) (fun y => [(0, .c (.val (.slice none 0 0))), (1, .c (.val (.int .i64 at_2))), (19, .c (.val (.bool y)))]) (fun y => []) ?_ ?_
  · skip
    obtain ⟨r_4, h_5, H_35⟩ := of_bind H_32
    rcases Bool.eq_false_or_eq_true ((!r_4)) with b_6 | b_6
    · have H_36 := of_t H_35 b_6
      refine V_reg hN hn [(1, ⟨14, 0, [.c (.val (.slice none 0 0)), .c (.val (.int .i64 (20000 : Int)))], [], .c (.val (.bool r_4)), [], [], 0⟩)] [(12, true)] (calls_cons (breaks_Is_ng_spec K (20000 : Int) r_4 h_5) (by kernel_rfl) calls_nil) 0 [0, 1, 19] [] ⟨[(0, .c (.val (.slice none 0 0))), (1, .c (.val (.int .i64 at_2))), (19, .c (.val (.bool true)))], [], 0⟩ [(!r_4) = true] (by kernel_rfl) rfl rfl (ap1 b_6) (by kernel_rfl) (by kernel_rfl) ?_
      have H_38 := Option.some.inj (show some true = some q_31 from H_36); subst H_38
      refine VL_nil ?_
      exact QP_end true rfl [] hn (by kernel_rfl) (by kernel_rfl) rfl rfl rfl
    · have H_37 := of_f H_35 b_6
      rcases Bool.eq_false_or_eq_true ((decide (at_2 ≤ (0 : Int)))) with b_8 | b_8
      · have H_39 := of_t H_37 b_8
        refine V_reg hN hn [(1, ⟨14, 0, [.c (.val (.slice none 0 0)), .c (.val (.int .i64 (20000 : Int)))], [], .c (.val (.bool r_4)), [], [], 0⟩)] [(12, false), (16, true)] (calls_cons (breaks_Is_ng_spec K (20000 : Int) r_4 h_5) (by kernel_rfl) calls_nil) 0 [0, 1, 19] [] ⟨[(0, .c (.val (.slice none 0 0))), (1, .c (.val (.int .i64 at_2))), (19, .c (.val (.bool true)))], [], 0⟩ [(!r_4) = false, (decide (at_2 ≤ (0 : Int))) = true] (by kernel_rfl) rfl rfl (ap2 b_6 (ap1 b_8)) (by kernel_rfl) (by kernel_rfl) ?_
        have H_41 := Option.some.inj (show some true = some q_31 from H_39); subst H_41
        refine VL_nil ?_
        exact QP_end true rfl [] hn (by kernel_rfl) (by kernel_rfl) rfl rfl rfl
      · have H_40 := of_f H_37 b_8
        refine V_reg hN hn [(1, ⟨14, 0, [.c (.val (.slice none 0 0)), .c (.val (.int .i64 (20000 : Int)))], [], .c (.val (.bool r_4)), [], [], 0⟩)] [(12, false), (16, false)] (calls_cons (breaks_Is_ng_spec K (20000 : Int) r_4 h_5) (by kernel_rfl) calls_nil) 0 [0, 1, 19] [] ⟨[(0, .c (.val (.slice none 0 0))), (1, .c (.val (.int .i64 at_2))), (19, .c (.val (.bool (decide (at_2 ≥ (20000 : Int))))))], [], 0⟩ [(!r_4) = false, (decide (at_2 ≤ (0 : Int))) = false] (by kernel_rfl) rfl rfl (ap2 b_6 (ap1 b_8)) (by kernel_rfl) (by kernel_rfl) ?_
        have H_42 := Option.some.inj (show some (decide (at_2 ≥ (20000 : Int))) = some q_31 from H_40); subst H_42
        refine VL_nil ?_
        exact QP_end (decide (at_2 ≥ (20000 : Int))) rfl [] hn (by kernel_rfl) (by kernel_rfl) rfl rfl rfl
  · intro y_34 hy; subst hy
    skip
    skip
    refine VL_cond (y_34) (by kernel_rfl) ?_ ?_
    · intro b_12; have H_43 := of_t H_33 b_12
      refine V_run hN hn 2 0 [4, 5] [] ⟨[(4, .c (.val (.slice none 0 0))), (5, .c (.val (.int .i64 (12 : Int))))], [], 0⟩ [] (by kernel_rfl) rfl rfl ap0 ?_
      have H_45 := Option.some.inj (show some (([] : List Int), (12 : Int)) = some r from H_43); subst H_45
      refine VL_ret ?_
      refine P_ghost [.nilSlot 4 (.int .i64)] 0 hn [4, 5] [0] ⟨[(4, .c (.h 0)), (5, .c (.val (.int .i64 (12 : Int))))], [(0, .row (.int .i64) ([] : List Int))], 1⟩ (by kernel_rfl) rfl rfl ?_
      exact P_to [(4, .c (.h 3)), (5, .c (.val (.int .i64 (12 : Int))))] [(3, .row (.int .i64) ([] : List Int))] [(3, 0)] hn (by kernel_rfl) (by kernel_rfl) rfl rfl rfl (QF_retS (by kernel_rfl) (by kernel_rfl) rfl)
    · intro b_12; have H_44 := of_f H_33 b_12
      refine V_run hN hn 2 0 [0, 1, 19] [] ⟨[(0, .c (.val (.slice none 0 0))), (1, .c (.val (.int .i64 at_2))), (19, .c (.val (.bool y_34)))], [], 0⟩ [] (by kernel_rfl) rfl rfl ap0 ?_
      obtain ⟨r_15, h_16, H_46⟩ := of_bind H_44
      refine V_reg hN hn [(2, ⟨30, 0, [.c (.val (.slice none 0 0)), .c (.val (.int .i64 at_2))], [], .tup [(false, [.val (.int .i64 r_15.1)]), (false, [.val (.bool r_15.2)])], [], [], 0⟩)] [] (calls_cons (slices_BinarySearch_ng_spec K at_2 r_15 h_16) (by kernel_rfl) calls_nil) 0 [0, 1, 6, 7] [] ⟨[(0, .c (.val (.slice none 0 0))), (1, .c (.val (.int .i64 at_2))), (6, .c (.val (.int .i64 r_15.1))), (7, .c (.val (.bool r_15.2)))], [], 0⟩ [] (by kernel_rfl) rfl rfl ap0 (by kernel_rfl) (by kernel_rfl) ?_
      obtain ⟨c_18, H_47⟩ := of_if H_46
      refine V_run hN hn 7 0 [0, 1, 6, 8, 35] [0] ⟨[(0, .c (.val (.slice none 0 0))), (1, .c (.val (.int .i64 at_2))), (6, .c (.val (.int .i64 r_15.1))), (8, .c (.h 0)), (35, .c (.val (.bool r_15.2)))], [(0, .row (.int .i64) (putAt (List.replicate (Int.toNat (((List.length ([] : (List Int))) : Nat) : Int)) (0 : Int)) (List.take (List.length (List.replicate (Int.toNat (((List.length ([] : (List Int))) : Nat) : Int)) (0 : Int))) ([] : (List Int))) 0))], 1⟩ [(0 : Int) ≤ (((List.length ([] : (List Int))) : Nat) : Int), (((List.length ([] : (List Int))) : Nat) : Int) ≤ (IntKind.wrap .i64 ((((List.length ([] : (List Int))) : Nat) : Int) + (1 : Int))), (IntKind.wrap .i64 ((((List.length ([] : (List Int))) : Nat) : Int) + (1 : Int))) * 8 ≤ (140737488355328 : Int), (IntKind.wrap .i64 ((((List.length ([] : (List Int))) : Nat) : Int) + (1 : Int))) ≤ (9223372036854775807 : Int)] (by kernel_rfl) rfl rfl (ap2 c_18.1 (ap2 c_18.2.1 (ap2 c_18.2.2.1 (ap1 c_18.2.2.2)))) ?_
      refine VL_cond (r_15.2) (by kernel_rfl) ?_ ?_
      · intro b_19; have H_48 := of_t H_47 b_19
        refine V_run hN hn 2 1 [4, 5] [0] ⟨[(4, .c (.h 0)), (5, .c (.val (.int .i64 (0 : Int))))], [(0, .row (.int .i64) (putAt (List.replicate (Int.toNat (((List.length ([] : (List Int))) : Nat) : Int)) (0 : Int)) (List.take (List.length (List.replicate (Int.toNat (((List.length ([] : (List Int))) : Nat) : Int)) (0 : Int))) ([] : (List Int))) 0))], 1⟩ [] (by kernel_rfl) rfl rfl ap0 ?_
        have H_50 := Option.some.inj (show some ((putAt (List.replicate (Int.toNat (((List.length ([] : (List Int))) : Nat) : Int)) (0 : Int)) (List.take (List.length (List.replicate (Int.toNat (((List.length ([] : (List Int))) : Nat) : Int)) (0 : Int))) ([] : (List Int))) 0), (0 : Int)) = some r from H_48); subst H_50
        refine VL_ret ?_
        exact P_to [(4, .c (.h 3)), (5, .c (.val (.int .i64 (0 : Int))))] [(3, .row (.int .i64) (putAt (List.replicate (Int.toNat (((List.length ([] : (List Int))) : Nat) : Int)) (0 : Int)) (List.take (List.length (List.replicate (Int.toNat (((List.length ([] : (List Int))) : Nat) : Int)) (0 : Int))) ([] : (List Int))) 0))] [(3, 0)] hn (by kernel_rfl) (by kernel_rfl) rfl rfl rfl (QF_retS (by kernel_rfl) (by kernel_rfl) rfl)
      · intro b_19; have H_49 := of_f H_47 b_19
        refine V_run hN hn 4 1 [1, 6, 8, 39] [0] ⟨[(1, .c (.val (.int .i64 at_2))), (6, .c (.val (.int .i64 r_15.1))), (8, .c (.h 0)), (39, .c (.val (.bool (decide ((((List.length ([] : (List Int))) : Nat) : Int) ≥ (60 : Int))))))], [(0, .row (.int .i64) (putAt (List.replicate (Int.toNat (((List.length ([] : (List Int))) : Nat) : Int)) (0 : Int)) (List.take (List.length (List.replicate (Int.toNat (((List.length ([] : (List Int))) : Nat) : Int)) (0 : Int))) ([] : (List Int))) 0))], 1⟩ [] (by kernel_rfl) rfl rfl ap0 ?_
        refine VL_cond ((decide ((((List.length ([] : (List Int))) : Nat) : Int) ≥ (60 : Int)))) (by kernel_rfl) ?_ ?_
        · intro b_22; have H_51 := of_t H_49 b_22
          refine V_run hN hn 2 1 [4, 5] [] ⟨[(4, .c (.val (.slice none 0 0))), (5, .c (.val (.int .i64 (70 : Int))))], [], 1⟩ [] (by kernel_rfl) rfl rfl ap0 ?_
          have H_53 := Option.some.inj (show some (([] : List Int), (70 : Int)) = some r from H_51); subst H_53
          refine VL_ret ?_
          refine P_ghost [.nilSlot 4 (.int .i64)] 1 hn [4, 5] [1] ⟨[(4, .c (.h 1)), (5, .c (.val (.int .i64 (70 : Int))))], [(1, .row (.int .i64) ([] : List Int))], 2⟩ (by kernel_rfl) rfl rfl ?_
          exact P_to [(4, .c (.h 3)), (5, .c (.val (.int .i64 (70 : Int))))] [(3, .row (.int .i64) ([] : List Int))] [(3, 1)] hn (by kernel_rfl) (by kernel_rfl) rfl rfl rfl (QF_retS (by kernel_rfl) (by kernel_rfl) rfl)
        · intro b_22; have H_52 := of_f H_49 b_22
          refine V_run hN hn 2 1 [1, 6, 8, 39] [0] ⟨[(1, .c (.val (.int .i64 at_2))), (6, .c (.val (.int .i64 r_15.1))), (8, .c (.h 0)), (39, .c (.val (.bool (decide ((((List.length ([] : (List Int))) : Nat) : Int) ≥ (60 : Int))))))], [(0, .row (.int .i64) (putAt (List.replicate (Int.toNat (((List.length ([] : (List Int))) : Nat) : Int)) (0 : Int)) (List.take (List.length (List.replicate (Int.toNat (((List.length ([] : (List Int))) : Nat) : Int)) (0 : Int))) ([] : (List Int))) 0))], 1⟩ [] (by kernel_rfl) rfl rfl ap0 ?_
          obtain ⟨r_25, h_26, H_54⟩ := of_bind H_52
          refine V_reg hN hn [(4, ⟨31, 2, [.c (.h 0), .c (.val (.int .i64 r_15.1)), .c (.h 1)], [(0, .row (.int .i64) (putAt (List.replicate (Int.toNat (((List.length ([] : (List Int))) : Nat) : Int)) (0 : Int)) (List.take (List.length (List.replicate (Int.toNat (((List.length ([] : (List Int))) : Nat) : Int)) (0 : Int))) ([] : (List Int))) 0)), (1, .row (.int .i64) ([at_2] : List Int))], .c (.h 2), [(2, .row (.int .i64) r_25)], [(0, 0), (1, 1), (2, 2)], 3⟩)] [] (calls_cons (slices_Insert_rgr_spec K (putAt (List.replicate (Int.toNat (((List.length ([] : (List Int))) : Nat) : Int)) (0 : Int)) (List.take (List.length (List.replicate (Int.toNat (((List.length ([] : (List Int))) : Nat) : Int)) (0 : Int))) ([] : (List Int))) 0) r_15.1 ([at_2] : List Int) r_25 h_26) (by kernel_rfl) calls_nil) 1 [4, 5] [2] ⟨[(4, .c (.h 2)), (5, .c (.val (.int .i64 (0 : Int))))], [(2, .row (.int .i64) r_25)], 3⟩ [] (by kernel_rfl) rfl rfl ap0 (by kernel_rfl) (by kernel_rfl) ?_
          have H_55 := Option.some.inj (show some (r_25, (0 : Int)) = some r from H_54); subst H_55
          refine VL_ret ?_
          exact P_to [(4, .c (.h 3)), (5, .c (.val (.int .i64 (0 : Int))))] [(3, .row (.int .i64) r_25)] [(3, 2)] hn (by kernel_rfl) (by kernel_rfl) rfl rfl rfl (QF_retS (by kernel_rfl) (by kernel_rfl) rfl)

theorem breaks_Is_rg_spec (K : Nat) (l_1 : (List Int)) (n_2 : Int) (r : Bool) (H : breaks_Is_ng K l_1 n_2 = some r) : Spec Try.prog 14 1 [.c (.h 0), .c (.val (.int .i64 n_2))] [(0, .row (.int .i64) l_1)] (.c (.val (.bool r))) [(0, .row (.int .i64) l_1)] := by
  refine Spec_mk (fn := Try.f14) (c := (Try.f14.body).get!) Try.func14 (by kernel_rfl) rfl ?_
  intro C hN hn
  replace hN : C.N = 40 := hN
  unfold breaks_Is_ng at H
  refine V_run hN hn 7 1 [0, 1, 9, 10, 11] [0] ⟨[(0, .c (.h 0)), (1, .c (.val (.int .i64 (mn2 n_2 (20000 : Int))))), (9, .c (.h 0)), (10, .c (.val (.int .i64 (((List.length l_1) : Nat) : Int)))), (11, .c (.val (.int .i64 (0 : Int))))], [(0, .row (.int .i64) l_1)], 1⟩ [] (by kernel_rfl) rfl rfl ap0 ?_
  refine VL_block ?_
  refine V_to [(0, .c (.h 0)), (1, .c (.val (.int .i64 (mn2 n_2 (20000 : Int))))), (9, .c (.h 0)), (10, .c (.val (.int .i64 (((List.length l_1) : Nat) : Int)))), (11, .c (.val (.int .i64 (0 : Int))))] [(0, .row (.int .i64) l_1)] [] hn (by kernel_rfl) (by kernel_rfl) rfl rfl rfl ?_
  refine VL_loop (X := Int) (fun x => [(0, .c (.h 0)), (1, .c (.val (.int .i64 (mn2 n_2 (20000 : Int))))), (9, .c (.h 0)), (10, .c (.val (.int .i64 (((List.length l_1) : Nat) : Int)))), (11, .c (.val (.int .i64 x)))]) (fun x => [(0, .row (.int .i64) l_1)]) (fun k x => breaks_Is_ng.l0 K l_1 n_2 k x = some r) K (0 : Int) H (fun _ h => no_none h) ?_
  intro k_5 t_4 H_26
  have H_27 : breaks_Is_ng.l0 K l_1 n_2 (k_5 + 1) t_4 = some r := H_26
  rw [breaks_Is_ng.l0] at H_27
  refine V_run hN hn 3 1 [0, 1, 9, 10, 11, 12] [0] ⟨[(0, .c (.h 0)), (1, .c (.val (.int .i64 (mn2 n_2 (20000 : Int))))), (9, .c (.h 0)), (10, .c (.val (.int .i64 (((List.length l_1) : Nat) : Int)))), (11, .c (.val (.int .i64 t_4))), (12, .c (.val (.bool (decide (t_4 < (((List.length l_1) : Nat) : Int))))))], [(0, .row (.int .i64) l_1)], 1⟩ [] (by kernel_rfl) rfl rfl ap0 ?_
  refine VL_cond ((decide (t_4 < (((List.length l_1) : Nat) : Int)))) (by kernel_rfl) ?_ ?_
  · intro b_7; have H_28 := of_t H_27 b_7
    refine V_run hN hn 2 1 [0, 1, 9, 10, 11, 12] [0] ⟨[(0, .c (.h 0)), (1, .c (.val (.int .i64 (mn2 n_2 (20000 : Int))))), (9, .c (.h 0)), (10, .c (.val (.int .i64 (((List.length l_1) : Nat) : Int)))), (11, .c (.val (.int .i64 t_4))), (12, .c (.val (.bool (decide (t_4 < (((List.length l_1) : Nat) : Int))))))], [(0, .row (.int .i64) l_1)], 1⟩ [] (by kernel_rfl) rfl rfl ap0 ?_
    refine VL_block ?_
    obtain ⟨c_9, H_30⟩ := of_if H_28
    refine V_run hN hn 3 1 [0, 1, 5, 6, 9, 10, 11] [0] ⟨[(0, .c (.h 0)), (1, .c (.val (.int .i64 (mn2 n_2 (20000 : Int))))), (5, .c (.val (.int .i64 t_4))), (6, .c (.val (.int .i64 (List.getD l_1 (Int.toNat t_4) (0 : Int))))), (9, .c (.h 0)), (10, .c (.val (.int .i64 (((List.length l_1) : Nat) : Int)))), (11, .c (.val (.int .i64 t_4)))], [(0, .row (.int .i64) l_1)], 1⟩ [0 ≤ t_4, t_4 < (((List.length l_1) : Nat) : Int)] (by kernel_rfl) rfl rfl (ap2 c_9.1 (ap1 c_9.2)) ?_
    obtain ⟨q_31, H_32, H_33⟩ := of_bind H_30
    refine V_cut (Y := Bool) (R := Bool) q_31 (fun y => y) (fun y => [(0, .c (.h 0)), (1, .c (.val (.int .i64 (mn2 n_2 (20000 : Int))))), (9, .c (.h 0)), (10, .c (.val (.int .i64 (((List.length l_1) : Nat) : Int)))), (11, .c (.val (.int .i64 t_4))), (35, .c (.val (.bool y)))]) (fun y => [(0, .row (.int .i64) l_1)]) ?_ ?_
    · skip
      rcases Bool.eq_false_or_eq_true ((decide ((List.getD l_1 (Int.toNat t_4) (0 : Int)) ≤ (0 : Int)))) with b_10 | b_10
      · have H_35 := of_t H_32 b_10
        refine V_reg hN hn [] [(18, true)] calls_nil 1 [0, 1, 9, 10, 11, 35] [0] ⟨[(0, .c (.h 0)), (1, .c (.val (.int .i64 (mn2 n_2 (20000 : Int))))), (9, .c (.h 0)), (10, .c (.val (.int .i64 (((List.length l_1) : Nat) : Int)))), (11, .c (.val (.int .i64 t_4))), (35, .c (.val (.bool true)))], [(0, .row (.int .i64) l_1)], 1⟩ [(decide ((List.getD l_1 (Int.toNat t_4) (0 : Int)) ≤ (0 : Int))) = true] (by kernel_rfl) rfl rfl (ap1 b_10) (by kernel_rfl) (by kernel_rfl) ?_
        have H_37 := Option.some.inj (show some true = some q_31 from H_35); subst H_37
        refine VL_nil ?_
        exact QP_end true rfl [] hn (by kernel_rfl) (by kernel_rfl) rfl rfl rfl
      · have H_36 := of_f H_32 b_10
        rcases Bool.eq_false_or_eq_true ((decide ((List.getD l_1 (Int.toNat t_4) (0 : Int)) ≥ (mn2 n_2 (20000 : Int))))) with b_12 | b_12
        · have H_38 := of_t H_36 b_12
          refine V_reg hN hn [] [(18, false), (23, true)] calls_nil 1 [0, 1, 9, 10, 11, 35] [0] ⟨[(0, .c (.h 0)), (1, .c (.val (.int .i64 (mn2 n_2 (20000 : Int))))), (9, .c (.h 0)), (10, .c (.val (.int .i64 (((List.length l_1) : Nat) : Int)))), (11, .c (.val (.int .i64 t_4))), (35, .c (.val (.bool true)))], [(0, .row (.int .i64) l_1)], 1⟩ [(decide ((List.getD l_1 (Int.toNat t_4) (0 : Int)) ≤ (0 : Int))) = false, (decide ((List.getD l_1 (Int.toNat t_4) (0 : Int)) ≥ (mn2 n_2 (20000 : Int)))) = true] (by kernel_rfl) rfl rfl (ap2 b_10 (ap1 b_12)) (by kernel_rfl) (by kernel_rfl) ?_
          have H_40 := Option.some.inj (show some true = some q_31 from H_38); subst H_40
          refine VL_nil ?_
          exact QP_end true rfl [] hn (by kernel_rfl) (by kernel_rfl) rfl rfl rfl
        · have H_39 := of_f H_36 b_12
          rcases Bool.eq_false_or_eq_true ((decide (t_4 > (0 : Int)))) with b_14 | b_14
          · have H_41 := of_t H_39 b_14
            obtain ⟨c_15, H_43⟩ := of_if H_41
            refine V_reg hN hn [] [(18, false), (23, false), (26, true)] calls_nil 1 [0, 1, 9, 10, 11, 35] [0] ⟨[(0, .c (.h 0)), (1, .c (.val (.int .i64 (mn2 n_2 (20000 : Int))))), (9, .c (.h 0)), (10, .c (.val (.int .i64 (((List.length l_1) : Nat) : Int)))), (11, .c (.val (.int .i64 t_4))), (35, .c (.val (.bool (decide ((List.getD l_1 (Int.toNat t_4) (0 : Int)) ≤ (List.getD l_1 (Int.toNat (IntKind.wrap .i64 (t_4 - (1 : Int)))) (0 : Int)))))))], [(0, .row (.int .i64) l_1)], 1⟩ [(decide ((List.getD l_1 (Int.toNat t_4) (0 : Int)) ≤ (0 : Int))) = false, (decide ((List.getD l_1 (Int.toNat t_4) (0 : Int)) ≥ (mn2 n_2 (20000 : Int)))) = false, (decide (t_4 > (0 : Int))) = true, 0 ≤ (IntKind.wrap .i64 (t_4 - (1 : Int))), (IntKind.wrap .i64 (t_4 - (1 : Int))) < (((List.length l_1) : Nat) : Int)] (by kernel_rfl) rfl rfl (ap2 b_10 (ap2 b_12 (ap2 b_14 (ap2 c_15.1 (ap1 c_15.2))))) (by kernel_rfl) (by kernel_rfl) ?_
            have H_44 := Option.some.inj (show some (decide ((List.getD l_1 (Int.toNat t_4) (0 : Int)) ≤ (List.getD l_1 (Int.toNat (IntKind.wrap .i64 (t_4 - (1 : Int)))) (0 : Int)))) = some q_31 from H_43); subst H_44
            refine VL_nil ?_
            exact QP_end (decide ((List.getD l_1 (Int.toNat t_4) (0 : Int)) ≤ (List.getD l_1 (Int.toNat (IntKind.wrap .i64 (t_4 - (1 : Int)))) (0 : Int)))) rfl [] hn (by kernel_rfl) (by kernel_rfl) rfl rfl rfl
          · have H_42 := of_f H_39 b_14
            refine V_reg hN hn [] [(18, false), (23, false), (26, false)] calls_nil 1 [0, 1, 9, 10, 11, 35] [0] ⟨[(0, .c (.h 0)), (1, .c (.val (.int .i64 (mn2 n_2 (20000 : Int))))), (9, .c (.h 0)), (10, .c (.val (.int .i64 (((List.length l_1) : Nat) : Int)))), (11, .c (.val (.int .i64 t_4))), (35, .c (.val (.bool false)))], [(0, .row (.int .i64) l_1)], 1⟩ [(decide ((List.getD l_1 (Int.toNat t_4) (0 : Int)) ≤ (0 : Int))) = false, (decide ((List.getD l_1 (Int.toNat t_4) (0 : Int)) ≥ (mn2 n_2 (20000 : Int)))) = false, (decide (t_4 > (0 : Int))) = false] (by kernel_rfl) rfl rfl (ap2 b_10 (ap2 b_12 (ap1 b_14))) (by kernel_rfl) (by kernel_rfl) ?_
            have H_45 := Option.some.inj (show some false = some q_31 from H_42); subst H_45
            refine VL_nil ?_
            exact QP_end false rfl [] hn (by kernel_rfl) (by kernel_rfl) rfl rfl rfl
    · intro y_34 hy; subst hy
      skip
      skip
      refine VL_cond (y_34) (by kernel_rfl) ?_ ?_
      · intro b_18; have H_46 := of_t H_33 b_18
        refine V_run hN hn 2 1 [4] [0] ⟨[(4, .c (.val (.bool false)))], [(0, .row (.int .i64) l_1)], 1⟩ [] (by kernel_rfl) rfl rfl ap0 ?_
        have H_48 := Option.some.inj (show some false = some r from H_46); subst H_48
        refine VL_ret ?_
        refine QB_ret ?_
        refine QL_ret ?_
        refine QB_ret ?_
        exact P_to [(4, .c (.val (.bool false)))] [(0, .row (.int .i64) l_1)] [] hn (by kernel_rfl) (by kernel_rfl) rfl rfl rfl (QF_retS (by kernel_rfl) (by kernel_rfl) rfl)
      · intro b_18; have H_47 := of_f H_33 b_18
        refine V_run hN hn 1 1 [0, 1, 9, 10, 11, 35] [0] ⟨[(0, .c (.h 0)), (1, .c (.val (.int .i64 (mn2 n_2 (20000 : Int))))), (9, .c (.h 0)), (10, .c (.val (.int .i64 (((List.length l_1) : Nat) : Int)))), (11, .c (.val (.int .i64 t_4))), (35, .c (.val (.bool y_34)))], [(0, .row (.int .i64) l_1)], 1⟩ [] (by kernel_rfl) rfl rfl ap0 ?_
        refine VL_nil (QB_end ?_)
        refine V_run hN hn 1 1 [0, 1, 9, 10, 11] [0] ⟨[(0, .c (.h 0)), (1, .c (.val (.int .i64 (mn2 n_2 (20000 : Int))))), (9, .c (.h 0)), (10, .c (.val (.int .i64 (((List.length l_1) : Nat) : Int)))), (11, .c (.val (.int .i64 (IntKind.wrap .i64 (t_4 + (1 : Int))))))], [(0, .row (.int .i64) l_1)], 1⟩ [] (by kernel_rfl) rfl rfl ap0 ?_
        refine VL_nil ?_
        exact V_roundEnd (IntKind.wrap .i64 (t_4 + (1 : Int))) H_47 [] hn (by kernel_rfl) (by kernel_rfl) rfl rfl rfl
  · intro b_7; have H_29 := of_f H_27 b_7
    refine VL_exit ?_
    refine QL_exit ?_
    refine QB_here ?_
    refine V_run hN hn 2 1 [4] [0] ⟨[(4, .c (.val (.bool (decide ((((List.length l_1) : Nat) : Int) ≤ (60 : Int))))))], [(0, .row (.int .i64) l_1)], 1⟩ [] (by kernel_rfl) rfl rfl ap0 ?_
    have H_49 := Option.some.inj (show some (decide ((((List.length l_1) : Nat) : Int) ≤ (60 : Int))) = some r from H_29); subst H_49
    refine VL_ret ?_
    exact P_to [(4, .c (.val (.bool (decide ((((List.length l_1) : Nat) : Int) ≤ (60 : Int))))))] [(0, .row (.int .i64) l_1)] [] hn (by kernel_rfl) (by kernel_rfl) rfl rfl rfl (QF_retS (by kernel_rfl) (by kernel_rfl) rfl)

theorem slices_BinarySearch_rg_spec (K : Nat) (x_1 : (List Int)) (target_2 : Int) (r : (Int × Bool)) (H : slices_BinarySearch_ng K x_1 target_2 = some r) : Spec Try.prog 30 1 [.c (.h 0), .c (.val (.int .i64 target_2))] [(0, .row (.int .i64) x_1)] (.tup [(false, [.val (.int .i64 r.1)]), (false, [.val (.bool r.2)])]) [(0, .row (.int .i64) x_1)] := by
  refine Spec_mk (fn := Try.f30) (c := (Try.f30.body).get!) Try.func30 (by kernel_rfl) rfl ?_
  intro C hN hn
  replace hN : C.N = 54 := hN
  unfold slices_BinarySearch_ng at H
  refine V_run hN hn 7 1 [0, 1, 6, 7, 8] [0] ⟨[(0, .c (.h 0)), (1, .c (.val (.int .i64 target_2))), (6, .c (.val (.int .i64 (((List.length x_1) : Nat) : Int)))), (7, .c (.val (.int .i64 (0 : Int)))), (8, .c (.val (.int .i64 (((List.length x_1) : Nat) : Int))))], [(0, .row (.int .i64) x_1)], 1⟩ [] (by kernel_rfl) rfl rfl ap0 ?_
  obtain ⟨q_33, H_34, H_35⟩ := of_bind H
  refine V_cut (Y := Int) (R := Int) q_33 (fun y => y) (fun y => [(0, .c (.h 0)), (1, .c (.val (.int .i64 target_2))), (6, .c (.val (.int .i64 (((List.length x_1) : Nat) : Int)))), (7, .c (.val (.int .i64 y)))]) (fun y => [(0, .row (.int .i64) x_1)]) ?_ ?_
  · skip
    refine VL_block ?_
    refine V_to [(0, .c (.h 0)), (1, .c (.val (.int .i64 target_2))), (6, .c (.val (.int .i64 (((List.length x_1) : Nat) : Int)))), (7, .c (.val (.int .i64 (0 : Int)))), (8, .c (.val (.int .i64 (((List.length x_1) : Nat) : Int))))] [(0, .row (.int .i64) x_1)] [] hn (by kernel_rfl) (by kernel_rfl) rfl rfl rfl ?_
    refine VL_loop (X := (Int × Int)) (fun x => [(0, .c (.h 0)), (1, .c (.val (.int .i64 target_2))), (6, .c (.val (.int .i64 (((List.length x_1) : Nat) : Int)))), (7, .c (.val (.int .i64 x.1))), (8, .c (.val (.int .i64 x.2)))]) (fun x => [(0, .row (.int .i64) x_1)]) (fun k x => slices_BinarySearch_ng.l0 K x_1 target_2 k x.1 x.2 = some q_33) K ((0 : Int), (((List.length x_1) : Nat) : Int)) H_34 (fun _ h => no_none h) ?_
    intro k_6 x_6 H_37
    obtain ⟨i_4, j_5⟩ := x_6
    have H_38 : slices_BinarySearch_ng.l0 K x_1 target_2 (k_6 + 1) i_4 j_5 = some q_33 := H_37
    rw [slices_BinarySearch_ng.l0] at H_38
    refine V_run hN hn 3 1 [0, 1, 6, 7, 8, 15] [0] ⟨[(0, .c (.h 0)), (1, .c (.val (.int .i64 target_2))), (6, .c (.val (.int .i64 (((List.length x_1) : Nat) : Int)))), (7, .c (.val (.int .i64 i_4))), (8, .c (.val (.int .i64 j_5))), (15, .c (.val (.bool (decide (i_4 < j_5)))))], [(0, .row (.int .i64) x_1)], 1⟩ [] (by kernel_rfl) rfl rfl ap0 ?_
    refine VL_cond ((decide (i_4 < j_5))) (by kernel_rfl) ?_ ?_
    · intro b_8; have H_39 := of_t H_38 b_8
      refine V_run hN hn 1 1 [0, 1, 6, 7, 8, 15] [0] ⟨[(0, .c (.h 0)), (1, .c (.val (.int .i64 target_2))), (6, .c (.val (.int .i64 (((List.length x_1) : Nat) : Int)))), (7, .c (.val (.int .i64 i_4))), (8, .c (.val (.int .i64 j_5))), (15, .c (.val (.bool (decide (i_4 < j_5)))))], [(0, .row (.int .i64) x_1)], 1⟩ [] (by kernel_rfl) rfl rfl ap0 ?_
      refine VL_block ?_
      refine V_run hN hn 3 1 [0, 1, 6, 7, 8, 9] [0] ⟨[(0, .c (.h 0)), (1, .c (.val (.int .i64 target_2))), (6, .c (.val (.int .i64 (((List.length x_1) : Nat) : Int)))), (7, .c (.val (.int .i64 i_4))), (8, .c (.val (.int .i64 j_5))), (9, .c (.val (.int .i64 (IntKind.wrap .i64 (Int.fdiv (IntKind.wrap .u64 (IntKind.wrap .i64 (i_4 + j_5))) (2 : Int))))))], [(0, .row (.int .i64) x_1)], 1⟩ [(0 : Int) ≤ (1 : Int)] (by kernel_rfl) rfl rfl (ap1 (by decide)) ?_
      obtain ⟨r_11, h_12, H_41⟩ := of_bind H_39
      obtain ⟨c_13, H_42⟩ := of_if H_41
      refine V_reg hN hn [(5, ⟨45, 0, [.c (.val (.int .i64 (List.getD x_1 (Int.toNat (IntKind.wrap .i64 (Int.fdiv (IntKind.wrap .u64 (IntKind.wrap .i64 (i_4 + j_5))) (2 : Int)))) (0 : Int)))), .c (.val (.int .i64 target_2))], [], .c (.val (.bool r_11)), [], [], 1⟩)] [] (calls_cons (cmp_Less_spec K (List.getD x_1 (Int.toNat (IntKind.wrap .i64 (Int.fdiv (IntKind.wrap .u64 (IntKind.wrap .i64 (i_4 + j_5))) (2 : Int)))) (0 : Int)) target_2 r_11 h_12) (by kernel_rfl) calls_nil) 1 [0, 1, 6, 7, 8, 9, 27] [0] ⟨[(0, .c (.h 0)), (1, .c (.val (.int .i64 target_2))), (6, .c (.val (.int .i64 (((List.length x_1) : Nat) : Int)))), (7, .c (.val (.int .i64 i_4))), (8, .c (.val (.int .i64 j_5))), (9, .c (.val (.int .i64 (IntKind.wrap .i64 (Int.fdiv (IntKind.wrap .u64 (IntKind.wrap .i64 (i_4 + j_5))) (2 : Int)))))), (27, .c (.val (.bool r_11)))], [(0, .row (.int .i64) x_1)], 1⟩ [0 ≤ (IntKind.wrap .i64 (Int.fdiv (IntKind.wrap .u64 (IntKind.wrap .i64 (i_4 + j_5))) (2 : Int))), (IntKind.wrap .i64 (Int.fdiv (IntKind.wrap .u64 (IntKind.wrap .i64 (i_4 + j_5))) (2 : Int))) < (((List.length x_1) : Nat) : Int)] (by kernel_rfl) rfl rfl (ap2 c_13.1 (ap1 c_13.2)) (by kernel_rfl) (by kernel_rfl) ?_
      refine VL_cond (r_11) (by kernel_rfl) ?_ ?_
      · intro b_14; have H_43 := of_t H_42 b_14
        refine V_run hN hn 1 1 [0, 1, 6, 7, 8] [0] ⟨[(0, .c (.h 0)), (1, .c (.val (.int .i64 target_2))), (6, .c (.val (.int .i64 (((List.length x_1) : Nat) : Int)))), (7, .c (.val (.int .i64 (IntKind.wrap .i64 ((IntKind.wrap .i64 (Int.fdiv (IntKind.wrap .u64 (IntKind.wrap .i64 (i_4 + j_5))) (2 : Int))) + (1 : Int)))))), (8, .c (.val (.int .i64 j_5)))], [(0, .row (.int .i64) x_1)], 1⟩ [] (by kernel_rfl) rfl rfl ap0 ?_
        refine VL_nil (QB_end ?_)
        refine VL_nil ?_
        exact V_roundEnd ((IntKind.wrap .i64 ((IntKind.wrap .i64 (Int.fdiv (IntKind.wrap .u64 (IntKind.wrap .i64 (i_4 + j_5))) (2 : Int))) + (1 : Int))), j_5) H_43 [] hn (by kernel_rfl) (by kernel_rfl) rfl rfl rfl
      · intro b_14; have H_44 := of_f H_42 b_14
        refine V_run hN hn 1 1 [0, 1, 6, 7, 8] [0] ⟨[(0, .c (.h 0)), (1, .c (.val (.int .i64 target_2))), (6, .c (.val (.int .i64 (((List.length x_1) : Nat) : Int)))), (7, .c (.val (.int .i64 i_4))), (8, .c (.val (.int .i64 (IntKind.wrap .i64 (Int.fdiv (IntKind.wrap .u64 (IntKind.wrap .i64 (i_4 + j_5))) (2 : Int))))))], [(0, .row (.int .i64) x_1)], 1⟩ [] (by kernel_rfl) rfl rfl ap0 ?_
        refine VL_nil (QB_end ?_)
        refine VL_nil ?_
        exact V_roundEnd (i_4, (IntKind.wrap .i64 (Int.fdiv (IntKind.wrap .u64 (IntKind.wrap .i64 (i_4 + j_5))) (2 : Int)))) H_44 [] hn (by kernel_rfl) (by kernel_rfl) rfl rfl rfl
    · intro b_8; have H_40 := of_f H_38 b_8
      refine VL_exit ?_
      refine QL_exit ?_
      refine QB_here ?_
      have H_45 := Option.some.inj (show some i_4 = some q_33 from H_40); subst H_45
      refine VL_nil ?_
      exact QP_end i_4 rfl [] hn (by kernel_rfl) (by kernel_rfl) rfl rfl rfl
  · intro y_36 hy; subst hy
    skip
    skip
    refine V_run hN hn 1 1 [0, 1, 6, 7] [0] ⟨[(0, .c (.h 0)), (1, .c (.val (.int .i64 target_2))), (6, .c (.val (.int .i64 (((List.length x_1) : Nat) : Int)))), (7, .c (.val (.int .i64 y_36)))], [(0, .row (.int .i64) x_1)], 1⟩ [] (by kernel_rfl) rfl rfl ap0 ?_
    rcases Bool.eq_false_or_eq_true ((decide (y_36 < (((List.length x_1) : Nat) : Int)))) with b_19 | b_19
    · have H_46 := of_t H_35 b_19
      rcases Bool.eq_false_or_eq_true (((List.getD x_1 (Int.toNat y_36) (0 : Int)) == target_2)) with b_20 | b_20
      · have H_48 := of_t H_46 b_20
        obtain ⟨c_21, H_50⟩ := of_if H_48
        refine V_reg hN hn [] [(35, true), (42, true)] calls_nil 1 [4, 5] [0] ⟨[(4, .c (.val (.int .i64 y_36))), (5, .c (.val (.bool true)))], [(0, .row (.int .i64) x_1)], 1⟩ [(decide (y_36 < (((List.length x_1) : Nat) : Int))) = true, 0 ≤ y_36, y_36 < (((List.length x_1) : Nat) : Int), ((List.getD x_1 (Int.toNat y_36) (0 : Int)) == target_2) = true] (by kernel_rfl) rfl rfl (ap2 b_19 (ap2 c_21.1 (ap2 c_21.2 (ap1 b_20)))) (by kernel_rfl) (by kernel_rfl) ?_
        have H_51 := Option.some.inj (show some (y_36, true) = some r from H_50); subst H_51
        refine VL_ret ?_
        exact P_to [(4, .c (.val (.int .i64 y_36))), (5, .c (.val (.bool true)))] [(0, .row (.int .i64) x_1)] [] hn (by kernel_rfl) (by kernel_rfl) rfl rfl rfl (QF_retS (by kernel_rfl) (by kernel_rfl) rfl)
      · have H_49 := of_f H_46 b_20
        obtain ⟨r_22, h_23, H_52⟩ := of_bind H_49
        rcases Bool.eq_false_or_eq_true (r_22) with b_24 | b_24
        · have H_53 := of_t H_52 b_24
          obtain ⟨r_25, h_26, H_55⟩ := of_bind H_53
          obtain ⟨c_27, H_56⟩ := of_if H_55
          refine V_reg hN hn [(16, ⟨46, 0, [.c (.val (.int .i64 (List.getD x_1 (Int.toNat y_36) (0 : Int))))], [], .c (.val (.bool r_22)), [], [], 1⟩), (19, ⟨46, 0, [.c (.val (.int .i64 target_2))], [], .c (.val (.bool r_25)), [], [], 1⟩)] [(35, true), (42, false), (48, true)] (calls_cons (slices_isNaN_spec K (List.getD x_1 (Int.toNat y_36) (0 : Int)) r_22 h_23) (by kernel_rfl) (calls_cons (slices_isNaN_spec K target_2 r_25 h_26) (by kernel_rfl) calls_nil)) 1 [4, 5] [0] ⟨[(4, .c (.val (.int .i64 y_36))), (5, .c (.val (.bool r_25)))], [(0, .row (.int .i64) x_1)], 1⟩ [(decide (y_36 < (((List.length x_1) : Nat) : Int))) = true, 0 ≤ y_36, y_36 < (((List.length x_1) : Nat) : Int), ((List.getD x_1 (Int.toNat y_36) (0 : Int)) == target_2) = false, 0 ≤ y_36, y_36 < (((List.length x_1) : Nat) : Int), r_22 = true] (by kernel_rfl) rfl rfl (ap2 b_19 (ap2 c_27.1 (ap2 c_27.2 (ap2 b_20 (ap2 c_27.1 (ap2 c_27.2 (ap1 b_24))))))) (by kernel_rfl) (by kernel_rfl) ?_
          have H_57 := Option.some.inj (show some (y_36, r_25) = some r from H_56); subst H_57
          refine VL_ret ?_
          exact P_to [(4, .c (.val (.int .i64 y_36))), (5, .c (.val (.bool r_25)))] [(0, .row (.int .i64) x_1)] [] hn (by kernel_rfl) (by kernel_rfl) rfl rfl rfl (QF_retS (by kernel_rfl) (by kernel_rfl) rfl)
        · have H_54 := of_f H_52 b_24
          obtain ⟨c_28, H_58⟩ := of_if H_54
          refine V_reg hN hn [(16, ⟨46, 0, [.c (.val (.int .i64 (List.getD x_1 (Int.toNat y_36) (0 : Int))))], [], .c (.val (.bool r_22)), [], [], 1⟩)] [(35, true), (42, false), (48, false)] (calls_cons (slices_isNaN_spec K (List.getD x_1 (Int.toNat y_36) (0 : Int)) r_22 h_23) (by kernel_rfl) calls_nil) 1 [4, 5] [0] ⟨[(4, .c (.val (.int .i64 y_36))), (5, .c (.val (.bool false)))], [(0, .row (.int .i64) x_1)], 1⟩ [(decide (y_36 < (((List.length x_1) : Nat) : Int))) = true, 0 ≤ y_36, y_36 < (((List.length x_1) : Nat) : Int), ((List.getD x_1 (Int.toNat y_36) (0 : Int)) == target_2) = false, 0 ≤ y_36, y_36 < (((List.length x_1) : Nat) : Int), r_22 = false] (by kernel_rfl) rfl rfl (ap2 b_19 (ap2 c_28.1 (ap2 c_28.2 (ap2 b_20 (ap2 c_28.1 (ap2 c_28.2 (ap1 b_24))))))) (by kernel_rfl) (by kernel_rfl) ?_
          have H_59 := Option.some.inj (show some (y_36, false) = some r from H_58); subst H_59
          refine VL_ret ?_
          exact P_to [(4, .c (.val (.int .i64 y_36))), (5, .c (.val (.bool false)))] [(0, .row (.int .i64) x_1)] [] hn (by kernel_rfl) (by kernel_rfl) rfl rfl rfl (QF_retS (by kernel_rfl) (by kernel_rfl) rfl)
    · have H_47 := of_f H_35 b_19
      refine V_reg hN hn [] [(35, false)] calls_nil 1 [4, 5] [0] ⟨[(4, .c (.val (.int .i64 y_36))), (5, .c (.val (.bool false)))], [(0, .row (.int .i64) x_1)], 1⟩ [(decide (y_36 < (((List.length x_1) : Nat) : Int))) = false] (by kernel_rfl) rfl rfl (ap1 b_19) (by kernel_rfl) (by kernel_rfl) ?_
      have H_60 := Option.some.inj (show some (y_36, false) = some r from H_47); subst H_60
      refine VL_ret ?_
      exact P_to [(4, .c (.val (.int .i64 y_36))), (5, .c (.val (.bool false)))] [(0, .row (.int .i64) x_1)] [] hn (by kernel_rfl) (by kernel_rfl) rfl rfl rfl (QF_retS (by kernel_rfl) (by kernel_rfl) rfl)

theorem breaks_Put_rg_spec (K : Nat) (l_1 : (List Int)) (at_2 : Int) (r : ((List Int) × Int)) (H : breaks_Put_ng K l_1 at_2 = some r) : Spec Try.prog 18 1 [.c (.h 0), .c (.val (.int .i64 at_2))] [(0, .row (.int .i64) l_1)] (.tup [(false, [.h 4]), (false, [.val (.int .i64 r.2)])]) [(0, .row (.int .i64) l_1), (4, .row (.int .i64) r.1)] := by
  refine Spec_mk (fn := Try.f18) (c := (Try.f18.body).get!) Try.func18 (by kernel_rfl) rfl ?_
  intro C hN hn
  replace hN : C.N = 45 := hN
  unfold breaks_Put_ng at H
  refine V_run hN hn 4 1 [0, 1] [0] ⟨[(0, .c (.h 0)), (1, .c (.val (.int .i64 at_2)))], [(0, .row (.int .i64) l_1)], 1⟩ [] (by kernel_rfl) rfl rfl ap0 ?_
  obtain ⟨q_31, H_32, H_33⟩ := of_bind H
  refine V_cut (Y := Bool) (R := Bool) q_31 (fun y => y) (fun y => [(0, .c (.h 0)), (1, .c (.val (.int .i64 at_2))), (19, .c (.val (.bool y)))]) (fun y => [(0, .row (.int .i64) l_1)]) ?_ ?_
  · skip
    obtain ⟨r_4, h_5, H_35⟩ := of_bind H_32
    rcases Bool.eq_false_or_eq_true ((!r_4)) with b_6 | b_6
    · have H_36 := of_t H_35 b_6
      refine V_reg hN hn [(1, ⟨14, 1, [.c (.h 0), .c (.val (.int .i64 (20000 : Int)))], [(0, .row (.int .i64) l_1)], .c (.val (.bool r_4)), [(0, .row (.int .i64) l_1)], [(0, 0)], 1⟩)] [(12, true)] (calls_cons (breaks_Is_rg_spec K l_1 (20000 : Int) r_4 h_5) (by kernel_rfl) calls_nil) 1 [0, 1, 19] [0] ⟨[(0, .c (.h 0)), (1, .c (.val (.int .i64 at_2))), (19, .c (.val (.bool true)))], [(0, .row (.int .i64) l_1)], 1⟩ [(!r_4) = true] (by kernel_rfl) rfl rfl (ap1 b_6) (by kernel_rfl) (by kernel_rfl) ?_
      have H_38 := Option.some.inj (show some true = some q_31 from H_36); subst H_38
      refine VL_nil ?_
      exact QP_end true rfl [] hn (by kernel_rfl) (by kernel_rfl) rfl rfl rfl
    · have H_37 := of_f H_35 b_6
      rcases Bool.eq_false_or_eq_true ((decide (at_2 ≤ (0 : Int)))) with b_8 | b_8
      · have H_39 := of_t H_37 b_8
        refine V_reg hN hn [(1, ⟨14, 1, [.c (.h 0), .c (.val (.int .i64 (20000 : Int)))], [(0, .row (.int .i64) l_1)], .c (.val (.bool r_4)), [(0, .row (.int .i64) l_1)], [(0, 0)], 1⟩)] [(12, false), (16, true)] (calls_cons (breaks_Is_rg_spec K l_1 (20000 : Int) r_4 h_5) (by kernel_rfl) calls_nil) 1 [0, 1, 19] [0] ⟨[(0, .c (.h 0)), (1, .c (.val (.int .i64 at_2))), (19, .c (.val (.bool true)))], [(0, .row (.int .i64) l_1)], 1⟩ [(!r_4) = false, (decide (at_2 ≤ (0 : Int))) = true] (by kernel_rfl) rfl rfl (ap2 b_6 (ap1 b_8)) (by kernel_rfl) (by kernel_rfl) ?_
        have H_41 := Option.some.inj (show some true = some q_31 from H_39); subst H_41
        refine VL_nil ?_
        exact QP_end true rfl [] hn (by kernel_rfl) (by kernel_rfl) rfl rfl rfl
      · have H_40 := of_f H_37 b_8
        refine V_reg hN hn [(1, ⟨14, 1, [.c (.h 0), .c (.val (.int .i64 (20000 : Int)))], [(0, .row (.int .i64) l_1)], .c (.val (.bool r_4)), [(0, .row (.int .i64) l_1)], [(0, 0)], 1⟩)] [(12, false), (16, false)] (calls_cons (breaks_Is_rg_spec K l_1 (20000 : Int) r_4 h_5) (by kernel_rfl) calls_nil) 1 [0, 1, 19] [0] ⟨[(0, .c (.h 0)), (1, .c (.val (.int .i64 at_2))), (19, .c (.val (.bool (decide (at_2 ≥ (20000 : Int))))))], [(0, .row (.int .i64) l_1)], 1⟩ [(!r_4) = false, (decide (at_2 ≤ (0 : Int))) = false] (by kernel_rfl) rfl rfl (ap2 b_6 (ap1 b_8)) (by kernel_rfl) (by kernel_rfl) ?_
        have H_42 := Option.some.inj (show some (decide (at_2 ≥ (20000 : Int))) = some q_31 from H_40); subst H_42
        refine VL_nil ?_
        exact QP_end (decide (at_2 ≥ (20000 : Int))) rfl [] hn (by kernel_rfl) (by kernel_rfl) rfl rfl rfl
  · intro y_34 hy; subst hy
    skip
    skip
    refine VL_cond (y_34) (by kernel_rfl) ?_ ?_
    · intro b_12; have H_43 := of_t H_33 b_12
      refine V_run hN hn 2 1 [4, 5] [0] ⟨[(4, .c (.val (.slice none 0 0))), (5, .c (.val (.int .i64 (12 : Int))))], [(0, .row (.int .i64) l_1)], 1⟩ [] (by kernel_rfl) rfl rfl ap0 ?_
      have H_45 := Option.some.inj (show some (([] : List Int), (12 : Int)) = some r from H_43); subst H_45
      refine VL_ret ?_
      refine P_ghost [.nilSlot 4 (.int .i64)] 1 hn [4, 5] [0, 1] ⟨[(4, .c (.h 1)), (5, .c (.val (.int .i64 (12 : Int))))], [(0, .row (.int .i64) l_1), (1, .row (.int .i64) ([] : List Int))], 2⟩ (by kernel_rfl) rfl rfl ?_
      exact P_to [(4, .c (.h 4)), (5, .c (.val (.int .i64 (12 : Int))))] [(0, .row (.int .i64) l_1), (4, .row (.int .i64) ([] : List Int))] [(4, 1)] hn (by kernel_rfl) (by kernel_rfl) rfl rfl rfl (QF_retS (by kernel_rfl) (by kernel_rfl) rfl)
    · intro b_12; have H_44 := of_f H_33 b_12
      refine V_run hN hn 2 1 [0, 1, 19] [0] ⟨[(0, .c (.h 0)), (1, .c (.val (.int .i64 at_2))), (19, .c (.val (.bool y_34)))], [(0, .row (.int .i64) l_1)], 1⟩ [] (by kernel_rfl) rfl rfl ap0 ?_
      obtain ⟨r_15, h_16, H_46⟩ := of_bind H_44
      refine V_reg hN hn [(2, ⟨30, 1, [.c (.h 0), .c (.val (.int .i64 at_2))], [(0, .row (.int .i64) l_1)], .tup [(false, [.val (.int .i64 r_15.1)]), (false, [.val (.bool r_15.2)])], [(0, .row (.int .i64) l_1)], [(0, 0)], 1⟩)] [] (calls_cons (slices_BinarySearch_rg_spec K l_1 at_2 r_15 h_16) (by kernel_rfl) calls_nil) 1 [0, 1, 6, 7] [0] ⟨[(0, .c (.h 0)), (1, .c (.val (.int .i64 at_2))), (6, .c (.val (.int .i64 r_15.1))), (7, .c (.val (.bool r_15.2)))], [(0, .row (.int .i64) l_1)], 1⟩ [] (by kernel_rfl) rfl rfl ap0 (by kernel_rfl) (by kernel_rfl) ?_
      obtain ⟨c_18, H_47⟩ := of_if H_46
      refine V_run hN hn 7 1 [0, 1, 6, 8, 35] [0, 1] ⟨[(0, .c (.h 0)), (1, .c (.val (.int .i64 at_2))), (6, .c (.val (.int .i64 r_15.1))), (8, .c (.h 1)), (35, .c (.val (.bool r_15.2)))], [(0, .row (.int .i64) l_1), (1, .row (.int .i64) (putAt (List.replicate (Int.toNat (((List.length l_1) : Nat) : Int)) (0 : Int)) (List.take (List.length (List.replicate (Int.toNat (((List.length l_1) : Nat) : Int)) (0 : Int))) l_1) 0))], 2⟩ [(0 : Int) ≤ (((List.length l_1) : Nat) : Int), (((List.length l_1) : Nat) : Int) ≤ (IntKind.wrap .i64 ((((List.length l_1) : Nat) : Int) + (1 : Int))), (IntKind.wrap .i64 ((((List.length l_1) : Nat) : Int) + (1 : Int))) * 8 ≤ (140737488355328 : Int), (IntKind.wrap .i64 ((((List.length l_1) : Nat) : Int) + (1 : Int))) ≤ (9223372036854775807 : Int)] (by kernel_rfl) rfl rfl (ap2 c_18.1 (ap2 c_18.2.1 (ap2 c_18.2.2.1 (ap1 c_18.2.2.2)))) ?_
      refine VL_cond (r_15.2) (by kernel_rfl) ?_ ?_
      · intro b_19; have H_48 := of_t H_47 b_19
        refine V_run hN hn 2 2 [4, 5] [0, 1] ⟨[(4, .c (.h 1)), (5, .c (.val (.int .i64 (0 : Int))))], [(0, .row (.int .i64) l_1), (1, .row (.int .i64) (putAt (List.replicate (Int.toNat (((List.length l_1) : Nat) : Int)) (0 : Int)) (List.take (List.length (List.replicate (Int.toNat (((List.length l_1) : Nat) : Int)) (0 : Int))) l_1) 0))], 2⟩ [] (by kernel_rfl) rfl rfl ap0 ?_
        have H_50 := Option.some.inj (show some ((putAt (List.replicate (Int.toNat (((List.length l_1) : Nat) : Int)) (0 : Int)) (List.take (List.length (List.replicate (Int.toNat (((List.length l_1) : Nat) : Int)) (0 : Int))) l_1) 0), (0 : Int)) = some r from H_48); subst H_50
        refine VL_ret ?_
        exact P_to [(4, .c (.h 4)), (5, .c (.val (.int .i64 (0 : Int))))] [(0, .row (.int .i64) l_1), (4, .row (.int .i64) (putAt (List.replicate (Int.toNat (((List.length l_1) : Nat) : Int)) (0 : Int)) (List.take (List.length (List.replicate (Int.toNat (((List.length l_1) : Nat) : Int)) (0 : Int))) l_1) 0))] [(4, 1)] hn (by kernel_rfl) (by kernel_rfl) rfl rfl rfl (QF_retS (by kernel_rfl) (by kernel_rfl) rfl)
      · intro b_19; have H_49 := of_f H_47 b_19
        refine V_run hN hn 4 2 [1, 6, 8, 39] [0, 1] ⟨[(1, .c (.val (.int .i64 at_2))), (6, .c (.val (.int .i64 r_15.1))), (8, .c (.h 1)), (39, .c (.val (.bool (decide ((((List.length l_1) : Nat) : Int) ≥ (60 : Int))))))], [(0, .row (.int .i64) l_1), (1, .row (.int .i64) (putAt (List.replicate (Int.toNat (((List.length l_1) : Nat) : Int)) (0 : Int)) (List.take (List.length (List.replicate (Int.toNat (((List.length l_1) : Nat) : Int)) (0 : Int))) l_1) 0))], 2⟩ [] (by kernel_rfl) rfl rfl ap0 ?_
        refine VL_cond ((decide ((((List.length l_1) : Nat) : Int) ≥ (60 : Int)))) (by kernel_rfl) ?_ ?_
        · intro b_22; have H_51 := of_t H_49 b_22
          refine V_run hN hn 2 2 [4, 5] [0] ⟨[(4, .c (.val (.slice none 0 0))), (5, .c (.val (.int .i64 (70 : Int))))], [(0, .row (.int .i64) l_1)], 2⟩ [] (by kernel_rfl) rfl rfl ap0 ?_
          have H_53 := Option.some.inj (show some (([] : List Int), (70 : Int)) = some r from H_51); subst H_53
          refine VL_ret ?_
          refine P_ghost [.nilSlot 4 (.int .i64)] 2 hn [4, 5] [0, 2] ⟨[(4, .c (.h 2)), (5, .c (.val (.int .i64 (70 : Int))))], [(0, .row (.int .i64) l_1), (2, .row (.int .i64) ([] : List Int))], 3⟩ (by kernel_rfl) rfl rfl ?_
          exact P_to [(4, .c (.h 4)), (5, .c (.val (.int .i64 (70 : Int))))] [(0, .row (.int .i64) l_1), (4, .row (.int .i64) ([] : List Int))] [(4, 2)] hn (by kernel_rfl) (by kernel_rfl) rfl rfl rfl (QF_retS (by kernel_rfl) (by kernel_rfl) rfl)
        · intro b_22; have H_52 := of_f H_49 b_22
          refine V_run hN hn 2 2 [1, 6, 8, 39] [0, 1] ⟨[(1, .c (.val (.int .i64 at_2))), (6, .c (.val (.int .i64 r_15.1))), (8, .c (.h 1)), (39, .c (.val (.bool (decide ((((List.length l_1) : Nat) : Int) ≥ (60 : Int))))))], [(0, .row (.int .i64) l_1), (1, .row (.int .i64) (putAt (List.replicate (Int.toNat (((List.length l_1) : Nat) : Int)) (0 : Int)) (List.take (List.length (List.replicate (Int.toNat (((List.length l_1) : Nat) : Int)) (0 : Int))) l_1) 0))], 2⟩ [] (by kernel_rfl) rfl rfl ap0 ?_
          obtain ⟨r_25, h_26, H_54⟩ := of_bind H_52
          refine V_reg hN hn [(4, ⟨31, 2, [.c (.h 0), .c (.val (.int .i64 r_15.1)), .c (.h 1)], [(0, .row (.int .i64) (putAt (List.replicate (Int.toNat (((List.length l_1) : Nat) : Int)) (0 : Int)) (List.take (List.length (List.replicate (Int.toNat (((List.length l_1) : Nat) : Int)) (0 : Int))) l_1) 0)), (1, .row (.int .i64) ([at_2] : List Int))], .c (.h 2), [(2, .row (.int .i64) r_25)], [(0, 1), (1, 2), (2, 3)], 4⟩)] [] (calls_cons (slices_Insert_rgr_spec K (putAt (List.replicate (Int.toNat (((List.length l_1) : Nat) : Int)) (0 : Int)) (List.take (List.length (List.replicate (Int.toNat (((List.length l_1) : Nat) : Int)) (0 : Int))) l_1) 0) r_15.1 ([at_2] : List Int) r_25 h_26) (by kernel_rfl) calls_nil) 2 [4, 5] [0, 3] ⟨[(4, .c (.h 3)), (5, .c (.val (.int .i64 (0 : Int))))], [(0, .row (.int .i64) l_1), (3, .row (.int .i64) r_25)], 4⟩ [] (by kernel_rfl) rfl rfl ap0 (by kernel_rfl) (by kernel_rfl) ?_
          have H_55 := Option.some.inj (show some (r_25, (0 : Int)) = some r from H_54); subst H_55
          refine VL_ret ?_
          exact P_to [(4, .c (.h 4)), (5, .c (.val (.int .i64 (0 : Int))))] [(0, .row (.int .i64) l_1), (4, .row (.int .i64) r_25)] [(4, 3)] hn (by kernel_rfl) (by kernel_rfl) rfl rfl rfl (QF_retS (by kernel_rfl) (by kernel_rfl) rfl)

theorem slices_Index_rg_spec (K : Nat) (s_1 : (List Int)) (v_2 : Int) (r : Int) (H : slices_Index_rg K s_1 v_2 = some r) : Spec Try.prog 29 1 [.c (.h 0), .c (.val (.int .i64 v_2))] [(0, .row (.int .i64) s_1)] (.c (.val (.int .i64 r))) [(0, .row (.int .i64) s_1)] := by
  refine Spec_mk (fn := Try.f29) (c := (Try.f29.body).get!) Try.func29 (by kernel_rfl) rfl ?_
  intro C hN hn
  replace hN : C.N = 19 := hN
  unfold slices_Index_rg at H
  refine V_run hN hn 5 1 [0, 1, 7, 8] [0] ⟨[(0, .c (.h 0)), (1, .c (.val (.int .i64 v_2))), (7, .c (.val (.int .i64 (((List.length s_1) : Nat) : Int)))), (8, .c (.val (.int .i64 (0 : Int))))], [(0, .row (.int .i64) s_1)], 1⟩ [] (by kernel_rfl) rfl rfl ap0 ?_
  refine VL_block ?_
  refine V_to [(0, .c (.h 0)), (1, .c (.val (.int .i64 v_2))), (7, .c (.val (.int .i64 (((List.length s_1) : Nat) : Int)))), (8, .c (.val (.int .i64 (0 : Int))))] [(0, .row (.int .i64) s_1)] [] hn (by kernel_rfl) (by kernel_rfl) rfl rfl rfl ?_
  refine VL_loop (X := Int) (fun x => [(0, .c (.h 0)), (1, .c (.val (.int .i64 v_2))), (7, .c (.val (.int .i64 (((List.length s_1) : Nat) : Int)))), (8, .c (.val (.int .i64 x)))]) (fun x => [(0, .row (.int .i64) s_1)]) (fun k x => slices_Index_rg.l0 K s_1 v_2 k x = some r) K (0 : Int) H (fun _ h => no_none h) ?_
  intro k_5 t_4 H_16
  have H_17 : slices_Index_rg.l0 K s_1 v_2 (k_5 + 1) t_4 = some r := H_16
  rw [slices_Index_rg.l0] at H_17
  refine V_run hN hn 3 1 [0, 1, 7, 8, 9] [0] ⟨[(0, .c (.h 0)), (1, .c (.val (.int .i64 v_2))), (7, .c (.val (.int .i64 (((List.length s_1) : Nat) : Int)))), (8, .c (.val (.int .i64 t_4))), (9, .c (.val (.bool (decide (t_4 < (((List.length s_1) : Nat) : Int))))))], [(0, .row (.int .i64) s_1)], 1⟩ [] (by kernel_rfl) rfl rfl ap0 ?_
  refine VL_cond ((decide (t_4 < (((List.length s_1) : Nat) : Int)))) (by kernel_rfl) ?_ ?_
  · intro b_7; have H_18 := of_t H_17 b_7
    refine V_run hN hn 2 1 [0, 1, 7, 8, 9] [0] ⟨[(0, .c (.h 0)), (1, .c (.val (.int .i64 v_2))), (7, .c (.val (.int .i64 (((List.length s_1) : Nat) : Int)))), (8, .c (.val (.int .i64 t_4))), (9, .c (.val (.bool (decide (t_4 < (((List.length s_1) : Nat) : Int))))))], [(0, .row (.int .i64) s_1)], 1⟩ [] (by kernel_rfl) rfl rfl ap0 ?_
    refine VL_block ?_
    obtain ⟨c_9, H_20⟩ := of_if H_18
    refine V_run hN hn 4 1 [0, 1, 5, 7, 8, 16] [0] ⟨[(0, .c (.h 0)), (1, .c (.val (.int .i64 v_2))), (5, .c (.val (.int .i64 t_4))), (7, .c (.val (.int .i64 (((List.length s_1) : Nat) : Int)))), (8, .c (.val (.int .i64 t_4))), (16, .c (.val (.bool (v_2 == (List.getD s_1 (Int.toNat t_4) (0 : Int))))))], [(0, .row (.int .i64) s_1)], 1⟩ [0 ≤ t_4, t_4 < (((List.length s_1) : Nat) : Int)] (by kernel_rfl) rfl rfl (ap2 c_9.1 (ap1 c_9.2)) ?_
    refine VL_cond ((v_2 == (List.getD s_1 (Int.toNat t_4) (0 : Int)))) (by kernel_rfl) ?_ ?_
    · intro b_10; have H_21 := of_t H_20 b_10
      refine V_run hN hn 2 1 [4] [0] ⟨[(4, .c (.val (.int .i64 t_4)))], [(0, .row (.int .i64) s_1)], 1⟩ [] (by kernel_rfl) rfl rfl ap0 ?_
      have H_23 := Option.some.inj (show some t_4 = some r from H_21); subst H_23
      refine VL_ret ?_
      refine QB_ret ?_
      refine QL_ret ?_
      refine QB_ret ?_
      exact P_to [(4, .c (.val (.int .i64 t_4)))] [(0, .row (.int .i64) s_1)] [] hn (by kernel_rfl) (by kernel_rfl) rfl rfl rfl (QF_retS (by kernel_rfl) (by kernel_rfl) rfl)
    · intro b_10; have H_22 := of_f H_20 b_10
      refine V_run hN hn 1 1 [0, 1, 5, 7, 8, 16] [0] ⟨[(0, .c (.h 0)), (1, .c (.val (.int .i64 v_2))), (5, .c (.val (.int .i64 t_4))), (7, .c (.val (.int .i64 (((List.length s_1) : Nat) : Int)))), (8, .c (.val (.int .i64 t_4))), (16, .c (.val (.bool (v_2 == (List.getD s_1 (Int.toNat t_4) (0 : Int))))))], [(0, .row (.int .i64) s_1)], 1⟩ [] (by kernel_rfl) rfl rfl ap0 ?_
      refine VL_nil (QB_end ?_)
      refine V_run hN hn 1 1 [0, 1, 7, 8] [0] ⟨[(0, .c (.h 0)), (1, .c (.val (.int .i64 v_2))), (7, .c (.val (.int .i64 (((List.length s_1) : Nat) : Int)))), (8, .c (.val (.int .i64 (IntKind.wrap .i64 (t_4 + (1 : Int))))))], [(0, .row (.int .i64) s_1)], 1⟩ [] (by kernel_rfl) rfl rfl ap0 ?_
      refine VL_nil ?_
      exact V_roundEnd (IntKind.wrap .i64 (t_4 + (1 : Int))) H_22 [] hn (by kernel_rfl) (by kernel_rfl) rfl rfl rfl
  · intro b_7; have H_19 := of_f H_17 b_7
    refine VL_exit ?_
    refine QL_exit ?_
    refine QB_here ?_
    refine V_run hN hn 2 1 [4] [0] ⟨[(4, .c (.val (.int .i64 (-1 : Int))))], [(0, .row (.int .i64) s_1)], 1⟩ [] (by kernel_rfl) rfl rfl ap0 ?_
    have H_24 := Option.some.inj (show some (-1 : Int) = some r from H_19); subst H_24
    refine VL_ret ?_
    exact P_to [(4, .c (.val (.int .i64 (-1 : Int))))] [(0, .row (.int .i64) s_1)] [] hn (by kernel_rfl) (by kernel_rfl) rfl rfl rfl (QF_retS (by kernel_rfl) (by kernel_rfl) rfl)

theorem breaks_Take_rg_spec (K : Nat) (l_1 : (List Int)) (at_2 : Int) (r : ((List Int) × Int)) (H : breaks_Take_rg K l_1 at_2 = some r) : Spec Try.prog 17 1 [.c (.h 0), .c (.val (.int .i64 at_2))] [(0, .row (.int .i64) l_1)] (.tup [(false, [.h 1]), (false, [.val (.int .i64 r.2)])]) [(0, .row (.int .i64) l_1), (1, .row (.int .i64) r.1)] := by
  refine Spec_mk (fn := Try.f17) (c := (Try.f17.body).get!) Try.func17 (by kernel_rfl) rfl ?_
  intro C hN hn
  replace hN : C.N = 30 := hN
  unfold breaks_Take_rg at H
  refine V_run hN hn 3 1 [0, 1] [0] ⟨[(0, .c (.h 0)), (1, .c (.val (.int .i64 at_2)))], [(0, .row (.int .i64) l_1)], 1⟩ [] (by kernel_rfl) rfl rfl ap0 ?_
  obtain ⟨r_4, h_5, H_15⟩ := of_bind H
  refine V_reg hN hn [(2, ⟨29, 1, [.c (.h 0), .c (.val (.int .i64 at_2))], [(0, .row (.int .i64) l_1)], .c (.val (.int .i64 r_4)), [(0, .row (.int .i64) l_1)], [(0, 0)], 1⟩)] [] (calls_cons (slices_Index_rg_spec K l_1 at_2 r_4 h_5) (by kernel_rfl) calls_nil) 1 [0, 6] [0] ⟨[(0, .c (.h 0)), (6, .c (.val (.int .i64 r_4)))], [(0, .row (.int .i64) l_1)], 1⟩ [] (by kernel_rfl) rfl rfl ap0 (by kernel_rfl) (by kernel_rfl) ?_
  refine V_run hN hn 3 1 [0, 6, 12] [0] ⟨[(0, .c (.h 0)), (6, .c (.val (.int .i64 r_4))), (12, .c (.val (.bool (decide (r_4 < (0 : Int))))))], [(0, .row (.int .i64) l_1)], 1⟩ [] (by kernel_rfl) rfl rfl ap0 ?_
  refine VL_cond ((decide (r_4 < (0 : Int)))) (by kernel_rfl) ?_ ?_
  · intro b_8; have H_16 := of_t H_15 b_8
    refine V_run hN hn 2 1 [4, 5] [0] ⟨[(4, .c (.val (.slice none 0 0))), (5, .c (.val (.int .i64 (10 : Int))))], [(0, .row (.int .i64) l_1)], 1⟩ [] (by kernel_rfl) rfl rfl ap0 ?_
    have H_18 := Option.some.inj (show some (([] : List Int), (10 : Int)) = some r from H_16); subst H_18
    refine VL_ret ?_
    refine P_ghost [.nilSlot 4 (.int .i64)] 1 hn [4, 5] [0, 1] ⟨[(4, .c (.h 1)), (5, .c (.val (.int .i64 (10 : Int))))], [(0, .row (.int .i64) l_1), (1, .row (.int .i64) ([] : List Int))], 2⟩ (by kernel_rfl) rfl rfl ?_
    exact P_to [(4, .c (.h 1)), (5, .c (.val (.int .i64 (10 : Int))))] [(0, .row (.int .i64) l_1), (1, .row (.int .i64) ([] : List Int))] [(1, 1)] hn (by kernel_rfl) (by kernel_rfl) rfl rfl rfl (QF_retS (by kernel_rfl) (by kernel_rfl) rfl)
  · intro b_8; have H_17 := of_f H_15 b_8
    obtain ⟨c_10, H_19⟩ := of_if H_17
    refine V_run hN hn 4 1 [0, 6, 7] [0, 1] ⟨[(0, .c (.h 0)), (6, .c (.val (.int .i64 r_4))), (7, .c (.h 1))], [(0, .row (.int .i64) l_1), (1, .row (.int .i64) (List.replicate (Int.toNat (IntKind.wrap .i64 ((((List.length l_1) : Nat) : Int) - (1 : Int)))) (0 : Int)))], 2⟩ [(0 : Int) ≤ (IntKind.wrap .i64 ((((List.length l_1) : Nat) : Int) - (1 : Int))), (IntKind.wrap .i64 ((((List.length l_1) : Nat) : Int) - (1 : Int))) ≤ (IntKind.wrap .i64 ((((List.length l_1) : Nat) : Int) - (1 : Int))), (IntKind.wrap .i64 ((((List.length l_1) : Nat) : Int) - (1 : Int))) * 8 ≤ (140737488355328 : Int), (IntKind.wrap .i64 ((((List.length l_1) : Nat) : Int) - (1 : Int))) ≤ (9223372036854775807 : Int)] (by kernel_rfl) rfl rfl (ap2 c_10.1 (ap2 c_10.2.1 (ap2 c_10.2.2.1 (ap1 c_10.2.2.2)))) ?_
    obtain ⟨c_11, H_20⟩ := of_if H_19
    refine V_draw hN hn (by kernel_rfl) [] [] calls_nil 2 [7] [0, 1] ⟨[(7, .c (.h 1))], [(0, .row (.int .i64) l_1), (1, .row (.int .i64) (putAt (putAt (List.replicate (Int.toNat (IntKind.wrap .i64 ((((List.length l_1) : Nat) : Int) - (1 : Int)))) (0 : Int)) (List.take (List.length (List.replicate (Int.toNat (IntKind.wrap .i64 ((((List.length l_1) : Nat) : Int) - (1 : Int)))) (0 : Int))) (List.take ((Int.toNat r_4) - 0) (List.drop 0 l_1))) 0) (List.take ((List.length (putAt (List.replicate (Int.toNat (IntKind.wrap .i64 ((((List.length l_1) : Nat) : Int) - (1 : Int)))) (0 : Int)) (List.take (List.length (List.replicate (Int.toNat (IntKind.wrap .i64 ((((List.length l_1) : Nat) : Int) - (1 : Int)))) (0 : Int))) (List.take ((Int.toNat r_4) - 0) (List.drop 0 l_1))) 0)) - (Int.toNat (((List.length (List.take (List.length (List.replicate (Int.toNat (IntKind.wrap .i64 ((((List.length l_1) : Nat) : Int) - (1 : Int)))) (0 : Int))) (List.take ((Int.toNat r_4) - 0) (List.drop 0 l_1)))) : Nat) : Int))) (List.take ((List.length l_1) - (Int.toNat (IntKind.wrap .i64 (r_4 + (1 : Int))))) (List.drop (Int.toNat (IntKind.wrap .i64 (r_4 + (1 : Int)))) l_1))) (Int.toNat (((List.length (List.take (List.length (List.replicate (Int.toNat (IntKind.wrap .i64 ((((List.length l_1) : Nat) : Int) - (1 : Int)))) (0 : Int))) (List.take ((Int.toNat r_4) - 0) (List.drop 0 l_1)))) : Nat) : Int))))], 2⟩ [(0 : Int) ≤ r_4, r_4 ≤ (((List.length l_1) : Nat) : Int), (0 : Int) ≤ (((List.length (List.take (List.length (List.replicate (Int.toNat (IntKind.wrap .i64 ((((List.length l_1) : Nat) : Int) - (1 : Int)))) (0 : Int))) (List.take ((Int.toNat r_4) - 0) (List.drop 0 l_1)))) : Nat) : Int), (((List.length (List.take (List.length (List.replicate (Int.toNat (IntKind.wrap .i64 ((((List.length l_1) : Nat) : Int) - (1 : Int)))) (0 : Int))) (List.take ((Int.toNat r_4) - 0) (List.drop 0 l_1)))) : Nat) : Int) ≤ (((List.length (putAt (List.replicate (Int.toNat (IntKind.wrap .i64 ((((List.length l_1) : Nat) : Int) - (1 : Int)))) (0 : Int)) (List.take (List.length (List.replicate (Int.toNat (IntKind.wrap .i64 ((((List.length l_1) : Nat) : Int) - (1 : Int)))) (0 : Int))) (List.take ((Int.toNat r_4) - 0) (List.drop 0 l_1))) 0)) : Nat) : Int), (0 : Int) ≤ (IntKind.wrap .i64 (r_4 + (1 : Int))), (IntKind.wrap .i64 (r_4 + (1 : Int))) ≤ (((List.length l_1) : Nat) : Int), (0 : Int) ≤ (IntKind.wrap .i64 (r_4 + (1 : Int))), (IntKind.wrap .i64 (r_4 + (1 : Int))) ≤ (((List.length l_1) : Nat) : Int)] (by kernel_rfl) rfl rfl (ap2 c_11.1 (ap2 c_11.2.1 (ap2 c_11.2.2.1 (ap2 c_11.2.2.2.1 (ap2 c_11.2.2.2.2.1 (ap2 c_11.2.2.2.2.2 (ap2 c_11.2.2.2.2.1 (ap1 c_11.2.2.2.2.2)))))))) (by kernel_rfl) (by kernel_rfl) ?_
    refine V_run hN hn 2 2 [4, 5] [0, 1] ⟨[(4, .c (.h 1)), (5, .c (.val (.int .i64 (0 : Int))))], [(0, .row (.int .i64) l_1), (1, .row (.int .i64) (putAt (putAt (List.replicate (Int.toNat (IntKind.wrap .i64 ((((List.length l_1) : Nat) : Int) - (1 : Int)))) (0 : Int)) (List.take (List.length (List.replicate (Int.toNat (IntKind.wrap .i64 ((((List.length l_1) : Nat) : Int) - (1 : Int)))) (0 : Int))) (List.take ((Int.toNat r_4) - 0) (List.drop 0 l_1))) 0) (List.take ((List.length (putAt (List.replicate (Int.toNat (IntKind.wrap .i64 ((((List.length l_1) : Nat) : Int) - (1 : Int)))) (0 : Int)) (List.take (List.length (List.replicate (Int.toNat (IntKind.wrap .i64 ((((List.length l_1) : Nat) : Int) - (1 : Int)))) (0 : Int))) (List.take ((Int.toNat r_4) - 0) (List.drop 0 l_1))) 0)) - (Int.toNat (((List.length (List.take (List.length (List.replicate (Int.toNat (IntKind.wrap .i64 ((((List.length l_1) : Nat) : Int) - (1 : Int)))) (0 : Int))) (List.take ((Int.toNat r_4) - 0) (List.drop 0 l_1)))) : Nat) : Int))) (List.take ((List.length l_1) - (Int.toNat (IntKind.wrap .i64 (r_4 + (1 : Int))))) (List.drop (Int.toNat (IntKind.wrap .i64 (r_4 + (1 : Int)))) l_1))) (Int.toNat (((List.length (List.take (List.length (List.replicate (Int.toNat (IntKind.wrap .i64 ((((List.length l_1) : Nat) : Int) - (1 : Int)))) (0 : Int))) (List.take ((Int.toNat r_4) - 0) (List.drop 0 l_1)))) : Nat) : Int))))], 2⟩ [] (by kernel_rfl) rfl rfl ap0 ?_
    have H_21 := Option.some.inj (show some ((putAt (putAt (List.replicate (Int.toNat (IntKind.wrap .i64 ((((List.length l_1) : Nat) : Int) - (1 : Int)))) (0 : Int)) (List.take (List.length (List.replicate (Int.toNat (IntKind.wrap .i64 ((((List.length l_1) : Nat) : Int) - (1 : Int)))) (0 : Int))) (List.take ((Int.toNat r_4) - 0) (List.drop 0 l_1))) 0) (List.take ((List.length (putAt (List.replicate (Int.toNat (IntKind.wrap .i64 ((((List.length l_1) : Nat) : Int) - (1 : Int)))) (0 : Int)) (List.take (List.length (List.replicate (Int.toNat (IntKind.wrap .i64 ((((List.length l_1) : Nat) : Int) - (1 : Int)))) (0 : Int))) (List.take ((Int.toNat r_4) - 0) (List.drop 0 l_1))) 0)) - (Int.toNat (((List.length (List.take (List.length (List.replicate (Int.toNat (IntKind.wrap .i64 ((((List.length l_1) : Nat) : Int) - (1 : Int)))) (0 : Int))) (List.take ((Int.toNat r_4) - 0) (List.drop 0 l_1)))) : Nat) : Int))) (List.take ((List.length l_1) - (Int.toNat (IntKind.wrap .i64 (r_4 + (1 : Int))))) (List.drop (Int.toNat (IntKind.wrap .i64 (r_4 + (1 : Int)))) l_1))) (Int.toNat (((List.length (List.take (List.length (List.replicate (Int.toNat (IntKind.wrap .i64 ((((List.length l_1) : Nat) : Int) - (1 : Int)))) (0 : Int))) (List.take ((Int.toNat r_4) - 0) (List.drop 0 l_1)))) : Nat) : Int))), (0 : Int)) = some r from H_20); subst H_21
    refine VL_ret ?_
    exact P_to [(4, .c (.h 1)), (5, .c (.val (.int .i64 (0 : Int))))] [(0, .row (.int .i64) l_1), (1, .row (.int .i64) (putAt (putAt (List.replicate (Int.toNat (IntKind.wrap .i64 ((((List.length l_1) : Nat) : Int) - (1 : Int)))) (0 : Int)) (List.take (List.length (List.replicate (Int.toNat (IntKind.wrap .i64 ((((List.length l_1) : Nat) : Int) - (1 : Int)))) (0 : Int))) (List.take ((Int.toNat r_4) - 0) (List.drop 0 l_1))) 0) (List.take ((List.length (putAt (List.replicate (Int.toNat (IntKind.wrap .i64 ((((List.length l_1) : Nat) : Int) - (1 : Int)))) (0 : Int)) (List.take (List.length (List.replicate (Int.toNat (IntKind.wrap .i64 ((((List.length l_1) : Nat) : Int) - (1 : Int)))) (0 : Int))) (List.take ((Int.toNat r_4) - 0) (List.drop 0 l_1))) 0)) - (Int.toNat (((List.length (List.take (List.length (List.replicate (Int.toNat (IntKind.wrap .i64 ((((List.length l_1) : Nat) : Int) - (1 : Int)))) (0 : Int))) (List.take ((Int.toNat r_4) - 0) (List.drop 0 l_1)))) : Nat) : Int))) (List.take ((List.length l_1) - (Int.toNat (IntKind.wrap .i64 (r_4 + (1 : Int))))) (List.drop (Int.toNat (IntKind.wrap .i64 (r_4 + (1 : Int)))) l_1))) (Int.toNat (((List.length (List.take (List.length (List.replicate (Int.toNat (IntKind.wrap .i64 ((((List.length l_1) : Nat) : Int) - (1 : Int)))) (0 : Int))) (List.take ((Int.toNat r_4) - 0) (List.drop 0 l_1)))) : Nat) : Int))))] [(1, 1)] hn (by kernel_rfl) (by kernel_rfl) rfl rfl rfl (QF_retS (by kernel_rfl) (by kernel_rfl) rfl)

theorem utf_forms_spec (K : Nat) (r : (Int × Int × Int × Int × Int × Int × Int × Int × Int × Int × Int × Int)) (H : utf_forms K  = some r) : Spec Try.prog 57 0 [] [] (.agg [.val (.int .u8 r.1), .val (.int .u8 r.2.1), .val (.int .i32 r.2.2.1), .val (.int .u8 r.2.2.2.1), .val (.int .u8 r.2.2.2.2.1), .val (.int .i32 r.2.2.2.2.2.1), .val (.int .u8 r.2.2.2.2.2.2.1), .val (.int .u8 r.2.2.2.2.2.2.2.1), .val (.int .i32 r.2.2.2.2.2.2.2.2.1), .val (.int .u8 r.2.2.2.2.2.2.2.2.2.1), .val (.int .u8 r.2.2.2.2.2.2.2.2.2.2.1), .val (.int .i32 r.2.2.2.2.2.2.2.2.2.2.2)]) [] := by
  refine Spec_mk (fn := Try.f57) (c := (Try.f57.body).get!) Try.func57 (by kernel_rfl) rfl ?_
  intro C hN hn
  replace hN : C.N = 6 := hN
  unfold utf_forms at H
  refine V_run hN hn 4 0 [0] [0] ⟨[(0, .c (.h 0))], [(0, .box [.val (.int .u8 (128 : Int)), .val (.int .u8 (0 : Int)), .val (.int .i32 (0 : Int)), .val (.int .u8 (224 : Int)), .val (.int .u8 (192 : Int)), .val (.int .i32 (128 : Int)), .val (.int .u8 (240 : Int)), .val (.int .u8 (224 : Int)), .val (.int .i32 (2048 : Int)), .val (.int .u8 (248 : Int)), .val (.int .u8 (240 : Int)), .val (.int .i32 (65536 : Int))])], 1⟩ [] (by kernel_rfl) rfl rfl ap0 ?_
  have H_14 := Option.some.inj (show some ((128 : Int), (0 : Int), (0 : Int), (224 : Int), (192 : Int), (128 : Int), (240 : Int), (224 : Int), (2048 : Int), (248 : Int), (240 : Int), (65536 : Int)) = some r from H); subst H_14
  refine VL_ret ?_
  exact P_to [(0, .c (.h 0))] [(0, .box [.val (.int .u8 (128 : Int)), .val (.int .u8 (0 : Int)), .val (.int .i32 (0 : Int)), .val (.int .u8 (224 : Int)), .val (.int .u8 (192 : Int)), .val (.int .i32 (128 : Int)), .val (.int .u8 (240 : Int)), .val (.int .u8 (224 : Int)), .val (.int .i32 (2048 : Int)), .val (.int .u8 (248 : Int)), .val (.int .u8 (240 : Int)), .val (.int .i32 (65536 : Int))])] [(0, 0)] hn (by kernel_rfl) (by kernel_rfl) rfl rfl rfl (QF_retS (by kernel_rfl) (by kernel_rfl) rfl)

theorem utf_isPoint_spec (K : Nat) (r_1 : Int) (r : Bool) (H : utf_isPoint K r_1 = some r) : Spec Try.prog 60 0 [.c (.val (.int .i32 r_1))] [] (.c (.val (.bool r))) [] := by
  refine Spec_mk (fn := Try.f60) (c := (Try.f60.body).get!) Try.func60 (by kernel_rfl) rfl ?_
  intro C hN hn
  replace hN : C.N = 17 := hN
  unfold utf_isPoint at H
  refine V_run hN hn 3 0 [0] [] ⟨[(0, .c (.val (.int .i32 r_1)))], [], 0⟩ [] (by kernel_rfl) rfl rfl ap0 ?_
  rcases Bool.eq_false_or_eq_true ((decide (r_1 ≥ (0 : Int)))) with b_3 | b_3
  · have H_11 := of_t H b_3
    rcases Bool.eq_false_or_eq_true ((decide (r_1 ≤ (1114111 : Int)))) with b_4 | b_4
    · have H_13 := of_t H_11 b_4
      rcases Bool.eq_false_or_eq_true ((decide (r_1 < (55296 : Int)))) with b_5 | b_5
      · have H_15 := of_t H_13 b_5
        refine V_reg hN hn [] [(5, true), (9, true), (12, true)] calls_nil 0 [2] [] ⟨[(2, .c (.val (.bool true)))], [], 0⟩ [(decide (r_1 ≥ (0 : Int))) = true, (decide (r_1 ≤ (1114111 : Int))) = true, (decide (r_1 < (55296 : Int))) = true] (by kernel_rfl) rfl rfl (ap2 b_3 (ap2 b_4 (ap1 b_5))) (by kernel_rfl) (by kernel_rfl) ?_
        have H_17 := Option.some.inj (show some true = some r from H_15); subst H_17
        refine VL_ret ?_
        exact P_to [(2, .c (.val (.bool true)))] [] [] hn (by kernel_rfl) (by kernel_rfl) rfl rfl rfl (QF_retS (by kernel_rfl) (by kernel_rfl) rfl)
      · have H_16 := of_f H_13 b_5
        refine V_reg hN hn [] [(5, true), (9, true), (12, false)] calls_nil 0 [2] [] ⟨[(2, .c (.val (.bool (decide (r_1 > (57343 : Int))))))], [], 0⟩ [(decide (r_1 ≥ (0 : Int))) = true, (decide (r_1 ≤ (1114111 : Int))) = true, (decide (r_1 < (55296 : Int))) = false] (by kernel_rfl) rfl rfl (ap2 b_3 (ap2 b_4 (ap1 b_5))) (by kernel_rfl) (by kernel_rfl) ?_
        have H_18 := Option.some.inj (show some (decide (r_1 > (57343 : Int))) = some r from H_16); subst H_18
        refine VL_ret ?_
        exact P_to [(2, .c (.val (.bool (decide (r_1 > (57343 : Int))))))] [] [] hn (by kernel_rfl) (by kernel_rfl) rfl rfl rfl (QF_retS (by kernel_rfl) (by kernel_rfl) rfl)
    · have H_14 := of_f H_11 b_4
      refine V_reg hN hn [] [(5, true), (9, false)] calls_nil 0 [2] [] ⟨[(2, .c (.val (.bool false)))], [], 0⟩ [(decide (r_1 ≥ (0 : Int))) = true, (decide (r_1 ≤ (1114111 : Int))) = false] (by kernel_rfl) rfl rfl (ap2 b_3 (ap1 b_4)) (by kernel_rfl) (by kernel_rfl) ?_
      have H_19 := Option.some.inj (show some false = some r from H_14); subst H_19
      refine VL_ret ?_
      exact P_to [(2, .c (.val (.bool false)))] [] [] hn (by kernel_rfl) (by kernel_rfl) rfl rfl rfl (QF_retS (by kernel_rfl) (by kernel_rfl) rfl)
  · have H_12 := of_f H b_3
    refine V_reg hN hn [] [(5, false)] calls_nil 0 [2] [] ⟨[(2, .c (.val (.bool false)))], [], 0⟩ [(decide (r_1 ≥ (0 : Int))) = false] (by kernel_rfl) rfl rfl (ap1 b_3) (by kernel_rfl) (by kernel_rfl) ?_
    have H_20 := Option.some.inj (show some false = some r from H_12); subst H_20
    refine VL_ret ?_
    exact P_to [(2, .c (.val (.bool false)))] [] [] hn (by kernel_rfl) (by kernel_rfl) rfl rfl rfl (QF_retS (by kernel_rfl) (by kernel_rfl) rfl)

theorem utf_long_spec (K : Nat) (s_1 : ByteArray) (at_2 : Int) (n_3 : Int) (f_4 : Int) (f_5 : Int) (f_6 : Int) (r : (Int × Int)) (H : utf_long K s_1 at_2 n_3 f_4 f_5 f_6 = some r) : Spec Try.prog 58 0 [.c (.val (.string s_1)), .c (.val (.int .i64 at_2)), .c (.val (.int .i64 n_3)), .agg [.val (.int .u8 f_4), .val (.int .u8 f_5), .val (.int .i32 f_6)]] [] (.tup [(false, [.val (.int .i32 r.1)]), (false, [.val (.int .i64 r.2)])]) [] := by
  refine Spec_mk (fn := Try.f58) (c := (Try.f58.body).get!) Try.func58 (by kernel_rfl) rfl ?_
  intro C hN hn
  replace hN : C.N = 56 := hN
  unfold utf_long at H
  refine V_run hN hn 5 0 [0, 1, 2, 7, 18] [0] ⟨[(0, .c (.val (.string s_1))), (1, .c (.val (.int .i64 at_2))), (2, .c (.val (.int .i64 n_3))), (7, .c (.h 0)), (18, .c (.val (.bool (decide ((IntKind.wrap .i64 ((((ByteArray.size s_1) : Nat) : Int) - at_2)) < n_3)))))], [(0, .box [.val (.int .u8 f_4), .val (.int .u8 f_5), .val (.int .i32 f_6)])], 1⟩ [] (by kernel_rfl) rfl rfl ap0 ?_
  refine VL_cond ((decide ((IntKind.wrap .i64 ((((ByteArray.size s_1) : Nat) : Int) - at_2)) < n_3))) (by kernel_rfl) ?_ ?_
  · intro b_8; have H_40 := of_t H b_8
    refine V_run hN hn 2 1 [8, 9] [] ⟨[(8, .c (.val (.int .i32 (0 : Int)))), (9, .c (.val (.int .i64 (0 : Int))))], [], 1⟩ [] (by kernel_rfl) rfl rfl ap0 ?_
    have H_42 := Option.some.inj (show some ((0 : Int), (0 : Int)) = some r from H_40); subst H_42
    refine VL_ret ?_
    exact P_to [(8, .c (.val (.int .i32 (0 : Int)))), (9, .c (.val (.int .i64 (0 : Int))))] [] [] hn (by kernel_rfl) (by kernel_rfl) rfl rfl rfl (QF_retS (by kernel_rfl) (by kernel_rfl) rfl)
  · intro b_8; have H_41 := of_f H b_8
    refine V_run hN hn 2 1 [0, 1, 2, 7, 18] [0] ⟨[(0, .c (.val (.string s_1))), (1, .c (.val (.int .i64 at_2))), (2, .c (.val (.int .i64 n_3))), (7, .c (.h 0)), (18, .c (.val (.bool (decide ((IntKind.wrap .i64 ((((ByteArray.size s_1) : Nat) : Int) - at_2)) < n_3)))))], [(0, .box [.val (.int .u8 f_4), .val (.int .u8 f_5), .val (.int .i32 f_6)])], 1⟩ [] (by kernel_rfl) rfl rfl ap0 ?_
    obtain ⟨c_11, H_43⟩ := of_if H_41
    refine V_draw hN hn (by kernel_rfl) [] [] calls_nil 1 [0, 1, 2, 7, 10] [0] ⟨[(0, .c (.val (.string s_1))), (1, .c (.val (.int .i64 at_2))), (2, .c (.val (.int .i64 n_3))), (7, .c (.h 0)), (10, .c (.val (.int .i32 (IntKind.wrap .i32 (IntKind.wrap .u8 (BitVec.toNat (BitVec.ofInt (IntKind.bits .u8) (bt s_1 at_2) &&& ~~~BitVec.ofInt (IntKind.bits .u8) f_4)))))))], [(0, .box [.val (.int .u8 f_4), .val (.int .u8 f_5), .val (.int .i32 f_6)])], 1⟩ [0 ≤ at_2, at_2 < (((ByteArray.size s_1) : Nat) : Int)] (by kernel_rfl) rfl rfl (ap2 c_11.1 (ap1 c_11.2)) (by kernel_rfl) (by kernel_rfl) ?_
    refine V_run hN hn 3 1 [0, 1, 2, 7, 10, 11] [0] ⟨[(0, .c (.val (.string s_1))), (1, .c (.val (.int .i64 at_2))), (2, .c (.val (.int .i64 n_3))), (7, .c (.h 0)), (10, .c (.val (.int .i32 (IntKind.wrap .i32 (IntKind.wrap .u8 (BitVec.toNat (BitVec.ofInt (IntKind.bits .u8) (bt s_1 at_2) &&& ~~~BitVec.ofInt (IntKind.bits .u8) f_4))))))), (11, .c (.val (.int .i64 (1 : Int))))], [(0, .box [.val (.int .u8 f_4), .val (.int .u8 f_5), .val (.int .i32 f_6)])], 1⟩ [] (by kernel_rfl) rfl rfl ap0 ?_
    obtain ⟨q_44, H_45, H_46⟩ := of_bind H_43
    refine V_cut (Y := Int) (R := ((Int × Int) ⊕ Int)) q_44 (fun y => (Sum.inr y)) (fun y => [(2, .c (.val (.int .i64 n_3))), (7, .c (.h 0)), (10, .c (.val (.int .i32 y)))]) (fun y => [(0, .box [.val (.int .u8 f_4), .val (.int .u8 f_5), .val (.int .i32 f_6)])]) ?_ ?_
    · skip
      refine VL_block ?_
      refine V_to [(0, .c (.val (.string s_1))), (1, .c (.val (.int .i64 at_2))), (2, .c (.val (.int .i64 n_3))), (7, .c (.h 0)), (10, .c (.val (.int .i32 (IntKind.wrap .i32 (IntKind.wrap .u8 (BitVec.toNat (BitVec.ofInt (IntKind.bits .u8) (bt s_1 at_2) &&& ~~~BitVec.ofInt (IntKind.bits .u8) f_4))))))), (11, .c (.val (.int .i64 (1 : Int))))] [(0, .box [.val (.int .u8 f_4), .val (.int .u8 f_5), .val (.int .i32 f_6)])] [(0, 0)] hn (by kernel_rfl) (by kernel_rfl) rfl rfl rfl ?_
      refine VL_loop (X := (Int × Int)) (fun x => [(0, .c (.val (.string s_1))), (1, .c (.val (.int .i64 at_2))), (2, .c (.val (.int .i64 n_3))), (7, .c (.h 0)), (10, .c (.val (.int .i32 x.1))), (11, .c (.val (.int .i64 x.2)))]) (fun x => [(0, .box [.val (.int .u8 f_4), .val (.int .u8 f_5), .val (.int .i32 f_6)])]) (fun k x => utf_long.l0 K n_3 at_2 s_1 k x.1 x.2 = some q_44) K ((IntKind.wrap .i32 (IntKind.wrap .u8 (BitVec.toNat (BitVec.ofInt (IntKind.bits .u8) (bt s_1 at_2) &&& ~~~BitVec.ofInt (IntKind.bits .u8) f_4)))), (1 : Int)) H_45 (fun _ h => no_none h) ?_
      intro k_15 x_15 H_48
      obtain ⟨r_13, i_14⟩ := x_15
      have H_49 : utf_long.l0 K n_3 at_2 s_1 (k_15 + 1) r_13 i_14 = some q_44 := H_48
      rw [utf_long.l0] at H_49
      refine V_run hN hn 3 1 [0, 1, 2, 7, 10, 11, 28] [0] ⟨[(0, .c (.val (.string s_1))), (1, .c (.val (.int .i64 at_2))), (2, .c (.val (.int .i64 n_3))), (7, .c (.h 0)), (10, .c (.val (.int .i32 r_13))), (11, .c (.val (.int .i64 i_14))), (28, .c (.val (.bool (decide (i_14 < n_3)))))], [(0, .box [.val (.int .u8 f_4), .val (.int .u8 f_5), .val (.int .i32 f_6)])], 1⟩ [] (by kernel_rfl) rfl rfl ap0 ?_
      refine VL_cond ((decide (i_14 < n_3))) (by kernel_rfl) ?_ ?_
      · intro b_17; have H_50 := of_t H_49 b_17
        refine V_run hN hn 2 1 [0, 1, 2, 7, 10, 11, 28] [0] ⟨[(0, .c (.val (.string s_1))), (1, .c (.val (.int .i64 at_2))), (2, .c (.val (.int .i64 n_3))), (7, .c (.h 0)), (10, .c (.val (.int .i32 r_13))), (11, .c (.val (.int .i64 i_14))), (28, .c (.val (.bool (decide (i_14 < n_3)))))], [(0, .box [.val (.int .u8 f_4), .val (.int .u8 f_5), .val (.int .i32 f_6)])], 1⟩ [] (by kernel_rfl) rfl rfl ap0 ?_
        refine VL_block ?_
        obtain ⟨c_19, H_52⟩ := of_if H_50
        refine V_run hN hn 5 1 [0, 1, 2, 7, 10, 11, 12, 38] [0] ⟨[(0, .c (.val (.string s_1))), (1, .c (.val (.int .i64 at_2))), (2, .c (.val (.int .i64 n_3))), (7, .c (.h 0)), (10, .c (.val (.int .i32 r_13))), (11, .c (.val (.int .i64 i_14))), (12, .c (.val (.int .u8 (bt s_1 (IntKind.wrap .i64 (at_2 + i_14)))))), (38, .c (.val (.bool ((IntKind.wrap .u8 (BitVec.toNat (BitVec.ofInt (IntKind.bits .u8) (bt s_1 (IntKind.wrap .i64 (at_2 + i_14))) &&& BitVec.ofInt (IntKind.bits .u8) (192 : Int)))) != (128 : Int)))))], [(0, .box [.val (.int .u8 f_4), .val (.int .u8 f_5), .val (.int .i32 f_6)])], 1⟩ [0 ≤ (IntKind.wrap .i64 (at_2 + i_14)), (IntKind.wrap .i64 (at_2 + i_14)) < (((ByteArray.size s_1) : Nat) : Int)] (by kernel_rfl) rfl rfl (ap2 c_19.1 (ap1 c_19.2)) ?_
        refine VL_cond (((IntKind.wrap .u8 (BitVec.toNat (BitVec.ofInt (IntKind.bits .u8) (bt s_1 (IntKind.wrap .i64 (at_2 + i_14))) &&& BitVec.ofInt (IntKind.bits .u8) (192 : Int)))) != (128 : Int))) (by kernel_rfl) ?_ ?_
        · intro b_20; have H_53 := of_t H_52 b_20
          refine V_run hN hn 2 1 [8, 9] [] ⟨[(8, .c (.val (.int .i32 (0 : Int)))), (9, .c (.val (.int .i64 (0 : Int))))], [], 1⟩ [] (by kernel_rfl) rfl rfl ap0 ?_
          have H_55 := Option.some.inj (show some (Sum.inl ((0 : Int), (0 : Int))) = some q_44 from H_53); subst H_55
          have H_56 := Option.some.inj (show some ((0 : Int), (0 : Int)) = some r from H_46); subst H_56
          refine VL_ret ?_
          refine QB_ret ?_
          refine QL_ret ?_
          refine QB_ret ?_
          refine QP_ret ?_
          exact P_to [(8, .c (.val (.int .i32 (0 : Int)))), (9, .c (.val (.int .i64 (0 : Int))))] [] [] hn (by kernel_rfl) (by kernel_rfl) rfl rfl rfl (QF_retS (by kernel_rfl) (by kernel_rfl) rfl)
        · intro b_20; have H_54 := of_f H_52 b_20
          refine V_run hN hn 2 1 [0, 1, 2, 7, 10, 11] [0] ⟨[(0, .c (.val (.string s_1))), (1, .c (.val (.int .i64 at_2))), (2, .c (.val (.int .i64 n_3))), (7, .c (.h 0)), (10, .c (.val (.int .i32 (IntKind.wrap .i32 (BitVec.toNat (BitVec.ofInt (IntKind.bits .i32) (IntKind.wrap .i32 (r_13 * (64 : Int))) ||| BitVec.ofInt (IntKind.bits .i32) (IntKind.wrap .i32 (IntKind.wrap .u8 (BitVec.toNat (BitVec.ofInt (IntKind.bits .u8) (bt s_1 (IntKind.wrap .i64 (at_2 + i_14))) &&& ~~~BitVec.ofInt (IntKind.bits .u8) (192 : Int))))))))))), (11, .c (.val (.int .i64 i_14)))], [(0, .box [.val (.int .u8 f_4), .val (.int .u8 f_5), .val (.int .i32 f_6)])], 1⟩ [(0 : Int) ≤ (6 : Int)] (by kernel_rfl) rfl rfl (ap1 (by decide)) ?_
          refine VL_nil (QB_end ?_)
          refine V_run hN hn 1 1 [0, 1, 2, 7, 10, 11] [0] ⟨[(0, .c (.val (.string s_1))), (1, .c (.val (.int .i64 at_2))), (2, .c (.val (.int .i64 n_3))), (7, .c (.h 0)), (10, .c (.val (.int .i32 (IntKind.wrap .i32 (BitVec.toNat (BitVec.ofInt (IntKind.bits .i32) (IntKind.wrap .i32 (r_13 * (64 : Int))) ||| BitVec.ofInt (IntKind.bits .i32) (IntKind.wrap .i32 (IntKind.wrap .u8 (BitVec.toNat (BitVec.ofInt (IntKind.bits .u8) (bt s_1 (IntKind.wrap .i64 (at_2 + i_14))) &&& ~~~BitVec.ofInt (IntKind.bits .u8) (192 : Int))))))))))), (11, .c (.val (.int .i64 (IntKind.wrap .i64 (i_14 + (1 : Int))))))], [(0, .box [.val (.int .u8 f_4), .val (.int .u8 f_5), .val (.int .i32 f_6)])], 1⟩ [] (by kernel_rfl) rfl rfl ap0 ?_
          refine VL_nil ?_
          exact V_roundEnd ((IntKind.wrap .i32 (BitVec.toNat (BitVec.ofInt (IntKind.bits .i32) (IntKind.wrap .i32 (r_13 * (64 : Int))) ||| BitVec.ofInt (IntKind.bits .i32) (IntKind.wrap .i32 (IntKind.wrap .u8 (BitVec.toNat (BitVec.ofInt (IntKind.bits .u8) (bt s_1 (IntKind.wrap .i64 (at_2 + i_14))) &&& ~~~BitVec.ofInt (IntKind.bits .u8) (192 : Int)))))))), (IntKind.wrap .i64 (i_14 + (1 : Int)))) H_54 [(0, 0)] hn (by kernel_rfl) (by kernel_rfl) rfl rfl rfl
      · intro b_17; have H_51 := of_f H_49 b_17
        refine VL_exit ?_
        refine QL_exit ?_
        refine QB_here ?_
        have H_57 := Option.some.inj (show some (Sum.inr r_13) = some q_44 from H_51); subst H_57
        refine VL_nil ?_
        exact QP_end r_13 rfl [(0, 0)] hn (by kernel_rfl) (by kernel_rfl) rfl rfl rfl
    · intro y_47 hy; subst hy
      skip
      skip
      refine V_run hN hn 2 1 [2, 7, 10] [0] ⟨[(2, .c (.val (.int .i64 n_3))), (7, .c (.h 0)), (10, .c (.val (.int .i32 y_47)))], [(0, .box [.val (.int .u8 f_4), .val (.int .u8 f_5), .val (.int .i32 f_6)])], 1⟩ [] (by kernel_rfl) rfl rfl ap0 ?_
      obtain ⟨q_58, H_59, H_60⟩ := of_bind H_46
      refine V_cut (Y := Bool) (R := Bool) q_58 (fun y => y) (fun y => [(2, .c (.val (.int .i64 n_3))), (10, .c (.val (.int .i32 y_47))), (53, .c (.val (.bool y)))]) (fun y => []) ?_ ?_
      · skip
        rcases Bool.eq_false_or_eq_true ((decide (y_47 < f_6))) with b_26 | b_26
        · have H_62 := of_t H_59 b_26
          refine V_reg hN hn [] [(49, true)] calls_nil 1 [2, 10, 53] [] ⟨[(2, .c (.val (.int .i64 n_3))), (10, .c (.val (.int .i32 y_47))), (53, .c (.val (.bool true)))], [], 1⟩ [(decide (y_47 < f_6)) = true] (by kernel_rfl) rfl rfl (ap1 b_26) (by kernel_rfl) (by kernel_rfl) ?_
          have H_64 := Option.some.inj (show some true = some q_58 from H_62); subst H_64
          refine VL_nil ?_
          exact QP_end true rfl [] hn (by kernel_rfl) (by kernel_rfl) rfl rfl rfl
        · have H_63 := of_f H_59 b_26
          obtain ⟨r_28, h_29, H_65⟩ := of_bind H_63
          refine V_reg hN hn [(6, ⟨60, 0, [.c (.val (.int .i32 y_47))], [], .c (.val (.bool r_28)), [], [], 1⟩)] [(49, false)] (calls_cons (utf_isPoint_spec K y_47 r_28 h_29) (by kernel_rfl) calls_nil) 1 [2, 10, 53] [] ⟨[(2, .c (.val (.int .i64 n_3))), (10, .c (.val (.int .i32 y_47))), (53, .c (.val (.bool (!r_28))))], [], 1⟩ [(decide (y_47 < f_6)) = false] (by kernel_rfl) rfl rfl (ap1 b_26) (by kernel_rfl) (by kernel_rfl) ?_
          have H_66 := Option.some.inj (show some (!r_28) = some q_58 from H_65); subst H_66
          refine VL_nil ?_
          exact QP_end (!r_28) rfl [] hn (by kernel_rfl) (by kernel_rfl) rfl rfl rfl
      · intro y_61 hy; subst hy
        skip
        skip
        refine VL_cond (y_61) (by kernel_rfl) ?_ ?_
        · intro b_32; have H_67 := of_t H_60 b_32
          refine V_run hN hn 2 1 [8, 9] [] ⟨[(8, .c (.val (.int .i32 (0 : Int)))), (9, .c (.val (.int .i64 (0 : Int))))], [], 1⟩ [] (by kernel_rfl) rfl rfl ap0 ?_
          have H_69 := Option.some.inj (show some ((0 : Int), (0 : Int)) = some r from H_67); subst H_69
          refine VL_ret ?_
          exact P_to [(8, .c (.val (.int .i32 (0 : Int)))), (9, .c (.val (.int .i64 (0 : Int))))] [] [] hn (by kernel_rfl) (by kernel_rfl) rfl rfl rfl (QF_retS (by kernel_rfl) (by kernel_rfl) rfl)
        · intro b_32; have H_68 := of_f H_60 b_32
          refine V_run hN hn 3 1 [8, 9] [] ⟨[(8, .c (.val (.int .i32 y_47))), (9, .c (.val (.int .i64 n_3)))], [], 1⟩ [] (by kernel_rfl) rfl rfl ap0 ?_
          have H_70 := Option.some.inj (show some (y_47, n_3) = some r from H_68); subst H_70
          refine VL_ret ?_
          exact P_to [(8, .c (.val (.int .i32 y_47))), (9, .c (.val (.int .i64 n_3)))] [] [] hn (by kernel_rfl) (by kernel_rfl) rfl rfl rfl (QF_retS (by kernel_rfl) (by kernel_rfl) rfl)

theorem utf_point_spec (K : Nat) (s_1 : ByteArray) (at_2 : Int) (r : (Int × Int)) (H : utf_point K s_1 at_2 = some r) : Spec Try.prog 54 0 [.c (.val (.string s_1)), .c (.val (.int .i64 at_2))] [] (.tup [(false, [.val (.int .i32 r.1)]), (false, [.val (.int .i64 r.2)])]) [] := by
  refine Spec_mk (fn := Try.f54) (c := (Try.f54.body).get!) Try.func54 (by kernel_rfl) rfl ?_
  intro C hN hn
  replace hN : C.N = 39 := hN
  unfold utf_point at H
  refine V_run hN hn 4 0 [0, 1] [] ⟨[(0, .c (.val (.string s_1))), (1, .c (.val (.int .i64 at_2)))], [], 0⟩ [] (by kernel_rfl) rfl rfl ap0 ?_
  obtain ⟨q_32, H_33, H_34⟩ := of_bind H
  refine V_cut (Y := Bool) (R := Bool) q_32 (fun y => y) (fun y => [(0, .c (.val (.string s_1))), (1, .c (.val (.int .i64 at_2))), (15, .c (.val (.bool y)))]) (fun y => []) ?_ ?_
  · skip
    rcases Bool.eq_false_or_eq_true ((decide (at_2 < (0 : Int)))) with b_4 | b_4
    · have H_36 := of_t H_33 b_4
      refine V_reg hN hn [] [(10, true)] calls_nil 0 [0, 1, 15] [] ⟨[(0, .c (.val (.string s_1))), (1, .c (.val (.int .i64 at_2))), (15, .c (.val (.bool true)))], [], 0⟩ [(decide (at_2 < (0 : Int))) = true] (by kernel_rfl) rfl rfl (ap1 b_4) (by kernel_rfl) (by kernel_rfl) ?_
      have H_38 := Option.some.inj (show some true = some q_32 from H_36); subst H_38
      refine VL_nil ?_
      exact QP_end true rfl [] hn (by kernel_rfl) (by kernel_rfl) rfl rfl rfl
    · have H_37 := of_f H_33 b_4
      refine V_reg hN hn [] [(10, false)] calls_nil 0 [0, 1, 15] [] ⟨[(0, .c (.val (.string s_1))), (1, .c (.val (.int .i64 at_2))), (15, .c (.val (.bool (decide (at_2 ≥ (((ByteArray.size s_1) : Nat) : Int))))))], [], 0⟩ [(decide (at_2 < (0 : Int))) = false] (by kernel_rfl) rfl rfl (ap1 b_4) (by kernel_rfl) (by kernel_rfl) ?_
      have H_39 := Option.some.inj (show some (decide (at_2 ≥ (((ByteArray.size s_1) : Nat) : Int))) = some q_32 from H_37); subst H_39
      refine VL_nil ?_
      exact QP_end (decide (at_2 ≥ (((ByteArray.size s_1) : Nat) : Int))) rfl [] hn (by kernel_rfl) (by kernel_rfl) rfl rfl rfl
  · intro y_35 hy; subst hy
    skip
    skip
    refine VL_cond (y_35) (by kernel_rfl) ?_ ?_
    · intro b_8; have H_40 := of_t H_34 b_8
      refine V_run hN hn 2 0 [4, 5] [] ⟨[(4, .c (.val (.int .i32 (0 : Int)))), (5, .c (.val (.int .i64 (0 : Int))))], [], 0⟩ [] (by kernel_rfl) rfl rfl ap0 ?_
      have H_42 := Option.some.inj (show some ((0 : Int), (0 : Int)) = some r from H_40); subst H_42
      refine VL_ret ?_
      exact P_to [(4, .c (.val (.int .i32 (0 : Int)))), (5, .c (.val (.int .i64 (0 : Int))))] [] [] hn (by kernel_rfl) (by kernel_rfl) rfl rfl rfl (QF_retS (by kernel_rfl) (by kernel_rfl) rfl)
    · intro b_8; have H_41 := of_f H_34 b_8
      refine V_run hN hn 3 0 [0, 1, 15] [] ⟨[(0, .c (.val (.string s_1))), (1, .c (.val (.int .i64 at_2))), (15, .c (.val (.bool y_35)))], [], 0⟩ [] (by kernel_rfl) rfl rfl ap0 ?_
      obtain ⟨r_11, h_12, H_43⟩ := of_bind H_41
      refine V_reg hN hn [(0, ⟨57, 0, [], [], .agg [.val (.int .u8 r_11.1), .val (.int .u8 r_11.2.1), .val (.int .i32 r_11.2.2.1), .val (.int .u8 r_11.2.2.2.1), .val (.int .u8 r_11.2.2.2.2.1), .val (.int .i32 r_11.2.2.2.2.2.1), .val (.int .u8 r_11.2.2.2.2.2.2.1), .val (.int .u8 r_11.2.2.2.2.2.2.2.1), .val (.int .i32 r_11.2.2.2.2.2.2.2.2.1), .val (.int .u8 r_11.2.2.2.2.2.2.2.2.2.1), .val (.int .u8 r_11.2.2.2.2.2.2.2.2.2.2.1), .val (.int .i32 r_11.2.2.2.2.2.2.2.2.2.2.2)], [], [], 0⟩)] [] (calls_cons (utf_forms_spec K  r_11 h_12) (by kernel_rfl) calls_nil) 0 [0, 1, 16, 17] [] ⟨[(0, .c (.val (.string s_1))), (1, .c (.val (.int .i64 at_2))), (16, .agg [.val (.int .u8 r_11.1), .val (.int .u8 r_11.2.1), .val (.int .i32 r_11.2.2.1), .val (.int .u8 r_11.2.2.2.1), .val (.int .u8 r_11.2.2.2.2.1), .val (.int .i32 r_11.2.2.2.2.2.1), .val (.int .u8 r_11.2.2.2.2.2.2.1), .val (.int .u8 r_11.2.2.2.2.2.2.2.1), .val (.int .i32 r_11.2.2.2.2.2.2.2.2.1), .val (.int .u8 r_11.2.2.2.2.2.2.2.2.2.1), .val (.int .u8 r_11.2.2.2.2.2.2.2.2.2.2.1), .val (.int .i32 r_11.2.2.2.2.2.2.2.2.2.2.2)]), (17, .c (.val (.int .i64 (0 : Int))))], [], 0⟩ [] (by kernel_rfl) rfl rfl ap0 (by kernel_rfl) (by kernel_rfl) ?_
      refine VL_block ?_
      refine V_to [(0, .c (.val (.string s_1))), (1, .c (.val (.int .i64 at_2))), (16, .agg [.val (.int .u8 r_11.1), .val (.int .u8 r_11.2.1), .val (.int .i32 r_11.2.2.1), .val (.int .u8 r_11.2.2.2.1), .val (.int .u8 r_11.2.2.2.2.1), .val (.int .i32 r_11.2.2.2.2.2.1), .val (.int .u8 r_11.2.2.2.2.2.2.1), .val (.int .u8 r_11.2.2.2.2.2.2.2.1), .val (.int .i32 r_11.2.2.2.2.2.2.2.2.1), .val (.int .u8 r_11.2.2.2.2.2.2.2.2.2.1), .val (.int .u8 r_11.2.2.2.2.2.2.2.2.2.2.1), .val (.int .i32 r_11.2.2.2.2.2.2.2.2.2.2.2)]), (17, .c (.val (.int .i64 (0 : Int))))] [] [] hn (by kernel_rfl) (by kernel_rfl) rfl rfl rfl ?_
      refine VL_loop (X := Int) (fun x => [(0, .c (.val (.string s_1))), (1, .c (.val (.int .i64 at_2))), (16, .agg [.val (.int .u8 r_11.1), .val (.int .u8 r_11.2.1), .val (.int .i32 r_11.2.2.1), .val (.int .u8 r_11.2.2.2.1), .val (.int .u8 r_11.2.2.2.2.1), .val (.int .i32 r_11.2.2.2.2.2.1), .val (.int .u8 r_11.2.2.2.2.2.2.1), .val (.int .u8 r_11.2.2.2.2.2.2.2.1), .val (.int .i32 r_11.2.2.2.2.2.2.2.2.1), .val (.int .u8 r_11.2.2.2.2.2.2.2.2.2.1), .val (.int .u8 r_11.2.2.2.2.2.2.2.2.2.2.1), .val (.int .i32 r_11.2.2.2.2.2.2.2.2.2.2.2)]), (17, .c (.val (.int .i64 x)))]) (fun x => []) (fun k x => utf_point.l0 K at_2 s_1 r_11 k x = some r) K (0 : Int) H_43 (fun _ h => no_none h) ?_
      intro k_15 t_14 H_44
      have H_45 : utf_point.l0 K at_2 s_1 r_11 (k_15 + 1) t_14 = some r := H_44
      rw [utf_point.l0] at H_45
      refine V_run hN hn 3 0 [0, 1, 16, 17, 18] [] ⟨[(0, .c (.val (.string s_1))), (1, .c (.val (.int .i64 at_2))), (16, .agg [.val (.int .u8 r_11.1), .val (.int .u8 r_11.2.1), .val (.int .i32 r_11.2.2.1), .val (.int .u8 r_11.2.2.2.1), .val (.int .u8 r_11.2.2.2.2.1), .val (.int .i32 r_11.2.2.2.2.2.1), .val (.int .u8 r_11.2.2.2.2.2.2.1), .val (.int .u8 r_11.2.2.2.2.2.2.2.1), .val (.int .i32 r_11.2.2.2.2.2.2.2.2.1), .val (.int .u8 r_11.2.2.2.2.2.2.2.2.2.1), .val (.int .u8 r_11.2.2.2.2.2.2.2.2.2.2.1), .val (.int .i32 r_11.2.2.2.2.2.2.2.2.2.2.2)]), (17, .c (.val (.int .i64 t_14))), (18, .c (.val (.bool (decide (t_14 < (4 : Int))))))], [], 0⟩ [] (by kernel_rfl) rfl rfl ap0 ?_
      refine VL_cond ((decide (t_14 < (4 : Int)))) (by kernel_rfl) ?_ ?_
      · intro b_17; have H_46 := of_t H_45 b_17
        refine V_run hN hn 2 0 [0, 1, 16, 17, 18] [] ⟨[(0, .c (.val (.string s_1))), (1, .c (.val (.int .i64 at_2))), (16, .agg [.val (.int .u8 r_11.1), .val (.int .u8 r_11.2.1), .val (.int .i32 r_11.2.2.1), .val (.int .u8 r_11.2.2.2.1), .val (.int .u8 r_11.2.2.2.2.1), .val (.int .i32 r_11.2.2.2.2.2.1), .val (.int .u8 r_11.2.2.2.2.2.2.1), .val (.int .u8 r_11.2.2.2.2.2.2.2.1), .val (.int .i32 r_11.2.2.2.2.2.2.2.2.1), .val (.int .u8 r_11.2.2.2.2.2.2.2.2.2.1), .val (.int .u8 r_11.2.2.2.2.2.2.2.2.2.2.1), .val (.int .i32 r_11.2.2.2.2.2.2.2.2.2.2.2)]), (17, .c (.val (.int .i64 t_14))), (18, .c (.val (.bool (decide (t_14 < (4 : Int))))))], [], 0⟩ [] (by kernel_rfl) rfl rfl ap0 ?_
        refine VL_block ?_
        obtain ⟨c_19, H_48⟩ := of_if H_46
        refine V_run hN hn 3 0 [0, 1, 6, 7, 16, 17] [0] ⟨[(0, .c (.val (.string s_1))), (1, .c (.val (.int .i64 at_2))), (6, .c (.val (.int .i64 t_14))), (7, .c (.h 0)), (16, .agg [.val (.int .u8 r_11.1), .val (.int .u8 r_11.2.1), .val (.int .i32 r_11.2.2.1), .val (.int .u8 r_11.2.2.2.1), .val (.int .u8 r_11.2.2.2.2.1), .val (.int .i32 r_11.2.2.2.2.2.1), .val (.int .u8 r_11.2.2.2.2.2.2.1), .val (.int .u8 r_11.2.2.2.2.2.2.2.1), .val (.int .i32 r_11.2.2.2.2.2.2.2.2.1), .val (.int .u8 r_11.2.2.2.2.2.2.2.2.2.1), .val (.int .u8 r_11.2.2.2.2.2.2.2.2.2.2.1), .val (.int .i32 r_11.2.2.2.2.2.2.2.2.2.2.2)]), (17, .c (.val (.int .i64 t_14)))], [(0, .box [.val (.int .u8 (List.getD ([(r_11.1, (r_11.2.1, r_11.2.2.1)), (r_11.2.2.2.1, (r_11.2.2.2.2.1, r_11.2.2.2.2.2.1)), (r_11.2.2.2.2.2.2.1, (r_11.2.2.2.2.2.2.2.1, r_11.2.2.2.2.2.2.2.2.1)), (r_11.2.2.2.2.2.2.2.2.2.1, (r_11.2.2.2.2.2.2.2.2.2.2.1, r_11.2.2.2.2.2.2.2.2.2.2.2))] : List (Int × (Int × Int))) (Int.toNat t_14) ((0 : Int), ((0 : Int), (0 : Int)))).1), .val (.int .u8 (List.getD ([(r_11.1, (r_11.2.1, r_11.2.2.1)), (r_11.2.2.2.1, (r_11.2.2.2.2.1, r_11.2.2.2.2.2.1)), (r_11.2.2.2.2.2.2.1, (r_11.2.2.2.2.2.2.2.1, r_11.2.2.2.2.2.2.2.2.1)), (r_11.2.2.2.2.2.2.2.2.2.1, (r_11.2.2.2.2.2.2.2.2.2.2.1, r_11.2.2.2.2.2.2.2.2.2.2.2))] : List (Int × (Int × Int))) (Int.toNat t_14) ((0 : Int), ((0 : Int), (0 : Int)))).2.1), .val (.int .i32 (List.getD ([(r_11.1, (r_11.2.1, r_11.2.2.1)), (r_11.2.2.2.1, (r_11.2.2.2.2.1, r_11.2.2.2.2.2.1)), (r_11.2.2.2.2.2.2.1, (r_11.2.2.2.2.2.2.2.1, r_11.2.2.2.2.2.2.2.2.1)), (r_11.2.2.2.2.2.2.2.2.2.1, (r_11.2.2.2.2.2.2.2.2.2.2.1, r_11.2.2.2.2.2.2.2.2.2.2.2))] : List (Int × (Int × Int))) (Int.toNat t_14) ((0 : Int), ((0 : Int), (0 : Int)))).2.2)])], 1⟩ [0 ≤ t_14, t_14 < ((4 : Nat) : Int)] (by kernel_rfl) rfl rfl (ap2 c_19.1 (ap1 c_19.2)) ?_
        obtain ⟨c_20, H_49⟩ := of_if H_48
        refine V_draw hN hn (by kernel_rfl) [] [] calls_nil 1 [0, 1, 6, 7, 16, 17, 29] [0] ⟨[(0, .c (.val (.string s_1))), (1, .c (.val (.int .i64 at_2))), (6, .c (.val (.int .i64 t_14))), (7, .c (.h 0)), (16, .agg [.val (.int .u8 r_11.1), .val (.int .u8 r_11.2.1), .val (.int .i32 r_11.2.2.1), .val (.int .u8 r_11.2.2.2.1), .val (.int .u8 r_11.2.2.2.2.1), .val (.int .i32 r_11.2.2.2.2.2.1), .val (.int .u8 r_11.2.2.2.2.2.2.1), .val (.int .u8 r_11.2.2.2.2.2.2.2.1), .val (.int .i32 r_11.2.2.2.2.2.2.2.2.1), .val (.int .u8 r_11.2.2.2.2.2.2.2.2.2.1), .val (.int .u8 r_11.2.2.2.2.2.2.2.2.2.2.1), .val (.int .i32 r_11.2.2.2.2.2.2.2.2.2.2.2)]), (17, .c (.val (.int .i64 t_14))), (29, .c (.val (.bool ((IntKind.wrap .u8 (BitVec.toNat (BitVec.ofInt (IntKind.bits .u8) (bt s_1 at_2) &&& BitVec.ofInt (IntKind.bits .u8) (List.getD ([(r_11.1, (r_11.2.1, r_11.2.2.1)), (r_11.2.2.2.1, (r_11.2.2.2.2.1, r_11.2.2.2.2.2.1)), (r_11.2.2.2.2.2.2.1, (r_11.2.2.2.2.2.2.2.1, r_11.2.2.2.2.2.2.2.2.1)), (r_11.2.2.2.2.2.2.2.2.2.1, (r_11.2.2.2.2.2.2.2.2.2.2.1, r_11.2.2.2.2.2.2.2.2.2.2.2))] : List (Int × (Int × Int))) (Int.toNat t_14) ((0 : Int), ((0 : Int), (0 : Int)))).1))) == (List.getD ([(r_11.1, (r_11.2.1, r_11.2.2.1)), (r_11.2.2.2.1, (r_11.2.2.2.2.1, r_11.2.2.2.2.2.1)), (r_11.2.2.2.2.2.2.1, (r_11.2.2.2.2.2.2.2.1, r_11.2.2.2.2.2.2.2.2.1)), (r_11.2.2.2.2.2.2.2.2.2.1, (r_11.2.2.2.2.2.2.2.2.2.2.1, r_11.2.2.2.2.2.2.2.2.2.2.2))] : List (Int × (Int × Int))) (Int.toNat t_14) ((0 : Int), ((0 : Int), (0 : Int)))).2.1))))], [(0, .box [.val (.int .u8 (List.getD ([(r_11.1, (r_11.2.1, r_11.2.2.1)), (r_11.2.2.2.1, (r_11.2.2.2.2.1, r_11.2.2.2.2.2.1)), (r_11.2.2.2.2.2.2.1, (r_11.2.2.2.2.2.2.2.1, r_11.2.2.2.2.2.2.2.2.1)), (r_11.2.2.2.2.2.2.2.2.2.1, (r_11.2.2.2.2.2.2.2.2.2.2.1, r_11.2.2.2.2.2.2.2.2.2.2.2))] : List (Int × (Int × Int))) (Int.toNat t_14) ((0 : Int), ((0 : Int), (0 : Int)))).1), .val (.int .u8 (List.getD ([(r_11.1, (r_11.2.1, r_11.2.2.1)), (r_11.2.2.2.1, (r_11.2.2.2.2.1, r_11.2.2.2.2.2.1)), (r_11.2.2.2.2.2.2.1, (r_11.2.2.2.2.2.2.2.1, r_11.2.2.2.2.2.2.2.2.1)), (r_11.2.2.2.2.2.2.2.2.2.1, (r_11.2.2.2.2.2.2.2.2.2.2.1, r_11.2.2.2.2.2.2.2.2.2.2.2))] : List (Int × (Int × Int))) (Int.toNat t_14) ((0 : Int), ((0 : Int), (0 : Int)))).2.1), .val (.int .i32 (List.getD ([(r_11.1, (r_11.2.1, r_11.2.2.1)), (r_11.2.2.2.1, (r_11.2.2.2.2.1, r_11.2.2.2.2.2.1)), (r_11.2.2.2.2.2.2.1, (r_11.2.2.2.2.2.2.2.1, r_11.2.2.2.2.2.2.2.2.1)), (r_11.2.2.2.2.2.2.2.2.2.1, (r_11.2.2.2.2.2.2.2.2.2.2.1, r_11.2.2.2.2.2.2.2.2.2.2.2))] : List (Int × (Int × Int))) (Int.toNat t_14) ((0 : Int), ((0 : Int), (0 : Int)))).2.2)])], 1⟩ [0 ≤ at_2, at_2 < (((ByteArray.size s_1) : Nat) : Int)] (by kernel_rfl) rfl rfl (ap2 c_20.1 (ap1 c_20.2)) (by kernel_rfl) (by kernel_rfl) ?_
        refine VL_cond (((IntKind.wrap .u8 (BitVec.toNat (BitVec.ofInt (IntKind.bits .u8) (bt s_1 at_2) &&& BitVec.ofInt (IntKind.bits .u8) (List.getD ([(r_11.1, (r_11.2.1, r_11.2.2.1)), (r_11.2.2.2.1, (r_11.2.2.2.2.1, r_11.2.2.2.2.2.1)), (r_11.2.2.2.2.2.2.1, (r_11.2.2.2.2.2.2.2.1, r_11.2.2.2.2.2.2.2.2.1)), (r_11.2.2.2.2.2.2.2.2.2.1, (r_11.2.2.2.2.2.2.2.2.2.2.1, r_11.2.2.2.2.2.2.2.2.2.2.2))] : List (Int × (Int × Int))) (Int.toNat t_14) ((0 : Int), ((0 : Int), (0 : Int)))).1))) == (List.getD ([(r_11.1, (r_11.2.1, r_11.2.2.1)), (r_11.2.2.2.1, (r_11.2.2.2.2.1, r_11.2.2.2.2.2.1)), (r_11.2.2.2.2.2.2.1, (r_11.2.2.2.2.2.2.2.1, r_11.2.2.2.2.2.2.2.2.1)), (r_11.2.2.2.2.2.2.2.2.2.1, (r_11.2.2.2.2.2.2.2.2.2.2.1, r_11.2.2.2.2.2.2.2.2.2.2.2))] : List (Int × (Int × Int))) (Int.toNat t_14) ((0 : Int), ((0 : Int), (0 : Int)))).2.1)) (by kernel_rfl) ?_ ?_
        · intro b_21; have H_50 := of_t H_49 b_21
          refine V_run hN hn 1 1 [0, 1, 6, 7, 16, 17, 29] [0] ⟨[(0, .c (.val (.string s_1))), (1, .c (.val (.int .i64 at_2))), (6, .c (.val (.int .i64 t_14))), (7, .c (.h 0)), (16, .agg [.val (.int .u8 r_11.1), .val (.int .u8 r_11.2.1), .val (.int .i32 r_11.2.2.1), .val (.int .u8 r_11.2.2.2.1), .val (.int .u8 r_11.2.2.2.2.1), .val (.int .i32 r_11.2.2.2.2.2.1), .val (.int .u8 r_11.2.2.2.2.2.2.1), .val (.int .u8 r_11.2.2.2.2.2.2.2.1), .val (.int .i32 r_11.2.2.2.2.2.2.2.2.1), .val (.int .u8 r_11.2.2.2.2.2.2.2.2.2.1), .val (.int .u8 r_11.2.2.2.2.2.2.2.2.2.2.1), .val (.int .i32 r_11.2.2.2.2.2.2.2.2.2.2.2)]), (17, .c (.val (.int .i64 t_14))), (29, .c (.val (.bool ((IntKind.wrap .u8 (BitVec.toNat (BitVec.ofInt (IntKind.bits .u8) (bt s_1 at_2) &&& BitVec.ofInt (IntKind.bits .u8) (List.getD ([(r_11.1, (r_11.2.1, r_11.2.2.1)), (r_11.2.2.2.1, (r_11.2.2.2.2.1, r_11.2.2.2.2.2.1)), (r_11.2.2.2.2.2.2.1, (r_11.2.2.2.2.2.2.2.1, r_11.2.2.2.2.2.2.2.2.1)), (r_11.2.2.2.2.2.2.2.2.2.1, (r_11.2.2.2.2.2.2.2.2.2.2.1, r_11.2.2.2.2.2.2.2.2.2.2.2))] : List (Int × (Int × Int))) (Int.toNat t_14) ((0 : Int), ((0 : Int), (0 : Int)))).1))) == (List.getD ([(r_11.1, (r_11.2.1, r_11.2.2.1)), (r_11.2.2.2.1, (r_11.2.2.2.2.1, r_11.2.2.2.2.2.1)), (r_11.2.2.2.2.2.2.1, (r_11.2.2.2.2.2.2.2.1, r_11.2.2.2.2.2.2.2.2.1)), (r_11.2.2.2.2.2.2.2.2.2.1, (r_11.2.2.2.2.2.2.2.2.2.2.1, r_11.2.2.2.2.2.2.2.2.2.2.2))] : List (Int × (Int × Int))) (Int.toNat t_14) ((0 : Int), ((0 : Int), (0 : Int)))).2.1))))], [(0, .box [.val (.int .u8 (List.getD ([(r_11.1, (r_11.2.1, r_11.2.2.1)), (r_11.2.2.2.1, (r_11.2.2.2.2.1, r_11.2.2.2.2.2.1)), (r_11.2.2.2.2.2.2.1, (r_11.2.2.2.2.2.2.2.1, r_11.2.2.2.2.2.2.2.2.1)), (r_11.2.2.2.2.2.2.2.2.2.1, (r_11.2.2.2.2.2.2.2.2.2.2.1, r_11.2.2.2.2.2.2.2.2.2.2.2))] : List (Int × (Int × Int))) (Int.toNat t_14) ((0 : Int), ((0 : Int), (0 : Int)))).1), .val (.int .u8 (List.getD ([(r_11.1, (r_11.2.1, r_11.2.2.1)), (r_11.2.2.2.1, (r_11.2.2.2.2.1, r_11.2.2.2.2.2.1)), (r_11.2.2.2.2.2.2.1, (r_11.2.2.2.2.2.2.2.1, r_11.2.2.2.2.2.2.2.2.1)), (r_11.2.2.2.2.2.2.2.2.2.1, (r_11.2.2.2.2.2.2.2.2.2.2.1, r_11.2.2.2.2.2.2.2.2.2.2.2))] : List (Int × (Int × Int))) (Int.toNat t_14) ((0 : Int), ((0 : Int), (0 : Int)))).2.1), .val (.int .i32 (List.getD ([(r_11.1, (r_11.2.1, r_11.2.2.1)), (r_11.2.2.2.1, (r_11.2.2.2.2.1, r_11.2.2.2.2.2.1)), (r_11.2.2.2.2.2.2.1, (r_11.2.2.2.2.2.2.2.1, r_11.2.2.2.2.2.2.2.2.1)), (r_11.2.2.2.2.2.2.2.2.2.1, (r_11.2.2.2.2.2.2.2.2.2.2.1, r_11.2.2.2.2.2.2.2.2.2.2.2))] : List (Int × (Int × Int))) (Int.toNat t_14) ((0 : Int), ((0 : Int), (0 : Int)))).2.2)])], 1⟩ [] (by kernel_rfl) rfl rfl ap0 ?_
          obtain ⟨r_23, h_24, H_52⟩ := of_bind H_50
          refine V_reg hN hn [(5, ⟨58, 0, [.c (.val (.string s_1)), .c (.val (.int .i64 at_2)), .c (.val (.int .i64 (IntKind.wrap .i64 (t_14 + (1 : Int))))), .agg [.val (.int .u8 (List.getD ([(r_11.1, (r_11.2.1, r_11.2.2.1)), (r_11.2.2.2.1, (r_11.2.2.2.2.1, r_11.2.2.2.2.2.1)), (r_11.2.2.2.2.2.2.1, (r_11.2.2.2.2.2.2.2.1, r_11.2.2.2.2.2.2.2.2.1)), (r_11.2.2.2.2.2.2.2.2.2.1, (r_11.2.2.2.2.2.2.2.2.2.2.1, r_11.2.2.2.2.2.2.2.2.2.2.2))] : List (Int × (Int × Int))) (Int.toNat t_14) ((0 : Int), ((0 : Int), (0 : Int)))).1), .val (.int .u8 (List.getD ([(r_11.1, (r_11.2.1, r_11.2.2.1)), (r_11.2.2.2.1, (r_11.2.2.2.2.1, r_11.2.2.2.2.2.1)), (r_11.2.2.2.2.2.2.1, (r_11.2.2.2.2.2.2.2.1, r_11.2.2.2.2.2.2.2.2.1)), (r_11.2.2.2.2.2.2.2.2.2.1, (r_11.2.2.2.2.2.2.2.2.2.2.1, r_11.2.2.2.2.2.2.2.2.2.2.2))] : List (Int × (Int × Int))) (Int.toNat t_14) ((0 : Int), ((0 : Int), (0 : Int)))).2.1), .val (.int .i32 (List.getD ([(r_11.1, (r_11.2.1, r_11.2.2.1)), (r_11.2.2.2.1, (r_11.2.2.2.2.1, r_11.2.2.2.2.2.1)), (r_11.2.2.2.2.2.2.1, (r_11.2.2.2.2.2.2.2.1, r_11.2.2.2.2.2.2.2.2.1)), (r_11.2.2.2.2.2.2.2.2.2.1, (r_11.2.2.2.2.2.2.2.2.2.2.1, r_11.2.2.2.2.2.2.2.2.2.2.2))] : List (Int × (Int × Int))) (Int.toNat t_14) ((0 : Int), ((0 : Int), (0 : Int)))).2.2)]], [], .tup [(false, [.val (.int .i32 r_23.1)]), (false, [.val (.int .i64 r_23.2)])], [], [], 1⟩)] [] (calls_cons (utf_long_spec K s_1 at_2 (IntKind.wrap .i64 (t_14 + (1 : Int))) (List.getD ([(r_11.1, (r_11.2.1, r_11.2.2.1)), (r_11.2.2.2.1, (r_11.2.2.2.2.1, r_11.2.2.2.2.2.1)), (r_11.2.2.2.2.2.2.1, (r_11.2.2.2.2.2.2.2.1, r_11.2.2.2.2.2.2.2.2.1)), (r_11.2.2.2.2.2.2.2.2.2.1, (r_11.2.2.2.2.2.2.2.2.2.2.1, r_11.2.2.2.2.2.2.2.2.2.2.2))] : List (Int × (Int × Int))) (Int.toNat t_14) ((0 : Int), ((0 : Int), (0 : Int)))).1 (List.getD ([(r_11.1, (r_11.2.1, r_11.2.2.1)), (r_11.2.2.2.1, (r_11.2.2.2.2.1, r_11.2.2.2.2.2.1)), (r_11.2.2.2.2.2.2.1, (r_11.2.2.2.2.2.2.2.1, r_11.2.2.2.2.2.2.2.2.1)), (r_11.2.2.2.2.2.2.2.2.2.1, (r_11.2.2.2.2.2.2.2.2.2.2.1, r_11.2.2.2.2.2.2.2.2.2.2.2))] : List (Int × (Int × Int))) (Int.toNat t_14) ((0 : Int), ((0 : Int), (0 : Int)))).2.1 (List.getD ([(r_11.1, (r_11.2.1, r_11.2.2.1)), (r_11.2.2.2.1, (r_11.2.2.2.2.1, r_11.2.2.2.2.2.1)), (r_11.2.2.2.2.2.2.1, (r_11.2.2.2.2.2.2.2.1, r_11.2.2.2.2.2.2.2.2.1)), (r_11.2.2.2.2.2.2.2.2.2.1, (r_11.2.2.2.2.2.2.2.2.2.2.1, r_11.2.2.2.2.2.2.2.2.2.2.2))] : List (Int × (Int × Int))) (Int.toNat t_14) ((0 : Int), ((0 : Int), (0 : Int)))).2.2 r_23 h_24) (by kernel_rfl) calls_nil) 1 [4, 5] [] ⟨[(4, .c (.val (.int .i32 r_23.1))), (5, .c (.val (.int .i64 r_23.2)))], [], 1⟩ [] (by kernel_rfl) rfl rfl ap0 (by kernel_rfl) (by kernel_rfl) ?_
          have H_53 := Option.some.inj (show some (r_23.1, r_23.2) = some r from H_52); subst H_53
          refine VL_ret ?_
          refine QB_ret ?_
          refine QL_ret ?_
          refine QB_ret ?_
          exact P_to [(4, .c (.val (.int .i32 r_23.1))), (5, .c (.val (.int .i64 r_23.2)))] [] [] hn (by kernel_rfl) (by kernel_rfl) rfl rfl rfl (QF_retS (by kernel_rfl) (by kernel_rfl) rfl)
        · intro b_21; have H_51 := of_f H_49 b_21
          refine V_run hN hn 1 1 [0, 1, 6, 7, 16, 17, 29] [0] ⟨[(0, .c (.val (.string s_1))), (1, .c (.val (.int .i64 at_2))), (6, .c (.val (.int .i64 t_14))), (7, .c (.h 0)), (16, .agg [.val (.int .u8 r_11.1), .val (.int .u8 r_11.2.1), .val (.int .i32 r_11.2.2.1), .val (.int .u8 r_11.2.2.2.1), .val (.int .u8 r_11.2.2.2.2.1), .val (.int .i32 r_11.2.2.2.2.2.1), .val (.int .u8 r_11.2.2.2.2.2.2.1), .val (.int .u8 r_11.2.2.2.2.2.2.2.1), .val (.int .i32 r_11.2.2.2.2.2.2.2.2.1), .val (.int .u8 r_11.2.2.2.2.2.2.2.2.2.1), .val (.int .u8 r_11.2.2.2.2.2.2.2.2.2.2.1), .val (.int .i32 r_11.2.2.2.2.2.2.2.2.2.2.2)]), (17, .c (.val (.int .i64 t_14))), (29, .c (.val (.bool ((IntKind.wrap .u8 (BitVec.toNat (BitVec.ofInt (IntKind.bits .u8) (bt s_1 at_2) &&& BitVec.ofInt (IntKind.bits .u8) (List.getD ([(r_11.1, (r_11.2.1, r_11.2.2.1)), (r_11.2.2.2.1, (r_11.2.2.2.2.1, r_11.2.2.2.2.2.1)), (r_11.2.2.2.2.2.2.1, (r_11.2.2.2.2.2.2.2.1, r_11.2.2.2.2.2.2.2.2.1)), (r_11.2.2.2.2.2.2.2.2.2.1, (r_11.2.2.2.2.2.2.2.2.2.2.1, r_11.2.2.2.2.2.2.2.2.2.2.2))] : List (Int × (Int × Int))) (Int.toNat t_14) ((0 : Int), ((0 : Int), (0 : Int)))).1))) == (List.getD ([(r_11.1, (r_11.2.1, r_11.2.2.1)), (r_11.2.2.2.1, (r_11.2.2.2.2.1, r_11.2.2.2.2.2.1)), (r_11.2.2.2.2.2.2.1, (r_11.2.2.2.2.2.2.2.1, r_11.2.2.2.2.2.2.2.2.1)), (r_11.2.2.2.2.2.2.2.2.2.1, (r_11.2.2.2.2.2.2.2.2.2.2.1, r_11.2.2.2.2.2.2.2.2.2.2.2))] : List (Int × (Int × Int))) (Int.toNat t_14) ((0 : Int), ((0 : Int), (0 : Int)))).2.1))))], [(0, .box [.val (.int .u8 (List.getD ([(r_11.1, (r_11.2.1, r_11.2.2.1)), (r_11.2.2.2.1, (r_11.2.2.2.2.1, r_11.2.2.2.2.2.1)), (r_11.2.2.2.2.2.2.1, (r_11.2.2.2.2.2.2.2.1, r_11.2.2.2.2.2.2.2.2.1)), (r_11.2.2.2.2.2.2.2.2.2.1, (r_11.2.2.2.2.2.2.2.2.2.2.1, r_11.2.2.2.2.2.2.2.2.2.2.2))] : List (Int × (Int × Int))) (Int.toNat t_14) ((0 : Int), ((0 : Int), (0 : Int)))).1), .val (.int .u8 (List.getD ([(r_11.1, (r_11.2.1, r_11.2.2.1)), (r_11.2.2.2.1, (r_11.2.2.2.2.1, r_11.2.2.2.2.2.1)), (r_11.2.2.2.2.2.2.1, (r_11.2.2.2.2.2.2.2.1, r_11.2.2.2.2.2.2.2.2.1)), (r_11.2.2.2.2.2.2.2.2.2.1, (r_11.2.2.2.2.2.2.2.2.2.2.1, r_11.2.2.2.2.2.2.2.2.2.2.2))] : List (Int × (Int × Int))) (Int.toNat t_14) ((0 : Int), ((0 : Int), (0 : Int)))).2.1), .val (.int .i32 (List.getD ([(r_11.1, (r_11.2.1, r_11.2.2.1)), (r_11.2.2.2.1, (r_11.2.2.2.2.1, r_11.2.2.2.2.2.1)), (r_11.2.2.2.2.2.2.1, (r_11.2.2.2.2.2.2.2.1, r_11.2.2.2.2.2.2.2.2.1)), (r_11.2.2.2.2.2.2.2.2.2.1, (r_11.2.2.2.2.2.2.2.2.2.2.1, r_11.2.2.2.2.2.2.2.2.2.2.2))] : List (Int × (Int × Int))) (Int.toNat t_14) ((0 : Int), ((0 : Int), (0 : Int)))).2.2)])], 1⟩ [] (by kernel_rfl) rfl rfl ap0 ?_
          refine VL_nil (QB_end ?_)
          refine V_run hN hn 1 1 [0, 1, 16, 17] [] ⟨[(0, .c (.val (.string s_1))), (1, .c (.val (.int .i64 at_2))), (16, .agg [.val (.int .u8 r_11.1), .val (.int .u8 r_11.2.1), .val (.int .i32 r_11.2.2.1), .val (.int .u8 r_11.2.2.2.1), .val (.int .u8 r_11.2.2.2.2.1), .val (.int .i32 r_11.2.2.2.2.2.1), .val (.int .u8 r_11.2.2.2.2.2.2.1), .val (.int .u8 r_11.2.2.2.2.2.2.2.1), .val (.int .i32 r_11.2.2.2.2.2.2.2.2.1), .val (.int .u8 r_11.2.2.2.2.2.2.2.2.2.1), .val (.int .u8 r_11.2.2.2.2.2.2.2.2.2.2.1), .val (.int .i32 r_11.2.2.2.2.2.2.2.2.2.2.2)]), (17, .c (.val (.int .i64 (IntKind.wrap .i64 (t_14 + (1 : Int))))))], [], 1⟩ [] (by kernel_rfl) rfl rfl ap0 ?_
          refine VL_nil ?_
          exact V_roundEnd (IntKind.wrap .i64 (t_14 + (1 : Int))) H_51 [] hn (by kernel_rfl) (by kernel_rfl) rfl rfl rfl
      · intro b_17; have H_47 := of_f H_45 b_17
        refine VL_exit ?_
        refine QL_exit ?_
        refine QB_here ?_
        refine V_run hN hn 2 0 [4, 5] [] ⟨[(4, .c (.val (.int .i32 (0 : Int)))), (5, .c (.val (.int .i64 (0 : Int))))], [], 0⟩ [] (by kernel_rfl) rfl rfl ap0 ?_
        have H_54 := Option.some.inj (show some ((0 : Int), (0 : Int)) = some r from H_47); subst H_54
        refine VL_ret ?_
        exact P_to [(4, .c (.val (.int .i32 (0 : Int)))), (5, .c (.val (.int .i64 (0 : Int))))] [] [] hn (by kernel_rfl) (by kernel_rfl) rfl rfl rfl (QF_retS (by kernel_rfl) (by kernel_rfl) rfl)

theorem utf_Size_spec (K : Nat) (s_1 : ByteArray) (at_2 : Int) (r : Int) (H : utf_Size K s_1 at_2 = some r) : Spec Try.prog 43 0 [.c (.val (.string s_1)), .c (.val (.int .i64 at_2))] [] (.c (.val (.int .i64 r))) [] := by
  refine Spec_mk (fn := Try.f43) (c := (Try.f43.body).get!) Try.func43 (by kernel_rfl) rfl ?_
  intro C hN hn
  replace hN : C.N = 14 := hN
  unfold utf_Size at H
  refine V_run hN hn 3 0 [0, 1] [] ⟨[(0, .c (.val (.string s_1))), (1, .c (.val (.int .i64 at_2)))], [], 0⟩ [] (by kernel_rfl) rfl rfl ap0 ?_
  obtain ⟨r_4, h_5, H_9⟩ := of_bind H
  refine V_reg hN hn [(2, ⟨54, 0, [.c (.val (.string s_1)), .c (.val (.int .i64 at_2))], [], .tup [(false, [.val (.int .i32 r_4.1)]), (false, [.val (.int .i64 r_4.2)])], [], [], 0⟩)] [] (calls_cons (utf_point_spec K s_1 at_2 r_4 h_5) (by kernel_rfl) calls_nil) 0 [6] [] ⟨[(6, .c (.val (.int .i64 r_4.2)))], [], 0⟩ [] (by kernel_rfl) rfl rfl ap0 (by kernel_rfl) (by kernel_rfl) ?_
  refine V_run hN hn 2 0 [4] [] ⟨[(4, .c (.val (.int .i64 r_4.2)))], [], 0⟩ [] (by kernel_rfl) rfl rfl ap0 ?_
  have H_10 := Option.some.inj (show some r_4.2 = some r from H_9); subst H_10
  refine VL_ret ?_
  exact P_to [(4, .c (.val (.int .i64 r_4.2)))] [] [] hn (by kernel_rfl) (by kernel_rfl) rfl rfl rfl (QF_retS (by kernel_rfl) (by kernel_rfl) rfl)

theorem utf_Valid_spec (K : Nat) (s_1 : ByteArray) (r : Bool) (H : utf_Valid K s_1 = some r) : Spec Try.prog 27 0 [.c (.val (.string s_1))] [] (.c (.val (.bool r))) [] := by
  refine Spec_mk (fn := Try.f27) (c := (Try.f27.body).get!) Try.func27 (by kernel_rfl) rfl ?_
  intro C hN hn
  replace hN : C.N = 17 := hN
  unfold utf_Valid at H
  refine V_run hN hn 5 0 [0, 3] [] ⟨[(0, .c (.val (.string s_1))), (3, .c (.val (.int .i64 (0 : Int))))], [], 0⟩ [] (by kernel_rfl) rfl rfl ap0 ?_
  refine VL_block ?_
  refine V_to [(0, .c (.val (.string s_1))), (3, .c (.val (.int .i64 (0 : Int))))] [] [] hn (by kernel_rfl) (by kernel_rfl) rfl rfl rfl ?_
  refine VL_loop (X := Int) (fun x => [(0, .c (.val (.string s_1))), (3, .c (.val (.int .i64 x)))]) (fun x => []) (fun k x => utf_Valid.l0 K s_1 k x = some r) K (0 : Int) H (fun _ h => no_none h) ?_
  intro k_4 at_3 H_18
  have H_19 : utf_Valid.l0 K s_1 (k_4 + 1) at_3 = some r := H_18
  rw [utf_Valid.l0] at H_19
  refine V_run hN hn 3 0 [0, 3, 8] [] ⟨[(0, .c (.val (.string s_1))), (3, .c (.val (.int .i64 at_3))), (8, .c (.val (.bool (decide (at_3 < (((ByteArray.size s_1) : Nat) : Int))))))], [], 0⟩ [] (by kernel_rfl) rfl rfl ap0 ?_
  refine VL_cond ((decide (at_3 < (((ByteArray.size s_1) : Nat) : Int)))) (by kernel_rfl) ?_ ?_
  · intro b_6; have H_20 := of_t H_19 b_6
    refine V_run hN hn 1 0 [0, 3, 8] [] ⟨[(0, .c (.val (.string s_1))), (3, .c (.val (.int .i64 at_3))), (8, .c (.val (.bool (decide (at_3 < (((ByteArray.size s_1) : Nat) : Int))))))], [], 0⟩ [] (by kernel_rfl) rfl rfl ap0 ?_
    refine VL_block ?_
    refine V_run hN hn 1 0 [0, 3, 8] [] ⟨[(0, .c (.val (.string s_1))), (3, .c (.val (.int .i64 at_3))), (8, .c (.val (.bool (decide (at_3 < (((ByteArray.size s_1) : Nat) : Int))))))], [], 0⟩ [] (by kernel_rfl) rfl rfl ap0 ?_
    obtain ⟨r_9, h_10, H_22⟩ := of_bind H_20
    refine V_reg hN hn [(2, ⟨43, 0, [.c (.val (.string s_1)), .c (.val (.int .i64 at_3))], [], .c (.val (.int .i64 r_9)), [], [], 0⟩)] [] (calls_cons (utf_Size_spec K s_1 at_3 r_9 h_10) (by kernel_rfl) calls_nil) 0 [0, 3, 4] [] ⟨[(0, .c (.val (.string s_1))), (3, .c (.val (.int .i64 at_3))), (4, .c (.val (.int .i64 r_9)))], [], 0⟩ [] (by kernel_rfl) rfl rfl ap0 (by kernel_rfl) (by kernel_rfl) ?_
    refine V_run hN hn 3 0 [0, 3, 4, 13] [] ⟨[(0, .c (.val (.string s_1))), (3, .c (.val (.int .i64 at_3))), (4, .c (.val (.int .i64 r_9))), (13, .c (.val (.bool (r_9 == (0 : Int)))))], [], 0⟩ [] (by kernel_rfl) rfl rfl ap0 ?_
    refine VL_cond ((r_9 == (0 : Int))) (by kernel_rfl) ?_ ?_
    · intro b_13; have H_23 := of_t H_22 b_13
      refine V_run hN hn 2 0 [2] [] ⟨[(2, .c (.val (.bool false)))], [], 0⟩ [] (by kernel_rfl) rfl rfl ap0 ?_
      have H_25 := Option.some.inj (show some false = some r from H_23); subst H_25
      refine VL_ret ?_
      refine QB_ret ?_
      refine QL_ret ?_
      refine QB_ret ?_
      exact P_to [(2, .c (.val (.bool false)))] [] [] hn (by kernel_rfl) (by kernel_rfl) rfl rfl rfl (QF_retS (by kernel_rfl) (by kernel_rfl) rfl)
    · intro b_13; have H_24 := of_f H_22 b_13
      refine V_run hN hn 2 0 [0, 3] [] ⟨[(0, .c (.val (.string s_1))), (3, .c (.val (.int .i64 (IntKind.wrap .i64 (at_3 + r_9)))))], [], 0⟩ [] (by kernel_rfl) rfl rfl ap0 ?_
      refine VL_nil (QB_end ?_)
      refine VL_nil ?_
      exact V_roundEnd (IntKind.wrap .i64 (at_3 + r_9)) H_24 [] hn (by kernel_rfl) (by kernel_rfl) rfl rfl rfl
  · intro b_6; have H_21 := of_f H_19 b_6
    refine VL_exit ?_
    refine QL_exit ?_
    refine QB_here ?_
    refine V_run hN hn 2 0 [2] [] ⟨[(2, .c (.val (.bool true)))], [], 0⟩ [] (by kernel_rfl) rfl rfl ap0 ?_
    have H_26 := Option.some.inj (show some true = some r from H_21); subst H_26
    refine VL_ret ?_
    exact P_to [(2, .c (.val (.bool true)))] [] [] hn (by kernel_rfl) (by kernel_rfl) rfl rfl rfl (QF_retS (by kernel_rfl) (by kernel_rfl) rfl)

theorem breaks_Wrap_spec (K : Nat) (s_1 : ByteArray) (width_2 : Int) (r : ((List Int) × Int)) (H : breaks_Wrap K s_1 width_2 = some r) : Spec Try.prog 10 0 [.c (.val (.string s_1)), .c (.val (.int .i64 width_2))] [] (.tup [(false, [.h 6]), (false, [.val (.int .i64 r.2)])]) [(6, .row (.int .i64) r.1)] := by
  refine Spec_mk (fn := Try.f10) (c := (Try.f10.body).get!) Try.func10 (by kernel_rfl) rfl ?_
  intro C hN hn
  replace hN : C.N = 45 := hN
  unfold breaks_Wrap at H
  refine V_run hN hn 4 0 [0, 1] [] ⟨[(0, .c (.val (.string s_1))), (1, .c (.val (.int .i64 width_2)))], [], 0⟩ [] (by kernel_rfl) rfl rfl ap0 ?_
  obtain ⟨q_62, H_63, H_64⟩ := of_bind H
  refine V_cut (Y := Bool) (R := Bool) q_62 (fun y => y) (fun y => [(0, .c (.val (.string s_1))), (1, .c (.val (.int .i64 width_2))), (17, .c (.val (.bool y)))]) (fun y => []) ?_ ?_
  · skip
    obtain ⟨r_4, h_5, H_66⟩ := of_bind H_63
    rcases Bool.eq_false_or_eq_true ((!r_4)) with b_6 | b_6
    · have H_67 := of_t H_66 b_6
      refine V_reg hN hn [(1, ⟨27, 0, [.c (.val (.string s_1))], [], .c (.val (.bool r_4)), [], [], 0⟩)] [(14, true)] (calls_cons (utf_Valid_spec K s_1 r_4 h_5) (by kernel_rfl) calls_nil) 0 [0, 1, 17] [] ⟨[(0, .c (.val (.string s_1))), (1, .c (.val (.int .i64 width_2))), (17, .c (.val (.bool true)))], [], 0⟩ [(!r_4) = true] (by kernel_rfl) rfl rfl (ap1 b_6) (by kernel_rfl) (by kernel_rfl) ?_
      have H_69 := Option.some.inj (show some true = some q_62 from H_67); subst H_69
      refine VL_nil ?_
      exact QP_end true rfl [] hn (by kernel_rfl) (by kernel_rfl) rfl rfl rfl
    · have H_68 := of_f H_66 b_6
      refine V_reg hN hn [(1, ⟨27, 0, [.c (.val (.string s_1))], [], .c (.val (.bool r_4)), [], [], 0⟩)] [(14, false)] (calls_cons (utf_Valid_spec K s_1 r_4 h_5) (by kernel_rfl) calls_nil) 0 [0, 1, 17] [] ⟨[(0, .c (.val (.string s_1))), (1, .c (.val (.int .i64 width_2))), (17, .c (.val (.bool (decide (width_2 < (4 : Int))))))], [], 0⟩ [(!r_4) = false] (by kernel_rfl) rfl rfl (ap1 b_6) (by kernel_rfl) (by kernel_rfl) ?_
      have H_70 := Option.some.inj (show some (decide (width_2 < (4 : Int))) = some q_62 from H_68); subst H_70
      refine VL_nil ?_
      exact QP_end (decide (width_2 < (4 : Int))) rfl [] hn (by kernel_rfl) (by kernel_rfl) rfl rfl rfl
  · intro y_65 hy; subst hy
    skip
    skip
    refine VL_cond (y_65) (by kernel_rfl) ?_ ?_
    · intro b_10; have H_71 := of_t H_64 b_10
      refine V_run hN hn 2 0 [4, 5] [] ⟨[(4, .c (.val (.slice none 0 0))), (5, .c (.val (.int .i64 (12 : Int))))], [], 0⟩ [] (by kernel_rfl) rfl rfl ap0 ?_
      have H_73 := Option.some.inj (show some (([] : List Int), (12 : Int)) = some r from H_71); subst H_73
      refine VL_ret ?_
      refine P_ghost [.nilSlot 4 (.int .i64)] 0 hn [4, 5] [0] ⟨[(4, .c (.h 0)), (5, .c (.val (.int .i64 (12 : Int))))], [(0, .row (.int .i64) ([] : List Int))], 1⟩ (by kernel_rfl) rfl rfl ?_
      exact P_to [(4, .c (.h 6)), (5, .c (.val (.int .i64 (12 : Int))))] [(6, .row (.int .i64) ([] : List Int))] [(6, 0)] hn (by kernel_rfl) (by kernel_rfl) rfl rfl rfl (QF_retS (by kernel_rfl) (by kernel_rfl) rfl)
    · intro b_10; have H_72 := of_f H_64 b_10
      refine V_run hN hn 8 0 [1, 6, 7, 19] [0] ⟨[(1, .c (.val (.int .i64 width_2))), (6, .c (.val (.slice none 0 0))), (7, .c (.val (.int .i64 (0 : Int)))), (19, .c (.h 0))], [(0, .it s_1 0 none)], 1⟩ [] (by kernel_rfl) rfl rfl ap0 ?_
      obtain ⟨q_74, H_75, H_76⟩ := of_bind H_72
      refine V_cut (Y := (List Int)) (R := (List Int)) q_74 (fun y => y) (fun y => [(6, .c (.h 5))]) (fun y => [(5, .row (.int .i64) y)]) ?_ ?_
      · skip
        refine VL_block ?_
        refine V_ghost [.nilSlot 6 (.int .i64)] 1 hn [1, 6, 7, 19] [0, 1] ⟨[(1, .c (.val (.int .i64 width_2))), (6, .c (.h 1)), (7, .c (.val (.int .i64 (0 : Int)))), (19, .c (.h 0))], [(0, .it s_1 0 none), (1, .row (.int .i64) ([] : List Int))], 2⟩ (by kernel_rfl) rfl rfl ?_
        refine V_to [(1, .c (.val (.int .i64 width_2))), (6, .c (.h 5)), (7, .c (.val (.int .i64 (0 : Int)))), (19, .c (.h 0))] [(0, .it s_1 (0 : Nat) none), (5, .row (.int .i64) ([] : List Int))] [(0, 0), (5, 1)] hn (by kernel_rfl) (by kernel_rfl) rfl rfl rfl ?_
        refine VL_loop (X := ((List Int) × Int × Nat)) (fun x => [(1, .c (.val (.int .i64 width_2))), (6, .c (.h 5)), (7, .c (.val (.int .i64 x.2.1))), (19, .c (.h 0))]) (fun x => [(0, .it s_1 x.2.2 none), (5, .row (.int .i64) x.1)]) (fun k x => breaks_Wrap.l0 K s_1 width_2 k x.1 x.2.1 x.2.2 = some q_74) K (([] : List Int), (0 : Int), (0 : Nat)) H_75 (fun _ h => no_none h) ?_
        intro k_34 x_34 H_78
        obtain ⟨out_32, n_13, t_33⟩ := x_34
        have H_79 : breaks_Wrap.l0 K s_1 width_2 (k_34 + 1) out_32 n_13 t_33 = some q_74 := H_78
        rw [breaks_Wrap.l0] at H_79
        refine V_run hN hn 1 6 [1, 6, 7, 19] [0, 5] ⟨[(1, .c (.val (.int .i64 width_2))), (6, .c (.h 5)), (7, .c (.val (.int .i64 n_13))), (19, .c (.h 0))], [(0, .it s_1 t_33 none), (5, .row (.int .i64) out_32)], 6⟩ [] (by kernel_rfl) rfl rfl ap0 ?_
        rcases Bool.eq_false_or_eq_true (decide (t_33 < ByteArray.size s_1)) with b_36 | b_36
        · have H_80 := of_t H_79 b_36
          refine VL_iter 0 true b_36 rfl ?_
          refine V_run hN hn 2 6 [1, 6, 7, 19, 20, 21] [0, 5] ⟨[(1, .c (.val (.int .i64 width_2))), (6, .c (.h 5)), (7, .c (.val (.int .i64 n_13))), (19, .c (.h 0)), (20, .tup [(false, [.val (.bool true)]), (false, [.val (.int .i64 ((t_33 : Nat) : Int))]), (false, [.val (.int .i32 (((Utf8.decode s_1 t_33).1 : Nat) : Int))])]), (21, .c (.val (.bool true)))], [(0, .it s_1 (t_33 + (Utf8.decode s_1 t_33).2) none), (5, .row (.int .i64) out_32)], 6⟩ [] (by kernel_rfl) rfl rfl ap0 ?_
          refine VL_cond (true) (by kernel_rfl) (fun _ => ?_) (fun h => absurd h (by decide))
          refine V_run hN hn 1 6 [1, 6, 7, 19, 20] [0, 5] ⟨[(1, .c (.val (.int .i64 width_2))), (6, .c (.h 5)), (7, .c (.val (.int .i64 n_13))), (19, .c (.h 0)), (20, .tup [(false, [.val (.bool true)]), (false, [.val (.int .i64 ((t_33 : Nat) : Int))]), (false, [.val (.int .i32 (((Utf8.decode s_1 t_33).1 : Nat) : Int))])])], [(0, .it s_1 (t_33 + (Utf8.decode s_1 t_33).2) none), (5, .row (.int .i64) out_32)], 6⟩ [] (by kernel_rfl) rfl rfl ap0 ?_
          refine VL_block ?_
          refine V_run hN hn 7 6 [1, 6, 7, 8, 9, 10, 19, 31] [0, 5] ⟨[(1, .c (.val (.int .i64 width_2))), (6, .c (.h 5)), (7, .c (.val (.int .i64 n_13))), (8, .c (.val (.int .i64 ((t_33 : Nat) : Int)))), (9, .c (.val (.int .i32 (((Utf8.decode s_1 t_33).1 : Nat) : Int)))), (10, .c (.val (.int .i64 (((ByteArray.size (Utf8.encode (((Utf8.decode s_1 t_33).1 : Nat) : Int))) : Nat) : Int)))), (19, .c (.h 0)), (31, .c (.val (.bool (decide (n_13 > (IntKind.wrap .i64 (width_2 - (((ByteArray.size (Utf8.encode (((Utf8.decode s_1 t_33).1 : Nat) : Int))) : Nat) : Int))))))))], [(0, .it s_1 (t_33 + (Utf8.decode s_1 t_33).2) none), (5, .row (.int .i64) out_32)], 6⟩ [] (by kernel_rfl) rfl rfl ap0 ?_
          obtain ⟨q_82, H_83, H_84⟩ := of_bind H_80
          refine V_cut (Y := ((List Int) × Int)) (R := ((List Int) ⊕ ((List Int) × Int))) q_82 (fun y => (Sum.inr y)) (fun y => [(1, .c (.val (.int .i64 width_2))), (6, .c (.h 8)), (7, .c (.val (.int .i64 y.2))), (9, .c (.val (.int .i32 (((Utf8.decode s_1 t_33).1 : Nat) : Int)))), (10, .c (.val (.int .i64 (((ByteArray.size (Utf8.encode (((Utf8.decode s_1 t_33).1 : Nat) : Int))) : Nat) : Int)))), (19, .c (.h 0))]) (fun y => [(0, .it s_1 (t_33 + (Utf8.decode s_1 t_33).2) none), (8, .row (.int .i64) y.1)]) ?_ ?_
          · skip
            refine VL_cond ((decide (n_13 > (IntKind.wrap .i64 (width_2 - (((ByteArray.size (Utf8.encode (((Utf8.decode s_1 t_33).1 : Nat) : Int))) : Nat) : Int)))))) (by kernel_rfl) ?_ ?_
            · intro b_40; have H_86 := of_t H_83 b_40
              refine V_run hN hn 3 6 [1, 6, 8, 9, 10, 19, 34] [0, 5] ⟨[(1, .c (.val (.int .i64 width_2))), (6, .c (.h 5)), (8, .c (.val (.int .i64 ((t_33 : Nat) : Int)))), (9, .c (.val (.int .i32 (((Utf8.decode s_1 t_33).1 : Nat) : Int)))), (10, .c (.val (.int .i64 (((ByteArray.size (Utf8.encode (((Utf8.decode s_1 t_33).1 : Nat) : Int))) : Nat) : Int)))), (19, .c (.h 0)), (34, .c (.val (.bool ((((List.length out_32) : Nat) : Int) == (60 : Int)))))], [(0, .it s_1 (t_33 + (Utf8.decode s_1 t_33).2) none), (5, .row (.int .i64) out_32)], 6⟩ [] (by kernel_rfl) rfl rfl ap0 ?_
              refine VL_cond (((((List.length out_32) : Nat) : Int) == (60 : Int))) (by kernel_rfl) ?_ ?_
              · intro b_42; have H_88 := of_t H_86 b_42
                have H_90 := Option.some.inj (show some (Sum.inl out_32) = some q_82 from H_88); subst H_90
                have H_91 := Option.some.inj (show some out_32 = some q_74 from H_84); subst H_91
                refine VL_exit ?_
                refine QP_exit ?_
                refine QB_out (by decide) ?_
                refine QL_exit ?_
                refine QB_here ?_
                refine VL_nil ?_
                exact QP_end out_32 rfl [(5, 5)] hn (by kernel_rfl) (by kernel_rfl) rfl rfl rfl
              · intro b_42; have H_89 := of_f H_86 b_42
                obtain ⟨c_43, H_92⟩ := of_if H_89
                refine V_run hN hn 4 6 [1, 6, 7, 9, 10, 19] [0, 7] ⟨[(1, .c (.val (.int .i64 width_2))), (6, .c (.h 7)), (7, .c (.val (.int .i64 (0 : Int)))), (9, .c (.val (.int .i32 (((Utf8.decode s_1 t_33).1 : Nat) : Int)))), (10, .c (.val (.int .i64 (((ByteArray.size (Utf8.encode (((Utf8.decode s_1 t_33).1 : Nat) : Int))) : Nat) : Int)))), (19, .c (.h 0))], [(0, .it s_1 (t_33 + (Utf8.decode s_1 t_33).2) none), (7, .row (.int .i64) (out_32 ++ ([((t_33 : Nat) : Int)] : List Int)))], 8⟩ [(List.length out_32 + List.length ([((t_33 : Nat) : Int)] : List Int)) * 8 ≤ 140737488355328] (by kernel_rfl) rfl rfl (ap1 c_43) ?_
                have H_93 := Option.some.inj (show some (Sum.inr ((out_32 ++ ([((t_33 : Nat) : Int)] : List Int)), (0 : Int))) = some q_82 from H_92); subst H_93
                refine VL_nil ?_
                exact QP_end ((out_32 ++ ([((t_33 : Nat) : Int)] : List Int)), (0 : Int)) rfl [(0, 0), (8, 7)] hn (by kernel_rfl) (by kernel_rfl) rfl rfl rfl
            · intro b_40; have H_87 := of_f H_83 b_40
              refine V_run hN hn 1 6 [1, 6, 7, 8, 9, 10, 19, 31] [0, 5] ⟨[(1, .c (.val (.int .i64 width_2))), (6, .c (.h 5)), (7, .c (.val (.int .i64 n_13))), (8, .c (.val (.int .i64 ((t_33 : Nat) : Int)))), (9, .c (.val (.int .i32 (((Utf8.decode s_1 t_33).1 : Nat) : Int)))), (10, .c (.val (.int .i64 (((ByteArray.size (Utf8.encode (((Utf8.decode s_1 t_33).1 : Nat) : Int))) : Nat) : Int)))), (19, .c (.h 0)), (31, .c (.val (.bool (decide (n_13 > (IntKind.wrap .i64 (width_2 - (((ByteArray.size (Utf8.encode (((Utf8.decode s_1 t_33).1 : Nat) : Int))) : Nat) : Int))))))))], [(0, .it s_1 (t_33 + (Utf8.decode s_1 t_33).2) none), (5, .row (.int .i64) out_32)], 6⟩ [] (by kernel_rfl) rfl rfl ap0 ?_
              have H_94 := Option.some.inj (show some (Sum.inr (out_32, n_13)) = some q_82 from H_87); subst H_94
              refine VL_nil ?_
              exact QP_end (out_32, n_13) rfl [(0, 0), (8, 5)] hn (by kernel_rfl) (by kernel_rfl) rfl rfl rfl
          · intro y_85 hy; subst hy
            obtain ⟨out_45, n_46⟩ := y_85
            refine V_run hN hn 4 9 [1, 6, 7, 19, 43] [0, 8] ⟨[(1, .c (.val (.int .i64 width_2))), (6, .c (.h 8)), (7, .c (.val (.int .i64 (IntKind.wrap .i64 (n_46 + (((ByteArray.size (Utf8.encode (((Utf8.decode s_1 t_33).1 : Nat) : Int))) : Nat) : Int)))))), (19, .c (.h 0)), (43, .c (.val (.bool ((((Utf8.decode s_1 t_33).1 : Nat) : Int) == (10 : Int)))))], [(0, .it s_1 (t_33 + (Utf8.decode s_1 t_33).2) none), (8, .row (.int .i64) out_45)], 9⟩ [] (by kernel_rfl) rfl rfl ap0 ?_
            refine VL_cond (((((Utf8.decode s_1 t_33).1 : Nat) : Int) == (10 : Int))) (by kernel_rfl) ?_ ?_
            · intro b_48; have H_95 := of_t H_84 b_48
              refine V_run hN hn 1 9 [1, 6, 7, 19] [0, 8] ⟨[(1, .c (.val (.int .i64 width_2))), (6, .c (.h 8)), (7, .c (.val (.int .i64 (0 : Int)))), (19, .c (.h 0))], [(0, .it s_1 (t_33 + (Utf8.decode s_1 t_33).2) none), (8, .row (.int .i64) out_45)], 9⟩ [] (by kernel_rfl) rfl rfl ap0 ?_
              refine VL_nil (QB_end ?_)
              refine VL_nil ?_
              exact V_roundEnd (out_45, (0 : Int), (t_33 + (Utf8.decode s_1 t_33).2)) H_95 [(0, 0), (5, 8)] hn (by kernel_rfl) (by kernel_rfl) rfl rfl rfl
            · intro b_48; have H_96 := of_f H_84 b_48
              refine V_run hN hn 1 9 [1, 6, 7, 19, 43] [0, 8] ⟨[(1, .c (.val (.int .i64 width_2))), (6, .c (.h 8)), (7, .c (.val (.int .i64 (IntKind.wrap .i64 (n_46 + (((ByteArray.size (Utf8.encode (((Utf8.decode s_1 t_33).1 : Nat) : Int))) : Nat) : Int)))))), (19, .c (.h 0)), (43, .c (.val (.bool ((((Utf8.decode s_1 t_33).1 : Nat) : Int) == (10 : Int)))))], [(0, .it s_1 (t_33 + (Utf8.decode s_1 t_33).2) none), (8, .row (.int .i64) out_45)], 9⟩ [] (by kernel_rfl) rfl rfl ap0 ?_
              refine VL_nil (QB_end ?_)
              refine VL_nil ?_
              exact V_roundEnd (out_45, (IntKind.wrap .i64 (n_46 + (((ByteArray.size (Utf8.encode (((Utf8.decode s_1 t_33).1 : Nat) : Int))) : Nat) : Int))), (t_33 + (Utf8.decode s_1 t_33).2)) H_96 [(0, 0), (5, 8)] hn (by kernel_rfl) (by kernel_rfl) rfl rfl rfl
        · have H_81 := of_f H_79 b_36
          refine VL_iter 0 false b_36 rfl ?_
          refine V_run hN hn 2 6 [1, 6, 7, 19, 20, 21] [0, 5] ⟨[(1, .c (.val (.int .i64 width_2))), (6, .c (.h 5)), (7, .c (.val (.int .i64 n_13))), (19, .c (.h 0)), (20, .tup [(false, [.val (.bool false)])]), (21, .c (.val (.bool false)))], [(0, .it s_1 t_33 (some false)), (5, .row (.int .i64) out_32)], 6⟩ [] (by kernel_rfl) rfl rfl ap0 ?_
          refine VL_cond (false) (by kernel_rfl) (fun h => absurd h (by decide)) (fun _ => ?_)
          refine VL_exit ?_
          refine QL_exit ?_
          refine QB_here ?_
          have H_97 := Option.some.inj (show some out_32 = some q_74 from H_81); subst H_97
          refine VL_nil ?_
          exact QP_end out_32 rfl [(5, 5)] hn (by kernel_rfl) (by kernel_rfl) rfl rfl rfl
      · intro y_77 hy; subst hy
        skip
        skip
        refine V_run hN hn 2 6 [4, 5] [5] ⟨[(4, .c (.h 5)), (5, .c (.val (.int .i64 (0 : Int))))], [(5, .row (.int .i64) y_77)], 6⟩ [] (by kernel_rfl) rfl rfl ap0 ?_
        have H_98 := Option.some.inj (show some (y_77, (0 : Int)) = some r from H_76); subst H_98
        refine VL_ret ?_
        exact P_to [(4, .c (.h 6)), (5, .c (.val (.int .i64 (0 : Int))))] [(6, .row (.int .i64) y_77)] [(6, 5)] hn (by kernel_rfl) (by kernel_rfl) rfl rfl rfl (QF_retS (by kernel_rfl) (by kernel_rfl) rfl)

theorem breaks_Line_rg_spec (K : Nat) (l_1 : (List Int)) (at_2 : Int) (r : Int) (H : breaks_Line_rg K l_1 at_2 = some r) : Spec Try.prog 19 1 [.c (.h 0), .c (.val (.int .i64 at_2))] [(0, .row (.int .i64) l_1)] (.c (.val (.int .i64 r))) [(0, .row (.int .i64) l_1)] := by
  refine Spec_mk (fn := Try.f19) (c := (Try.f19.body).get!) Try.func19 (by kernel_rfl) rfl ?_
  intro C hN hn
  replace hN : C.N = 21 := hN
  unfold breaks_Line_rg at H
  refine V_run hN hn 7 1 [1, 5, 8, 9, 10] [0] ⟨[(1, .c (.val (.int .i64 at_2))), (5, .c (.val (.int .i64 (0 : Int)))), (8, .c (.h 0)), (9, .c (.val (.int .i64 (((List.length l_1) : Nat) : Int)))), (10, .c (.val (.int .i64 (0 : Int))))], [(0, .row (.int .i64) l_1)], 1⟩ [] (by kernel_rfl) rfl rfl ap0 ?_
  refine VL_block ?_
  refine V_to [(1, .c (.val (.int .i64 at_2))), (5, .c (.val (.int .i64 (0 : Int)))), (8, .c (.h 0)), (9, .c (.val (.int .i64 (((List.length l_1) : Nat) : Int)))), (10, .c (.val (.int .i64 (0 : Int))))] [(0, .row (.int .i64) l_1)] [] hn (by kernel_rfl) (by kernel_rfl) rfl rfl rfl ?_
  refine VL_loop (X := (Int × Int)) (fun x => [(1, .c (.val (.int .i64 at_2))), (5, .c (.val (.int .i64 x.1))), (8, .c (.h 0)), (9, .c (.val (.int .i64 (((List.length l_1) : Nat) : Int)))), (10, .c (.val (.int .i64 x.2)))]) (fun x => [(0, .row (.int .i64) l_1)]) (fun k x => breaks_Line_rg.l0 K l_1 at_2 k x.1 x.2 = some r) K ((0 : Int), (0 : Int)) H (fun _ h => no_none h) ?_
  intro k_6 x_6 H_18
  obtain ⟨n_4, t_5⟩ := x_6
  have H_19 : breaks_Line_rg.l0 K l_1 at_2 (k_6 + 1) n_4 t_5 = some r := H_18
  rw [breaks_Line_rg.l0] at H_19
  refine V_run hN hn 3 1 [1, 5, 8, 9, 10, 11] [0] ⟨[(1, .c (.val (.int .i64 at_2))), (5, .c (.val (.int .i64 n_4))), (8, .c (.h 0)), (9, .c (.val (.int .i64 (((List.length l_1) : Nat) : Int)))), (10, .c (.val (.int .i64 t_5))), (11, .c (.val (.bool (decide (t_5 < (((List.length l_1) : Nat) : Int))))))], [(0, .row (.int .i64) l_1)], 1⟩ [] (by kernel_rfl) rfl rfl ap0 ?_
  refine VL_cond ((decide (t_5 < (((List.length l_1) : Nat) : Int)))) (by kernel_rfl) ?_ ?_
  · intro b_8; have H_20 := of_t H_19 b_8
    refine V_run hN hn 2 1 [1, 5, 8, 9, 10, 11] [0] ⟨[(1, .c (.val (.int .i64 at_2))), (5, .c (.val (.int .i64 n_4))), (8, .c (.h 0)), (9, .c (.val (.int .i64 (((List.length l_1) : Nat) : Int)))), (10, .c (.val (.int .i64 t_5))), (11, .c (.val (.bool (decide (t_5 < (((List.length l_1) : Nat) : Int))))))], [(0, .row (.int .i64) l_1)], 1⟩ [] (by kernel_rfl) rfl rfl ap0 ?_
    refine VL_block ?_
    obtain ⟨c_10, H_22⟩ := of_if H_20
    refine V_run hN hn 4 1 [1, 5, 8, 9, 10, 16] [0] ⟨[(1, .c (.val (.int .i64 at_2))), (5, .c (.val (.int .i64 n_4))), (8, .c (.h 0)), (9, .c (.val (.int .i64 (((List.length l_1) : Nat) : Int)))), (10, .c (.val (.int .i64 t_5))), (16, .c (.val (.bool (decide ((List.getD l_1 (Int.toNat t_5) (0 : Int)) ≤ at_2)))))], [(0, .row (.int .i64) l_1)], 1⟩ [0 ≤ t_5, t_5 < (((List.length l_1) : Nat) : Int)] (by kernel_rfl) rfl rfl (ap2 c_10.1 (ap1 c_10.2)) ?_
    refine VL_cond ((decide ((List.getD l_1 (Int.toNat t_5) (0 : Int)) ≤ at_2))) (by kernel_rfl) ?_ ?_
    · intro b_11; have H_23 := of_t H_22 b_11
      refine V_run hN hn 1 1 [1, 5, 8, 9, 10] [0] ⟨[(1, .c (.val (.int .i64 at_2))), (5, .c (.val (.int .i64 (IntKind.wrap .i64 (n_4 + (1 : Int)))))), (8, .c (.h 0)), (9, .c (.val (.int .i64 (((List.length l_1) : Nat) : Int)))), (10, .c (.val (.int .i64 t_5)))], [(0, .row (.int .i64) l_1)], 1⟩ [] (by kernel_rfl) rfl rfl ap0 ?_
      refine VL_nil (QB_end ?_)
      refine V_run hN hn 1 1 [1, 5, 8, 9, 10] [0] ⟨[(1, .c (.val (.int .i64 at_2))), (5, .c (.val (.int .i64 (IntKind.wrap .i64 (n_4 + (1 : Int)))))), (8, .c (.h 0)), (9, .c (.val (.int .i64 (((List.length l_1) : Nat) : Int)))), (10, .c (.val (.int .i64 (IntKind.wrap .i64 (t_5 + (1 : Int))))))], [(0, .row (.int .i64) l_1)], 1⟩ [] (by kernel_rfl) rfl rfl ap0 ?_
      refine VL_nil ?_
      exact V_roundEnd ((IntKind.wrap .i64 (n_4 + (1 : Int))), (IntKind.wrap .i64 (t_5 + (1 : Int)))) H_23 [] hn (by kernel_rfl) (by kernel_rfl) rfl rfl rfl
    · intro b_11; have H_24 := of_f H_22 b_11
      refine V_run hN hn 1 1 [1, 5, 8, 9, 10, 16] [0] ⟨[(1, .c (.val (.int .i64 at_2))), (5, .c (.val (.int .i64 n_4))), (8, .c (.h 0)), (9, .c (.val (.int .i64 (((List.length l_1) : Nat) : Int)))), (10, .c (.val (.int .i64 t_5))), (16, .c (.val (.bool (decide ((List.getD l_1 (Int.toNat t_5) (0 : Int)) ≤ at_2)))))], [(0, .row (.int .i64) l_1)], 1⟩ [] (by kernel_rfl) rfl rfl ap0 ?_
      refine VL_nil (QB_end ?_)
      refine V_run hN hn 1 1 [1, 5, 8, 9, 10] [0] ⟨[(1, .c (.val (.int .i64 at_2))), (5, .c (.val (.int .i64 n_4))), (8, .c (.h 0)), (9, .c (.val (.int .i64 (((List.length l_1) : Nat) : Int)))), (10, .c (.val (.int .i64 (IntKind.wrap .i64 (t_5 + (1 : Int))))))], [(0, .row (.int .i64) l_1)], 1⟩ [] (by kernel_rfl) rfl rfl ap0 ?_
      refine VL_nil ?_
      exact V_roundEnd (n_4, (IntKind.wrap .i64 (t_5 + (1 : Int)))) H_24 [] hn (by kernel_rfl) (by kernel_rfl) rfl rfl rfl
  · intro b_8; have H_21 := of_f H_19 b_8
    refine VL_exit ?_
    refine QL_exit ?_
    refine QB_here ?_
    refine V_run hN hn 2 1 [4] [0] ⟨[(4, .c (.val (.int .i64 n_4)))], [(0, .row (.int .i64) l_1)], 1⟩ [] (by kernel_rfl) rfl rfl ap0 ?_
    have H_25 := Option.some.inj (show some n_4 = some r from H_21); subst H_25
    refine VL_ret ?_
    exact P_to [(4, .c (.val (.int .i64 n_4)))] [(0, .row (.int .i64) l_1)] [] hn (by kernel_rfl) (by kernel_rfl) rfl rfl rfl (QF_retS (by kernel_rfl) (by kernel_rfl) rfl)

theorem palinodelaw16_known_spec (K : Nat) (r : Bool) (H : palinodelaw16_known K  = some r) : Spec Try.prog 9 0 [] [] (.c (.val (.bool r))) [] := by
  refine Spec_mk (fn := Try.f9) (c := (Try.f9.body).get!) Try.func9 (by kernel_rfl) rfl ?_
  intro C hN hn
  replace hN : C.N = 114 := hN
  unfold palinodelaw16_known at H
  refine V_run hN hn 3 0 [] [] ⟨[], [], 0⟩ [] (by kernel_rfl) rfl rfl ap0 ?_
  obtain ⟨r_2, h_3, H_66⟩ := of_bind H
  refine V_reg hN hn [(0, ⟨18, 0, [.c (.val (.slice none 0 0)), .c (.val (.int .i64 (5 : Int)))], [], .tup [(false, [.h 3]), (false, [.val (.int .i64 r_2.2)])], [(3, .row (.int .i64) r_2.1)], [(3, 0)], 1⟩)] [] (calls_cons (breaks_Put_ng_spec K (5 : Int) r_2 h_3) (by kernel_rfl) calls_nil) 0 [1, 2] [0] ⟨[(1, .c (.h 0)), (2, .c (.val (.int .i64 r_2.2)))], [(0, .row (.int .i64) r_2.1)], 1⟩ [] (by kernel_rfl) rfl rfl ap0 (by kernel_rfl) (by kernel_rfl) ?_
  refine V_run hN hn 1 1 [1, 2] [0] ⟨[(1, .c (.h 0)), (2, .c (.val (.int .i64 r_2.2)))], [(0, .row (.int .i64) r_2.1)], 1⟩ [] (by kernel_rfl) rfl rfl ap0 ?_
  obtain ⟨r_6, h_7, H_67⟩ := of_bind H_66
  refine V_reg hN hn [(1, ⟨18, 1, [.c (.h 0), .c (.val (.int .i64 (2 : Int)))], [(0, .row (.int .i64) r_2.1)], .tup [(false, [.h 4]), (false, [.val (.int .i64 r_6.2)])], [(0, .row (.int .i64) r_2.1), (4, .row (.int .i64) r_6.1)], [(0, 0), (4, 1)], 2⟩)] [] (calls_cons (breaks_Put_rg_spec K r_2.1 (2 : Int) r_6 h_7) (by kernel_rfl) calls_nil) 1 [2, 3, 4] [1] ⟨[(2, .c (.val (.int .i64 r_2.2))), (3, .c (.h 1)), (4, .c (.val (.int .i64 r_6.2)))], [(1, .row (.int .i64) r_6.1)], 2⟩ [] (by kernel_rfl) rfl rfl ap0 (by kernel_rfl) (by kernel_rfl) ?_
  refine V_run hN hn 1 2 [2, 3, 4] [1] ⟨[(2, .c (.val (.int .i64 r_2.2))), (3, .c (.h 1)), (4, .c (.val (.int .i64 r_6.2)))], [(1, .row (.int .i64) r_6.1)], 2⟩ [] (by kernel_rfl) rfl rfl ap0 ?_
  obtain ⟨r_10, h_11, H_68⟩ := of_bind H_67
  refine V_reg hN hn [(1, ⟨17, 1, [.c (.h 0), .c (.val (.int .i64 (3 : Int)))], [(0, .row (.int .i64) r_6.1)], .tup [(false, [.h 1]), (false, [.val (.int .i64 r_10.2)])], [(0, .row (.int .i64) r_6.1), (1, .row (.int .i64) r_10.1)], [(0, 1), (1, 2)], 3⟩)] [] (calls_cons (breaks_Take_rg_spec K r_6.1 (3 : Int) r_10 h_11) (by kernel_rfl) calls_nil) 2 [2, 3, 4, 6] [1] ⟨[(2, .c (.val (.int .i64 r_2.2))), (3, .c (.h 1)), (4, .c (.val (.int .i64 r_6.2))), (6, .c (.val (.int .i64 r_10.2)))], [(1, .row (.int .i64) r_6.1)], 3⟩ [] (by kernel_rfl) rfl rfl ap0 (by kernel_rfl) (by kernel_rfl) ?_
  refine V_run hN hn 1 3 [2, 3, 4, 6] [1] ⟨[(2, .c (.val (.int .i64 r_2.2))), (3, .c (.h 1)), (4, .c (.val (.int .i64 r_6.2))), (6, .c (.val (.int .i64 r_10.2)))], [(1, .row (.int .i64) r_6.1)], 3⟩ [] (by kernel_rfl) rfl rfl ap0 ?_
  obtain ⟨r_14, h_15, H_69⟩ := of_bind H_68
  refine V_reg hN hn [(1, ⟨17, 1, [.c (.h 0), .c (.val (.int .i64 (2 : Int)))], [(0, .row (.int .i64) r_6.1)], .tup [(false, [.h 1]), (false, [.val (.int .i64 r_14.2)])], [(0, .row (.int .i64) r_6.1), (1, .row (.int .i64) r_14.1)], [(0, 1), (1, 3)], 4⟩)] [] (calls_cons (breaks_Take_rg_spec K r_6.1 (2 : Int) r_14 h_15) (by kernel_rfl) calls_nil) 3 [2, 3, 4, 6, 7, 8] [1, 3] ⟨[(2, .c (.val (.int .i64 r_2.2))), (3, .c (.h 1)), (4, .c (.val (.int .i64 r_6.2))), (6, .c (.val (.int .i64 r_10.2))), (7, .c (.h 3)), (8, .c (.val (.int .i64 r_14.2)))], [(1, .row (.int .i64) r_6.1), (3, .row (.int .i64) r_14.1)], 4⟩ [] (by kernel_rfl) rfl rfl ap0 (by kernel_rfl) (by kernel_rfl) ?_
  refine V_run hN hn 1 4 [2, 3, 4, 6, 7, 8] [1, 3] ⟨[(2, .c (.val (.int .i64 r_2.2))), (3, .c (.h 1)), (4, .c (.val (.int .i64 r_6.2))), (6, .c (.val (.int .i64 r_10.2))), (7, .c (.h 3)), (8, .c (.val (.int .i64 r_14.2)))], [(1, .row (.int .i64) r_6.1), (3, .row (.int .i64) r_14.1)], 4⟩ [] (by kernel_rfl) rfl rfl ap0 ?_
  obtain ⟨r_18, h_19, H_70⟩ := of_bind H_69
  refine V_reg hN hn [(0, ⟨10, 0, [.c (.val (.string (ByteArray.mk #[97, 98, 99, 100, 101, 102, 103, 104]))), .c (.val (.int .i64 (4 : Int)))], [], .tup [(false, [.h 6]), (false, [.val (.int .i64 r_18.2)])], [(6, .row (.int .i64) r_18.1)], [(6, 4)], 5⟩)] [] (calls_cons (breaks_Wrap_spec K (ByteArray.mk #[97, 98, 99, 100, 101, 102, 103, 104]) (4 : Int) r_18 h_19) (by kernel_rfl) calls_nil) 4 [2, 3, 4, 6, 7, 8, 9, 10] [1, 3, 4] ⟨[(2, .c (.val (.int .i64 r_2.2))), (3, .c (.h 1)), (4, .c (.val (.int .i64 r_6.2))), (6, .c (.val (.int .i64 r_10.2))), (7, .c (.h 3)), (8, .c (.val (.int .i64 r_14.2))), (9, .c (.h 4)), (10, .c (.val (.int .i64 r_18.2)))], [(1, .row (.int .i64) r_6.1), (3, .row (.int .i64) r_14.1), (4, .row (.int .i64) r_18.1)], 5⟩ [] (by kernel_rfl) rfl rfl ap0 (by kernel_rfl) (by kernel_rfl) ?_
  refine V_run hN hn 1 5 [2, 3, 4, 6, 7, 8, 9, 10] [1, 3, 4] ⟨[(2, .c (.val (.int .i64 r_2.2))), (3, .c (.h 1)), (4, .c (.val (.int .i64 r_6.2))), (6, .c (.val (.int .i64 r_10.2))), (7, .c (.h 3)), (8, .c (.val (.int .i64 r_14.2))), (9, .c (.h 4)), (10, .c (.val (.int .i64 r_18.2)))], [(1, .row (.int .i64) r_6.1), (3, .row (.int .i64) r_14.1), (4, .row (.int .i64) r_18.1)], 5⟩ [] (by kernel_rfl) rfl rfl ap0 ?_
  obtain ⟨r_22, h_23, H_71⟩ := of_bind H_70
  refine V_reg hN hn [(0, ⟨10, 0, [.c (.val (.string (ByteArray.mk #[97]))), .c (.val (.int .i64 (3 : Int)))], [], .tup [(false, [.h 6]), (false, [.val (.int .i64 r_22.2)])], [(6, .row (.int .i64) r_22.1)], [(6, 5)], 6⟩)] [] (calls_cons (breaks_Wrap_spec K (ByteArray.mk #[97]) (3 : Int) r_22 h_23) (by kernel_rfl) calls_nil) 5 [2, 3, 4, 6, 7, 8, 9, 10, 12] [1, 3, 4] ⟨[(2, .c (.val (.int .i64 r_2.2))), (3, .c (.h 1)), (4, .c (.val (.int .i64 r_6.2))), (6, .c (.val (.int .i64 r_10.2))), (7, .c (.h 3)), (8, .c (.val (.int .i64 r_14.2))), (9, .c (.h 4)), (10, .c (.val (.int .i64 r_18.2))), (12, .c (.val (.int .i64 r_22.2)))], [(1, .row (.int .i64) r_6.1), (3, .row (.int .i64) r_14.1), (4, .row (.int .i64) r_18.1)], 6⟩ [] (by kernel_rfl) rfl rfl ap0 (by kernel_rfl) (by kernel_rfl) ?_
  refine V_run hN hn 1 6 [2, 3, 4, 6, 7, 8, 9, 10, 12] [1, 3, 4] ⟨[(2, .c (.val (.int .i64 r_2.2))), (3, .c (.h 1)), (4, .c (.val (.int .i64 r_6.2))), (6, .c (.val (.int .i64 r_10.2))), (7, .c (.h 3)), (8, .c (.val (.int .i64 r_14.2))), (9, .c (.h 4)), (10, .c (.val (.int .i64 r_18.2))), (12, .c (.val (.int .i64 r_22.2)))], [(1, .row (.int .i64) r_6.1), (3, .row (.int .i64) r_14.1), (4, .row (.int .i64) r_18.1)], 6⟩ [] (by kernel_rfl) rfl rfl ap0 ?_
  rcases Bool.eq_false_or_eq_true ((r_2.2 == (0 : Int))) with b_26 | b_26
  · have H_72 := of_t H_71 b_26
    rcases Bool.eq_false_or_eq_true ((r_6.2 == (0 : Int))) with b_27 | b_27
    · have H_74 := of_t H_72 b_27
      rcases Bool.eq_false_or_eq_true (((((List.length r_6.1) : Nat) : Int) == (2 : Int))) with b_28 | b_28
      · have H_76 := of_t H_74 b_28
        rcases Bool.eq_false_or_eq_true (((List.getD r_6.1 0 (0 : Int)) == (2 : Int))) with b_29 | b_29
        · have H_78 := of_t H_76 b_29
          rcases Bool.eq_false_or_eq_true ((r_10.2 == (10 : Int))) with b_30 | b_30
          · have H_80 := of_t H_78 b_30
            rcases Bool.eq_false_or_eq_true ((r_14.2 == (0 : Int))) with b_31 | b_31
            · have H_82 := of_t H_80 b_31
              rcases Bool.eq_false_or_eq_true (((((List.length r_14.1) : Nat) : Int) == (1 : Int))) with b_32 | b_32
              · have H_84 := of_t H_82 b_32
                rcases Bool.eq_false_or_eq_true (((List.getD r_14.1 0 (0 : Int)) == (5 : Int))) with b_33 | b_33
                · have H_86 := of_t H_84 b_33
                  rcases Bool.eq_false_or_eq_true ((r_18.2 == (0 : Int))) with b_34 | b_34
                  · have H_88 := of_t H_86 b_34
                    rcases Bool.eq_false_or_eq_true (((((List.length r_18.1) : Nat) : Int) == (1 : Int))) with b_35 | b_35
                    · have H_90 := of_t H_88 b_35
                      rcases Bool.eq_false_or_eq_true (((List.getD r_18.1 0 (0 : Int)) == (4 : Int))) with b_36 | b_36
                      · have H_92 := of_t H_90 b_36
                        rcases Bool.eq_false_or_eq_true ((r_22.2 == (12 : Int))) with b_37 | b_37
                        · have H_94 := of_t H_92 b_37
                          obtain ⟨r_38, h_39, H_96⟩ := of_bind H_94
                          rcases Bool.eq_false_or_eq_true ((r_38 == (1 : Int))) with b_40 | b_40
                          · have H_97 := of_t H_96 b_40
                            obtain ⟨r_41, h_42, H_99⟩ := of_bind H_97
                            rcases Bool.eq_false_or_eq_true ((r_41 == (0 : Int))) with b_43 | b_43
                            · have H_100 := of_t H_99 b_43
                              obtain ⟨r_44, h_45, H_102⟩ := of_bind H_100
                              rcases Bool.eq_false_or_eq_true (r_44) with b_46 | b_46
                              · have H_103 := of_t H_102 b_46
                                obtain ⟨r_47, h_48, H_105⟩ := of_bind H_103
                                obtain ⟨c_49, H_106⟩ := of_if H_105
                                refine V_reg hN hn [(57, ⟨19, 1, [.c (.h 0), .c (.val (.int .i64 (2 : Int)))], [(0, .row (.int .i64) r_6.1)], .c (.val (.int .i64 r_38)), [(0, .row (.int .i64) r_6.1)], [(0, 1)], 6⟩), (62, ⟨19, 1, [.c (.h 0), .c (.val (.int .i64 (1 : Int)))], [(0, .row (.int .i64) r_6.1)], .c (.val (.int .i64 r_41)), [(0, .row (.int .i64) r_6.1)], [(0, 1)], 6⟩), (67, ⟨14, 1, [.c (.h 0), .c (.val (.int .i64 (6 : Int)))], [(0, .row (.int .i64) r_6.1)], .c (.val (.bool r_44)), [(0, .row (.int .i64) r_6.1)], [(0, 1)], 6⟩), (71, ⟨14, 1, [.c (.h 0), .c (.val (.int .i64 (5 : Int)))], [(0, .row (.int .i64) r_6.1)], .c (.val (.bool r_47)), [(0, .row (.int .i64) r_6.1)], [(0, 1)], 6⟩)] [(42, true), (46, true), (51, true), (57, true), (61, true), (65, true), (70, true), (76, true), (80, true), (85, true), (91, true), (95, true), (100, true), (105, true), (109, true)] (calls_cons (breaks_Line_rg_spec K r_6.1 (2 : Int) r_38 h_39) (by kernel_rfl) (calls_cons (breaks_Line_rg_spec K r_6.1 (1 : Int) r_41 h_42) (by kernel_rfl) (calls_cons (breaks_Is_rg_spec K r_6.1 (6 : Int) r_44 h_45) (by kernel_rfl) (calls_cons (breaks_Is_rg_spec K r_6.1 (5 : Int) r_47 h_48) (by kernel_rfl) calls_nil)))) 6 [0] [] ⟨[(0, .c (.val (.bool (!r_47))))], [], 6⟩ [(r_2.2 == (0 : Int)) = true, (r_6.2 == (0 : Int)) = true, ((((List.length r_6.1) : Nat) : Int) == (2 : Int)) = true, (0 : Int) ≤ (0 : Int), (0 : Int) < (((List.length r_6.1) : Nat) : Int), ((List.getD r_6.1 0 (0 : Int)) == (2 : Int)) = true, (r_10.2 == (10 : Int)) = true, (r_14.2 == (0 : Int)) = true, ((((List.length r_14.1) : Nat) : Int) == (1 : Int)) = true, (0 : Int) ≤ (0 : Int), (0 : Int) < (((List.length r_14.1) : Nat) : Int), ((List.getD r_14.1 0 (0 : Int)) == (5 : Int)) = true, (r_18.2 == (0 : Int)) = true, ((((List.length r_18.1) : Nat) : Int) == (1 : Int)) = true, (0 : Int) ≤ (0 : Int), (0 : Int) < (((List.length r_18.1) : Nat) : Int), ((List.getD r_18.1 0 (0 : Int)) == (4 : Int)) = true, (r_22.2 == (12 : Int)) = true, (r_38 == (1 : Int)) = true, (r_41 == (0 : Int)) = true, r_44 = true] (by kernel_rfl) rfl rfl (ap2 b_26 (ap2 b_27 (ap2 b_28 (ap2 (by decide) (ap2 c_49.1 (ap2 b_29 (ap2 b_30 (ap2 b_31 (ap2 b_32 (ap2 (by decide) (ap2 c_49.2.1 (ap2 b_33 (ap2 b_34 (ap2 b_35 (ap2 (by decide) (ap2 c_49.2.2 (ap2 b_36 (ap2 b_37 (ap2 b_40 (ap2 b_43 (ap1 b_46))))))))))))))))))))) (by kernel_rfl) (by kernel_rfl) ?_
                                have H_107 := Option.some.inj (show some (!r_47) = some r from H_106); subst H_107
                                refine VL_ret ?_
                                exact P_to [(0, .c (.val (.bool (!r_47))))] [] [] hn (by kernel_rfl) (by kernel_rfl) rfl rfl rfl (QF_retS (by kernel_rfl) (by kernel_rfl) rfl)
                              · have H_104 := of_f H_102 b_46
                                obtain ⟨c_50, H_108⟩ := of_if H_104
                                refine V_reg hN hn [(57, ⟨19, 1, [.c (.h 0), .c (.val (.int .i64 (2 : Int)))], [(0, .row (.int .i64) r_6.1)], .c (.val (.int .i64 r_38)), [(0, .row (.int .i64) r_6.1)], [(0, 1)], 6⟩), (62, ⟨19, 1, [.c (.h 0), .c (.val (.int .i64 (1 : Int)))], [(0, .row (.int .i64) r_6.1)], .c (.val (.int .i64 r_41)), [(0, .row (.int .i64) r_6.1)], [(0, 1)], 6⟩), (67, ⟨14, 1, [.c (.h 0), .c (.val (.int .i64 (6 : Int)))], [(0, .row (.int .i64) r_6.1)], .c (.val (.bool r_44)), [(0, .row (.int .i64) r_6.1)], [(0, 1)], 6⟩)] [(42, true), (46, true), (51, true), (57, true), (61, true), (65, true), (70, true), (76, true), (80, true), (85, true), (91, true), (95, true), (100, true), (105, true), (109, false)] (calls_cons (breaks_Line_rg_spec K r_6.1 (2 : Int) r_38 h_39) (by kernel_rfl) (calls_cons (breaks_Line_rg_spec K r_6.1 (1 : Int) r_41 h_42) (by kernel_rfl) (calls_cons (breaks_Is_rg_spec K r_6.1 (6 : Int) r_44 h_45) (by kernel_rfl) calls_nil))) 6 [0] [] ⟨[(0, .c (.val (.bool false)))], [], 6⟩ [(r_2.2 == (0 : Int)) = true, (r_6.2 == (0 : Int)) = true, ((((List.length r_6.1) : Nat) : Int) == (2 : Int)) = true, (0 : Int) ≤ (0 : Int), (0 : Int) < (((List.length r_6.1) : Nat) : Int), ((List.getD r_6.1 0 (0 : Int)) == (2 : Int)) = true, (r_10.2 == (10 : Int)) = true, (r_14.2 == (0 : Int)) = true, ((((List.length r_14.1) : Nat) : Int) == (1 : Int)) = true, (0 : Int) ≤ (0 : Int), (0 : Int) < (((List.length r_14.1) : Nat) : Int), ((List.getD r_14.1 0 (0 : Int)) == (5 : Int)) = true, (r_18.2 == (0 : Int)) = true, ((((List.length r_18.1) : Nat) : Int) == (1 : Int)) = true, (0 : Int) ≤ (0 : Int), (0 : Int) < (((List.length r_18.1) : Nat) : Int), ((List.getD r_18.1 0 (0 : Int)) == (4 : Int)) = true, (r_22.2 == (12 : Int)) = true, (r_38 == (1 : Int)) = true, (r_41 == (0 : Int)) = true, r_44 = false] (by kernel_rfl) rfl rfl (ap2 b_26 (ap2 b_27 (ap2 b_28 (ap2 (by decide) (ap2 c_50.1 (ap2 b_29 (ap2 b_30 (ap2 b_31 (ap2 b_32 (ap2 (by decide) (ap2 c_50.2.1 (ap2 b_33 (ap2 b_34 (ap2 b_35 (ap2 (by decide) (ap2 c_50.2.2 (ap2 b_36 (ap2 b_37 (ap2 b_40 (ap2 b_43 (ap1 b_46))))))))))))))))))))) (by kernel_rfl) (by kernel_rfl) ?_
                                have H_109 := Option.some.inj (show some false = some r from H_108); subst H_109
                                refine VL_ret ?_
                                exact P_to [(0, .c (.val (.bool false)))] [] [] hn (by kernel_rfl) (by kernel_rfl) rfl rfl rfl (QF_retS (by kernel_rfl) (by kernel_rfl) rfl)
                            · have H_101 := of_f H_99 b_43
                              obtain ⟨c_51, H_110⟩ := of_if H_101
                              refine V_reg hN hn [(57, ⟨19, 1, [.c (.h 0), .c (.val (.int .i64 (2 : Int)))], [(0, .row (.int .i64) r_6.1)], .c (.val (.int .i64 r_38)), [(0, .row (.int .i64) r_6.1)], [(0, 1)], 6⟩), (62, ⟨19, 1, [.c (.h 0), .c (.val (.int .i64 (1 : Int)))], [(0, .row (.int .i64) r_6.1)], .c (.val (.int .i64 r_41)), [(0, .row (.int .i64) r_6.1)], [(0, 1)], 6⟩)] [(42, true), (46, true), (51, true), (57, true), (61, true), (65, true), (70, true), (76, true), (80, true), (85, true), (91, true), (95, true), (100, true), (105, false)] (calls_cons (breaks_Line_rg_spec K r_6.1 (2 : Int) r_38 h_39) (by kernel_rfl) (calls_cons (breaks_Line_rg_spec K r_6.1 (1 : Int) r_41 h_42) (by kernel_rfl) calls_nil)) 6 [0] [] ⟨[(0, .c (.val (.bool false)))], [], 6⟩ [(r_2.2 == (0 : Int)) = true, (r_6.2 == (0 : Int)) = true, ((((List.length r_6.1) : Nat) : Int) == (2 : Int)) = true, (0 : Int) ≤ (0 : Int), (0 : Int) < (((List.length r_6.1) : Nat) : Int), ((List.getD r_6.1 0 (0 : Int)) == (2 : Int)) = true, (r_10.2 == (10 : Int)) = true, (r_14.2 == (0 : Int)) = true, ((((List.length r_14.1) : Nat) : Int) == (1 : Int)) = true, (0 : Int) ≤ (0 : Int), (0 : Int) < (((List.length r_14.1) : Nat) : Int), ((List.getD r_14.1 0 (0 : Int)) == (5 : Int)) = true, (r_18.2 == (0 : Int)) = true, ((((List.length r_18.1) : Nat) : Int) == (1 : Int)) = true, (0 : Int) ≤ (0 : Int), (0 : Int) < (((List.length r_18.1) : Nat) : Int), ((List.getD r_18.1 0 (0 : Int)) == (4 : Int)) = true, (r_22.2 == (12 : Int)) = true, (r_38 == (1 : Int)) = true, (r_41 == (0 : Int)) = false] (by kernel_rfl) rfl rfl (ap2 b_26 (ap2 b_27 (ap2 b_28 (ap2 (by decide) (ap2 c_51.1 (ap2 b_29 (ap2 b_30 (ap2 b_31 (ap2 b_32 (ap2 (by decide) (ap2 c_51.2.1 (ap2 b_33 (ap2 b_34 (ap2 b_35 (ap2 (by decide) (ap2 c_51.2.2 (ap2 b_36 (ap2 b_37 (ap2 b_40 (ap1 b_43)))))))))))))))))))) (by kernel_rfl) (by kernel_rfl) ?_
                              have H_111 := Option.some.inj (show some false = some r from H_110); subst H_111
                              refine VL_ret ?_
                              exact P_to [(0, .c (.val (.bool false)))] [] [] hn (by kernel_rfl) (by kernel_rfl) rfl rfl rfl (QF_retS (by kernel_rfl) (by kernel_rfl) rfl)
                          · have H_98 := of_f H_96 b_40
                            obtain ⟨c_52, H_112⟩ := of_if H_98
                            refine V_reg hN hn [(57, ⟨19, 1, [.c (.h 0), .c (.val (.int .i64 (2 : Int)))], [(0, .row (.int .i64) r_6.1)], .c (.val (.int .i64 r_38)), [(0, .row (.int .i64) r_6.1)], [(0, 1)], 6⟩)] [(42, true), (46, true), (51, true), (57, true), (61, true), (65, true), (70, true), (76, true), (80, true), (85, true), (91, true), (95, true), (100, false)] (calls_cons (breaks_Line_rg_spec K r_6.1 (2 : Int) r_38 h_39) (by kernel_rfl) calls_nil) 6 [0] [] ⟨[(0, .c (.val (.bool false)))], [], 6⟩ [(r_2.2 == (0 : Int)) = true, (r_6.2 == (0 : Int)) = true, ((((List.length r_6.1) : Nat) : Int) == (2 : Int)) = true, (0 : Int) ≤ (0 : Int), (0 : Int) < (((List.length r_6.1) : Nat) : Int), ((List.getD r_6.1 0 (0 : Int)) == (2 : Int)) = true, (r_10.2 == (10 : Int)) = true, (r_14.2 == (0 : Int)) = true, ((((List.length r_14.1) : Nat) : Int) == (1 : Int)) = true, (0 : Int) ≤ (0 : Int), (0 : Int) < (((List.length r_14.1) : Nat) : Int), ((List.getD r_14.1 0 (0 : Int)) == (5 : Int)) = true, (r_18.2 == (0 : Int)) = true, ((((List.length r_18.1) : Nat) : Int) == (1 : Int)) = true, (0 : Int) ≤ (0 : Int), (0 : Int) < (((List.length r_18.1) : Nat) : Int), ((List.getD r_18.1 0 (0 : Int)) == (4 : Int)) = true, (r_22.2 == (12 : Int)) = true, (r_38 == (1 : Int)) = false] (by kernel_rfl) rfl rfl (ap2 b_26 (ap2 b_27 (ap2 b_28 (ap2 (by decide) (ap2 c_52.1 (ap2 b_29 (ap2 b_30 (ap2 b_31 (ap2 b_32 (ap2 (by decide) (ap2 c_52.2.1 (ap2 b_33 (ap2 b_34 (ap2 b_35 (ap2 (by decide) (ap2 c_52.2.2 (ap2 b_36 (ap2 b_37 (ap1 b_40))))))))))))))))))) (by kernel_rfl) (by kernel_rfl) ?_
                            have H_113 := Option.some.inj (show some false = some r from H_112); subst H_113
                            refine VL_ret ?_
                            exact P_to [(0, .c (.val (.bool false)))] [] [] hn (by kernel_rfl) (by kernel_rfl) rfl rfl rfl (QF_retS (by kernel_rfl) (by kernel_rfl) rfl)
                        · have H_95 := of_f H_92 b_37
                          obtain ⟨c_53, H_114⟩ := of_if H_95
                          refine V_reg hN hn [] [(42, true), (46, true), (51, true), (57, true), (61, true), (65, true), (70, true), (76, true), (80, true), (85, true), (91, true), (95, false)] calls_nil 6 [0] [] ⟨[(0, .c (.val (.bool false)))], [], 6⟩ [(r_2.2 == (0 : Int)) = true, (r_6.2 == (0 : Int)) = true, ((((List.length r_6.1) : Nat) : Int) == (2 : Int)) = true, (0 : Int) ≤ (0 : Int), (0 : Int) < (((List.length r_6.1) : Nat) : Int), ((List.getD r_6.1 0 (0 : Int)) == (2 : Int)) = true, (r_10.2 == (10 : Int)) = true, (r_14.2 == (0 : Int)) = true, ((((List.length r_14.1) : Nat) : Int) == (1 : Int)) = true, (0 : Int) ≤ (0 : Int), (0 : Int) < (((List.length r_14.1) : Nat) : Int), ((List.getD r_14.1 0 (0 : Int)) == (5 : Int)) = true, (r_18.2 == (0 : Int)) = true, ((((List.length r_18.1) : Nat) : Int) == (1 : Int)) = true, (0 : Int) ≤ (0 : Int), (0 : Int) < (((List.length r_18.1) : Nat) : Int), ((List.getD r_18.1 0 (0 : Int)) == (4 : Int)) = true, (r_22.2 == (12 : Int)) = false] (by kernel_rfl) rfl rfl (ap2 b_26 (ap2 b_27 (ap2 b_28 (ap2 (by decide) (ap2 c_53.1 (ap2 b_29 (ap2 b_30 (ap2 b_31 (ap2 b_32 (ap2 (by decide) (ap2 c_53.2.1 (ap2 b_33 (ap2 b_34 (ap2 b_35 (ap2 (by decide) (ap2 c_53.2.2 (ap2 b_36 (ap1 b_37)))))))))))))))))) (by kernel_rfl) (by kernel_rfl) ?_
                          have H_115 := Option.some.inj (show some false = some r from H_114); subst H_115
                          refine VL_ret ?_
                          exact P_to [(0, .c (.val (.bool false)))] [] [] hn (by kernel_rfl) (by kernel_rfl) rfl rfl rfl (QF_retS (by kernel_rfl) (by kernel_rfl) rfl)
                      · have H_93 := of_f H_90 b_36
                        obtain ⟨c_54, H_116⟩ := of_if H_93
                        refine V_reg hN hn [] [(42, true), (46, true), (51, true), (57, true), (61, true), (65, true), (70, true), (76, true), (80, true), (85, true), (91, false)] calls_nil 6 [0] [] ⟨[(0, .c (.val (.bool false)))], [], 6⟩ [(r_2.2 == (0 : Int)) = true, (r_6.2 == (0 : Int)) = true, ((((List.length r_6.1) : Nat) : Int) == (2 : Int)) = true, (0 : Int) ≤ (0 : Int), (0 : Int) < (((List.length r_6.1) : Nat) : Int), ((List.getD r_6.1 0 (0 : Int)) == (2 : Int)) = true, (r_10.2 == (10 : Int)) = true, (r_14.2 == (0 : Int)) = true, ((((List.length r_14.1) : Nat) : Int) == (1 : Int)) = true, (0 : Int) ≤ (0 : Int), (0 : Int) < (((List.length r_14.1) : Nat) : Int), ((List.getD r_14.1 0 (0 : Int)) == (5 : Int)) = true, (r_18.2 == (0 : Int)) = true, ((((List.length r_18.1) : Nat) : Int) == (1 : Int)) = true, (0 : Int) ≤ (0 : Int), (0 : Int) < (((List.length r_18.1) : Nat) : Int), ((List.getD r_18.1 0 (0 : Int)) == (4 : Int)) = false] (by kernel_rfl) rfl rfl (ap2 b_26 (ap2 b_27 (ap2 b_28 (ap2 (by decide) (ap2 c_54.1 (ap2 b_29 (ap2 b_30 (ap2 b_31 (ap2 b_32 (ap2 (by decide) (ap2 c_54.2.1 (ap2 b_33 (ap2 b_34 (ap2 b_35 (ap2 (by decide) (ap2 c_54.2.2 (ap1 b_36))))))))))))))))) (by kernel_rfl) (by kernel_rfl) ?_
                        have H_117 := Option.some.inj (show some false = some r from H_116); subst H_117
                        refine VL_ret ?_
                        exact P_to [(0, .c (.val (.bool false)))] [] [] hn (by kernel_rfl) (by kernel_rfl) rfl rfl rfl (QF_retS (by kernel_rfl) (by kernel_rfl) rfl)
                    · have H_91 := of_f H_88 b_35
                      obtain ⟨c_55, H_118⟩ := of_if H_91
                      refine V_reg hN hn [] [(42, true), (46, true), (51, true), (57, true), (61, true), (65, true), (70, true), (76, true), (80, true), (85, false)] calls_nil 6 [0] [] ⟨[(0, .c (.val (.bool false)))], [], 6⟩ [(r_2.2 == (0 : Int)) = true, (r_6.2 == (0 : Int)) = true, ((((List.length r_6.1) : Nat) : Int) == (2 : Int)) = true, (0 : Int) ≤ (0 : Int), (0 : Int) < (((List.length r_6.1) : Nat) : Int), ((List.getD r_6.1 0 (0 : Int)) == (2 : Int)) = true, (r_10.2 == (10 : Int)) = true, (r_14.2 == (0 : Int)) = true, ((((List.length r_14.1) : Nat) : Int) == (1 : Int)) = true, (0 : Int) ≤ (0 : Int), (0 : Int) < (((List.length r_14.1) : Nat) : Int), ((List.getD r_14.1 0 (0 : Int)) == (5 : Int)) = true, (r_18.2 == (0 : Int)) = true, ((((List.length r_18.1) : Nat) : Int) == (1 : Int)) = false] (by kernel_rfl) rfl rfl (ap2 b_26 (ap2 b_27 (ap2 b_28 (ap2 (by decide) (ap2 c_55.1 (ap2 b_29 (ap2 b_30 (ap2 b_31 (ap2 b_32 (ap2 (by decide) (ap2 c_55.2 (ap2 b_33 (ap2 b_34 (ap1 b_35)))))))))))))) (by kernel_rfl) (by kernel_rfl) ?_
                      have H_119 := Option.some.inj (show some false = some r from H_118); subst H_119
                      refine VL_ret ?_
                      exact P_to [(0, .c (.val (.bool false)))] [] [] hn (by kernel_rfl) (by kernel_rfl) rfl rfl rfl (QF_retS (by kernel_rfl) (by kernel_rfl) rfl)
                  · have H_89 := of_f H_86 b_34
                    obtain ⟨c_56, H_120⟩ := of_if H_89
                    refine V_reg hN hn [] [(42, true), (46, true), (51, true), (57, true), (61, true), (65, true), (70, true), (76, true), (80, false)] calls_nil 6 [0] [] ⟨[(0, .c (.val (.bool false)))], [], 6⟩ [(r_2.2 == (0 : Int)) = true, (r_6.2 == (0 : Int)) = true, ((((List.length r_6.1) : Nat) : Int) == (2 : Int)) = true, (0 : Int) ≤ (0 : Int), (0 : Int) < (((List.length r_6.1) : Nat) : Int), ((List.getD r_6.1 0 (0 : Int)) == (2 : Int)) = true, (r_10.2 == (10 : Int)) = true, (r_14.2 == (0 : Int)) = true, ((((List.length r_14.1) : Nat) : Int) == (1 : Int)) = true, (0 : Int) ≤ (0 : Int), (0 : Int) < (((List.length r_14.1) : Nat) : Int), ((List.getD r_14.1 0 (0 : Int)) == (5 : Int)) = true, (r_18.2 == (0 : Int)) = false] (by kernel_rfl) rfl rfl (ap2 b_26 (ap2 b_27 (ap2 b_28 (ap2 (by decide) (ap2 c_56.1 (ap2 b_29 (ap2 b_30 (ap2 b_31 (ap2 b_32 (ap2 (by decide) (ap2 c_56.2 (ap2 b_33 (ap1 b_34))))))))))))) (by kernel_rfl) (by kernel_rfl) ?_
                    have H_121 := Option.some.inj (show some false = some r from H_120); subst H_121
                    refine VL_ret ?_
                    exact P_to [(0, .c (.val (.bool false)))] [] [] hn (by kernel_rfl) (by kernel_rfl) rfl rfl rfl (QF_retS (by kernel_rfl) (by kernel_rfl) rfl)
                · have H_87 := of_f H_84 b_33
                  obtain ⟨c_57, H_122⟩ := of_if H_87
                  refine V_reg hN hn [] [(42, true), (46, true), (51, true), (57, true), (61, true), (65, true), (70, true), (76, false)] calls_nil 6 [0] [] ⟨[(0, .c (.val (.bool false)))], [], 6⟩ [(r_2.2 == (0 : Int)) = true, (r_6.2 == (0 : Int)) = true, ((((List.length r_6.1) : Nat) : Int) == (2 : Int)) = true, (0 : Int) ≤ (0 : Int), (0 : Int) < (((List.length r_6.1) : Nat) : Int), ((List.getD r_6.1 0 (0 : Int)) == (2 : Int)) = true, (r_10.2 == (10 : Int)) = true, (r_14.2 == (0 : Int)) = true, ((((List.length r_14.1) : Nat) : Int) == (1 : Int)) = true, (0 : Int) ≤ (0 : Int), (0 : Int) < (((List.length r_14.1) : Nat) : Int), ((List.getD r_14.1 0 (0 : Int)) == (5 : Int)) = false] (by kernel_rfl) rfl rfl (ap2 b_26 (ap2 b_27 (ap2 b_28 (ap2 (by decide) (ap2 c_57.1 (ap2 b_29 (ap2 b_30 (ap2 b_31 (ap2 b_32 (ap2 (by decide) (ap2 c_57.2 (ap1 b_33)))))))))))) (by kernel_rfl) (by kernel_rfl) ?_
                  have H_123 := Option.some.inj (show some false = some r from H_122); subst H_123
                  refine VL_ret ?_
                  exact P_to [(0, .c (.val (.bool false)))] [] [] hn (by kernel_rfl) (by kernel_rfl) rfl rfl rfl (QF_retS (by kernel_rfl) (by kernel_rfl) rfl)
              · have H_85 := of_f H_82 b_32
                obtain ⟨c_58, H_124⟩ := of_if H_85
                refine V_reg hN hn [] [(42, true), (46, true), (51, true), (57, true), (61, true), (65, true), (70, false)] calls_nil 6 [0] [] ⟨[(0, .c (.val (.bool false)))], [], 6⟩ [(r_2.2 == (0 : Int)) = true, (r_6.2 == (0 : Int)) = true, ((((List.length r_6.1) : Nat) : Int) == (2 : Int)) = true, (0 : Int) ≤ (0 : Int), (0 : Int) < (((List.length r_6.1) : Nat) : Int), ((List.getD r_6.1 0 (0 : Int)) == (2 : Int)) = true, (r_10.2 == (10 : Int)) = true, (r_14.2 == (0 : Int)) = true, ((((List.length r_14.1) : Nat) : Int) == (1 : Int)) = false] (by kernel_rfl) rfl rfl (ap2 b_26 (ap2 b_27 (ap2 b_28 (ap2 (by decide) (ap2 c_58 (ap2 b_29 (ap2 b_30 (ap2 b_31 (ap1 b_32))))))))) (by kernel_rfl) (by kernel_rfl) ?_
                have H_125 := Option.some.inj (show some false = some r from H_124); subst H_125
                refine VL_ret ?_
                exact P_to [(0, .c (.val (.bool false)))] [] [] hn (by kernel_rfl) (by kernel_rfl) rfl rfl rfl (QF_retS (by kernel_rfl) (by kernel_rfl) rfl)
            · have H_83 := of_f H_80 b_31
              obtain ⟨c_59, H_126⟩ := of_if H_83
              refine V_reg hN hn [] [(42, true), (46, true), (51, true), (57, true), (61, true), (65, false)] calls_nil 6 [0] [] ⟨[(0, .c (.val (.bool false)))], [], 6⟩ [(r_2.2 == (0 : Int)) = true, (r_6.2 == (0 : Int)) = true, ((((List.length r_6.1) : Nat) : Int) == (2 : Int)) = true, (0 : Int) ≤ (0 : Int), (0 : Int) < (((List.length r_6.1) : Nat) : Int), ((List.getD r_6.1 0 (0 : Int)) == (2 : Int)) = true, (r_10.2 == (10 : Int)) = true, (r_14.2 == (0 : Int)) = false] (by kernel_rfl) rfl rfl (ap2 b_26 (ap2 b_27 (ap2 b_28 (ap2 (by decide) (ap2 c_59 (ap2 b_29 (ap2 b_30 (ap1 b_31)))))))) (by kernel_rfl) (by kernel_rfl) ?_
              have H_127 := Option.some.inj (show some false = some r from H_126); subst H_127
              refine VL_ret ?_
              exact P_to [(0, .c (.val (.bool false)))] [] [] hn (by kernel_rfl) (by kernel_rfl) rfl rfl rfl (QF_retS (by kernel_rfl) (by kernel_rfl) rfl)
          · have H_81 := of_f H_78 b_30
            obtain ⟨c_60, H_128⟩ := of_if H_81
            refine V_reg hN hn [] [(42, true), (46, true), (51, true), (57, true), (61, false)] calls_nil 6 [0] [] ⟨[(0, .c (.val (.bool false)))], [], 6⟩ [(r_2.2 == (0 : Int)) = true, (r_6.2 == (0 : Int)) = true, ((((List.length r_6.1) : Nat) : Int) == (2 : Int)) = true, (0 : Int) ≤ (0 : Int), (0 : Int) < (((List.length r_6.1) : Nat) : Int), ((List.getD r_6.1 0 (0 : Int)) == (2 : Int)) = true, (r_10.2 == (10 : Int)) = false] (by kernel_rfl) rfl rfl (ap2 b_26 (ap2 b_27 (ap2 b_28 (ap2 (by decide) (ap2 c_60 (ap2 b_29 (ap1 b_30))))))) (by kernel_rfl) (by kernel_rfl) ?_
            have H_129 := Option.some.inj (show some false = some r from H_128); subst H_129
            refine VL_ret ?_
            exact P_to [(0, .c (.val (.bool false)))] [] [] hn (by kernel_rfl) (by kernel_rfl) rfl rfl rfl (QF_retS (by kernel_rfl) (by kernel_rfl) rfl)
        · have H_79 := of_f H_76 b_29
          obtain ⟨c_61, H_130⟩ := of_if H_79
          refine V_reg hN hn [] [(42, true), (46, true), (51, true), (57, false)] calls_nil 6 [0] [] ⟨[(0, .c (.val (.bool false)))], [], 6⟩ [(r_2.2 == (0 : Int)) = true, (r_6.2 == (0 : Int)) = true, ((((List.length r_6.1) : Nat) : Int) == (2 : Int)) = true, (0 : Int) ≤ (0 : Int), (0 : Int) < (((List.length r_6.1) : Nat) : Int), ((List.getD r_6.1 0 (0 : Int)) == (2 : Int)) = false] (by kernel_rfl) rfl rfl (ap2 b_26 (ap2 b_27 (ap2 b_28 (ap2 (by decide) (ap2 c_61 (ap1 b_29)))))) (by kernel_rfl) (by kernel_rfl) ?_
          have H_131 := Option.some.inj (show some false = some r from H_130); subst H_131
          refine VL_ret ?_
          exact P_to [(0, .c (.val (.bool false)))] [] [] hn (by kernel_rfl) (by kernel_rfl) rfl rfl rfl (QF_retS (by kernel_rfl) (by kernel_rfl) rfl)
      · have H_77 := of_f H_74 b_28
        refine V_reg hN hn [] [(42, true), (46, true), (51, false)] calls_nil 6 [0] [] ⟨[(0, .c (.val (.bool false)))], [], 6⟩ [(r_2.2 == (0 : Int)) = true, (r_6.2 == (0 : Int)) = true, ((((List.length r_6.1) : Nat) : Int) == (2 : Int)) = false] (by kernel_rfl) rfl rfl (ap2 b_26 (ap2 b_27 (ap1 b_28))) (by kernel_rfl) (by kernel_rfl) ?_
        have H_132 := Option.some.inj (show some false = some r from H_77); subst H_132
        refine VL_ret ?_
        exact P_to [(0, .c (.val (.bool false)))] [] [] hn (by kernel_rfl) (by kernel_rfl) rfl rfl rfl (QF_retS (by kernel_rfl) (by kernel_rfl) rfl)
    · have H_75 := of_f H_72 b_27
      refine V_reg hN hn [] [(42, true), (46, false)] calls_nil 6 [0] [] ⟨[(0, .c (.val (.bool false)))], [], 6⟩ [(r_2.2 == (0 : Int)) = true, (r_6.2 == (0 : Int)) = false] (by kernel_rfl) rfl rfl (ap2 b_26 (ap1 b_27)) (by kernel_rfl) (by kernel_rfl) ?_
      have H_133 := Option.some.inj (show some false = some r from H_75); subst H_133
      refine VL_ret ?_
      exact P_to [(0, .c (.val (.bool false)))] [] [] hn (by kernel_rfl) (by kernel_rfl) rfl rfl rfl (QF_retS (by kernel_rfl) (by kernel_rfl) rfl)
  · have H_73 := of_f H_71 b_26
    refine V_reg hN hn [] [(42, false)] calls_nil 6 [0] [] ⟨[(0, .c (.val (.bool false)))], [], 6⟩ [(r_2.2 == (0 : Int)) = false] (by kernel_rfl) rfl rfl (ap1 b_26) (by kernel_rfl) (by kernel_rfl) ?_
    have H_134 := Option.some.inj (show some false = some r from H_73); subst H_134
    refine VL_ret ?_
    exact P_to [(0, .c (.val (.bool false)))] [] [] hn (by kernel_rfl) (by kernel_rfl) rfl rfl rfl (QF_retS (by kernel_rfl) (by kernel_rfl) rfl)

theorem delta_IsCopy_spec (K : Nat) (x_1 : Int) (x_2 : Int) (x_3 : ByteArray) (r : Bool) (H : delta_IsCopy K x_1 x_2 x_3 = some r) : Spec Try.prog 49 0 [.agg [.val (.int .i64 x_1), .val (.int .i64 x_2), .val (.string x_3)]] [] (.c (.val (.bool r))) [] := by
  refine Spec_mk (fn := Try.f49) (c := (Try.f49.body).get!) Try.func49 (by kernel_rfl) rfl ?_
  intro C hN hn
  replace hN : C.N = 6 := hN
  unfold delta_IsCopy at H
  refine V_run hN hn 4 0 [2] [] ⟨[(2, .c (.val (.bool (ByteArray.toList x_3 == ByteArray.toList (ByteArray.mk #[])))))], [], 1⟩ [] (by kernel_rfl) rfl rfl ap0 ?_
  have H_6 := Option.some.inj (show some (ByteArray.toList x_3 == ByteArray.toList (ByteArray.mk #[])) = some r from H); subst H_6
  refine VL_ret ?_
  exact P_to [(2, .c (.val (.bool (ByteArray.toList x_3 == ByteArray.toList (ByteArray.mk #[])))))] [] [] hn (by kernel_rfl) (by kernel_rfl) rfl rfl rfl (QF_retS (by kernel_rfl) (by kernel_rfl) rfl)

theorem delta_elem_spec (K : Nat) (x_1 : Int) (x_2 : Int) (x_3 : ByteArray) (base_4 : Int) (to_5 : Int) (ahead_6 : Bool) (copied_7 : Bool) (r : Bool) (H : delta_elem K x_1 x_2 x_3 base_4 to_5 ahead_6 copied_7 = some r) : Spec Try.prog 50 0 [.agg [.val (.int .i64 x_1), .val (.int .i64 x_2), .val (.string x_3)], .c (.val (.int .i64 base_4)), .c (.val (.int .i64 to_5)), .c (.val (.bool ahead_6)), .c (.val (.bool copied_7))] [] (.c (.val (.bool r))) [] := by
  refine Spec_mk (fn := Try.f50) (c := (Try.f50.body).get!) Try.func50 (by kernel_rfl) rfl ?_
  intro C hN hn
  replace hN : C.N = 65 := hN
  unfold delta_elem at H
  refine V_run hN hn 4 0 [1, 2, 3, 4, 5] [0] ⟨[(1, .c (.val (.int .i64 base_4))), (2, .c (.val (.int .i64 to_5))), (3, .c (.val (.bool ahead_6))), (4, .c (.val (.bool copied_7))), (5, .c (.h 0))], [(0, .box [.val (.int .i64 x_1), .val (.int .i64 x_2), .val (.string x_3)])], 1⟩ [] (by kernel_rfl) rfl rfl ap0 ?_
  obtain ⟨r_9, h_10, H_42⟩ := of_bind H
  refine V_reg hN hn [(1, ⟨49, 0, [.agg [.val (.int .i64 x_1), .val (.int .i64 x_2), .val (.string x_3)]], [], .c (.val (.bool r_9)), [], [], 1⟩)] [] (calls_cons (delta_IsCopy_spec K x_1 x_2 x_3 r_9 h_10) (by kernel_rfl) calls_nil) 1 [1, 2, 3, 4, 5, 13] [0] ⟨[(1, .c (.val (.int .i64 base_4))), (2, .c (.val (.int .i64 to_5))), (3, .c (.val (.bool ahead_6))), (4, .c (.val (.bool copied_7))), (5, .c (.h 0)), (13, .c (.val (.bool r_9)))], [(0, .box [.val (.int .i64 x_1), .val (.int .i64 x_2), .val (.string x_3)])], 1⟩ [] (by kernel_rfl) rfl rfl ap0 (by kernel_rfl) (by kernel_rfl) ?_
  refine VL_cond (r_9) (by kernel_rfl) ?_ ?_
  · intro b_12; have H_43 := of_t H_42 b_12
    refine V_run hN hn 1 1 [1, 2, 3, 4, 5, 13] [0] ⟨[(1, .c (.val (.int .i64 base_4))), (2, .c (.val (.int .i64 to_5))), (3, .c (.val (.bool ahead_6))), (4, .c (.val (.bool copied_7))), (5, .c (.h 0)), (13, .c (.val (.bool r_9)))], [(0, .box [.val (.int .i64 x_1), .val (.int .i64 x_2), .val (.string x_3)])], 1⟩ [] (by kernel_rfl) rfl rfl ap0 ?_
    rcases Bool.eq_false_or_eq_true ((decide (x_1 ≥ to_5))) with b_14 | b_14
    · have H_45 := of_t H_43 b_14
      rcases Bool.eq_false_or_eq_true ((decide (x_1 > to_5))) with b_15 | b_15
      · have H_47 := of_t H_45 b_15
        rcases Bool.eq_false_or_eq_true ((decide (x_1 < x_2))) with b_16 | b_16
        · have H_49 := of_t H_47 b_16
          refine V_reg hN hn [] [(18, true), (23, true), (35, true)] calls_nil 1 [10] [] ⟨[(10, .c (.val (.bool (decide (x_2 ≤ base_4)))))], [], 1⟩ [(decide (x_1 ≥ to_5)) = true, (decide (x_1 > to_5)) = true, (decide (x_1 < x_2)) = true] (by kernel_rfl) rfl rfl (ap2 b_14 (ap2 b_15 (ap1 b_16))) (by kernel_rfl) (by kernel_rfl) ?_
          have H_51 := Option.some.inj (show some (decide (x_2 ≤ base_4)) = some r from H_49); subst H_51
          refine VL_ret ?_
          exact P_to [(10, .c (.val (.bool (decide (x_2 ≤ base_4)))))] [] [] hn (by kernel_rfl) (by kernel_rfl) rfl rfl rfl (QF_retS (by kernel_rfl) (by kernel_rfl) rfl)
        · have H_50 := of_f H_47 b_16
          refine V_reg hN hn [] [(18, true), (23, true), (35, false)] calls_nil 1 [10] [] ⟨[(10, .c (.val (.bool false)))], [], 1⟩ [(decide (x_1 ≥ to_5)) = true, (decide (x_1 > to_5)) = true, (decide (x_1 < x_2)) = false] (by kernel_rfl) rfl rfl (ap2 b_14 (ap2 b_15 (ap1 b_16))) (by kernel_rfl) (by kernel_rfl) ?_
          have H_52 := Option.some.inj (show some false = some r from H_50); subst H_52
          refine VL_ret ?_
          exact P_to [(10, .c (.val (.bool false)))] [] [] hn (by kernel_rfl) (by kernel_rfl) rfl rfl rfl (QF_retS (by kernel_rfl) (by kernel_rfl) rfl)
      · have H_48 := of_f H_45 b_15
        rcases Bool.eq_false_or_eq_true ((!copied_7)) with b_19 | b_19
        · have H_53 := of_t H_48 b_19
          rcases Bool.eq_false_or_eq_true ((decide (x_1 < x_2))) with b_20 | b_20
          · have H_55 := of_t H_53 b_20
            refine V_reg hN hn [] [(18, true), (23, false), (28, true), (35, true)] calls_nil 1 [10] [] ⟨[(10, .c (.val (.bool (decide (x_2 ≤ base_4)))))], [], 1⟩ [(decide (x_1 ≥ to_5)) = true, (decide (x_1 > to_5)) = false, (!copied_7) = true, (decide (x_1 < x_2)) = true] (by kernel_rfl) rfl rfl (ap2 b_14 (ap2 b_15 (ap2 b_19 (ap1 b_20)))) (by kernel_rfl) (by kernel_rfl) ?_
            have H_57 := Option.some.inj (show some (decide (x_2 ≤ base_4)) = some r from H_55); subst H_57
            refine VL_ret ?_
            exact P_to [(10, .c (.val (.bool (decide (x_2 ≤ base_4)))))] [] [] hn (by kernel_rfl) (by kernel_rfl) rfl rfl rfl (QF_retS (by kernel_rfl) (by kernel_rfl) rfl)
          · have H_56 := of_f H_53 b_20
            refine V_reg hN hn [] [(18, true), (23, false), (28, true), (35, false)] calls_nil 1 [10] [] ⟨[(10, .c (.val (.bool false)))], [], 1⟩ [(decide (x_1 ≥ to_5)) = true, (decide (x_1 > to_5)) = false, (!copied_7) = true, (decide (x_1 < x_2)) = false] (by kernel_rfl) rfl rfl (ap2 b_14 (ap2 b_15 (ap2 b_19 (ap1 b_20)))) (by kernel_rfl) (by kernel_rfl) ?_
            have H_58 := Option.some.inj (show some false = some r from H_56); subst H_58
            refine VL_ret ?_
            exact P_to [(10, .c (.val (.bool false)))] [] [] hn (by kernel_rfl) (by kernel_rfl) rfl rfl rfl (QF_retS (by kernel_rfl) (by kernel_rfl) rfl)
        · have H_54 := of_f H_48 b_19
          refine V_reg hN hn [] [(18, true), (23, false), (28, false)] calls_nil 1 [10] [] ⟨[(10, .c (.val (.bool false)))], [], 1⟩ [(decide (x_1 ≥ to_5)) = true, (decide (x_1 > to_5)) = false, (!copied_7) = false] (by kernel_rfl) rfl rfl (ap2 b_14 (ap2 b_15 (ap1 b_19))) (by kernel_rfl) (by kernel_rfl) ?_
          have H_59 := Option.some.inj (show some false = some r from H_54); subst H_59
          refine VL_ret ?_
          exact P_to [(10, .c (.val (.bool false)))] [] [] hn (by kernel_rfl) (by kernel_rfl) rfl rfl rfl (QF_retS (by kernel_rfl) (by kernel_rfl) rfl)
    · have H_46 := of_f H_43 b_14
      refine V_reg hN hn [] [(18, false)] calls_nil 1 [10] [] ⟨[(10, .c (.val (.bool false)))], [], 1⟩ [(decide (x_1 ≥ to_5)) = false] (by kernel_rfl) rfl rfl (ap1 b_14) (by kernel_rfl) (by kernel_rfl) ?_
      have H_60 := Option.some.inj (show some false = some r from H_46); subst H_60
      refine VL_ret ?_
      exact P_to [(10, .c (.val (.bool false)))] [] [] hn (by kernel_rfl) (by kernel_rfl) rfl rfl rfl (QF_retS (by kernel_rfl) (by kernel_rfl) rfl)
  · intro b_12; have H_44 := of_f H_42 b_12
    refine V_run hN hn 4 1 [3, 4, 5, 11] [0, 1] ⟨[(3, .c (.val (.bool ahead_6))), (4, .c (.val (.bool copied_7))), (5, .c (.h 0)), (11, .c (.h 1))], [(0, .box [.val (.int .i64 x_1), .val (.int .i64 x_2), .val (.string x_3)]), (1, .box [.val (.int .i64 (0 : Int)), .val (.int .i64 (0 : Int)), .val (.string x_3)])], 2⟩ [] (by kernel_rfl) rfl rfl ap0 ?_
    rcases Bool.eq_false_or_eq_true (((x_1 == (0 : Int)) && ((x_2 == (0 : Int)) && (ByteArray.toList x_3 == ByteArray.toList x_3)))) with b_26 | b_26
    · have H_61 := of_t H_44 b_26
      rcases Bool.eq_false_or_eq_true ((!ahead_6)) with b_27 | b_27
      · have H_63 := of_t H_61 b_27
        rcases Bool.eq_false_or_eq_true ((decide ((((ByteArray.size x_3) : Nat) : Int) ≤ (20000 : Int)))) with b_28 | b_28
        · have H_65 := of_t H_63 b_28
          obtain ⟨r_29, h_30, H_67⟩ := of_bind H_65
          refine V_reg hN hn [(19, ⟨27, 0, [.c (.val (.string x_3))], [], .c (.val (.bool r_29)), [], [], 2⟩)] [(47, true), (50, true), (60, true)] (calls_cons (utf_Valid_spec K x_3 r_29 h_30) (by kernel_rfl) calls_nil) 2 [10] [] ⟨[(10, .c (.val (.bool r_29)))], [], 2⟩ [((x_1 == (0 : Int)) && ((x_2 == (0 : Int)) && (ByteArray.toList x_3 == ByteArray.toList x_3))) = true, (!ahead_6) = true, (decide ((((ByteArray.size x_3) : Nat) : Int) ≤ (20000 : Int))) = true] (by kernel_rfl) rfl rfl (ap2 b_26 (ap2 b_27 (ap1 b_28))) (by kernel_rfl) (by kernel_rfl) ?_
          have H_68 := Option.some.inj (show some r_29 = some r from H_67); subst H_68
          refine VL_ret ?_
          exact P_to [(10, .c (.val (.bool r_29)))] [] [] hn (by kernel_rfl) (by kernel_rfl) rfl rfl rfl (QF_retS (by kernel_rfl) (by kernel_rfl) rfl)
        · have H_66 := of_f H_63 b_28
          refine V_reg hN hn [] [(47, true), (50, true), (60, false)] calls_nil 2 [10] [] ⟨[(10, .c (.val (.bool false)))], [], 2⟩ [((x_1 == (0 : Int)) && ((x_2 == (0 : Int)) && (ByteArray.toList x_3 == ByteArray.toList x_3))) = true, (!ahead_6) = true, (decide ((((ByteArray.size x_3) : Nat) : Int) ≤ (20000 : Int))) = false] (by kernel_rfl) rfl rfl (ap2 b_26 (ap2 b_27 (ap1 b_28))) (by kernel_rfl) (by kernel_rfl) ?_
          have H_69 := Option.some.inj (show some false = some r from H_66); subst H_69
          refine VL_ret ?_
          exact P_to [(10, .c (.val (.bool false)))] [] [] hn (by kernel_rfl) (by kernel_rfl) rfl rfl rfl (QF_retS (by kernel_rfl) (by kernel_rfl) rfl)
      · have H_64 := of_f H_61 b_27
        rcases Bool.eq_false_or_eq_true (copied_7) with b_33 | b_33
        · have H_70 := of_t H_64 b_33
          rcases Bool.eq_false_or_eq_true ((decide ((((ByteArray.size x_3) : Nat) : Int) ≤ (20000 : Int)))) with b_34 | b_34
          · have H_72 := of_t H_70 b_34
            obtain ⟨r_35, h_36, H_74⟩ := of_bind H_72
            refine V_reg hN hn [(19, ⟨27, 0, [.c (.val (.string x_3))], [], .c (.val (.bool r_35)), [], [], 2⟩)] [(47, true), (50, false), (54, true), (60, true)] (calls_cons (utf_Valid_spec K x_3 r_35 h_36) (by kernel_rfl) calls_nil) 2 [10] [] ⟨[(10, .c (.val (.bool r_35)))], [], 2⟩ [((x_1 == (0 : Int)) && ((x_2 == (0 : Int)) && (ByteArray.toList x_3 == ByteArray.toList x_3))) = true, (!ahead_6) = false, copied_7 = true, (decide ((((ByteArray.size x_3) : Nat) : Int) ≤ (20000 : Int))) = true] (by kernel_rfl) rfl rfl (ap2 b_26 (ap2 b_27 (ap2 b_33 (ap1 b_34)))) (by kernel_rfl) (by kernel_rfl) ?_
            have H_75 := Option.some.inj (show some r_35 = some r from H_74); subst H_75
            refine VL_ret ?_
            exact P_to [(10, .c (.val (.bool r_35)))] [] [] hn (by kernel_rfl) (by kernel_rfl) rfl rfl rfl (QF_retS (by kernel_rfl) (by kernel_rfl) rfl)
          · have H_73 := of_f H_70 b_34
            refine V_reg hN hn [] [(47, true), (50, false), (54, true), (60, false)] calls_nil 2 [10] [] ⟨[(10, .c (.val (.bool false)))], [], 2⟩ [((x_1 == (0 : Int)) && ((x_2 == (0 : Int)) && (ByteArray.toList x_3 == ByteArray.toList x_3))) = true, (!ahead_6) = false, copied_7 = true, (decide ((((ByteArray.size x_3) : Nat) : Int) ≤ (20000 : Int))) = false] (by kernel_rfl) rfl rfl (ap2 b_26 (ap2 b_27 (ap2 b_33 (ap1 b_34)))) (by kernel_rfl) (by kernel_rfl) ?_
            have H_76 := Option.some.inj (show some false = some r from H_73); subst H_76
            refine VL_ret ?_
            exact P_to [(10, .c (.val (.bool false)))] [] [] hn (by kernel_rfl) (by kernel_rfl) rfl rfl rfl (QF_retS (by kernel_rfl) (by kernel_rfl) rfl)
        · have H_71 := of_f H_64 b_33
          refine V_reg hN hn [] [(47, true), (50, false), (54, false)] calls_nil 2 [10] [] ⟨[(10, .c (.val (.bool false)))], [], 2⟩ [((x_1 == (0 : Int)) && ((x_2 == (0 : Int)) && (ByteArray.toList x_3 == ByteArray.toList x_3))) = true, (!ahead_6) = false, copied_7 = false] (by kernel_rfl) rfl rfl (ap2 b_26 (ap2 b_27 (ap1 b_33))) (by kernel_rfl) (by kernel_rfl) ?_
          have H_77 := Option.some.inj (show some false = some r from H_71); subst H_77
          refine VL_ret ?_
          exact P_to [(10, .c (.val (.bool false)))] [] [] hn (by kernel_rfl) (by kernel_rfl) rfl rfl rfl (QF_retS (by kernel_rfl) (by kernel_rfl) rfl)
    · have H_62 := of_f H_44 b_26
      refine V_reg hN hn [] [(47, false)] calls_nil 2 [10] [] ⟨[(10, .c (.val (.bool false)))], [], 2⟩ [((x_1 == (0 : Int)) && ((x_2 == (0 : Int)) && (ByteArray.toList x_3 == ByteArray.toList x_3))) = false] (by kernel_rfl) rfl rfl (ap1 b_26) (by kernel_rfl) (by kernel_rfl) ?_
      have H_78 := Option.some.inj (show some false = some r from H_62); subst H_78
      refine VL_ret ?_
      exact P_to [(10, .c (.val (.bool false)))] [] [] hn (by kernel_rfl) (by kernel_rfl) rfl rfl rfl (QF_retS (by kernel_rfl) (by kernel_rfl) rfl)

theorem delta_Is_spec (K : Nat) (d_1 : Int) (d_2 : (List (Int × (Int × ByteArray)))) (r : Bool) (H : delta_Is K d_1 d_2 = some r) : Spec Try.prog 32 0 [.agg [.val (.int .i64 d_1), .imm (.slice (.pair (.int .i64) (.pair (.int .i64) .str))) d_2]] [] (.c (.val (.bool r))) [] := by
  refine Spec_mk (fn := Try.f32) (c := (Try.f32.body).get!) Try.func32 (by kernel_rfl) rfl ?_
  intro C hN hn
  replace hN : C.N = 68 := hN
  unfold delta_Is at H
  refine V_run hN hn 4 0 [1] [0] ⟨[(1, .c (.h 0))], [(0, .box [.val (.int .i64 d_1), .imm (.slice (.pair (.int .i64) (.pair (.int .i64) .str))) d_2])], 1⟩ [] (by kernel_rfl) rfl rfl ap0 ?_
  obtain ⟨q_53, H_54, H_55⟩ := of_bind H
  refine V_cut (Y := Bool) (R := Bool) q_53 (fun y => y) (fun y => [(1, .c (.h 0)), (21, .c (.val (.bool y)))]) (fun y => [(0, .box [.val (.int .i64 d_1), .imm (.slice (.pair (.int .i64) (.pair (.int .i64) .str))) d_2])]) ?_ ?_
  · skip
    rcases Bool.eq_false_or_eq_true ((decide (d_1 < (0 : Int)))) with b_4 | b_4
    · have H_57 := of_t H_54 b_4
      refine V_reg hN hn [] [(11, true)] calls_nil 1 [1, 21] [0] ⟨[(1, .c (.h 0)), (21, .c (.val (.bool true)))], [(0, .box [.val (.int .i64 d_1), .imm (.slice (.pair (.int .i64) (.pair (.int .i64) .str))) d_2])], 1⟩ [(decide (d_1 < (0 : Int))) = true] (by kernel_rfl) rfl rfl (ap1 b_4) (by kernel_rfl) (by kernel_rfl) ?_
      have H_59 := Option.some.inj (show some true = some q_53 from H_57); subst H_59
      refine VL_nil ?_
      exact QP_end true rfl [(0, 0)] hn (by kernel_rfl) (by kernel_rfl) rfl rfl rfl
    · have H_58 := of_f H_54 b_4
      rcases Bool.eq_false_or_eq_true ((decide (d_1 > (20000 : Int)))) with b_6 | b_6
      · have H_60 := of_t H_58 b_6
        refine V_reg hN hn [] [(11, false), (16, true)] calls_nil 1 [1, 21] [0] ⟨[(1, .c (.h 0)), (21, .c (.val (.bool true)))], [(0, .box [.val (.int .i64 d_1), .imm (.slice (.pair (.int .i64) (.pair (.int .i64) .str))) d_2])], 1⟩ [(decide (d_1 < (0 : Int))) = false, (decide (d_1 > (20000 : Int))) = true] (by kernel_rfl) rfl rfl (ap2 b_4 (ap1 b_6)) (by kernel_rfl) (by kernel_rfl) ?_
        have H_62 := Option.some.inj (show some true = some q_53 from H_60); subst H_62
        refine VL_nil ?_
        exact QP_end true rfl [(0, 0)] hn (by kernel_rfl) (by kernel_rfl) rfl rfl rfl
      · have H_61 := of_f H_58 b_6
        refine V_reg hN hn [] [(11, false), (16, false)] calls_nil 1 [1, 21] [0] ⟨[(1, .c (.h 0)), (21, .c (.val (.bool (decide ((((List.length d_2) : Nat) : Int) > (60 : Int))))))], [(0, .box [.val (.int .i64 d_1), .imm (.slice (.pair (.int .i64) (.pair (.int .i64) .str))) d_2])], 1⟩ [(decide (d_1 < (0 : Int))) = false, (decide (d_1 > (20000 : Int))) = false] (by kernel_rfl) rfl rfl (ap2 b_4 (ap1 b_6)) (by kernel_rfl) (by kernel_rfl) ?_
        have H_63 := Option.some.inj (show some (decide ((((List.length d_2) : Nat) : Int) > (60 : Int))) = some q_53 from H_61); subst H_63
        refine VL_nil ?_
        exact QP_end (decide ((((List.length d_2) : Nat) : Int) > (60 : Int))) rfl [(0, 0)] hn (by kernel_rfl) (by kernel_rfl) rfl rfl rfl
  · intro y_56 hy; subst hy
    skip
    skip
    refine VL_cond (y_56) (by kernel_rfl) ?_ ?_
    · intro b_10; have H_64 := of_t H_55 b_10
      refine V_run hN hn 2 1 [2] [] ⟨[(2, .c (.val (.bool false)))], [], 1⟩ [] (by kernel_rfl) rfl rfl ap0 ?_
      have H_66 := Option.some.inj (show some false = some r from H_64); subst H_66
      refine VL_ret ?_
      exact P_to [(2, .c (.val (.bool false)))] [] [] hn (by kernel_rfl) (by kernel_rfl) rfl rfl rfl (QF_retS (by kernel_rfl) (by kernel_rfl) rfl)
    · intro b_10; have H_65 := of_f H_55 b_10
      refine V_run hN hn 6 1 [1, 3, 4, 23, 24, 25] [0] ⟨[(1, .c (.h 0)), (3, .c (.val (.int .i64 (0 : Int)))), (4, .c (.val (.int .i64 (0 : Int)))), (23, .c (.imm (.slice (.pair (.int .i64) (.pair (.int .i64) .str))) d_2)), (24, .c (.val (.int .i64 (((List.length d_2) : Nat) : Int)))), (25, .c (.val (.int .i64 (0 : Int))))], [(0, .box [.val (.int .i64 d_1), .imm (.slice (.pair (.int .i64) (.pair (.int .i64) .str))) d_2])], 1⟩ [] (by kernel_rfl) rfl rfl ap0 ?_
      refine VL_block ?_
      refine V_to [(1, .c (.h 0)), (3, .c (.val (.int .i64 (0 : Int)))), (4, .c (.val (.int .i64 (0 : Int)))), (23, .c (.imm (.slice (.pair (.int .i64) (.pair (.int .i64) .str))) d_2)), (24, .c (.val (.int .i64 (((List.length d_2) : Nat) : Int)))), (25, .c (.val (.int .i64 (0 : Int))))] [(0, .box [.val (.int .i64 d_1), .imm (.slice (.pair (.int .i64) (.pair (.int .i64) .str))) d_2])] [(0, 0)] hn (by kernel_rfl) (by kernel_rfl) rfl rfl rfl ?_
      refine VL_loop (X := (Int × Int × Int)) (fun x => [(1, .c (.h 0)), (3, .c (.val (.int .i64 x.1))), (4, .c (.val (.int .i64 x.2.1))), (23, .c (.imm (.slice (.pair (.int .i64) (.pair (.int .i64) .str))) d_2)), (24, .c (.val (.int .i64 (((List.length d_2) : Nat) : Int)))), (25, .c (.val (.int .i64 x.2.2)))]) (fun x => [(0, .box [.val (.int .i64 d_1), .imm (.slice (.pair (.int .i64) (.pair (.int .i64) .str))) d_2])]) (fun k x => delta_Is.l0 K d_2 d_1 k x.1 x.2.1 x.2.2 = some r) K ((0 : Int), (0 : Int), (0 : Int)) H_65 (fun _ h => no_none h) ?_
      intro k_16 x_16 H_67
      obtain ⟨size_13, to_14, t_15⟩ := x_16
      have H_68 : delta_Is.l0 K d_2 d_1 (k_16 + 1) size_13 to_14 t_15 = some r := H_67
      rw [delta_Is.l0] at H_68
      refine V_run hN hn 3 1 [1, 3, 4, 23, 24, 25, 26] [0] ⟨[(1, .c (.h 0)), (3, .c (.val (.int .i64 size_13))), (4, .c (.val (.int .i64 to_14))), (23, .c (.imm (.slice (.pair (.int .i64) (.pair (.int .i64) .str))) d_2)), (24, .c (.val (.int .i64 (((List.length d_2) : Nat) : Int)))), (25, .c (.val (.int .i64 t_15))), (26, .c (.val (.bool (decide (t_15 < (((List.length d_2) : Nat) : Int))))))], [(0, .box [.val (.int .i64 d_1), .imm (.slice (.pair (.int .i64) (.pair (.int .i64) .str))) d_2])], 1⟩ [] (by kernel_rfl) rfl rfl ap0 ?_
      refine VL_cond ((decide (t_15 < (((List.length d_2) : Nat) : Int)))) (by kernel_rfl) ?_ ?_
      · intro b_18; have H_69 := of_t H_68 b_18
        refine V_run hN hn 2 1 [1, 3, 4, 23, 24, 25, 26] [0] ⟨[(1, .c (.h 0)), (3, .c (.val (.int .i64 size_13))), (4, .c (.val (.int .i64 to_14))), (23, .c (.imm (.slice (.pair (.int .i64) (.pair (.int .i64) .str))) d_2)), (24, .c (.val (.int .i64 (((List.length d_2) : Nat) : Int)))), (25, .c (.val (.int .i64 t_15))), (26, .c (.val (.bool (decide (t_15 < (((List.length d_2) : Nat) : Int))))))], [(0, .box [.val (.int .i64 d_1), .imm (.slice (.pair (.int .i64) (.pair (.int .i64) .str))) d_2])], 1⟩ [] (by kernel_rfl) rfl rfl ap0 ?_
        refine VL_block ?_
        obtain ⟨c_20, H_71⟩ := of_if H_69
        refine V_run hN hn 3 1 [1, 3, 4, 5, 6, 23, 24, 25] [0, 1] ⟨[(1, .c (.h 0)), (3, .c (.val (.int .i64 size_13))), (4, .c (.val (.int .i64 to_14))), (5, .c (.val (.int .i64 t_15))), (6, .c (.h 1)), (23, .c (.imm (.slice (.pair (.int .i64) (.pair (.int .i64) .str))) d_2)), (24, .c (.val (.int .i64 (((List.length d_2) : Nat) : Int)))), (25, .c (.val (.int .i64 t_15)))], [(0, .box [.val (.int .i64 d_1), .imm (.slice (.pair (.int .i64) (.pair (.int .i64) .str))) d_2]), (1, .box [.val (.int .i64 (List.getD d_2 (Int.toNat t_15) ((0 : Int), ((0 : Int), ByteArray.empty))).1), .val (.int .i64 (List.getD d_2 (Int.toNat t_15) ((0 : Int), ((0 : Int), ByteArray.empty))).2.1), .val (.string (List.getD d_2 (Int.toNat t_15) ((0 : Int), ((0 : Int), ByteArray.empty))).2.2)])], 2⟩ [0 ≤ t_15, t_15 < (((List.length d_2) : Nat) : Int)] (by kernel_rfl) rfl rfl (ap2 c_20.1 (ap1 c_20.2)) ?_
        obtain ⟨q_72, H_73, H_74⟩ := of_bind H_71
        refine V_cut (Y := Bool) (R := Bool) q_72 (fun y => y) (fun y => [(1, .c (.h 0)), (3, .c (.val (.int .i64 size_13))), (4, .c (.val (.int .i64 to_14))), (5, .c (.val (.int .i64 t_15))), (6, .c (.h 1)), (7, .c (.val (.bool y))), (23, .c (.imm (.slice (.pair (.int .i64) (.pair (.int .i64) .str))) d_2)), (24, .c (.val (.int .i64 (((List.length d_2) : Nat) : Int)))), (25, .c (.val (.int .i64 t_15)))]) (fun y => [(0, .box [.val (.int .i64 d_1), .imm (.slice (.pair (.int .i64) (.pair (.int .i64) .str))) d_2]), (1, .box [.val (.int .i64 (List.getD d_2 (Int.toNat t_15) ((0 : Int), ((0 : Int), ByteArray.empty))).1), .val (.int .i64 (List.getD d_2 (Int.toNat t_15) ((0 : Int), ((0 : Int), ByteArray.empty))).2.1), .val (.string (List.getD d_2 (Int.toNat t_15) ((0 : Int), ((0 : Int), ByteArray.empty))).2.2)])]) ?_ ?_
        · skip
          rcases Bool.eq_false_or_eq_true ((decide (t_15 > (0 : Int)))) with b_21 | b_21
          · have H_76 := of_t H_73 b_21
            obtain ⟨r_22, h_23, H_78⟩ := of_bind H_76
            obtain ⟨c_24, H_79⟩ := of_if H_78
            refine V_reg hN hn [(9, ⟨49, 0, [.agg [.val (.int .i64 (List.getD d_2 (Int.toNat (IntKind.wrap .i64 (t_15 - (1 : Int)))) ((0 : Int), ((0 : Int), ByteArray.empty))).1), .val (.int .i64 (List.getD d_2 (Int.toNat (IntKind.wrap .i64 (t_15 - (1 : Int)))) ((0 : Int), ((0 : Int), ByteArray.empty))).2.1), .val (.string (List.getD d_2 (Int.toNat (IntKind.wrap .i64 (t_15 - (1 : Int)))) ((0 : Int), ((0 : Int), ByteArray.empty))).2.2)]], [], .c (.val (.bool r_22)), [], [], 2⟩)] [(32, true)] (calls_cons (delta_IsCopy_spec K (List.getD d_2 (Int.toNat (IntKind.wrap .i64 (t_15 - (1 : Int)))) ((0 : Int), ((0 : Int), ByteArray.empty))).1 (List.getD d_2 (Int.toNat (IntKind.wrap .i64 (t_15 - (1 : Int)))) ((0 : Int), ((0 : Int), ByteArray.empty))).2.1 (List.getD d_2 (Int.toNat (IntKind.wrap .i64 (t_15 - (1 : Int)))) ((0 : Int), ((0 : Int), ByteArray.empty))).2.2 r_22 h_23) (by kernel_rfl) calls_nil) 2 [1, 3, 4, 5, 6, 7, 23, 24, 25] [0, 1] ⟨[(1, .c (.h 0)), (3, .c (.val (.int .i64 size_13))), (4, .c (.val (.int .i64 to_14))), (5, .c (.val (.int .i64 t_15))), (6, .c (.h 1)), (7, .c (.val (.bool r_22))), (23, .c (.imm (.slice (.pair (.int .i64) (.pair (.int .i64) .str))) d_2)), (24, .c (.val (.int .i64 (((List.length d_2) : Nat) : Int)))), (25, .c (.val (.int .i64 t_15)))], [(0, .box [.val (.int .i64 d_1), .imm (.slice (.pair (.int .i64) (.pair (.int .i64) .str))) d_2]), (1, .box [.val (.int .i64 (List.getD d_2 (Int.toNat t_15) ((0 : Int), ((0 : Int), ByteArray.empty))).1), .val (.int .i64 (List.getD d_2 (Int.toNat t_15) ((0 : Int), ((0 : Int), ByteArray.empty))).2.1), .val (.string (List.getD d_2 (Int.toNat t_15) ((0 : Int), ((0 : Int), ByteArray.empty))).2.2)])], 2⟩ [(decide (t_15 > (0 : Int))) = true, 0 ≤ (IntKind.wrap .i64 (t_15 - (1 : Int))), (IntKind.wrap .i64 (t_15 - (1 : Int))) < (((List.length d_2) : Nat) : Int)] (by kernel_rfl) rfl rfl (ap2 b_21 (ap2 c_24.1 (ap1 c_24.2))) (by kernel_rfl) (by kernel_rfl) ?_
            have H_80 := Option.some.inj (show some r_22 = some q_72 from H_79); subst H_80
            refine VL_nil ?_
            exact QP_end r_22 rfl [(0, 0), (1, 1)] hn (by kernel_rfl) (by kernel_rfl) rfl rfl rfl
          · have H_77 := of_f H_73 b_21
            refine V_reg hN hn [] [(32, false)] calls_nil 2 [1, 3, 4, 5, 6, 7, 23, 24, 25] [0, 1] ⟨[(1, .c (.h 0)), (3, .c (.val (.int .i64 size_13))), (4, .c (.val (.int .i64 to_14))), (5, .c (.val (.int .i64 t_15))), (6, .c (.h 1)), (7, .c (.val (.bool false))), (23, .c (.imm (.slice (.pair (.int .i64) (.pair (.int .i64) .str))) d_2)), (24, .c (.val (.int .i64 (((List.length d_2) : Nat) : Int)))), (25, .c (.val (.int .i64 t_15)))], [(0, .box [.val (.int .i64 d_1), .imm (.slice (.pair (.int .i64) (.pair (.int .i64) .str))) d_2]), (1, .box [.val (.int .i64 (List.getD d_2 (Int.toNat t_15) ((0 : Int), ((0 : Int), ByteArray.empty))).1), .val (.int .i64 (List.getD d_2 (Int.toNat t_15) ((0 : Int), ((0 : Int), ByteArray.empty))).2.1), .val (.string (List.getD d_2 (Int.toNat t_15) ((0 : Int), ((0 : Int), ByteArray.empty))).2.2)])], 2⟩ [(decide (t_15 > (0 : Int))) = false] (by kernel_rfl) rfl rfl (ap1 b_21) (by kernel_rfl) (by kernel_rfl) ?_
            have H_81 := Option.some.inj (show some false = some q_72 from H_77); subst H_81
            refine VL_nil ?_
            exact QP_end false rfl [(0, 0), (1, 1)] hn (by kernel_rfl) (by kernel_rfl) rfl rfl rfl
        · intro y_75 hy; subst hy
          skip
          skip
          refine V_run hN hn 2 2 [1, 3, 4, 5, 6, 7, 23, 24, 25] [0, 1] ⟨[(1, .c (.h 0)), (3, .c (.val (.int .i64 size_13))), (4, .c (.val (.int .i64 to_14))), (5, .c (.val (.int .i64 t_15))), (6, .c (.h 1)), (7, .c (.val (.bool y_75))), (23, .c (.imm (.slice (.pair (.int .i64) (.pair (.int .i64) .str))) d_2)), (24, .c (.val (.int .i64 (((List.length d_2) : Nat) : Int)))), (25, .c (.val (.int .i64 t_15)))], [(0, .box [.val (.int .i64 d_1), .imm (.slice (.pair (.int .i64) (.pair (.int .i64) .str))) d_2]), (1, .box [.val (.int .i64 (List.getD d_2 (Int.toNat t_15) ((0 : Int), ((0 : Int), ByteArray.empty))).1), .val (.int .i64 (List.getD d_2 (Int.toNat t_15) ((0 : Int), ((0 : Int), ByteArray.empty))).2.1), .val (.string (List.getD d_2 (Int.toNat t_15) ((0 : Int), ((0 : Int), ByteArray.empty))).2.2)])], 2⟩ [] (by kernel_rfl) rfl rfl ap0 ?_
          obtain ⟨r_28, h_29, H_82⟩ := of_bind H_74
          refine V_reg hN hn [(7, ⟨50, 0, [.agg [.val (.int .i64 (List.getD d_2 (Int.toNat t_15) ((0 : Int), ((0 : Int), ByteArray.empty))).1), .val (.int .i64 (List.getD d_2 (Int.toNat t_15) ((0 : Int), ((0 : Int), ByteArray.empty))).2.1), .val (.string (List.getD d_2 (Int.toNat t_15) ((0 : Int), ((0 : Int), ByteArray.empty))).2.2)], .c (.val (.int .i64 d_1)), .c (.val (.int .i64 to_14)), .c (.val (.bool (decide (t_15 > (0 : Int))))), .c (.val (.bool y_75))], [], .c (.val (.bool r_28)), [], [], 2⟩)] [] (calls_cons (delta_elem_spec K (List.getD d_2 (Int.toNat t_15) ((0 : Int), ((0 : Int), ByteArray.empty))).1 (List.getD d_2 (Int.toNat t_15) ((0 : Int), ((0 : Int), ByteArray.empty))).2.1 (List.getD d_2 (Int.toNat t_15) ((0 : Int), ((0 : Int), ByteArray.empty))).2.2 d_1 to_14 (decide (t_15 > (0 : Int))) y_75 r_28 h_29) (by kernel_rfl) calls_nil) 2 [1, 3, 4, 6, 23, 24, 25, 49] [0, 1] ⟨[(1, .c (.h 0)), (3, .c (.val (.int .i64 size_13))), (4, .c (.val (.int .i64 to_14))), (6, .c (.h 1)), (23, .c (.imm (.slice (.pair (.int .i64) (.pair (.int .i64) .str))) d_2)), (24, .c (.val (.int .i64 (((List.length d_2) : Nat) : Int)))), (25, .c (.val (.int .i64 t_15))), (49, .c (.val (.bool (!r_28))))], [(0, .box [.val (.int .i64 d_1), .imm (.slice (.pair (.int .i64) (.pair (.int .i64) .str))) d_2]), (1, .box [.val (.int .i64 (List.getD d_2 (Int.toNat t_15) ((0 : Int), ((0 : Int), ByteArray.empty))).1), .val (.int .i64 (List.getD d_2 (Int.toNat t_15) ((0 : Int), ((0 : Int), ByteArray.empty))).2.1), .val (.string (List.getD d_2 (Int.toNat t_15) ((0 : Int), ((0 : Int), ByteArray.empty))).2.2)])], 2⟩ [] (by kernel_rfl) rfl rfl ap0 (by kernel_rfl) (by kernel_rfl) ?_
          refine VL_cond ((!r_28)) (by kernel_rfl) ?_ ?_
          · intro b_31; have H_83 := of_t H_82 b_31
            refine V_run hN hn 2 2 [2] [] ⟨[(2, .c (.val (.bool false)))], [], 2⟩ [] (by kernel_rfl) rfl rfl ap0 ?_
            have H_85 := Option.some.inj (show some false = some r from H_83); subst H_85
            refine VL_ret ?_
            refine QB_ret ?_
            refine QL_ret ?_
            refine QB_ret ?_
            exact P_to [(2, .c (.val (.bool false)))] [] [] hn (by kernel_rfl) (by kernel_rfl) rfl rfl rfl (QF_retS (by kernel_rfl) (by kernel_rfl) rfl)
          · intro b_31; have H_84 := of_f H_82 b_31
            refine V_run hN hn 3 2 [1, 3, 4, 6, 23, 24, 25, 49] [0, 1] ⟨[(1, .c (.h 0)), (3, .c (.val (.int .i64 size_13))), (4, .c (.val (.int .i64 to_14))), (6, .c (.h 1)), (23, .c (.imm (.slice (.pair (.int .i64) (.pair (.int .i64) .str))) d_2)), (24, .c (.val (.int .i64 (((List.length d_2) : Nat) : Int)))), (25, .c (.val (.int .i64 t_15))), (49, .c (.val (.bool (!r_28))))], [(0, .box [.val (.int .i64 d_1), .imm (.slice (.pair (.int .i64) (.pair (.int .i64) .str))) d_2]), (1, .box [.val (.int .i64 (List.getD d_2 (Int.toNat t_15) ((0 : Int), ((0 : Int), ByteArray.empty))).1), .val (.int .i64 (List.getD d_2 (Int.toNat t_15) ((0 : Int), ((0 : Int), ByteArray.empty))).2.1), .val (.string (List.getD d_2 (Int.toNat t_15) ((0 : Int), ((0 : Int), ByteArray.empty))).2.2)])], 2⟩ [] (by kernel_rfl) rfl rfl ap0 ?_
            obtain ⟨r_34, h_35, H_86⟩ := of_bind H_84
            refine V_reg hN hn [(1, ⟨49, 0, [.agg [.val (.int .i64 (List.getD d_2 (Int.toNat t_15) ((0 : Int), ((0 : Int), ByteArray.empty))).1), .val (.int .i64 (List.getD d_2 (Int.toNat t_15) ((0 : Int), ((0 : Int), ByteArray.empty))).2.1), .val (.string (List.getD d_2 (Int.toNat t_15) ((0 : Int), ((0 : Int), ByteArray.empty))).2.2)]], [], .c (.val (.bool r_34)), [], [], 2⟩)] [] (calls_cons (delta_IsCopy_spec K (List.getD d_2 (Int.toNat t_15) ((0 : Int), ((0 : Int), ByteArray.empty))).1 (List.getD d_2 (Int.toNat t_15) ((0 : Int), ((0 : Int), ByteArray.empty))).2.1 (List.getD d_2 (Int.toNat t_15) ((0 : Int), ((0 : Int), ByteArray.empty))).2.2 r_34 h_35) (by kernel_rfl) calls_nil) 2 [1, 3, 4, 6, 23, 24, 25, 51] [0, 1] ⟨[(1, .c (.h 0)), (3, .c (.val (.int .i64 size_13))), (4, .c (.val (.int .i64 to_14))), (6, .c (.h 1)), (23, .c (.imm (.slice (.pair (.int .i64) (.pair (.int .i64) .str))) d_2)), (24, .c (.val (.int .i64 (((List.length d_2) : Nat) : Int)))), (25, .c (.val (.int .i64 t_15))), (51, .c (.val (.bool r_34)))], [(0, .box [.val (.int .i64 d_1), .imm (.slice (.pair (.int .i64) (.pair (.int .i64) .str))) d_2]), (1, .box [.val (.int .i64 (List.getD d_2 (Int.toNat t_15) ((0 : Int), ((0 : Int), ByteArray.empty))).1), .val (.int .i64 (List.getD d_2 (Int.toNat t_15) ((0 : Int), ((0 : Int), ByteArray.empty))).2.1), .val (.string (List.getD d_2 (Int.toNat t_15) ((0 : Int), ((0 : Int), ByteArray.empty))).2.2)])], 2⟩ [] (by kernel_rfl) rfl rfl ap0 (by kernel_rfl) (by kernel_rfl) ?_
            obtain ⟨q_87, H_88, H_89⟩ := of_bind H_86
            refine V_cut (Y := Int) (R := Int) q_87 (fun y => y) (fun y => [(1, .c (.h 0)), (3, .c (.val (.int .i64 size_13))), (4, .c (.val (.int .i64 y))), (6, .c (.h 1)), (23, .c (.imm (.slice (.pair (.int .i64) (.pair (.int .i64) .str))) d_2)), (24, .c (.val (.int .i64 (((List.length d_2) : Nat) : Int)))), (25, .c (.val (.int .i64 t_15)))]) (fun y => [(0, .box [.val (.int .i64 d_1), .imm (.slice (.pair (.int .i64) (.pair (.int .i64) .str))) d_2]), (1, .box [.val (.int .i64 (List.getD d_2 (Int.toNat t_15) ((0 : Int), ((0 : Int), ByteArray.empty))).1), .val (.int .i64 (List.getD d_2 (Int.toNat t_15) ((0 : Int), ((0 : Int), ByteArray.empty))).2.1), .val (.string (List.getD d_2 (Int.toNat t_15) ((0 : Int), ((0 : Int), ByteArray.empty))).2.2)])]) ?_ ?_
            · skip
              refine VL_cond (r_34) (by kernel_rfl) ?_ ?_
              · intro b_37; have H_91 := of_t H_88 b_37
                refine V_run hN hn 1 2 [1, 3, 4, 6, 23, 24, 25] [0, 1] ⟨[(1, .c (.h 0)), (3, .c (.val (.int .i64 size_13))), (4, .c (.val (.int .i64 (List.getD d_2 (Int.toNat t_15) ((0 : Int), ((0 : Int), ByteArray.empty))).2.1))), (6, .c (.h 1)), (23, .c (.imm (.slice (.pair (.int .i64) (.pair (.int .i64) .str))) d_2)), (24, .c (.val (.int .i64 (((List.length d_2) : Nat) : Int)))), (25, .c (.val (.int .i64 t_15)))], [(0, .box [.val (.int .i64 d_1), .imm (.slice (.pair (.int .i64) (.pair (.int .i64) .str))) d_2]), (1, .box [.val (.int .i64 (List.getD d_2 (Int.toNat t_15) ((0 : Int), ((0 : Int), ByteArray.empty))).1), .val (.int .i64 (List.getD d_2 (Int.toNat t_15) ((0 : Int), ((0 : Int), ByteArray.empty))).2.1), .val (.string (List.getD d_2 (Int.toNat t_15) ((0 : Int), ((0 : Int), ByteArray.empty))).2.2)])], 2⟩ [] (by kernel_rfl) rfl rfl ap0 ?_
                have H_93 := Option.some.inj (show some (List.getD d_2 (Int.toNat t_15) ((0 : Int), ((0 : Int), ByteArray.empty))).2.1 = some q_87 from H_91); subst H_93
                refine VL_nil ?_
                exact QP_end (List.getD d_2 (Int.toNat t_15) ((0 : Int), ((0 : Int), ByteArray.empty))).2.1 rfl [(0, 0), (1, 1)] hn (by kernel_rfl) (by kernel_rfl) rfl rfl rfl
              · intro b_37; have H_92 := of_f H_88 b_37
                refine V_run hN hn 1 2 [1, 3, 4, 6, 23, 24, 25, 51] [0, 1] ⟨[(1, .c (.h 0)), (3, .c (.val (.int .i64 size_13))), (4, .c (.val (.int .i64 to_14))), (6, .c (.h 1)), (23, .c (.imm (.slice (.pair (.int .i64) (.pair (.int .i64) .str))) d_2)), (24, .c (.val (.int .i64 (((List.length d_2) : Nat) : Int)))), (25, .c (.val (.int .i64 t_15))), (51, .c (.val (.bool r_34)))], [(0, .box [.val (.int .i64 d_1), .imm (.slice (.pair (.int .i64) (.pair (.int .i64) .str))) d_2]), (1, .box [.val (.int .i64 (List.getD d_2 (Int.toNat t_15) ((0 : Int), ((0 : Int), ByteArray.empty))).1), .val (.int .i64 (List.getD d_2 (Int.toNat t_15) ((0 : Int), ((0 : Int), ByteArray.empty))).2.1), .val (.string (List.getD d_2 (Int.toNat t_15) ((0 : Int), ((0 : Int), ByteArray.empty))).2.2)])], 2⟩ [] (by kernel_rfl) rfl rfl ap0 ?_
                have H_94 := Option.some.inj (show some to_14 = some q_87 from H_92); subst H_94
                refine VL_nil ?_
                exact QP_end to_14 rfl [(0, 0), (1, 1)] hn (by kernel_rfl) (by kernel_rfl) rfl rfl rfl
            · intro y_90 hy; subst hy
              skip
              skip
              refine V_run hN hn 4 2 [1, 3, 4, 23, 24, 25, 66] [0] ⟨[(1, .c (.h 0)), (3, .c (.val (.int .i64 (IntKind.wrap .i64 (size_13 + (IntKind.wrap .i64 ((IntKind.wrap .i64 ((List.getD d_2 (Int.toNat t_15) ((0 : Int), ((0 : Int), ByteArray.empty))).2.1 - (List.getD d_2 (Int.toNat t_15) ((0 : Int), ((0 : Int), ByteArray.empty))).1)) + (((ByteArray.size (List.getD d_2 (Int.toNat t_15) ((0 : Int), ((0 : Int), ByteArray.empty))).2.2) : Nat) : Int)))))))), (4, .c (.val (.int .i64 y_90))), (23, .c (.imm (.slice (.pair (.int .i64) (.pair (.int .i64) .str))) d_2)), (24, .c (.val (.int .i64 (((List.length d_2) : Nat) : Int)))), (25, .c (.val (.int .i64 t_15))), (66, .c (.val (.bool (decide ((IntKind.wrap .i64 (size_13 + (IntKind.wrap .i64 ((IntKind.wrap .i64 ((List.getD d_2 (Int.toNat t_15) ((0 : Int), ((0 : Int), ByteArray.empty))).2.1 - (List.getD d_2 (Int.toNat t_15) ((0 : Int), ((0 : Int), ByteArray.empty))).1)) + (((ByteArray.size (List.getD d_2 (Int.toNat t_15) ((0 : Int), ((0 : Int), ByteArray.empty))).2.2) : Nat) : Int))))) > (20000 : Int))))))], [(0, .box [.val (.int .i64 d_1), .imm (.slice (.pair (.int .i64) (.pair (.int .i64) .str))) d_2])], 2⟩ [] (by kernel_rfl) rfl rfl ap0 ?_
              refine VL_cond ((decide ((IntKind.wrap .i64 (size_13 + (IntKind.wrap .i64 ((IntKind.wrap .i64 ((List.getD d_2 (Int.toNat t_15) ((0 : Int), ((0 : Int), ByteArray.empty))).2.1 - (List.getD d_2 (Int.toNat t_15) ((0 : Int), ((0 : Int), ByteArray.empty))).1)) + (((ByteArray.size (List.getD d_2 (Int.toNat t_15) ((0 : Int), ((0 : Int), ByteArray.empty))).2.2) : Nat) : Int))))) > (20000 : Int)))) (by kernel_rfl) ?_ ?_
              · intro b_42; have H_95 := of_t H_89 b_42
                refine V_run hN hn 2 2 [2] [] ⟨[(2, .c (.val (.bool false)))], [], 2⟩ [] (by kernel_rfl) rfl rfl ap0 ?_
                have H_97 := Option.some.inj (show some false = some r from H_95); subst H_97
                refine VL_ret ?_
                refine QB_ret ?_
                refine QL_ret ?_
                refine QB_ret ?_
                exact P_to [(2, .c (.val (.bool false)))] [] [] hn (by kernel_rfl) (by kernel_rfl) rfl rfl rfl (QF_retS (by kernel_rfl) (by kernel_rfl) rfl)
              · intro b_42; have H_96 := of_f H_89 b_42
                refine V_run hN hn 1 2 [1, 3, 4, 23, 24, 25, 66] [0] ⟨[(1, .c (.h 0)), (3, .c (.val (.int .i64 (IntKind.wrap .i64 (size_13 + (IntKind.wrap .i64 ((IntKind.wrap .i64 ((List.getD d_2 (Int.toNat t_15) ((0 : Int), ((0 : Int), ByteArray.empty))).2.1 - (List.getD d_2 (Int.toNat t_15) ((0 : Int), ((0 : Int), ByteArray.empty))).1)) + (((ByteArray.size (List.getD d_2 (Int.toNat t_15) ((0 : Int), ((0 : Int), ByteArray.empty))).2.2) : Nat) : Int)))))))), (4, .c (.val (.int .i64 y_90))), (23, .c (.imm (.slice (.pair (.int .i64) (.pair (.int .i64) .str))) d_2)), (24, .c (.val (.int .i64 (((List.length d_2) : Nat) : Int)))), (25, .c (.val (.int .i64 t_15))), (66, .c (.val (.bool (decide ((IntKind.wrap .i64 (size_13 + (IntKind.wrap .i64 ((IntKind.wrap .i64 ((List.getD d_2 (Int.toNat t_15) ((0 : Int), ((0 : Int), ByteArray.empty))).2.1 - (List.getD d_2 (Int.toNat t_15) ((0 : Int), ((0 : Int), ByteArray.empty))).1)) + (((ByteArray.size (List.getD d_2 (Int.toNat t_15) ((0 : Int), ((0 : Int), ByteArray.empty))).2.2) : Nat) : Int))))) > (20000 : Int))))))], [(0, .box [.val (.int .i64 d_1), .imm (.slice (.pair (.int .i64) (.pair (.int .i64) .str))) d_2])], 2⟩ [] (by kernel_rfl) rfl rfl ap0 ?_
                refine VL_nil (QB_end ?_)
                refine V_run hN hn 1 2 [1, 3, 4, 23, 24, 25] [0] ⟨[(1, .c (.h 0)), (3, .c (.val (.int .i64 (IntKind.wrap .i64 (size_13 + (IntKind.wrap .i64 ((IntKind.wrap .i64 ((List.getD d_2 (Int.toNat t_15) ((0 : Int), ((0 : Int), ByteArray.empty))).2.1 - (List.getD d_2 (Int.toNat t_15) ((0 : Int), ((0 : Int), ByteArray.empty))).1)) + (((ByteArray.size (List.getD d_2 (Int.toNat t_15) ((0 : Int), ((0 : Int), ByteArray.empty))).2.2) : Nat) : Int)))))))), (4, .c (.val (.int .i64 y_90))), (23, .c (.imm (.slice (.pair (.int .i64) (.pair (.int .i64) .str))) d_2)), (24, .c (.val (.int .i64 (((List.length d_2) : Nat) : Int)))), (25, .c (.val (.int .i64 (IntKind.wrap .i64 (t_15 + (1 : Int))))))], [(0, .box [.val (.int .i64 d_1), .imm (.slice (.pair (.int .i64) (.pair (.int .i64) .str))) d_2])], 2⟩ [] (by kernel_rfl) rfl rfl ap0 ?_
                refine VL_nil ?_
                exact V_roundEnd ((IntKind.wrap .i64 (size_13 + (IntKind.wrap .i64 ((IntKind.wrap .i64 ((List.getD d_2 (Int.toNat t_15) ((0 : Int), ((0 : Int), ByteArray.empty))).2.1 - (List.getD d_2 (Int.toNat t_15) ((0 : Int), ((0 : Int), ByteArray.empty))).1)) + (((ByteArray.size (List.getD d_2 (Int.toNat t_15) ((0 : Int), ((0 : Int), ByteArray.empty))).2.2) : Nat) : Int))))), y_90, (IntKind.wrap .i64 (t_15 + (1 : Int)))) H_96 [(0, 0)] hn (by kernel_rfl) (by kernel_rfl) rfl rfl rfl
      · intro b_18; have H_70 := of_f H_68 b_18
        refine VL_exit ?_
        refine QL_exit ?_
        refine QB_here ?_
        refine V_run hN hn 2 1 [2] [] ⟨[(2, .c (.val (.bool true)))], [], 1⟩ [] (by kernel_rfl) rfl rfl ap0 ?_
        have H_98 := Option.some.inj (show some true = some r from H_70); subst H_98
        refine VL_ret ?_
        exact P_to [(2, .c (.val (.bool true)))] [] [] hn (by kernel_rfl) (by kernel_rfl) rfl rfl rfl (QF_retS (by kernel_rfl) (by kernel_rfl) rfl)

theorem delta_sums_spec (K : Nat) (d_1 : Int) (d_2 : (List (Int × (Int × ByteArray)))) (r : (Int × Int)) (H : delta_sums K d_1 d_2 = some r) : Spec Try.prog 51 0 [.agg [.val (.int .i64 d_1), .imm (.slice (.pair (.int .i64) (.pair (.int .i64) .str))) d_2]] [] (.tup [(false, [.val (.int .i64 r.1)]), (false, [.val (.int .i64 r.2)])]) [] := by
  refine Spec_mk (fn := Try.f51) (c := (Try.f51.body).get!) Try.func51 (by kernel_rfl) rfl ?_
  intro C hN hn
  replace hN : C.N = 33 := hN
  unfold delta_sums at H
  refine V_run hN hn 6 0 [1, 4, 5] [0] ⟨[(1, .c (.h 0)), (4, .c (.val (.int .i64 (0 : Int)))), (5, .c (.val (.int .i64 (0 : Int))))], [(0, .box [.val (.int .i64 d_1), .imm (.slice (.pair (.int .i64) (.pair (.int .i64) .str))) d_2])], 1⟩ [] (by kernel_rfl) rfl rfl ap0 ?_
  obtain ⟨r_4, h_5, H_22⟩ := of_bind H
  refine V_reg hN hn [(1, ⟨32, 0, [.agg [.val (.int .i64 d_1), .imm (.slice (.pair (.int .i64) (.pair (.int .i64) .str))) d_2]], [], .c (.val (.bool r_4)), [], [], 1⟩)] [] (calls_cons (delta_Is_spec K d_1 d_2 r_4 h_5) (by kernel_rfl) calls_nil) 1 [1, 4, 5, 10] [0] ⟨[(1, .c (.h 0)), (4, .c (.val (.int .i64 (0 : Int)))), (5, .c (.val (.int .i64 (0 : Int)))), (10, .c (.val (.bool (!r_4))))], [(0, .box [.val (.int .i64 d_1), .imm (.slice (.pair (.int .i64) (.pair (.int .i64) .str))) d_2])], 1⟩ [] (by kernel_rfl) rfl rfl ap0 (by kernel_rfl) (by kernel_rfl) ?_
  refine VL_cond ((!r_4)) (by kernel_rfl) ?_ ?_
  · intro b_7; have H_23 := of_t H_22 b_7
    refine V_run hN hn 2 1 [2, 3] [] ⟨[(2, .c (.val (.int .i64 (0 : Int)))), (3, .c (.val (.int .i64 (0 : Int))))], [], 1⟩ [] (by kernel_rfl) rfl rfl ap0 ?_
    have H_25 := Option.some.inj (show some ((0 : Int), (0 : Int)) = some r from H_23); subst H_25
    refine VL_ret ?_
    exact P_to [(2, .c (.val (.int .i64 (0 : Int)))), (3, .c (.val (.int .i64 (0 : Int))))] [] [] hn (by kernel_rfl) (by kernel_rfl) rfl rfl rfl (QF_retS (by kernel_rfl) (by kernel_rfl) rfl)
  · intro b_7; have H_24 := of_f H_22 b_7
    refine V_run hN hn 4 1 [4, 5, 12, 13, 14] [] ⟨[(4, .c (.val (.int .i64 (0 : Int)))), (5, .c (.val (.int .i64 (0 : Int)))), (12, .c (.imm (.slice (.pair (.int .i64) (.pair (.int .i64) .str))) d_2)), (13, .c (.val (.int .i64 (((List.length d_2) : Nat) : Int)))), (14, .c (.val (.int .i64 (0 : Int))))], [], 1⟩ [] (by kernel_rfl) rfl rfl ap0 ?_
    refine VL_block ?_
    refine V_to [(4, .c (.val (.int .i64 (0 : Int)))), (5, .c (.val (.int .i64 (0 : Int)))), (12, .c (.imm (.slice (.pair (.int .i64) (.pair (.int .i64) .str))) d_2)), (13, .c (.val (.int .i64 (((List.length d_2) : Nat) : Int)))), (14, .c (.val (.int .i64 (0 : Int))))] [] [] hn (by kernel_rfl) (by kernel_rfl) rfl rfl rfl ?_
    refine VL_loop (X := (Int × Int × Int)) (fun x => [(4, .c (.val (.int .i64 x.1))), (5, .c (.val (.int .i64 x.2.1))), (12, .c (.imm (.slice (.pair (.int .i64) (.pair (.int .i64) .str))) d_2)), (13, .c (.val (.int .i64 (((List.length d_2) : Nat) : Int)))), (14, .c (.val (.int .i64 x.2.2)))]) (fun x => []) (fun k x => delta_sums.l0 K d_2 k x.1 x.2.1 x.2.2 = some r) K ((0 : Int), (0 : Int), (0 : Int)) H_24 (fun _ h => no_none h) ?_
    intro k_13 x_13 H_26
    obtain ⟨kept_10, put_11, t_12⟩ := x_13
    have H_27 : delta_sums.l0 K d_2 (k_13 + 1) kept_10 put_11 t_12 = some r := H_26
    rw [delta_sums.l0] at H_27
    refine V_run hN hn 3 1 [4, 5, 12, 13, 14, 15] [] ⟨[(4, .c (.val (.int .i64 kept_10))), (5, .c (.val (.int .i64 put_11))), (12, .c (.imm (.slice (.pair (.int .i64) (.pair (.int .i64) .str))) d_2)), (13, .c (.val (.int .i64 (((List.length d_2) : Nat) : Int)))), (14, .c (.val (.int .i64 t_12))), (15, .c (.val (.bool (decide (t_12 < (((List.length d_2) : Nat) : Int))))))], [], 1⟩ [] (by kernel_rfl) rfl rfl ap0 ?_
    refine VL_cond ((decide (t_12 < (((List.length d_2) : Nat) : Int)))) (by kernel_rfl) ?_ ?_
    · intro b_15; have H_28 := of_t H_27 b_15
      refine V_run hN hn 2 1 [4, 5, 12, 13, 14, 15] [] ⟨[(4, .c (.val (.int .i64 kept_10))), (5, .c (.val (.int .i64 put_11))), (12, .c (.imm (.slice (.pair (.int .i64) (.pair (.int .i64) .str))) d_2)), (13, .c (.val (.int .i64 (((List.length d_2) : Nat) : Int)))), (14, .c (.val (.int .i64 t_12))), (15, .c (.val (.bool (decide (t_12 < (((List.length d_2) : Nat) : Int))))))], [], 1⟩ [] (by kernel_rfl) rfl rfl ap0 ?_
      refine VL_block ?_
      obtain ⟨c_17, H_30⟩ := of_if H_28
      refine V_run hN hn 5 1 [4, 5, 12, 13, 14] [] ⟨[(4, .c (.val (.int .i64 (IntKind.wrap .i64 (kept_10 + (IntKind.wrap .i64 ((List.getD d_2 (Int.toNat t_12) ((0 : Int), ((0 : Int), ByteArray.empty))).2.1 - (List.getD d_2 (Int.toNat t_12) ((0 : Int), ((0 : Int), ByteArray.empty))).1))))))), (5, .c (.val (.int .i64 (IntKind.wrap .i64 (put_11 + (((ByteArray.size (List.getD d_2 (Int.toNat t_12) ((0 : Int), ((0 : Int), ByteArray.empty))).2.2) : Nat) : Int)))))), (12, .c (.imm (.slice (.pair (.int .i64) (.pair (.int .i64) .str))) d_2)), (13, .c (.val (.int .i64 (((List.length d_2) : Nat) : Int)))), (14, .c (.val (.int .i64 t_12)))], [], 2⟩ [0 ≤ t_12, t_12 < (((List.length d_2) : Nat) : Int)] (by kernel_rfl) rfl rfl (ap2 c_17.1 (ap1 c_17.2)) ?_
      refine VL_nil (QB_end ?_)
      refine V_run hN hn 1 2 [4, 5, 12, 13, 14] [] ⟨[(4, .c (.val (.int .i64 (IntKind.wrap .i64 (kept_10 + (IntKind.wrap .i64 ((List.getD d_2 (Int.toNat t_12) ((0 : Int), ((0 : Int), ByteArray.empty))).2.1 - (List.getD d_2 (Int.toNat t_12) ((0 : Int), ((0 : Int), ByteArray.empty))).1))))))), (5, .c (.val (.int .i64 (IntKind.wrap .i64 (put_11 + (((ByteArray.size (List.getD d_2 (Int.toNat t_12) ((0 : Int), ((0 : Int), ByteArray.empty))).2.2) : Nat) : Int)))))), (12, .c (.imm (.slice (.pair (.int .i64) (.pair (.int .i64) .str))) d_2)), (13, .c (.val (.int .i64 (((List.length d_2) : Nat) : Int)))), (14, .c (.val (.int .i64 (IntKind.wrap .i64 (t_12 + (1 : Int))))))], [], 2⟩ [] (by kernel_rfl) rfl rfl ap0 ?_
      refine VL_nil ?_
      exact V_roundEnd ((IntKind.wrap .i64 (kept_10 + (IntKind.wrap .i64 ((List.getD d_2 (Int.toNat t_12) ((0 : Int), ((0 : Int), ByteArray.empty))).2.1 - (List.getD d_2 (Int.toNat t_12) ((0 : Int), ((0 : Int), ByteArray.empty))).1)))), (IntKind.wrap .i64 (put_11 + (((ByteArray.size (List.getD d_2 (Int.toNat t_12) ((0 : Int), ((0 : Int), ByteArray.empty))).2.2) : Nat) : Int))), (IntKind.wrap .i64 (t_12 + (1 : Int)))) H_30 [] hn (by kernel_rfl) (by kernel_rfl) rfl rfl rfl
    · intro b_15; have H_29 := of_f H_27 b_15
      refine VL_exit ?_
      refine QL_exit ?_
      refine QB_here ?_
      refine V_run hN hn 2 1 [2, 3] [] ⟨[(2, .c (.val (.int .i64 kept_10))), (3, .c (.val (.int .i64 put_11)))], [], 1⟩ [] (by kernel_rfl) rfl rfl ap0 ?_
      have H_31 := Option.some.inj (show some (kept_10, put_11) = some r from H_29); subst H_31
      refine VL_ret ?_
      exact P_to [(2, .c (.val (.int .i64 kept_10))), (3, .c (.val (.int .i64 put_11)))] [] [] hn (by kernel_rfl) (by kernel_rfl) rfl rfl rfl (QF_retS (by kernel_rfl) (by kernel_rfl) rfl)

theorem delta_Size_spec (K : Nat) (d_1 : Int) (d_2 : (List (Int × (Int × ByteArray)))) (r : Int) (H : delta_Size K d_1 d_2 = some r) : Spec Try.prog 33 0 [.agg [.val (.int .i64 d_1), .imm (.slice (.pair (.int .i64) (.pair (.int .i64) .str))) d_2]] [] (.c (.val (.int .i64 r))) [] := by
  refine Spec_mk (fn := Try.f33) (c := (Try.f33.body).get!) Try.func33 (by kernel_rfl) rfl ?_
  intro C hN hn
  replace hN : C.N = 13 := hN
  unfold delta_Size at H
  refine V_run hN hn 3 0 [1] [0] ⟨[(1, .c (.h 0))], [(0, .box [.val (.int .i64 d_1), .imm (.slice (.pair (.int .i64) (.pair (.int .i64) .str))) d_2])], 1⟩ [] (by kernel_rfl) rfl rfl ap0 ?_
  obtain ⟨r_4, h_5, H_9⟩ := of_bind H
  refine V_reg hN hn [(1, ⟨51, 0, [.agg [.val (.int .i64 d_1), .imm (.slice (.pair (.int .i64) (.pair (.int .i64) .str))) d_2]], [], .tup [(false, [.val (.int .i64 r_4.1)]), (false, [.val (.int .i64 r_4.2)])], [], [], 1⟩)] [] (calls_cons (delta_sums_spec K d_1 d_2 r_4 h_5) (by kernel_rfl) calls_nil) 1 [3, 4] [] ⟨[(3, .c (.val (.int .i64 r_4.1))), (4, .c (.val (.int .i64 r_4.2)))], [], 1⟩ [] (by kernel_rfl) rfl rfl ap0 (by kernel_rfl) (by kernel_rfl) ?_
  refine V_run hN hn 2 1 [2] [] ⟨[(2, .c (.val (.int .i64 (IntKind.wrap .i64 (r_4.1 + r_4.2)))))], [], 1⟩ [] (by kernel_rfl) rfl rfl ap0 ?_
  have H_10 := Option.some.inj (show some (IntKind.wrap .i64 (r_4.1 + r_4.2)) = some r from H_9); subst H_10
  refine VL_ret ?_
  exact P_to [(2, .c (.val (.int .i64 (IntKind.wrap .i64 (r_4.1 + r_4.2)))))] [] [] hn (by kernel_rfl) (by kernel_rfl) rfl rfl rfl (QF_retS (by kernel_rfl) (by kernel_rfl) rfl)

theorem offset_Move_spec (K : Nat) (d_1 : Int) (d_2 : (List (Int × (Int × ByteArray)))) (at_3 : Int) (after_4 : Bool) (r : Int) (H : offset_Move K d_1 d_2 at_3 after_4 = some r) : Spec Try.prog 34 0 [.agg [.val (.int .i64 d_1), .imm (.slice (.pair (.int .i64) (.pair (.int .i64) .str))) d_2], .c (.val (.int .i64 at_3)), .c (.val (.bool after_4))] [] (.c (.val (.int .i64 r))) [] := by
  refine Spec_mk (fn := Try.f34) (c := (Try.f34.body).get!) Try.func34 (by kernel_rfl) rfl ?_
  intro C hN hn
  replace hN : C.N = 61 := hN
  unfold offset_Move at H
  refine V_run hN hn 2 0 [1, 2, 3] [0] ⟨[(1, .c (.val (.int .i64 at_3))), (2, .c (.val (.bool after_4))), (3, .c (.h 0))], [(0, .box [.val (.int .i64 d_1), .imm (.slice (.pair (.int .i64) (.pair (.int .i64) .str))) d_2])], 1⟩ [] (by kernel_rfl) rfl rfl ap0 ?_
  refine VL_scope ?_
  refine V_run hN hn 2 1 [1, 2, 3] [0] ⟨[(1, .c (.val (.int .i64 at_3))), (2, .c (.val (.bool after_4))), (3, .c (.h 0))], [(0, .box [.val (.int .i64 d_1), .imm (.slice (.pair (.int .i64) (.pair (.int .i64) .str))) d_2])], 1⟩ [] (by kernel_rfl) rfl rfl ap0 ?_
  obtain ⟨r_7, h_8, H_43⟩ := of_bind H
  refine V_reg hN hn [(1, ⟨32, 0, [.agg [.val (.int .i64 d_1), .imm (.slice (.pair (.int .i64) (.pair (.int .i64) .str))) d_2]], [], .c (.val (.bool r_7)), [], [], 1⟩)] [] (calls_cons (delta_Is_spec K d_1 d_2 r_7 h_8) (by kernel_rfl) calls_nil) 1 [1, 2, 3, 13] [0] ⟨[(1, .c (.val (.int .i64 at_3))), (2, .c (.val (.bool after_4))), (3, .c (.h 0)), (13, .c (.val (.bool (!r_7))))], [(0, .box [.val (.int .i64 d_1), .imm (.slice (.pair (.int .i64) (.pair (.int .i64) .str))) d_2])], 1⟩ [] (by kernel_rfl) rfl rfl ap0 (by kernel_rfl) (by kernel_rfl) ?_
  refine VL_cond ((!r_7)) (by kernel_rfl) ?_ ?_
  · intro b_10; have H_44 := of_t H_43 b_10
    refine V_run hN hn 2 1 [6] [] ⟨[(6, .c (.val (.int .i64 (0 : Int))))], [], 1⟩ [] (by kernel_rfl) rfl rfl ap0 ?_
    have H_46 := Option.some.inj (show some (0 : Int) = some r from H_44); subst H_46
    refine VL_ret ?_
    refine QG_ret ?_
    exact P_to [(6, .c (.val (.int .i64 (0 : Int))))] [] [] hn (by kernel_rfl) (by kernel_rfl) rfl rfl rfl (QF_retS (by kernel_rfl) (by kernel_rfl) rfl)
  · intro b_10; have H_45 := of_f H_43 b_10
    refine V_run hN hn 6 1 [1, 2, 3, 7, 8] [0] ⟨[(1, .c (.val (.int .i64 (mn2 (mx2 at_3 (0 : Int)) d_1)))), (2, .c (.val (.bool after_4))), (3, .c (.h 0)), (7, .c (.val (.int .i64 (0 : Int)))), (8, .c (.val (.int .i64 (0 : Int))))], [(0, .box [.val (.int .i64 d_1), .imm (.slice (.pair (.int .i64) (.pair (.int .i64) .str))) d_2])], 1⟩ [] (by kernel_rfl) rfl rfl ap0 ?_
    refine VL_label ?_
    refine V_run hN hn 3 1 [1, 2, 7, 8, 20, 21, 22] [] ⟨[(1, .c (.val (.int .i64 (mn2 (mx2 at_3 (0 : Int)) d_1)))), (2, .c (.val (.bool after_4))), (7, .c (.val (.int .i64 (0 : Int)))), (8, .c (.val (.int .i64 (0 : Int)))), (20, .c (.imm (.slice (.pair (.int .i64) (.pair (.int .i64) .str))) d_2)), (21, .c (.val (.int .i64 (((List.length d_2) : Nat) : Int)))), (22, .c (.val (.int .i64 (0 : Int))))], [], 1⟩ [] (by kernel_rfl) rfl rfl ap0 ?_
    obtain ⟨q_47, H_48, H_49⟩ := of_bind H_45
    refine V_cut (Y := (Int × Int)) (R := (Int × Int)) q_47 (fun y => y) (fun y => [(2, .c (.val (.bool after_4))), (7, .c (.val (.int .i64 y.1))), (8, .c (.val (.int .i64 y.2)))]) (fun y => []) ?_ ?_
    · skip
      refine VL_block ?_
      refine V_to [(1, .c (.val (.int .i64 (mn2 (mx2 at_3 (0 : Int)) d_1)))), (2, .c (.val (.bool after_4))), (7, .c (.val (.int .i64 (0 : Int)))), (8, .c (.val (.int .i64 (0 : Int)))), (20, .c (.imm (.slice (.pair (.int .i64) (.pair (.int .i64) .str))) d_2)), (21, .c (.val (.int .i64 (((List.length d_2) : Nat) : Int)))), (22, .c (.val (.int .i64 (0 : Int))))] [] [] hn (by kernel_rfl) (by kernel_rfl) rfl rfl rfl ?_
      refine VL_loop (X := (Int × Int × Int)) (fun x => [(1, .c (.val (.int .i64 (mn2 (mx2 at_3 (0 : Int)) d_1)))), (2, .c (.val (.bool after_4))), (7, .c (.val (.int .i64 x.1))), (8, .c (.val (.int .i64 x.2.1))), (20, .c (.imm (.slice (.pair (.int .i64) (.pair (.int .i64) .str))) d_2)), (21, .c (.val (.int .i64 (((List.length d_2) : Nat) : Int)))), (22, .c (.val (.int .i64 x.2.2)))]) (fun x => []) (fun k x => offset_Move.l0 K d_2 at_3 d_1 k x.1 x.2.1 x.2.2 = some q_47) K ((0 : Int), (0 : Int), (0 : Int)) H_48 (fun _ h => no_none h) ?_
      intro k_17 x_17 H_51
      obtain ⟨n_14, waits_15, t_16⟩ := x_17
      have H_52 : offset_Move.l0 K d_2 at_3 d_1 (k_17 + 1) n_14 waits_15 t_16 = some q_47 := H_51
      rw [offset_Move.l0] at H_52
      refine V_run hN hn 3 1 [1, 2, 7, 8, 20, 21, 22, 23] [] ⟨[(1, .c (.val (.int .i64 (mn2 (mx2 at_3 (0 : Int)) d_1)))), (2, .c (.val (.bool after_4))), (7, .c (.val (.int .i64 n_14))), (8, .c (.val (.int .i64 waits_15))), (20, .c (.imm (.slice (.pair (.int .i64) (.pair (.int .i64) .str))) d_2)), (21, .c (.val (.int .i64 (((List.length d_2) : Nat) : Int)))), (22, .c (.val (.int .i64 t_16))), (23, .c (.val (.bool (decide (t_16 < (((List.length d_2) : Nat) : Int))))))], [], 1⟩ [] (by kernel_rfl) rfl rfl ap0 ?_
      refine VL_cond ((decide (t_16 < (((List.length d_2) : Nat) : Int)))) (by kernel_rfl) ?_ ?_
      · intro b_19; have H_53 := of_t H_52 b_19
        refine V_run hN hn 2 1 [1, 2, 7, 8, 20, 21, 22, 23] [] ⟨[(1, .c (.val (.int .i64 (mn2 (mx2 at_3 (0 : Int)) d_1)))), (2, .c (.val (.bool after_4))), (7, .c (.val (.int .i64 n_14))), (8, .c (.val (.int .i64 waits_15))), (20, .c (.imm (.slice (.pair (.int .i64) (.pair (.int .i64) .str))) d_2)), (21, .c (.val (.int .i64 (((List.length d_2) : Nat) : Int)))), (22, .c (.val (.int .i64 t_16))), (23, .c (.val (.bool (decide (t_16 < (((List.length d_2) : Nat) : Int))))))], [], 1⟩ [] (by kernel_rfl) rfl rfl ap0 ?_
        refine VL_block ?_
        obtain ⟨c_21, H_55⟩ := of_if H_53
        refine V_run hN hn 2 1 [1, 2, 7, 8, 10, 20, 21, 22] [1] ⟨[(1, .c (.val (.int .i64 (mn2 (mx2 at_3 (0 : Int)) d_1)))), (2, .c (.val (.bool after_4))), (7, .c (.val (.int .i64 n_14))), (8, .c (.val (.int .i64 waits_15))), (10, .c (.h 1)), (20, .c (.imm (.slice (.pair (.int .i64) (.pair (.int .i64) .str))) d_2)), (21, .c (.val (.int .i64 (((List.length d_2) : Nat) : Int)))), (22, .c (.val (.int .i64 t_16)))], [(1, .box [.val (.int .i64 (List.getD d_2 (Int.toNat t_16) ((0 : Int), ((0 : Int), ByteArray.empty))).1), .val (.int .i64 (List.getD d_2 (Int.toNat t_16) ((0 : Int), ((0 : Int), ByteArray.empty))).2.1), .val (.string (List.getD d_2 (Int.toNat t_16) ((0 : Int), ((0 : Int), ByteArray.empty))).2.2)])], 2⟩ [0 ≤ t_16, t_16 < (((List.length d_2) : Nat) : Int)] (by kernel_rfl) rfl rfl (ap2 c_21.1 (ap1 c_21.2)) ?_
        refine VL_block ?_
        refine V_run hN hn 1 2 [1, 2, 7, 8, 10, 20, 21, 22] [1] ⟨[(1, .c (.val (.int .i64 (mn2 (mx2 at_3 (0 : Int)) d_1)))), (2, .c (.val (.bool after_4))), (7, .c (.val (.int .i64 n_14))), (8, .c (.val (.int .i64 waits_15))), (10, .c (.h 1)), (20, .c (.imm (.slice (.pair (.int .i64) (.pair (.int .i64) .str))) d_2)), (21, .c (.val (.int .i64 (((List.length d_2) : Nat) : Int)))), (22, .c (.val (.int .i64 t_16)))], [(1, .box [.val (.int .i64 (List.getD d_2 (Int.toNat t_16) ((0 : Int), ((0 : Int), ByteArray.empty))).1), .val (.int .i64 (List.getD d_2 (Int.toNat t_16) ((0 : Int), ((0 : Int), ByteArray.empty))).2.1), .val (.string (List.getD d_2 (Int.toNat t_16) ((0 : Int), ((0 : Int), ByteArray.empty))).2.2)])], 2⟩ [] (by kernel_rfl) rfl rfl ap0 ?_
        obtain ⟨r_23, h_24, H_56⟩ := of_bind H_55
        refine V_reg hN hn [(1, ⟨49, 0, [.agg [.val (.int .i64 (List.getD d_2 (Int.toNat t_16) ((0 : Int), ((0 : Int), ByteArray.empty))).1), .val (.int .i64 (List.getD d_2 (Int.toNat t_16) ((0 : Int), ((0 : Int), ByteArray.empty))).2.1), .val (.string (List.getD d_2 (Int.toNat t_16) ((0 : Int), ((0 : Int), ByteArray.empty))).2.2)]], [], .c (.val (.bool r_23)), [], [], 2⟩)] [] (calls_cons (delta_IsCopy_spec K (List.getD d_2 (Int.toNat t_16) ((0 : Int), ((0 : Int), ByteArray.empty))).1 (List.getD d_2 (Int.toNat t_16) ((0 : Int), ((0 : Int), ByteArray.empty))).2.1 (List.getD d_2 (Int.toNat t_16) ((0 : Int), ((0 : Int), ByteArray.empty))).2.2 r_23 h_24) (by kernel_rfl) calls_nil) 2 [1, 2, 7, 8, 10, 20, 21, 22, 41] [1] ⟨[(1, .c (.val (.int .i64 (mn2 (mx2 at_3 (0 : Int)) d_1)))), (2, .c (.val (.bool after_4))), (7, .c (.val (.int .i64 n_14))), (8, .c (.val (.int .i64 waits_15))), (10, .c (.h 1)), (20, .c (.imm (.slice (.pair (.int .i64) (.pair (.int .i64) .str))) d_2)), (21, .c (.val (.int .i64 (((List.length d_2) : Nat) : Int)))), (22, .c (.val (.int .i64 t_16))), (41, .c (.val (.bool (!r_23))))], [(1, .box [.val (.int .i64 (List.getD d_2 (Int.toNat t_16) ((0 : Int), ((0 : Int), ByteArray.empty))).1), .val (.int .i64 (List.getD d_2 (Int.toNat t_16) ((0 : Int), ((0 : Int), ByteArray.empty))).2.1), .val (.string (List.getD d_2 (Int.toNat t_16) ((0 : Int), ((0 : Int), ByteArray.empty))).2.2)])], 2⟩ [] (by kernel_rfl) rfl rfl ap0 (by kernel_rfl) (by kernel_rfl) ?_
        refine VL_cond ((!r_23)) (by kernel_rfl) ?_ ?_
        · intro b_26; have H_57 := of_t H_56 b_26
          refine V_run hN hn 1 2 [1, 2, 7, 8, 20, 21, 22] [] ⟨[(1, .c (.val (.int .i64 (mn2 (mx2 at_3 (0 : Int)) d_1)))), (2, .c (.val (.bool after_4))), (7, .c (.val (.int .i64 n_14))), (8, .c (.val (.int .i64 (IntKind.wrap .i64 (waits_15 + (((ByteArray.size (List.getD d_2 (Int.toNat t_16) ((0 : Int), ((0 : Int), ByteArray.empty))).2.2) : Nat) : Int)))))), (20, .c (.imm (.slice (.pair (.int .i64) (.pair (.int .i64) .str))) d_2)), (21, .c (.val (.int .i64 (((List.length d_2) : Nat) : Int)))), (22, .c (.val (.int .i64 t_16)))], [], 2⟩ [] (by kernel_rfl) rfl rfl ap0 ?_
          refine VL_nil (QB_end ?_)
          refine VL_nil (QB_end ?_)
          refine V_run hN hn 1 2 [1, 2, 7, 8, 20, 21, 22] [] ⟨[(1, .c (.val (.int .i64 (mn2 (mx2 at_3 (0 : Int)) d_1)))), (2, .c (.val (.bool after_4))), (7, .c (.val (.int .i64 n_14))), (8, .c (.val (.int .i64 (IntKind.wrap .i64 (waits_15 + (((ByteArray.size (List.getD d_2 (Int.toNat t_16) ((0 : Int), ((0 : Int), ByteArray.empty))).2.2) : Nat) : Int)))))), (20, .c (.imm (.slice (.pair (.int .i64) (.pair (.int .i64) .str))) d_2)), (21, .c (.val (.int .i64 (((List.length d_2) : Nat) : Int)))), (22, .c (.val (.int .i64 (IntKind.wrap .i64 (t_16 + (1 : Int))))))], [], 2⟩ [] (by kernel_rfl) rfl rfl ap0 ?_
          refine VL_nil ?_
          exact V_roundEnd (n_14, (IntKind.wrap .i64 (waits_15 + (((ByteArray.size (List.getD d_2 (Int.toNat t_16) ((0 : Int), ((0 : Int), ByteArray.empty))).2.2) : Nat) : Int))), (IntKind.wrap .i64 (t_16 + (1 : Int)))) H_57 [] hn (by kernel_rfl) (by kernel_rfl) rfl rfl rfl
        · intro b_26; have H_58 := of_f H_56 b_26
          refine V_run hN hn 2 2 [1, 2, 7, 8, 10, 20, 21, 22, 50] [1] ⟨[(1, .c (.val (.int .i64 (mn2 (mx2 at_3 (0 : Int)) d_1)))), (2, .c (.val (.bool after_4))), (7, .c (.val (.int .i64 n_14))), (8, .c (.val (.int .i64 waits_15))), (10, .c (.h 1)), (20, .c (.imm (.slice (.pair (.int .i64) (.pair (.int .i64) .str))) d_2)), (21, .c (.val (.int .i64 (((List.length d_2) : Nat) : Int)))), (22, .c (.val (.int .i64 t_16))), (50, .c (.val (.bool (decide ((List.getD d_2 (Int.toNat t_16) ((0 : Int), ((0 : Int), ByteArray.empty))).1 ≥ (mn2 (mx2 at_3 (0 : Int)) d_1))))))], [(1, .box [.val (.int .i64 (List.getD d_2 (Int.toNat t_16) ((0 : Int), ((0 : Int), ByteArray.empty))).1), .val (.int .i64 (List.getD d_2 (Int.toNat t_16) ((0 : Int), ((0 : Int), ByteArray.empty))).2.1), .val (.string (List.getD d_2 (Int.toNat t_16) ((0 : Int), ((0 : Int), ByteArray.empty))).2.2)])], 2⟩ [] (by kernel_rfl) rfl rfl ap0 ?_
          refine VL_cond ((decide ((List.getD d_2 (Int.toNat t_16) ((0 : Int), ((0 : Int), ByteArray.empty))).1 ≥ (mn2 (mx2 at_3 (0 : Int)) d_1)))) (by kernel_rfl) ?_ ?_
          · intro b_30; have H_59 := of_t H_58 b_30
            refine VL_exit ?_
            refine QB_out (by decide) ?_
            refine QB_out (by decide) ?_
            refine QL_exit ?_
            refine QB_here ?_
            have H_61 := Option.some.inj (show some (n_14, waits_15) = some q_47 from H_59); subst H_61
            refine VL_nil ?_
            exact QP_end (n_14, waits_15) rfl [] hn (by kernel_rfl) (by kernel_rfl) rfl rfl rfl
          · intro b_30; have H_60 := of_f H_58 b_30
            refine V_run hN hn 6 2 [1, 2, 7, 8, 20, 21, 22, 40] [] ⟨[(1, .c (.val (.int .i64 (mn2 (mx2 at_3 (0 : Int)) d_1)))), (2, .c (.val (.bool after_4))), (7, .c (.val (.int .i64 (IntKind.wrap .i64 (n_14 + (IntKind.wrap .i64 ((IntKind.wrap .i64 (waits_15 + (mn2 (List.getD d_2 (Int.toNat t_16) ((0 : Int), ((0 : Int), ByteArray.empty))).2.1 (mn2 (mx2 at_3 (0 : Int)) d_1)))) - (List.getD d_2 (Int.toNat t_16) ((0 : Int), ((0 : Int), ByteArray.empty))).1))))))), (8, .c (.val (.int .i64 (0 : Int)))), (20, .c (.imm (.slice (.pair (.int .i64) (.pair (.int .i64) .str))) d_2)), (21, .c (.val (.int .i64 (((List.length d_2) : Nat) : Int)))), (22, .c (.val (.int .i64 t_16))), (40, .c (.val (.bool (decide ((List.getD d_2 (Int.toNat t_16) ((0 : Int), ((0 : Int), ByteArray.empty))).2.1 > (mn2 (mx2 at_3 (0 : Int)) d_1))))))], [], 2⟩ [] (by kernel_rfl) rfl rfl ap0 ?_
            refine VL_cond ((decide ((List.getD d_2 (Int.toNat t_16) ((0 : Int), ((0 : Int), ByteArray.empty))).2.1 > (mn2 (mx2 at_3 (0 : Int)) d_1)))) (by kernel_rfl) ?_ ?_
            · intro b_32; have H_62 := of_t H_60 b_32
              refine VL_exit ?_
              refine QB_out (by decide) ?_
              refine QB_out (by decide) ?_
              refine QL_exit ?_
              refine QB_here ?_
              have H_64 := Option.some.inj (show some ((IntKind.wrap .i64 (n_14 + (IntKind.wrap .i64 ((IntKind.wrap .i64 (waits_15 + (mn2 (List.getD d_2 (Int.toNat t_16) ((0 : Int), ((0 : Int), ByteArray.empty))).2.1 (mn2 (mx2 at_3 (0 : Int)) d_1)))) - (List.getD d_2 (Int.toNat t_16) ((0 : Int), ((0 : Int), ByteArray.empty))).1)))), (0 : Int)) = some q_47 from H_62); subst H_64
              refine VL_nil ?_
              exact QP_end ((IntKind.wrap .i64 (n_14 + (IntKind.wrap .i64 ((IntKind.wrap .i64 (waits_15 + (mn2 (List.getD d_2 (Int.toNat t_16) ((0 : Int), ((0 : Int), ByteArray.empty))).2.1 (mn2 (mx2 at_3 (0 : Int)) d_1)))) - (List.getD d_2 (Int.toNat t_16) ((0 : Int), ((0 : Int), ByteArray.empty))).1)))), (0 : Int)) rfl [] hn (by kernel_rfl) (by kernel_rfl) rfl rfl rfl
            · intro b_32; have H_63 := of_f H_60 b_32
              refine V_run hN hn 1 2 [1, 2, 7, 8, 20, 21, 22, 40] [] ⟨[(1, .c (.val (.int .i64 (mn2 (mx2 at_3 (0 : Int)) d_1)))), (2, .c (.val (.bool after_4))), (7, .c (.val (.int .i64 (IntKind.wrap .i64 (n_14 + (IntKind.wrap .i64 ((IntKind.wrap .i64 (waits_15 + (mn2 (List.getD d_2 (Int.toNat t_16) ((0 : Int), ((0 : Int), ByteArray.empty))).2.1 (mn2 (mx2 at_3 (0 : Int)) d_1)))) - (List.getD d_2 (Int.toNat t_16) ((0 : Int), ((0 : Int), ByteArray.empty))).1))))))), (8, .c (.val (.int .i64 (0 : Int)))), (20, .c (.imm (.slice (.pair (.int .i64) (.pair (.int .i64) .str))) d_2)), (21, .c (.val (.int .i64 (((List.length d_2) : Nat) : Int)))), (22, .c (.val (.int .i64 t_16))), (40, .c (.val (.bool (decide ((List.getD d_2 (Int.toNat t_16) ((0 : Int), ((0 : Int), ByteArray.empty))).2.1 > (mn2 (mx2 at_3 (0 : Int)) d_1))))))], [], 2⟩ [] (by kernel_rfl) rfl rfl ap0 ?_
              refine VL_nil (QB_end ?_)
              refine VL_nil (QB_end ?_)
              refine V_run hN hn 1 2 [1, 2, 7, 8, 20, 21, 22] [] ⟨[(1, .c (.val (.int .i64 (mn2 (mx2 at_3 (0 : Int)) d_1)))), (2, .c (.val (.bool after_4))), (7, .c (.val (.int .i64 (IntKind.wrap .i64 (n_14 + (IntKind.wrap .i64 ((IntKind.wrap .i64 (waits_15 + (mn2 (List.getD d_2 (Int.toNat t_16) ((0 : Int), ((0 : Int), ByteArray.empty))).2.1 (mn2 (mx2 at_3 (0 : Int)) d_1)))) - (List.getD d_2 (Int.toNat t_16) ((0 : Int), ((0 : Int), ByteArray.empty))).1))))))), (8, .c (.val (.int .i64 (0 : Int)))), (20, .c (.imm (.slice (.pair (.int .i64) (.pair (.int .i64) .str))) d_2)), (21, .c (.val (.int .i64 (((List.length d_2) : Nat) : Int)))), (22, .c (.val (.int .i64 (IntKind.wrap .i64 (t_16 + (1 : Int))))))], [], 2⟩ [] (by kernel_rfl) rfl rfl ap0 ?_
              refine VL_nil ?_
              exact V_roundEnd ((IntKind.wrap .i64 (n_14 + (IntKind.wrap .i64 ((IntKind.wrap .i64 (waits_15 + (mn2 (List.getD d_2 (Int.toNat t_16) ((0 : Int), ((0 : Int), ByteArray.empty))).2.1 (mn2 (mx2 at_3 (0 : Int)) d_1)))) - (List.getD d_2 (Int.toNat t_16) ((0 : Int), ((0 : Int), ByteArray.empty))).1)))), (0 : Int), (IntKind.wrap .i64 (t_16 + (1 : Int)))) H_63 [] hn (by kernel_rfl) (by kernel_rfl) rfl rfl rfl
      · intro b_19; have H_54 := of_f H_52 b_19
        refine VL_exit ?_
        refine QL_exit ?_
        refine QB_here ?_
        have H_65 := Option.some.inj (show some (n_14, waits_15) = some q_47 from H_54); subst H_65
        refine VL_nil ?_
        exact QP_end (n_14, waits_15) rfl [] hn (by kernel_rfl) (by kernel_rfl) rfl rfl rfl
    · intro y_50 hy; subst hy
      obtain ⟨n_35, waits_36⟩ := y_50
      refine V_run hN hn 3 2 [7, 8, 56] [] ⟨[(7, .c (.val (.int .i64 n_35))), (8, .c (.val (.int .i64 waits_36))), (56, .c (.val (.bool after_4)))], [], 2⟩ [] (by kernel_rfl) rfl rfl ap0 ?_
      refine VL_cond (after_4) (by kernel_rfl) ?_ ?_
      · intro b_38; have H_66 := of_t H_49 b_38
        refine V_run hN hn 3 2 [6] [] ⟨[(6, .c (.val (.int .i64 (IntKind.wrap .i64 (n_35 + waits_36)))))], [], 2⟩ [] (by kernel_rfl) rfl rfl ap0 ?_
        have H_68 := Option.some.inj (show some (IntKind.wrap .i64 (n_35 + waits_36)) = some r from H_66); subst H_68
        refine VL_ret ?_
        refine QG_ret ?_
        exact P_to [(6, .c (.val (.int .i64 (IntKind.wrap .i64 (n_35 + waits_36)))))] [] [] hn (by kernel_rfl) (by kernel_rfl) rfl rfl rfl (QF_retS (by kernel_rfl) (by kernel_rfl) rfl)
      · intro b_38; have H_67 := of_f H_49 b_38
        refine V_run hN hn 3 2 [6] [] ⟨[(6, .c (.val (.int .i64 n_35)))], [], 2⟩ [] (by kernel_rfl) rfl rfl ap0 ?_
        have H_69 := Option.some.inj (show some n_35 = some r from H_67); subst H_69
        refine VL_ret ?_
        refine QG_ret ?_
        exact P_to [(6, .c (.val (.int .i64 n_35)))] [] [] hn (by kernel_rfl) (by kernel_rfl) rfl rfl rfl (QF_retS (by kernel_rfl) (by kernel_rfl) rfl)

theorem delta_Ordered_r_spec (K : Nat) (l_1 : (List (Int × (Int × ByteArray)))) (r : Bool) (H : delta_Ordered_r K l_1 = some r) : Spec Try.prog 52 1 [.c (.h 0)] [(0, .row (.pair (.int .i64) (.pair (.int .i64) .str)) l_1)] (.c (.val (.bool r))) [(0, .row (.pair (.int .i64) (.pair (.int .i64) .str)) l_1)] := by
  refine Spec_mk (fn := Try.f52) (c := (Try.f52.body).get!) Try.func52 (by kernel_rfl) rfl ?_
  intro C hN hn
  replace hN : C.N = 40 := hN
  unfold delta_Ordered_r at H
  refine V_run hN hn 5 1 [0, 3] [0] ⟨[(0, .c (.h 0)), (3, .c (.val (.int .i64 (1 : Int))))], [(0, .row (.pair (.int .i64) (.pair (.int .i64) .str)) l_1)], 1⟩ [] (by kernel_rfl) rfl rfl ap0 ?_
  refine VL_block ?_
  refine V_to [(0, .c (.h 0)), (3, .c (.val (.int .i64 (1 : Int))))] [(0, .row (.pair (.int .i64) (.pair (.int .i64) .str)) l_1)] [] hn (by kernel_rfl) (by kernel_rfl) rfl rfl rfl ?_
  refine VL_loop (X := Int) (fun x => [(0, .c (.h 0)), (3, .c (.val (.int .i64 x)))]) (fun x => [(0, .row (.pair (.int .i64) (.pair (.int .i64) .str)) l_1)]) (fun k x => delta_Ordered_r.l0 K l_1 k x = some r) K (1 : Int) H (fun _ h => no_none h) ?_
  intro k_4 i_3 H_25
  have H_26 : delta_Ordered_r.l0 K l_1 (k_4 + 1) i_3 = some r := H_25
  rw [delta_Ordered_r.l0] at H_26
  refine V_run hN hn 3 1 [0, 3, 9] [0] ⟨[(0, .c (.h 0)), (3, .c (.val (.int .i64 i_3))), (9, .c (.val (.bool (decide (i_3 < (((List.length l_1) : Nat) : Int))))))], [(0, .row (.pair (.int .i64) (.pair (.int .i64) .str)) l_1)], 1⟩ [] (by kernel_rfl) rfl rfl ap0 ?_
  refine VL_cond ((decide (i_3 < (((List.length l_1) : Nat) : Int)))) (by kernel_rfl) ?_ ?_
  · intro b_6; have H_27 := of_t H_26 b_6
    refine V_run hN hn 2 1 [0, 3, 9] [0] ⟨[(0, .c (.h 0)), (3, .c (.val (.int .i64 i_3))), (9, .c (.val (.bool (decide (i_3 < (((List.length l_1) : Nat) : Int))))))], [(0, .row (.pair (.int .i64) (.pair (.int .i64) .str)) l_1)], 1⟩ [] (by kernel_rfl) rfl rfl ap0 ?_
    refine VL_block ?_
    refine V_run hN hn 1 1 [0, 3, 9] [0] ⟨[(0, .c (.h 0)), (3, .c (.val (.int .i64 i_3))), (9, .c (.val (.bool (decide (i_3 < (((List.length l_1) : Nat) : Int))))))], [(0, .row (.pair (.int .i64) (.pair (.int .i64) .str)) l_1)], 1⟩ [] (by kernel_rfl) rfl rfl ap0 ?_
    obtain ⟨c_9, H_29⟩ := of_if H_27
    refine V_draw hN hn (by kernel_rfl) [] [] calls_nil 1 [0, 3, 4, 5] [0, 1, 2] ⟨[(0, .c (.h 0)), (3, .c (.val (.int .i64 i_3))), (4, .c (.h 1)), (5, .c (.h 2))], [(0, .row (.pair (.int .i64) (.pair (.int .i64) .str)) l_1), (1, .box [.val (.int .i64 (List.getD l_1 (Int.toNat (IntKind.wrap .i64 (i_3 - (1 : Int)))) ((0 : Int), ((0 : Int), ByteArray.empty))).1), .val (.int .i64 (List.getD l_1 (Int.toNat (IntKind.wrap .i64 (i_3 - (1 : Int)))) ((0 : Int), ((0 : Int), ByteArray.empty))).2.1), .val (.string (List.getD l_1 (Int.toNat (IntKind.wrap .i64 (i_3 - (1 : Int)))) ((0 : Int), ((0 : Int), ByteArray.empty))).2.2)]), (2, .box [.val (.int .i64 (List.getD l_1 (Int.toNat i_3) ((0 : Int), ((0 : Int), ByteArray.empty))).1), .val (.int .i64 (List.getD l_1 (Int.toNat i_3) ((0 : Int), ((0 : Int), ByteArray.empty))).2.1), .val (.string (List.getD l_1 (Int.toNat i_3) ((0 : Int), ((0 : Int), ByteArray.empty))).2.2)])], 3⟩ [0 ≤ (IntKind.wrap .i64 (i_3 - (1 : Int))), (IntKind.wrap .i64 (i_3 - (1 : Int))) < (((List.length l_1) : Nat) : Int), 0 ≤ (IntKind.wrap .i64 (i_3 - (1 : Int))), (IntKind.wrap .i64 (i_3 - (1 : Int))) < (((List.length l_1) : Nat) : Int), 0 ≤ (IntKind.wrap .i64 (i_3 - (1 : Int))), (IntKind.wrap .i64 (i_3 - (1 : Int))) < (((List.length l_1) : Nat) : Int), 0 ≤ (IntKind.wrap .i64 (i_3 - (1 : Int))), (IntKind.wrap .i64 (i_3 - (1 : Int))) < (((List.length l_1) : Nat) : Int), 0 ≤ i_3, i_3 < (((List.length l_1) : Nat) : Int), 0 ≤ i_3, i_3 < (((List.length l_1) : Nat) : Int), 0 ≤ i_3, i_3 < (((List.length l_1) : Nat) : Int), 0 ≤ i_3, i_3 < (((List.length l_1) : Nat) : Int), 0 ≤ i_3, i_3 < (((List.length l_1) : Nat) : Int)] (by kernel_rfl) rfl rfl (ap2 c_9.1 (ap2 c_9.2.1 (ap2 c_9.1 (ap2 c_9.2.1 (ap2 c_9.1 (ap2 c_9.2.1 (ap2 c_9.1 (ap2 c_9.2.1 (ap2 c_9.2.2.1 (ap2 c_9.2.2.2 (ap2 c_9.2.2.1 (ap2 c_9.2.2.2 (ap2 c_9.2.2.1 (ap2 c_9.2.2.2 (ap2 c_9.2.2.1 (ap2 c_9.2.2.2 (ap2 c_9.2.2.1 (ap1 c_9.2.2.2)))))))))))))))))) (by kernel_rfl) (by kernel_rfl) ?_
    refine V_run hN hn 1 3 [0, 3, 4, 5] [0, 1, 2] ⟨[(0, .c (.h 0)), (3, .c (.val (.int .i64 i_3))), (4, .c (.h 1)), (5, .c (.h 2))], [(0, .row (.pair (.int .i64) (.pair (.int .i64) .str)) l_1), (1, .box [.val (.int .i64 (List.getD l_1 (Int.toNat (IntKind.wrap .i64 (i_3 - (1 : Int)))) ((0 : Int), ((0 : Int), ByteArray.empty))).1), .val (.int .i64 (List.getD l_1 (Int.toNat (IntKind.wrap .i64 (i_3 - (1 : Int)))) ((0 : Int), ((0 : Int), ByteArray.empty))).2.1), .val (.string (List.getD l_1 (Int.toNat (IntKind.wrap .i64 (i_3 - (1 : Int)))) ((0 : Int), ((0 : Int), ByteArray.empty))).2.2)]), (2, .box [.val (.int .i64 (List.getD l_1 (Int.toNat i_3) ((0 : Int), ((0 : Int), ByteArray.empty))).1), .val (.int .i64 (List.getD l_1 (Int.toNat i_3) ((0 : Int), ((0 : Int), ByteArray.empty))).2.1), .val (.string (List.getD l_1 (Int.toNat i_3) ((0 : Int), ((0 : Int), ByteArray.empty))).2.2)])], 3⟩ [] (by kernel_rfl) rfl rfl ap0 ?_
    obtain ⟨q_30, H_31, H_32⟩ := of_bind H_29
    refine V_cut (Y := Bool) (R := Bool) q_30 (fun y => y) (fun y => [(0, .c (.h 0)), (3, .c (.val (.int .i64 i_3))), (39, .c (.val (.bool y)))]) (fun y => [(0, .row (.pair (.int .i64) (.pair (.int .i64) .str)) l_1)]) ?_ ?_
    · skip
      rcases Bool.eq_false_or_eq_true ((decide ((List.getD l_1 (Int.toNat i_3) ((0 : Int), ((0 : Int), ByteArray.empty))).1 < (List.getD l_1 (Int.toNat (IntKind.wrap .i64 (i_3 - (1 : Int)))) ((0 : Int), ((0 : Int), ByteArray.empty))).2.1))) with b_11 | b_11
      · have H_34 := of_t H_31 b_11
        refine V_reg hN hn [] [(26, true)] calls_nil 3 [0, 3, 39] [0] ⟨[(0, .c (.h 0)), (3, .c (.val (.int .i64 i_3))), (39, .c (.val (.bool true)))], [(0, .row (.pair (.int .i64) (.pair (.int .i64) .str)) l_1)], 3⟩ [(decide ((List.getD l_1 (Int.toNat i_3) ((0 : Int), ((0 : Int), ByteArray.empty))).1 < (List.getD l_1 (Int.toNat (IntKind.wrap .i64 (i_3 - (1 : Int)))) ((0 : Int), ((0 : Int), ByteArray.empty))).2.1)) = true] (by kernel_rfl) rfl rfl (ap1 b_11) (by kernel_rfl) (by kernel_rfl) ?_
        have H_36 := Option.some.inj (show some true = some q_30 from H_34); subst H_36
        refine VL_nil ?_
        exact QP_end true rfl [] hn (by kernel_rfl) (by kernel_rfl) rfl rfl rfl
      · have H_35 := of_f H_31 b_11
        rcases Bool.eq_false_or_eq_true (((List.getD l_1 (Int.toNat (IntKind.wrap .i64 (i_3 - (1 : Int)))) ((0 : Int), ((0 : Int), ByteArray.empty))).1 == (List.getD l_1 (Int.toNat i_3) ((0 : Int), ((0 : Int), ByteArray.empty))).1)) with b_13 | b_13
        · have H_37 := of_t H_35 b_13
          refine V_reg hN hn [] [(26, false), (32, true)] calls_nil 3 [0, 3, 39] [0] ⟨[(0, .c (.h 0)), (3, .c (.val (.int .i64 i_3))), (39, .c (.val (.bool ((List.getD l_1 (Int.toNat (IntKind.wrap .i64 (i_3 - (1 : Int)))) ((0 : Int), ((0 : Int), ByteArray.empty))).2.1 == (List.getD l_1 (Int.toNat i_3) ((0 : Int), ((0 : Int), ByteArray.empty))).1))))], [(0, .row (.pair (.int .i64) (.pair (.int .i64) .str)) l_1)], 3⟩ [(decide ((List.getD l_1 (Int.toNat i_3) ((0 : Int), ((0 : Int), ByteArray.empty))).1 < (List.getD l_1 (Int.toNat (IntKind.wrap .i64 (i_3 - (1 : Int)))) ((0 : Int), ((0 : Int), ByteArray.empty))).2.1)) = false, ((List.getD l_1 (Int.toNat (IntKind.wrap .i64 (i_3 - (1 : Int)))) ((0 : Int), ((0 : Int), ByteArray.empty))).1 == (List.getD l_1 (Int.toNat i_3) ((0 : Int), ((0 : Int), ByteArray.empty))).1) = true] (by kernel_rfl) rfl rfl (ap2 b_11 (ap1 b_13)) (by kernel_rfl) (by kernel_rfl) ?_
          have H_39 := Option.some.inj (show some ((List.getD l_1 (Int.toNat (IntKind.wrap .i64 (i_3 - (1 : Int)))) ((0 : Int), ((0 : Int), ByteArray.empty))).2.1 == (List.getD l_1 (Int.toNat i_3) ((0 : Int), ((0 : Int), ByteArray.empty))).1) = some q_30 from H_37); subst H_39
          refine VL_nil ?_
          exact QP_end ((List.getD l_1 (Int.toNat (IntKind.wrap .i64 (i_3 - (1 : Int)))) ((0 : Int), ((0 : Int), ByteArray.empty))).2.1 == (List.getD l_1 (Int.toNat i_3) ((0 : Int), ((0 : Int), ByteArray.empty))).1) rfl [] hn (by kernel_rfl) (by kernel_rfl) rfl rfl rfl
        · have H_38 := of_f H_35 b_13
          refine V_reg hN hn [] [(26, false), (32, false)] calls_nil 3 [0, 3, 39] [0] ⟨[(0, .c (.h 0)), (3, .c (.val (.int .i64 i_3))), (39, .c (.val (.bool false)))], [(0, .row (.pair (.int .i64) (.pair (.int .i64) .str)) l_1)], 3⟩ [(decide ((List.getD l_1 (Int.toNat i_3) ((0 : Int), ((0 : Int), ByteArray.empty))).1 < (List.getD l_1 (Int.toNat (IntKind.wrap .i64 (i_3 - (1 : Int)))) ((0 : Int), ((0 : Int), ByteArray.empty))).2.1)) = false, ((List.getD l_1 (Int.toNat (IntKind.wrap .i64 (i_3 - (1 : Int)))) ((0 : Int), ((0 : Int), ByteArray.empty))).1 == (List.getD l_1 (Int.toNat i_3) ((0 : Int), ((0 : Int), ByteArray.empty))).1) = false] (by kernel_rfl) rfl rfl (ap2 b_11 (ap1 b_13)) (by kernel_rfl) (by kernel_rfl) ?_
          have H_40 := Option.some.inj (show some false = some q_30 from H_38); subst H_40
          refine VL_nil ?_
          exact QP_end false rfl [] hn (by kernel_rfl) (by kernel_rfl) rfl rfl rfl
    · intro y_33 hy; subst hy
      skip
      skip
      refine VL_cond (y_33) (by kernel_rfl) ?_ ?_
      · intro b_17; have H_41 := of_t H_32 b_17
        refine V_run hN hn 2 3 [2] [0] ⟨[(2, .c (.val (.bool false)))], [(0, .row (.pair (.int .i64) (.pair (.int .i64) .str)) l_1)], 3⟩ [] (by kernel_rfl) rfl rfl ap0 ?_
        have H_43 := Option.some.inj (show some false = some r from H_41); subst H_43
        refine VL_ret ?_
        refine QB_ret ?_
        refine QL_ret ?_
        refine QB_ret ?_
        exact P_to [(2, .c (.val (.bool false)))] [(0, .row (.pair (.int .i64) (.pair (.int .i64) .str)) l_1)] [] hn (by kernel_rfl) (by kernel_rfl) rfl rfl rfl (QF_retS (by kernel_rfl) (by kernel_rfl) rfl)
      · intro b_17; have H_42 := of_f H_32 b_17
        refine V_run hN hn 1 3 [0, 3, 39] [0] ⟨[(0, .c (.h 0)), (3, .c (.val (.int .i64 i_3))), (39, .c (.val (.bool y_33)))], [(0, .row (.pair (.int .i64) (.pair (.int .i64) .str)) l_1)], 3⟩ [] (by kernel_rfl) rfl rfl ap0 ?_
        refine VL_nil (QB_end ?_)
        refine V_run hN hn 1 3 [0, 3] [0] ⟨[(0, .c (.h 0)), (3, .c (.val (.int .i64 (IntKind.wrap .i64 (i_3 + (1 : Int))))))], [(0, .row (.pair (.int .i64) (.pair (.int .i64) .str)) l_1)], 3⟩ [] (by kernel_rfl) rfl rfl ap0 ?_
        refine VL_nil ?_
        exact V_roundEnd (IntKind.wrap .i64 (i_3 + (1 : Int))) H_42 [] hn (by kernel_rfl) (by kernel_rfl) rfl rfl rfl
  · intro b_6; have H_28 := of_f H_26 b_6
    refine VL_exit ?_
    refine QL_exit ?_
    refine QB_here ?_
    refine V_run hN hn 2 1 [2] [0] ⟨[(2, .c (.val (.bool true)))], [(0, .row (.pair (.int .i64) (.pair (.int .i64) .str)) l_1)], 1⟩ [] (by kernel_rfl) rfl rfl ap0 ?_
    have H_44 := Option.some.inj (show some true = some r from H_28); subst H_44
    refine VL_ret ?_
    exact P_to [(2, .c (.val (.bool true)))] [(0, .row (.pair (.int .i64) (.pair (.int .i64) .str)) l_1)] [] hn (by kernel_rfl) (by kernel_rfl) rfl rfl rfl (QF_retS (by kernel_rfl) (by kernel_rfl) rfl)

theorem delta_long_gr_spec (K : Nat) (base_1 : Int) (l_2 : (List (Int × (Int × ByteArray)))) (r : Int) (H : delta_long_gr K base_1 l_2 = some r) : Spec Try.prog 53 1 [.c (.val (.int .i64 base_1)), .c (.h 0)] [(0, .row (.pair (.int .i64) (.pair (.int .i64) .str)) l_2)] (.c (.val (.int .i64 r))) [(0, .row (.pair (.int .i64) (.pair (.int .i64) .str)) l_2)] := by
  refine Spec_mk (fn := Try.f53) (c := (Try.f53.body).get!) Try.func53 (by kernel_rfl) rfl ?_
  intro C hN hn
  replace hN : C.N = 43 := hN
  unfold delta_long_gr at H
  refine V_run hN hn 7 1 [1, 5, 12, 13, 14] [0] ⟨[(1, .c (.h 0)), (5, .c (.val (.int .i64 (IntKind.wrap .i64 ((20000 : Int) - base_1))))), (12, .c (.h 0)), (13, .c (.val (.int .i64 (((List.length l_2) : Nat) : Int)))), (14, .c (.val (.int .i64 (0 : Int))))], [(0, .row (.pair (.int .i64) (.pair (.int .i64) .str)) l_2)], 1⟩ [] (by kernel_rfl) rfl rfl ap0 ?_
  obtain ⟨q_28, H_29, H_30⟩ := of_bind H
  refine V_cut (Y := Int) (R := Int) q_28 (fun y => y) (fun y => [(1, .c (.h 0)), (5, .c (.val (.int .i64 y)))]) (fun y => [(0, .row (.pair (.int .i64) (.pair (.int .i64) .str)) l_2)]) ?_ ?_
  · skip
    refine VL_block ?_
    refine V_to [(1, .c (.h 0)), (5, .c (.val (.int .i64 (IntKind.wrap .i64 ((20000 : Int) - base_1))))), (12, .c (.h 0)), (13, .c (.val (.int .i64 (((List.length l_2) : Nat) : Int)))), (14, .c (.val (.int .i64 (0 : Int))))] [(0, .row (.pair (.int .i64) (.pair (.int .i64) .str)) l_2)] [] hn (by kernel_rfl) (by kernel_rfl) rfl rfl rfl ?_
    refine VL_loop (X := (Int × Int)) (fun x => [(1, .c (.h 0)), (5, .c (.val (.int .i64 x.1))), (12, .c (.h 0)), (13, .c (.val (.int .i64 (((List.length l_2) : Nat) : Int)))), (14, .c (.val (.int .i64 x.2)))]) (fun x => [(0, .row (.pair (.int .i64) (.pair (.int .i64) .str)) l_2)]) (fun k x => delta_long_gr.l0 K l_2 k x.1 x.2 = some q_28) K ((IntKind.wrap .i64 ((20000 : Int) - base_1)), (0 : Int)) H_29 (fun _ h => no_none h) ?_
    intro k_6 x_6 H_32
    obtain ⟨left_4, t_5⟩ := x_6
    have H_33 : delta_long_gr.l0 K l_2 (k_6 + 1) left_4 t_5 = some q_28 := H_32
    rw [delta_long_gr.l0] at H_33
    refine V_run hN hn 3 1 [1, 5, 12, 13, 14, 15] [0] ⟨[(1, .c (.h 0)), (5, .c (.val (.int .i64 left_4))), (12, .c (.h 0)), (13, .c (.val (.int .i64 (((List.length l_2) : Nat) : Int)))), (14, .c (.val (.int .i64 t_5))), (15, .c (.val (.bool (decide (t_5 < (((List.length l_2) : Nat) : Int))))))], [(0, .row (.pair (.int .i64) (.pair (.int .i64) .str)) l_2)], 1⟩ [] (by kernel_rfl) rfl rfl ap0 ?_
    refine VL_cond ((decide (t_5 < (((List.length l_2) : Nat) : Int)))) (by kernel_rfl) ?_ ?_
    · intro b_8; have H_34 := of_t H_33 b_8
      refine V_run hN hn 2 1 [1, 5, 12, 13, 14, 15] [0] ⟨[(1, .c (.h 0)), (5, .c (.val (.int .i64 left_4))), (12, .c (.h 0)), (13, .c (.val (.int .i64 (((List.length l_2) : Nat) : Int)))), (14, .c (.val (.int .i64 t_5))), (15, .c (.val (.bool (decide (t_5 < (((List.length l_2) : Nat) : Int))))))], [(0, .row (.pair (.int .i64) (.pair (.int .i64) .str)) l_2)], 1⟩ [] (by kernel_rfl) rfl rfl ap0 ?_
      refine VL_block ?_
      obtain ⟨c_10, H_36⟩ := of_if H_34
      refine V_run hN hn 3 1 [1, 5, 12, 13, 14] [0] ⟨[(1, .c (.h 0)), (5, .c (.val (.int .i64 (IntKind.wrap .i64 (left_4 + (IntKind.wrap .i64 ((List.getD l_2 (Int.toNat t_5) ((0 : Int), ((0 : Int), ByteArray.empty))).2.1 - (List.getD l_2 (Int.toNat t_5) ((0 : Int), ((0 : Int), ByteArray.empty))).1))))))), (12, .c (.h 0)), (13, .c (.val (.int .i64 (((List.length l_2) : Nat) : Int)))), (14, .c (.val (.int .i64 t_5)))], [(0, .row (.pair (.int .i64) (.pair (.int .i64) .str)) l_2)], 2⟩ [0 ≤ t_5, t_5 < (((List.length l_2) : Nat) : Int)] (by kernel_rfl) rfl rfl (ap2 c_10.1 (ap1 c_10.2)) ?_
      refine VL_nil (QB_end ?_)
      refine V_run hN hn 1 2 [1, 5, 12, 13, 14] [0] ⟨[(1, .c (.h 0)), (5, .c (.val (.int .i64 (IntKind.wrap .i64 (left_4 + (IntKind.wrap .i64 ((List.getD l_2 (Int.toNat t_5) ((0 : Int), ((0 : Int), ByteArray.empty))).2.1 - (List.getD l_2 (Int.toNat t_5) ((0 : Int), ((0 : Int), ByteArray.empty))).1))))))), (12, .c (.h 0)), (13, .c (.val (.int .i64 (((List.length l_2) : Nat) : Int)))), (14, .c (.val (.int .i64 (IntKind.wrap .i64 (t_5 + (1 : Int))))))], [(0, .row (.pair (.int .i64) (.pair (.int .i64) .str)) l_2)], 2⟩ [] (by kernel_rfl) rfl rfl ap0 ?_
      refine VL_nil ?_
      exact V_roundEnd ((IntKind.wrap .i64 (left_4 + (IntKind.wrap .i64 ((List.getD l_2 (Int.toNat t_5) ((0 : Int), ((0 : Int), ByteArray.empty))).2.1 - (List.getD l_2 (Int.toNat t_5) ((0 : Int), ((0 : Int), ByteArray.empty))).1)))), (IntKind.wrap .i64 (t_5 + (1 : Int)))) H_36 [] hn (by kernel_rfl) (by kernel_rfl) rfl rfl rfl
    · intro b_8; have H_35 := of_f H_33 b_8
      refine VL_exit ?_
      refine QL_exit ?_
      refine QB_here ?_
      have H_37 := Option.some.inj (show some left_4 = some q_28 from H_35); subst H_37
      refine VL_nil ?_
      exact QP_end left_4 rfl [] hn (by kernel_rfl) (by kernel_rfl) rfl rfl rfl
  · intro y_31 hy; subst hy
    skip
    skip
    refine V_run hN hn 3 1 [5, 26, 27, 28] [0] ⟨[(5, .c (.val (.int .i64 y_31))), (26, .c (.h 0)), (27, .c (.val (.int .i64 (((List.length l_2) : Nat) : Int)))), (28, .c (.val (.int .i64 (0 : Int))))], [(0, .row (.pair (.int .i64) (.pair (.int .i64) .str)) l_2)], 1⟩ [] (by kernel_rfl) rfl rfl ap0 ?_
    refine VL_block ?_
    refine V_to [(5, .c (.val (.int .i64 y_31))), (26, .c (.h 0)), (27, .c (.val (.int .i64 (((List.length l_2) : Nat) : Int)))), (28, .c (.val (.int .i64 (0 : Int))))] [(0, .row (.pair (.int .i64) (.pair (.int .i64) .str)) l_2)] [] hn (by kernel_rfl) (by kernel_rfl) rfl rfl rfl ?_
    refine VL_loop (X := (Int × Int)) (fun x => [(5, .c (.val (.int .i64 x.1))), (26, .c (.h 0)), (27, .c (.val (.int .i64 (((List.length l_2) : Nat) : Int)))), (28, .c (.val (.int .i64 x.2)))]) (fun x => [(0, .row (.pair (.int .i64) (.pair (.int .i64) .str)) l_2)]) (fun k x => delta_long_gr.l1 K l_2 k x.1 x.2 = some r) K (y_31, (0 : Int)) H_30 (fun _ h => no_none h) ?_
    intro k_16 x_16 H_38
    obtain ⟨left_14, t_15⟩ := x_16
    have H_39 : delta_long_gr.l1 K l_2 (k_16 + 1) left_14 t_15 = some r := H_38
    rw [delta_long_gr.l1] at H_39
    refine V_run hN hn 3 1 [5, 26, 27, 28, 29] [0] ⟨[(5, .c (.val (.int .i64 left_14))), (26, .c (.h 0)), (27, .c (.val (.int .i64 (((List.length l_2) : Nat) : Int)))), (28, .c (.val (.int .i64 t_15))), (29, .c (.val (.bool (decide (t_15 < (((List.length l_2) : Nat) : Int))))))], [(0, .row (.pair (.int .i64) (.pair (.int .i64) .str)) l_2)], 1⟩ [] (by kernel_rfl) rfl rfl ap0 ?_
    refine VL_cond ((decide (t_15 < (((List.length l_2) : Nat) : Int)))) (by kernel_rfl) ?_ ?_
    · intro b_18; have H_40 := of_t H_39 b_18
      refine V_run hN hn 2 1 [5, 26, 27, 28, 29] [0] ⟨[(5, .c (.val (.int .i64 left_14))), (26, .c (.h 0)), (27, .c (.val (.int .i64 (((List.length l_2) : Nat) : Int)))), (28, .c (.val (.int .i64 t_15))), (29, .c (.val (.bool (decide (t_15 < (((List.length l_2) : Nat) : Int))))))], [(0, .row (.pair (.int .i64) (.pair (.int .i64) .str)) l_2)], 1⟩ [] (by kernel_rfl) rfl rfl ap0 ?_
      refine VL_block ?_
      obtain ⟨c_20, H_42⟩ := of_if H_40
      refine V_run hN hn 5 1 [5, 9, 26, 27, 28, 36] [0, 1] ⟨[(5, .c (.val (.int .i64 left_14))), (9, .c (.h 1)), (26, .c (.h 0)), (27, .c (.val (.int .i64 (((List.length l_2) : Nat) : Int)))), (28, .c (.val (.int .i64 t_15))), (36, .c (.val (.bool (decide ((((ByteArray.size (List.getD l_2 (Int.toNat t_15) ((0 : Int), ((0 : Int), ByteArray.empty))).2.2) : Nat) : Int) > left_14)))))], [(0, .row (.pair (.int .i64) (.pair (.int .i64) .str)) l_2), (1, .box [.val (.int .i64 (List.getD l_2 (Int.toNat t_15) ((0 : Int), ((0 : Int), ByteArray.empty))).1), .val (.int .i64 (List.getD l_2 (Int.toNat t_15) ((0 : Int), ((0 : Int), ByteArray.empty))).2.1), .val (.string (List.getD l_2 (Int.toNat t_15) ((0 : Int), ((0 : Int), ByteArray.empty))).2.2)])], 2⟩ [0 ≤ t_15, t_15 < (((List.length l_2) : Nat) : Int)] (by kernel_rfl) rfl rfl (ap2 c_20.1 (ap1 c_20.2)) ?_
      refine VL_cond ((decide ((((ByteArray.size (List.getD l_2 (Int.toNat t_15) ((0 : Int), ((0 : Int), ByteArray.empty))).2.2) : Nat) : Int) > left_14))) (by kernel_rfl) ?_ ?_
      · intro b_21; have H_43 := of_t H_42 b_21
        refine V_run hN hn 2 2 [4] [0] ⟨[(4, .c (.val (.int .i64 (13 : Int))))], [(0, .row (.pair (.int .i64) (.pair (.int .i64) .str)) l_2)], 2⟩ [] (by kernel_rfl) rfl rfl ap0 ?_
        have H_45 := Option.some.inj (show some (13 : Int) = some r from H_43); subst H_45
        refine VL_ret ?_
        refine QB_ret ?_
        refine QL_ret ?_
        refine QB_ret ?_
        exact P_to [(4, .c (.val (.int .i64 (13 : Int))))] [(0, .row (.pair (.int .i64) (.pair (.int .i64) .str)) l_2)] [] hn (by kernel_rfl) (by kernel_rfl) rfl rfl rfl (QF_retS (by kernel_rfl) (by kernel_rfl) rfl)
      · intro b_21; have H_44 := of_f H_42 b_21
        refine V_run hN hn 2 2 [5, 26, 27, 28] [0] ⟨[(5, .c (.val (.int .i64 (IntKind.wrap .i64 (left_14 - (((ByteArray.size (List.getD l_2 (Int.toNat t_15) ((0 : Int), ((0 : Int), ByteArray.empty))).2.2) : Nat) : Int)))))), (26, .c (.h 0)), (27, .c (.val (.int .i64 (((List.length l_2) : Nat) : Int)))), (28, .c (.val (.int .i64 t_15)))], [(0, .row (.pair (.int .i64) (.pair (.int .i64) .str)) l_2)], 2⟩ [] (by kernel_rfl) rfl rfl ap0 ?_
        refine VL_nil (QB_end ?_)
        refine V_run hN hn 1 2 [5, 26, 27, 28] [0] ⟨[(5, .c (.val (.int .i64 (IntKind.wrap .i64 (left_14 - (((ByteArray.size (List.getD l_2 (Int.toNat t_15) ((0 : Int), ((0 : Int), ByteArray.empty))).2.2) : Nat) : Int)))))), (26, .c (.h 0)), (27, .c (.val (.int .i64 (((List.length l_2) : Nat) : Int)))), (28, .c (.val (.int .i64 (IntKind.wrap .i64 (t_15 + (1 : Int))))))], [(0, .row (.pair (.int .i64) (.pair (.int .i64) .str)) l_2)], 2⟩ [] (by kernel_rfl) rfl rfl ap0 ?_
        refine VL_nil ?_
        exact V_roundEnd ((IntKind.wrap .i64 (left_14 - (((ByteArray.size (List.getD l_2 (Int.toNat t_15) ((0 : Int), ((0 : Int), ByteArray.empty))).2.2) : Nat) : Int))), (IntKind.wrap .i64 (t_15 + (1 : Int)))) H_44 [] hn (by kernel_rfl) (by kernel_rfl) rfl rfl rfl
    · intro b_18; have H_41 := of_f H_39 b_18
      refine VL_exit ?_
      refine QL_exit ?_
      refine QB_here ?_
      refine V_run hN hn 2 1 [4] [0] ⟨[(4, .c (.val (.int .i64 (0 : Int))))], [(0, .row (.pair (.int .i64) (.pair (.int .i64) .str)) l_2)], 1⟩ [] (by kernel_rfl) rfl rfl ap0 ?_
      have H_46 := Option.some.inj (show some (0 : Int) = some r from H_41); subst H_46
      refine VL_ret ?_
      exact P_to [(4, .c (.val (.int .i64 (0 : Int))))] [(0, .row (.pair (.int .i64) (.pair (.int .i64) .str)) l_2)] [] hn (by kernel_rfl) (by kernel_rfl) rfl rfl rfl (QF_retS (by kernel_rfl) (by kernel_rfl) rfl)

end Go.Pal
