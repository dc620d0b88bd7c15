/- The Go functions that BreaksTell reaches compute what the plain functions say: part 1, printed by a program of this workplace. -/
import Derived.Test.YtamfofpiclclhaaChecked
import Derived.Test.YtamfofpiclclhaaWalkBreaksTell0
namespace Go.Pal
open Go Go.Proofs
set_option maxRecDepth 100000
set_option linter.unusedVariables false

theorem palinoderef15_PutBreak_spec (K : Nat) (l_1 : (List Int)) (at_2 : Int) (r : ((List Int) × Int)) (H : palinoderef15_PutBreak K l_1 at_2 = some r) : Spec Try.prog 21 0 [.c (.imm (.slice (.int .i64)) l_1), .c (.val (.int .i64 at_2))] [] (.tup [(false, [.imm (.slice (.int .i64)) r.1]), (false, [.val (.int .i64 r.2)])]) [] := by
  refine Spec_mk (fn := Try.f21) (c := (Try.f21.body).get!) Try.func21 (by kernel_rfl) rfl ?_
  intro C hN hn
  replace hN : C.N = 61 := hN
  unfold palinoderef15_PutBreak at H
  refine V_run hN hn 4 0 [0, 1] [] ⟨[(0, .c (.imm (.slice (.int .i64)) l_1)), (1, .c (.val (.int .i64 at_2)))], [], 0⟩ [] (by kernel_rfl) rfl rfl ap0 ?_
  obtain ⟨q_44, H_45, H_46⟩ := of_bind H
  refine V_cut (Y := Bool) (R := Bool) q_44 (fun y => y) (fun y => [(0, .c (.imm (.slice (.int .i64)) l_1)), (1, .c (.val (.int .i64 at_2))), (18, .c (.val (.bool y)))]) (fun y => []) ?_ ?_
  · skip
    obtain ⟨r_4, h_5, H_48⟩ := of_bind H_45
    rcases Bool.eq_false_or_eq_true ((!r_4)) with b_6 | b_6
    · have H_49 := of_t H_48 b_6
      refine V_reg hN hn [(1, ⟨25, 0, [.c (.imm (.slice (.int .i64)) l_1), .c (.val (.int .i64 (20000 : Int)))], [], .c (.val (.bool r_4)), [], [], 0⟩)] [(11, true)] (calls_cons (palinoderef15_IsBreaks_spec K l_1 (20000 : Int) r_4 h_5) (by kernel_rfl) calls_nil) 0 [0, 1, 18] [] ⟨[(0, .c (.imm (.slice (.int .i64)) l_1)), (1, .c (.val (.int .i64 at_2))), (18, .c (.val (.bool true)))], [], 0⟩ [(!r_4) = true] (by kernel_rfl) rfl rfl (ap1 b_6) (by kernel_rfl) (by kernel_rfl) ?_
      have H_51 := Option.some.inj (show some true = some q_44 from H_49); subst H_51
      refine VL_nil ?_
      exact QP_end true rfl [] hn (by kernel_rfl) (by kernel_rfl) rfl rfl rfl
    · have H_50 := of_f H_48 b_6
      rcases Bool.eq_false_or_eq_true ((decide (at_2 < (1 : Int)))) with b_8 | b_8
      · have H_52 := of_t H_50 b_8
        refine V_reg hN hn [(1, ⟨25, 0, [.c (.imm (.slice (.int .i64)) l_1), .c (.val (.int .i64 (20000 : Int)))], [], .c (.val (.bool r_4)), [], [], 0⟩)] [(11, false), (15, true)] (calls_cons (palinoderef15_IsBreaks_spec K l_1 (20000 : Int) r_4 h_5) (by kernel_rfl) calls_nil) 0 [0, 1, 18] [] ⟨[(0, .c (.imm (.slice (.int .i64)) l_1)), (1, .c (.val (.int .i64 at_2))), (18, .c (.val (.bool true)))], [], 0⟩ [(!r_4) = false, (decide (at_2 < (1 : Int))) = true] (by kernel_rfl) rfl rfl (ap2 b_6 (ap1 b_8)) (by kernel_rfl) (by kernel_rfl) ?_
        have H_54 := Option.some.inj (show some true = some q_44 from H_52); subst H_54
        refine VL_nil ?_
        exact QP_end true rfl [] hn (by kernel_rfl) (by kernel_rfl) rfl rfl rfl
      · have H_53 := of_f H_50 b_8
        refine V_reg hN hn [(1, ⟨25, 0, [.c (.imm (.slice (.int .i64)) l_1), .c (.val (.int .i64 (20000 : Int)))], [], .c (.val (.bool r_4)), [], [], 0⟩)] [(11, false), (15, false)] (calls_cons (palinoderef15_IsBreaks_spec K l_1 (20000 : Int) r_4 h_5) (by kernel_rfl) calls_nil) 0 [0, 1, 18] [] ⟨[(0, .c (.imm (.slice (.int .i64)) l_1)), (1, .c (.val (.int .i64 at_2))), (18, .c (.val (.bool (decide (at_2 ≥ (20000 : Int))))))], [], 0⟩ [(!r_4) = false, (decide (at_2 < (1 : Int))) = false] (by kernel_rfl) rfl rfl (ap2 b_6 (ap1 b_8)) (by kernel_rfl) (by kernel_rfl) ?_
        have H_55 := Option.some.inj (show some (decide (at_2 ≥ (20000 : Int))) = some q_44 from H_53); subst H_55
        refine VL_nil ?_
        exact QP_end (decide (at_2 ≥ (20000 : Int))) rfl [] hn (by kernel_rfl) (by kernel_rfl) rfl rfl rfl
  · intro y_47 hy; subst hy
    skip
    skip
    refine VL_cond (y_47) (by kernel_rfl) ?_ ?_
    · intro b_12; have H_56 := of_t H_46 b_12
      refine V_run hN hn 2 0 [4, 5] [] ⟨[(4, .c (.val (.slice none 0 0))), (5, .c (.val (.int .i64 (12 : Int))))], [], 0⟩ [] (by kernel_rfl) rfl rfl ap0 ?_
      have H_58 := Option.some.inj (show some (([] : List Int), (12 : Int)) = some r from H_56); subst H_58
      refine VL_ret ?_
      refine P_ghost [.read 4 (.slice (.int .i64))] 0 hn [4, 5] [] ⟨[(4, .c (.imm (.slice (.int .i64)) ([] : List Int))), (5, .c (.val (.int .i64 (12 : Int))))], [], 0⟩ (by kernel_rfl) rfl rfl ?_
      exact P_to [(4, .c (.imm (.slice (.int .i64)) ([] : List Int))), (5, .c (.val (.int .i64 (12 : Int))))] [] [] hn (by kernel_rfl) (by kernel_rfl) rfl rfl rfl (QF_retS (by kernel_rfl) (by kernel_rfl) rfl)
    · intro b_12; have H_57 := of_f H_46 b_12
      refine V_run hN hn 4 0 [0, 1, 6] [] ⟨[(0, .c (.imm (.slice (.int .i64)) l_1)), (1, .c (.val (.int .i64 at_2))), (6, .c (.val (.int .i64 (0 : Int))))], [], 0⟩ [] (by kernel_rfl) rfl rfl ap0 ?_
      obtain ⟨q_59, H_60, H_61⟩ := of_bind H_57
      refine V_cut (Y := Int) (R := Int) q_59 (fun y => y) (fun y => [(0, .c (.imm (.slice (.int .i64)) l_1)), (1, .c (.val (.int .i64 at_2))), (6, .c (.val (.int .i64 y)))]) (fun y => []) ?_ ?_
      · skip
        refine VL_block ?_
        refine V_to [(0, .c (.imm (.slice (.int .i64)) l_1)), (1, .c (.val (.int .i64 at_2))), (6, .c (.val (.int .i64 (0 : Int))))] [] [] hn (by kernel_rfl) (by kernel_rfl) rfl rfl rfl ?_
        refine VL_loop (X := Int) (fun x => [(0, .c (.imm (.slice (.int .i64)) l_1)), (1, .c (.val (.int .i64 at_2))), (6, .c (.val (.int .i64 x)))]) (fun x => []) (fun k x => palinoderef15_PutBreak.l0 K l_1 at_2 k x = some q_59) K (0 : Int) H_60 (fun _ h => no_none h) ?_
        intro k_16 k_15 H_63
        have H_64 : palinoderef15_PutBreak.l0 K l_1 at_2 (k_16 + 1) k_15 = some q_59 := H_63
        rw [palinoderef15_PutBreak.l0] at H_64
        refine V_run hN hn 2 0 [0, 1, 6] [] ⟨[(0, .c (.imm (.slice (.int .i64)) l_1)), (1, .c (.val (.int .i64 at_2))), (6, .c (.val (.int .i64 k_15)))], [], 0⟩ [] (by kernel_rfl) rfl rfl ap0 ?_
        obtain ⟨q_65, H_66, H_67⟩ := of_bind H_64
        refine V_cut (Y := Bool) (R := Bool) q_65 (fun y => y) (fun y => [(0, .c (.imm (.slice (.int .i64)) l_1)), (1, .c (.val (.int .i64 at_2))), (6, .c (.val (.int .i64 k_15))), (30, .c (.val (.bool y)))]) (fun y => []) ?_ ?_
        · skip
          rcases Bool.eq_false_or_eq_true ((decide (k_15 < (((List.length l_1) : Nat) : Int)))) with b_18 | b_18
          · have H_69 := of_t H_66 b_18
            obtain ⟨c_19, H_71⟩ := of_if H_69
            refine V_reg hN hn [] [(23, true)] calls_nil 0 [0, 1, 6, 30] [] ⟨[(0, .c (.imm (.slice (.int .i64)) l_1)), (1, .c (.val (.int .i64 at_2))), (6, .c (.val (.int .i64 k_15))), (30, .c (.val (.bool (decide ((List.getD l_1 (Int.toNat k_15) (0 : Int)) < at_2)))))], [], 0⟩ [(decide (k_15 < (((List.length l_1) : Nat) : Int))) = true, 0 ≤ k_15, k_15 < (((List.length l_1) : Nat) : Int)] (by kernel_rfl) rfl rfl (ap2 b_18 (ap2 c_19.1 (ap1 c_19.2))) (by kernel_rfl) (by kernel_rfl) ?_
            have H_72 := Option.some.inj (show some (decide ((List.getD l_1 (Int.toNat k_15) (0 : Int)) < at_2)) = some q_65 from H_71); subst H_72
            refine VL_nil ?_
            exact QP_end (decide ((List.getD l_1 (Int.toNat k_15) (0 : Int)) < at_2)) rfl [] hn (by kernel_rfl) (by kernel_rfl) rfl rfl rfl
          · have H_70 := of_f H_66 b_18
            refine V_reg hN hn [] [(23, false)] calls_nil 0 [0, 1, 6, 30] [] ⟨[(0, .c (.imm (.slice (.int .i64)) l_1)), (1, .c (.val (.int .i64 at_2))), (6, .c (.val (.int .i64 k_15))), (30, .c (.val (.bool false)))], [], 0⟩ [(decide (k_15 < (((List.length l_1) : Nat) : Int))) = false] (by kernel_rfl) rfl rfl (ap1 b_18) (by kernel_rfl) (by kernel_rfl) ?_
            have H_73 := Option.some.inj (show some false = some q_65 from H_70); subst H_73
            refine VL_nil ?_
            exact QP_end false rfl [] hn (by kernel_rfl) (by kernel_rfl) rfl rfl rfl
        · intro y_68 hy; subst hy
          skip
          skip
          refine VL_cond (y_68) (by kernel_rfl) ?_ ?_
          · intro b_22; have H_74 := of_t H_67 b_22
            refine V_run hN hn 1 0 [0, 1, 6, 30] [] ⟨[(0, .c (.imm (.slice (.int .i64)) l_1)), (1, .c (.val (.int .i64 at_2))), (6, .c (.val (.int .i64 k_15))), (30, .c (.val (.bool y_68)))], [], 0⟩ [] (by kernel_rfl) rfl rfl ap0 ?_
            refine VL_block ?_
            refine V_run hN hn 1 0 [0, 1, 6] [] ⟨[(0, .c (.imm (.slice (.int .i64)) l_1)), (1, .c (.val (.int .i64 at_2))), (6, .c (.val (.int .i64 (IntKind.wrap .i64 (k_15 + (1 : Int))))))], [], 0⟩ [] (by kernel_rfl) rfl rfl ap0 ?_
            refine VL_nil (QB_end ?_)
            refine VL_nil ?_
            exact V_roundEnd (IntKind.wrap .i64 (k_15 + (1 : Int))) H_74 [] hn (by kernel_rfl) (by kernel_rfl) rfl rfl rfl
          · intro b_22; have H_75 := of_f H_67 b_22
            refine VL_exit ?_
            refine QL_exit ?_
            refine QB_here ?_
            have H_76 := Option.some.inj (show some k_15 = some q_59 from H_75); subst H_76
            refine VL_nil ?_
            exact QP_end k_15 rfl [] hn (by kernel_rfl) (by kernel_rfl) rfl rfl rfl
      · intro y_62 hy; subst hy
        skip
        skip
        refine V_run hN hn 2 0 [0, 1, 6] [] ⟨[(0, .c (.imm (.slice (.int .i64)) l_1)), (1, .c (.val (.int .i64 at_2))), (6, .c (.val (.int .i64 y_62)))], [], 0⟩ [] (by kernel_rfl) rfl rfl ap0 ?_
        obtain ⟨q_77, H_78, H_79⟩ := of_bind H_61
        refine V_cut (Y := Bool) (R := Bool) q_77 (fun y => y) (fun y => [(0, .c (.imm (.slice (.int .i64)) l_1)), (1, .c (.val (.int .i64 at_2))), (6, .c (.val (.int .i64 y_62))), (44, .c (.val (.bool y)))]) (fun y => []) ?_ ?_
        · skip
          rcases Bool.eq_false_or_eq_true ((decide (y_62 < (((List.length l_1) : Nat) : Int)))) with b_27 | b_27
          · have H_81 := of_t H_78 b_27
            obtain ⟨c_28, H_83⟩ := of_if H_81
            refine V_reg hN hn [] [(37, true)] calls_nil 0 [0, 1, 6, 44] [] ⟨[(0, .c (.imm (.slice (.int .i64)) l_1)), (1, .c (.val (.int .i64 at_2))), (6, .c (.val (.int .i64 y_62))), (44, .c (.val (.bool ((List.getD l_1 (Int.toNat y_62) (0 : Int)) == at_2))))], [], 0⟩ [(decide (y_62 < (((List.length l_1) : Nat) : Int))) = true, 0 ≤ y_62, y_62 < (((List.length l_1) : Nat) : Int)] (by kernel_rfl) rfl rfl (ap2 b_27 (ap2 c_28.1 (ap1 c_28.2))) (by kernel_rfl) (by kernel_rfl) ?_
            have H_84 := Option.some.inj (show some ((List.getD l_1 (Int.toNat y_62) (0 : Int)) == at_2) = some q_77 from H_83); subst H_84
            refine VL_nil ?_
            exact QP_end ((List.getD l_1 (Int.toNat y_62) (0 : Int)) == at_2) rfl [] hn (by kernel_rfl) (by kernel_rfl) rfl rfl rfl
          · have H_82 := of_f H_78 b_27
            refine V_reg hN hn [] [(37, false)] calls_nil 0 [0, 1, 6, 44] [] ⟨[(0, .c (.imm (.slice (.int .i64)) l_1)), (1, .c (.val (.int .i64 at_2))), (6, .c (.val (.int .i64 y_62))), (44, .c (.val (.bool false)))], [], 0⟩ [(decide (y_62 < (((List.length l_1) : Nat) : Int))) = false] (by kernel_rfl) rfl rfl (ap1 b_27) (by kernel_rfl) (by kernel_rfl) ?_
            have H_85 := Option.some.inj (show some false = some q_77 from H_82); subst H_85
            refine VL_nil ?_
            exact QP_end false rfl [] hn (by kernel_rfl) (by kernel_rfl) rfl rfl rfl
        · intro y_80 hy; subst hy
          skip
          skip
          refine VL_cond (y_80) (by kernel_rfl) ?_ ?_
          · intro b_31; have H_86 := of_t H_79 b_31
            refine V_run hN hn 2 0 [4, 5] [] ⟨[(4, .c (.imm (.slice (.int .i64)) l_1)), (5, .c (.val (.int .i64 (0 : Int))))], [], 0⟩ [] (by kernel_rfl) rfl rfl ap0 ?_
            have H_88 := Option.some.inj (show some (l_1, (0 : Int)) = some r from H_86); subst H_88
            refine VL_ret ?_
            exact P_to [(4, .c (.imm (.slice (.int .i64)) l_1)), (5, .c (.val (.int .i64 (0 : Int))))] [] [] hn (by kernel_rfl) (by kernel_rfl) rfl rfl rfl (QF_retS (by kernel_rfl) (by kernel_rfl) rfl)
          · intro b_31; have H_87 := of_f H_79 b_31
            refine V_run hN hn 4 0 [0, 1, 6, 48] [] ⟨[(0, .c (.imm (.slice (.int .i64)) l_1)), (1, .c (.val (.int .i64 at_2))), (6, .c (.val (.int .i64 y_62))), (48, .c (.val (.bool ((((List.length l_1) : Nat) : Int) == (60 : Int)))))], [], 0⟩ [] (by kernel_rfl) rfl rfl ap0 ?_
            refine VL_cond (((((List.length l_1) : Nat) : Int) == (60 : Int))) (by kernel_rfl) ?_ ?_
            · intro b_34; have H_89 := of_t H_87 b_34
              refine V_run hN hn 2 0 [4, 5] [] ⟨[(4, .c (.val (.slice none 0 0))), (5, .c (.val (.int .i64 (70 : Int))))], [], 0⟩ [] (by kernel_rfl) rfl rfl ap0 ?_
              have H_91 := Option.some.inj (show some (([] : List Int), (70 : Int)) = some r from H_89); subst H_91
              refine VL_ret ?_
              refine P_ghost [.read 4 (.slice (.int .i64))] 0 hn [4, 5] [] ⟨[(4, .c (.imm (.slice (.int .i64)) ([] : List Int))), (5, .c (.val (.int .i64 (70 : Int))))], [], 0⟩ (by kernel_rfl) rfl rfl ?_
              exact P_to [(4, .c (.imm (.slice (.int .i64)) ([] : List Int))), (5, .c (.val (.int .i64 (70 : Int))))] [] [] hn (by kernel_rfl) (by kernel_rfl) rfl rfl rfl (QF_retS (by kernel_rfl) (by kernel_rfl) rfl)
            · intro b_34; have H_90 := of_f H_87 b_34
              obtain ⟨c_36, H_92⟩ := of_if H_90
              refine V_run hN hn 5 0 [4, 5] [3] ⟨[(4, .c (.h 3)), (5, .c (.val (.int .i64 (0 : Int))))], [(3, .row (.int .i64) (((List.take (Int.toNat y_62) l_1) ++ ([at_2] : List Int)) ++ (List.drop (Int.toNat y_62) l_1)))], 4⟩ [(0 : Int) ≤ y_62, y_62 ≤ (((List.length l_1) : Nat) : Int), List.length (List.take (Int.toNat y_62) l_1) * 8 ≤ 140737488355328, (List.length (List.take (Int.toNat y_62) l_1) + List.length ([at_2] : List Int)) * 8 ≤ 140737488355328, (0 : Int) ≤ y_62, y_62 ≤ (((List.length l_1) : Nat) : Int), (List.length ((List.take (Int.toNat y_62) l_1) ++ ([at_2] : List Int)) + List.length (List.drop (Int.toNat y_62) l_1)) * 8 ≤ 140737488355328] (by kernel_rfl) rfl rfl (ap2 c_36.1 (ap2 c_36.2.1 (ap2 c_36.2.2.1 (ap2 c_36.2.2.2.1 (ap2 c_36.1 (ap2 c_36.2.1 (ap1 c_36.2.2.2.2))))))) ?_
              have H_93 := Option.some.inj (show some ((((List.take (Int.toNat y_62) l_1) ++ ([at_2] : List Int)) ++ (List.drop (Int.toNat y_62) l_1)), (0 : Int)) = some r from H_92); subst H_93
              refine VL_ret ?_
              refine P_ghost [.shut 3] 4 hn [4, 5] [] ⟨[(4, .c (.imm (.slice (.int .i64)) (((List.take (Int.toNat y_62) l_1) ++ ([at_2] : List Int)) ++ (List.drop (Int.toNat y_62) l_1)))), (5, .c (.val (.int .i64 (0 : Int))))], [], 4⟩ (by kernel_rfl) rfl rfl ?_
              exact P_to [(4, .c (.imm (.slice (.int .i64)) (((List.take (Int.toNat y_62) l_1) ++ ([at_2] : List Int)) ++ (List.drop (Int.toNat y_62) l_1)))), (5, .c (.val (.int .i64 (0 : Int))))] [] [] hn (by kernel_rfl) (by kernel_rfl) rfl rfl rfl (QF_retS (by kernel_rfl) (by kernel_rfl) rfl)

theorem slices_Index_spec (K : Nat) (s_1 : (List Int)) (v_2 : Int) (r : Int) (H : slices_Index_rg K s_1 v_2 = some r) : Spec Try.prog 29 0 [.c (.imm (.slice (.int .i64)) s_1), .c (.val (.int .i64 v_2))] [] (.c (.val (.int .i64 r))) [] := by
  refine Spec_mk (fn := Try.f29) (c := (Try.f29.body).get!) Try.func29 (by kernel_rfl) rfl ?_
  intro C hN hn
  replace hN : C.N = 19 := hN
  unfold slices_Index_rg at H
  refine V_run hN hn 5 0 [0, 1, 7, 8] [] ⟨[(0, .c (.imm (.slice (.int .i64)) s_1)), (1, .c (.val (.int .i64 v_2))), (7, .c (.val (.int .i64 (((List.length s_1) : Nat) : Int)))), (8, .c (.val (.int .i64 (0 : Int))))], [], 0⟩ [] (by kernel_rfl) rfl rfl ap0 ?_
  refine VL_block ?_
  refine V_to [(0, .c (.imm (.slice (.int .i64)) s_1)), (1, .c (.val (.int .i64 v_2))), (7, .c (.val (.int .i64 (((List.length s_1) : Nat) : Int)))), (8, .c (.val (.int .i64 (0 : Int))))] [] [] hn (by kernel_rfl) (by kernel_rfl) rfl rfl rfl ?_
  refine VL_loop (X := Int) (fun x => [(0, .c (.imm (.slice (.int .i64)) s_1)), (1, .c (.val (.int .i64 v_2))), (7, .c (.val (.int .i64 (((List.length s_1) : Nat) : Int)))), (8, .c (.val (.int .i64 x)))]) (fun x => []) (fun k x => slices_Index_rg.l0 K s_1 v_2 k x = some r) K (0 : Int) H (fun _ h => no_none h) ?_
  intro k_5 t_4 H_16
  have H_17 : slices_Index_rg.l0 K s_1 v_2 (k_5 + 1) t_4 = some r := H_16
  rw [slices_Index_rg.l0] at H_17
  refine V_run hN hn 3 0 [0, 1, 7, 8, 9] [] ⟨[(0, .c (.imm (.slice (.int .i64)) s_1)), (1, .c (.val (.int .i64 v_2))), (7, .c (.val (.int .i64 (((List.length s_1) : Nat) : Int)))), (8, .c (.val (.int .i64 t_4))), (9, .c (.val (.bool (decide (t_4 < (((List.length s_1) : Nat) : Int))))))], [], 0⟩ [] (by kernel_rfl) rfl rfl ap0 ?_
  refine VL_cond ((decide (t_4 < (((List.length s_1) : Nat) : Int)))) (by kernel_rfl) ?_ ?_
  · intro b_7; have H_18 := of_t H_17 b_7
    refine V_run hN hn 2 0 [0, 1, 7, 8, 9] [] ⟨[(0, .c (.imm (.slice (.int .i64)) s_1)), (1, .c (.val (.int .i64 v_2))), (7, .c (.val (.int .i64 (((List.length s_1) : Nat) : Int)))), (8, .c (.val (.int .i64 t_4))), (9, .c (.val (.bool (decide (t_4 < (((List.length s_1) : Nat) : Int))))))], [], 0⟩ [] (by kernel_rfl) rfl rfl ap0 ?_
    refine VL_block ?_
    obtain ⟨c_9, H_20⟩ := of_if H_18
    refine V_run hN hn 4 0 [0, 1, 5, 7, 8, 16] [] ⟨[(0, .c (.imm (.slice (.int .i64)) s_1)), (1, .c (.val (.int .i64 v_2))), (5, .c (.val (.int .i64 t_4))), (7, .c (.val (.int .i64 (((List.length s_1) : Nat) : Int)))), (8, .c (.val (.int .i64 t_4))), (16, .c (.val (.bool (v_2 == (List.getD s_1 (Int.toNat t_4) (0 : Int))))))], [], 0⟩ [0 ≤ t_4, t_4 < (((List.length s_1) : Nat) : Int)] (by kernel_rfl) rfl rfl (ap2 c_9.1 (ap1 c_9.2)) ?_
    refine VL_cond ((v_2 == (List.getD s_1 (Int.toNat t_4) (0 : Int)))) (by kernel_rfl) ?_ ?_
    · intro b_10; have H_21 := of_t H_20 b_10
      refine V_run hN hn 2 0 [4] [] ⟨[(4, .c (.val (.int .i64 t_4)))], [], 0⟩ [] (by kernel_rfl) rfl rfl ap0 ?_
      have H_23 := Option.some.inj (show some t_4 = some r from H_21); subst H_23
      refine VL_ret ?_
      refine QB_ret ?_
      refine QL_ret ?_
      refine QB_ret ?_
      exact P_to [(4, .c (.val (.int .i64 t_4)))] [] [] hn (by kernel_rfl) (by kernel_rfl) rfl rfl rfl (QF_retS (by kernel_rfl) (by kernel_rfl) rfl)
    · intro b_10; have H_22 := of_f H_20 b_10
      refine V_run hN hn 1 0 [0, 1, 5, 7, 8, 16] [] ⟨[(0, .c (.imm (.slice (.int .i64)) s_1)), (1, .c (.val (.int .i64 v_2))), (5, .c (.val (.int .i64 t_4))), (7, .c (.val (.int .i64 (((List.length s_1) : Nat) : Int)))), (8, .c (.val (.int .i64 t_4))), (16, .c (.val (.bool (v_2 == (List.getD s_1 (Int.toNat t_4) (0 : Int))))))], [], 0⟩ [] (by kernel_rfl) rfl rfl ap0 ?_
      refine VL_nil (QB_end ?_)
      refine V_run hN hn 1 0 [0, 1, 7, 8] [] ⟨[(0, .c (.imm (.slice (.int .i64)) s_1)), (1, .c (.val (.int .i64 v_2))), (7, .c (.val (.int .i64 (((List.length s_1) : Nat) : Int)))), (8, .c (.val (.int .i64 (IntKind.wrap .i64 (t_4 + (1 : Int))))))], [], 0⟩ [] (by kernel_rfl) rfl rfl ap0 ?_
      refine VL_nil ?_
      exact V_roundEnd (IntKind.wrap .i64 (t_4 + (1 : Int))) H_22 [] hn (by kernel_rfl) (by kernel_rfl) rfl rfl rfl
  · intro b_7; have H_19 := of_f H_17 b_7
    refine VL_exit ?_
    refine QL_exit ?_
    refine QB_here ?_
    refine V_run hN hn 2 0 [4] [] ⟨[(4, .c (.val (.int .i64 (-1 : Int))))], [], 0⟩ [] (by kernel_rfl) rfl rfl ap0 ?_
    have H_24 := Option.some.inj (show some (-1 : Int) = some r from H_19); subst H_24
    refine VL_ret ?_
    exact P_to [(4, .c (.val (.int .i64 (-1 : Int))))] [] [] hn (by kernel_rfl) (by kernel_rfl) rfl rfl rfl (QF_retS (by kernel_rfl) (by kernel_rfl) rfl)

theorem breaks_Take_spec (K : Nat) (l_1 : (List Int)) (at_2 : Int) (r : ((List Int) × Int)) (H : breaks_Take K l_1 at_2 = some r) : Spec Try.prog 17 0 [.c (.imm (.slice (.int .i64)) l_1), .c (.val (.int .i64 at_2))] [] (.tup [(false, [.h 0]), (false, [.val (.int .i64 r.2)])]) [(0, .row (.int .i64) r.1)] := by
  refine Spec_mk (fn := Try.f17) (c := (Try.f17.body).get!) Try.func17 (by kernel_rfl) rfl ?_
  intro C hN hn
  replace hN : C.N = 30 := hN
  unfold breaks_Take at H
  refine V_run hN hn 3 0 [0, 1] [] ⟨[(0, .c (.imm (.slice (.int .i64)) l_1)), (1, .c (.val (.int .i64 at_2)))], [], 0⟩ [] (by kernel_rfl) rfl rfl ap0 ?_
  obtain ⟨r_4, h_5, H_15⟩ := of_bind H
  refine V_reg hN hn [(2, ⟨29, 0, [.c (.imm (.slice (.int .i64)) l_1), .c (.val (.int .i64 at_2))], [], .c (.val (.int .i64 r_4)), [], [], 0⟩)] [] (calls_cons (slices_Index_spec K l_1 at_2 r_4 h_5) (by kernel_rfl) calls_nil) 0 [0, 6] [] ⟨[(0, .c (.imm (.slice (.int .i64)) l_1)), (6, .c (.val (.int .i64 r_4)))], [], 0⟩ [] (by kernel_rfl) rfl rfl ap0 (by kernel_rfl) (by kernel_rfl) ?_
  refine V_run hN hn 3 0 [0, 6, 12] [] ⟨[(0, .c (.imm (.slice (.int .i64)) l_1)), (6, .c (.val (.int .i64 r_4))), (12, .c (.val (.bool (decide (r_4 < (0 : Int))))))], [], 0⟩ [] (by kernel_rfl) rfl rfl ap0 ?_
  refine VL_cond ((decide (r_4 < (0 : Int)))) (by kernel_rfl) ?_ ?_
  · intro b_8; have H_16 := of_t H_15 b_8
    refine V_run hN hn 2 0 [4, 5] [] ⟨[(4, .c (.val (.slice none 0 0))), (5, .c (.val (.int .i64 (10 : Int))))], [], 0⟩ [] (by kernel_rfl) rfl rfl ap0 ?_
    have H_18 := Option.some.inj (show some (([] : List Int), (10 : Int)) = some r from H_16); subst H_18
    refine VL_ret ?_
    refine P_ghost [.nilSlot 4 (.int .i64)] 0 hn [4, 5] [0] ⟨[(4, .c (.h 0)), (5, .c (.val (.int .i64 (10 : Int))))], [(0, .row (.int .i64) ([] : List Int))], 1⟩ (by kernel_rfl) rfl rfl ?_
    exact P_to [(4, .c (.h 0)), (5, .c (.val (.int .i64 (10 : Int))))] [(0, .row (.int .i64) ([] : List Int))] [(0, 0)] hn (by kernel_rfl) (by kernel_rfl) rfl rfl rfl (QF_retS (by kernel_rfl) (by kernel_rfl) rfl)
  · intro b_8; have H_17 := of_f H_15 b_8
    obtain ⟨c_10, H_19⟩ := of_if H_17
    refine V_run hN hn 4 0 [0, 6, 7] [0] ⟨[(0, .c (.imm (.slice (.int .i64)) l_1)), (6, .c (.val (.int .i64 r_4))), (7, .c (.h 0))], [(0, .row (.int .i64) (List.replicate (Int.toNat (IntKind.wrap .i64 ((((List.length l_1) : Nat) : Int) - (1 : Int)))) (0 : Int)))], 1⟩ [(0 : Int) ≤ (IntKind.wrap .i64 ((((List.length l_1) : Nat) : Int) - (1 : Int))), (IntKind.wrap .i64 ((((List.length l_1) : Nat) : Int) - (1 : Int))) ≤ (IntKind.wrap .i64 ((((List.length l_1) : Nat) : Int) - (1 : Int))), (IntKind.wrap .i64 ((((List.length l_1) : Nat) : Int) - (1 : Int))) * 8 ≤ (140737488355328 : Int), (IntKind.wrap .i64 ((((List.length l_1) : Nat) : Int) - (1 : Int))) ≤ (9223372036854775807 : Int)] (by kernel_rfl) rfl rfl (ap2 c_10.1 (ap2 c_10.2.1 (ap2 c_10.2.2.1 (ap1 c_10.2.2.2)))) ?_
    obtain ⟨c_11, H_20⟩ := of_if H_19
    refine V_draw hN hn (by kernel_rfl) [] [] calls_nil 1 [7] [0] ⟨[(7, .c (.h 0))], [(0, .row (.int .i64) (putAt (putAt (List.replicate (Int.toNat (IntKind.wrap .i64 ((((List.length l_1) : Nat) : Int) - (1 : Int)))) (0 : Int)) (List.take (List.length (List.replicate (Int.toNat (IntKind.wrap .i64 ((((List.length l_1) : Nat) : Int) - (1 : Int)))) (0 : Int))) (List.take (Int.toNat r_4) l_1)) 0) (List.take ((List.length (putAt (List.replicate (Int.toNat (IntKind.wrap .i64 ((((List.length l_1) : Nat) : Int) - (1 : Int)))) (0 : Int)) (List.take (List.length (List.replicate (Int.toNat (IntKind.wrap .i64 ((((List.length l_1) : Nat) : Int) - (1 : Int)))) (0 : Int))) (List.take (Int.toNat r_4) l_1)) 0)) - (Int.toNat (((List.length (List.take (List.length (List.replicate (Int.toNat (IntKind.wrap .i64 ((((List.length l_1) : Nat) : Int) - (1 : Int)))) (0 : Int))) (List.take (Int.toNat r_4) l_1))) : Nat) : Int))) (List.drop (Int.toNat (IntKind.wrap .i64 (r_4 + (1 : Int)))) l_1)) (Int.toNat (((List.length (List.take (List.length (List.replicate (Int.toNat (IntKind.wrap .i64 ((((List.length l_1) : Nat) : Int) - (1 : Int)))) (0 : Int))) (List.take (Int.toNat r_4) l_1))) : Nat) : Int))))], 1⟩ [(0 : Int) ≤ r_4, r_4 ≤ (((List.length l_1) : Nat) : Int), (0 : Int) ≤ (((List.length (List.take (List.length (List.replicate (Int.toNat (IntKind.wrap .i64 ((((List.length l_1) : Nat) : Int) - (1 : Int)))) (0 : Int))) (List.take (Int.toNat r_4) l_1))) : Nat) : Int), (((List.length (List.take (List.length (List.replicate (Int.toNat (IntKind.wrap .i64 ((((List.length l_1) : Nat) : Int) - (1 : Int)))) (0 : Int))) (List.take (Int.toNat r_4) l_1))) : Nat) : Int) ≤ (((List.length (putAt (List.replicate (Int.toNat (IntKind.wrap .i64 ((((List.length l_1) : Nat) : Int) - (1 : Int)))) (0 : Int)) (List.take (List.length (List.replicate (Int.toNat (IntKind.wrap .i64 ((((List.length l_1) : Nat) : Int) - (1 : Int)))) (0 : Int))) (List.take (Int.toNat r_4) l_1)) 0)) : Nat) : Int), (0 : Int) ≤ (IntKind.wrap .i64 (r_4 + (1 : Int))), (IntKind.wrap .i64 (r_4 + (1 : Int))) ≤ (((List.length l_1) : Nat) : Int), (0 : Int) ≤ (IntKind.wrap .i64 (r_4 + (1 : Int))), (IntKind.wrap .i64 (r_4 + (1 : Int))) ≤ (((List.length l_1) : Nat) : Int)] (by kernel_rfl) rfl rfl (ap2 c_11.1 (ap2 c_11.2.1 (ap2 c_11.2.2.1 (ap2 c_11.2.2.2.1 (ap2 c_11.2.2.2.2.1 (ap2 c_11.2.2.2.2.2 (ap2 c_11.2.2.2.2.1 (ap1 c_11.2.2.2.2.2)))))))) (by kernel_rfl) (by kernel_rfl) ?_
    refine V_run hN hn 2 1 [4, 5] [0] ⟨[(4, .c (.h 0)), (5, .c (.val (.int .i64 (0 : Int))))], [(0, .row (.int .i64) (putAt (putAt (List.replicate (Int.toNat (IntKind.wrap .i64 ((((List.length l_1) : Nat) : Int) - (1 : Int)))) (0 : Int)) (List.take (List.length (List.replicate (Int.toNat (IntKind.wrap .i64 ((((List.length l_1) : Nat) : Int) - (1 : Int)))) (0 : Int))) (List.take (Int.toNat r_4) l_1)) 0) (List.take ((List.length (putAt (List.replicate (Int.toNat (IntKind.wrap .i64 ((((List.length l_1) : Nat) : Int) - (1 : Int)))) (0 : Int)) (List.take (List.length (List.replicate (Int.toNat (IntKind.wrap .i64 ((((List.length l_1) : Nat) : Int) - (1 : Int)))) (0 : Int))) (List.take (Int.toNat r_4) l_1)) 0)) - (Int.toNat (((List.length (List.take (List.length (List.replicate (Int.toNat (IntKind.wrap .i64 ((((List.length l_1) : Nat) : Int) - (1 : Int)))) (0 : Int))) (List.take (Int.toNat r_4) l_1))) : Nat) : Int))) (List.drop (Int.toNat (IntKind.wrap .i64 (r_4 + (1 : Int)))) l_1)) (Int.toNat (((List.length (List.take (List.length (List.replicate (Int.toNat (IntKind.wrap .i64 ((((List.length l_1) : Nat) : Int) - (1 : Int)))) (0 : Int))) (List.take (Int.toNat r_4) l_1))) : Nat) : Int))))], 1⟩ [] (by kernel_rfl) rfl rfl ap0 ?_
    have H_21 := Option.some.inj (show some ((putAt (putAt (List.replicate (Int.toNat (IntKind.wrap .i64 ((((List.length l_1) : Nat) : Int) - (1 : Int)))) (0 : Int)) (List.take (List.length (List.replicate (Int.toNat (IntKind.wrap .i64 ((((List.length l_1) : Nat) : Int) - (1 : Int)))) (0 : Int))) (List.take (Int.toNat r_4) l_1)) 0) (List.take ((List.length (putAt (List.replicate (Int.toNat (IntKind.wrap .i64 ((((List.length l_1) : Nat) : Int) - (1 : Int)))) (0 : Int)) (List.take (List.length (List.replicate (Int.toNat (IntKind.wrap .i64 ((((List.length l_1) : Nat) : Int) - (1 : Int)))) (0 : Int))) (List.take (Int.toNat r_4) l_1)) 0)) - (Int.toNat (((List.length (List.take (List.length (List.replicate (Int.toNat (IntKind.wrap .i64 ((((List.length l_1) : Nat) : Int) - (1 : Int)))) (0 : Int))) (List.take (Int.toNat r_4) l_1))) : Nat) : Int))) (List.drop (Int.toNat (IntKind.wrap .i64 (r_4 + (1 : Int)))) l_1)) (Int.toNat (((List.length (List.take (List.length (List.replicate (Int.toNat (IntKind.wrap .i64 ((((List.length l_1) : Nat) : Int) - (1 : Int)))) (0 : Int))) (List.take (Int.toNat r_4) l_1))) : Nat) : Int))), (0 : Int)) = some r from H_20); subst H_21
    refine VL_ret ?_
    exact P_to [(4, .c (.h 0)), (5, .c (.val (.int .i64 (0 : Int))))] [(0, .row (.int .i64) (putAt (putAt (List.replicate (Int.toNat (IntKind.wrap .i64 ((((List.length l_1) : Nat) : Int) - (1 : Int)))) (0 : Int)) (List.take (List.length (List.replicate (Int.toNat (IntKind.wrap .i64 ((((List.length l_1) : Nat) : Int) - (1 : Int)))) (0 : Int))) (List.take (Int.toNat r_4) l_1)) 0) (List.take ((List.length (putAt (List.replicate (Int.toNat (IntKind.wrap .i64 ((((List.length l_1) : Nat) : Int) - (1 : Int)))) (0 : Int)) (List.take (List.length (List.replicate (Int.toNat (IntKind.wrap .i64 ((((List.length l_1) : Nat) : Int) - (1 : Int)))) (0 : Int))) (List.take (Int.toNat r_4) l_1)) 0)) - (Int.toNat (((List.length (List.take (List.length (List.replicate (Int.toNat (IntKind.wrap .i64 ((((List.length l_1) : Nat) : Int) - (1 : Int)))) (0 : Int))) (List.take (Int.toNat r_4) l_1))) : Nat) : Int))) (List.drop (Int.toNat (IntKind.wrap .i64 (r_4 + (1 : Int)))) l_1)) (Int.toNat (((List.length (List.take (List.length (List.replicate (Int.toNat (IntKind.wrap .i64 ((((List.length l_1) : Nat) : Int) - (1 : Int)))) (0 : Int))) (List.take (Int.toNat r_4) l_1))) : Nat) : Int))))] [(0, 0)] hn (by kernel_rfl) (by kernel_rfl) rfl rfl rfl (QF_retS (by kernel_rfl) (by kernel_rfl) rfl)

theorem palinodelaw16_take_spec (K : Nat) (l_1 : (List Int)) (at_2 : Int) (r : ((List Int) × Int)) (H : palinodelaw16_take K l_1 at_2 = some r) : Spec Try.prog 22 0 [.c (.imm (.slice (.int .i64)) l_1), .c (.val (.int .i64 at_2))] [] (.tup [(false, [.h 2]), (false, [.val (.int .i64 r.2)])]) [(2, .row (.int .i64) r.1)] := by
  refine Spec_mk (fn := Try.f22) (c := (Try.f22.body).get!) Try.func22 (by kernel_rfl) rfl ?_
  intro C hN hn
  replace hN : C.N = 28 := hN
  unfold palinodelaw16_take at H
  refine V_run hN hn 5 0 [0, 1, 6] [] ⟨[(0, .c (.imm (.slice (.int .i64)) l_1)), (1, .c (.val (.int .i64 at_2))), (6, .c (.val (.int .i64 (0 : Int))))], [], 0⟩ [] (by kernel_rfl) rfl rfl ap0 ?_
  refine VL_block ?_
  refine V_to [(0, .c (.imm (.slice (.int .i64)) l_1)), (1, .c (.val (.int .i64 at_2))), (6, .c (.val (.int .i64 (0 : Int))))] [] [] hn (by kernel_rfl) (by kernel_rfl) rfl rfl rfl ?_
  refine VL_loop (X := Int) (fun x => [(0, .c (.imm (.slice (.int .i64)) l_1)), (1, .c (.val (.int .i64 at_2))), (6, .c (.val (.int .i64 x)))]) (fun x => []) (fun k x => palinodelaw16_take.l0 K l_1 at_2 k x = some r) K (0 : Int) H (fun _ h => no_none h) ?_
  intro k_5 i_4 H_18
  have H_19 : palinodelaw16_take.l0 K l_1 at_2 (k_5 + 1) i_4 = some r := H_18
  rw [palinodelaw16_take.l0] at H_19
  refine V_run hN hn 3 0 [0, 1, 6, 10] [] ⟨[(0, .c (.imm (.slice (.int .i64)) l_1)), (1, .c (.val (.int .i64 at_2))), (6, .c (.val (.int .i64 i_4))), (10, .c (.val (.bool (decide (i_4 < (((List.length l_1) : Nat) : Int))))))], [], 0⟩ [] (by kernel_rfl) rfl rfl ap0 ?_
  refine VL_cond ((decide (i_4 < (((List.length l_1) : Nat) : Int)))) (by kernel_rfl) ?_ ?_
  · intro b_7; have H_20 := of_t H_19 b_7
    refine V_run hN hn 2 0 [0, 1, 6, 10] [] ⟨[(0, .c (.imm (.slice (.int .i64)) l_1)), (1, .c (.val (.int .i64 at_2))), (6, .c (.val (.int .i64 i_4))), (10, .c (.val (.bool (decide (i_4 < (((List.length l_1) : Nat) : Int))))))], [], 0⟩ [] (by kernel_rfl) rfl rfl ap0 ?_
    refine VL_block ?_
    obtain ⟨c_9, H_22⟩ := of_if H_20
    refine V_run hN hn 2 0 [0, 1, 6, 18] [] ⟨[(0, .c (.imm (.slice (.int .i64)) l_1)), (1, .c (.val (.int .i64 at_2))), (6, .c (.val (.int .i64 i_4))), (18, .c (.val (.bool ((List.getD l_1 (Int.toNat i_4) (0 : Int)) == at_2))))], [], 0⟩ [0 ≤ i_4, i_4 < (((List.length l_1) : Nat) : Int)] (by kernel_rfl) rfl rfl (ap2 c_9.1 (ap1 c_9.2)) ?_
    refine VL_cond (((List.getD l_1 (Int.toNat i_4) (0 : Int)) == at_2)) (by kernel_rfl) ?_ ?_
    · intro b_10; have H_23 := of_t H_22 b_10
      refine V_run hN hn 1 0 [0, 1, 6, 18] [] ⟨[(0, .c (.imm (.slice (.int .i64)) l_1)), (1, .c (.val (.int .i64 at_2))), (6, .c (.val (.int .i64 i_4))), (18, .c (.val (.bool ((List.getD l_1 (Int.toNat i_4) (0 : Int)) == at_2))))], [], 0⟩ [] (by kernel_rfl) rfl rfl ap0 ?_
      obtain ⟨c_12, H_25⟩ := of_if H_23
      refine V_draw hN hn (by kernel_rfl) [] [] calls_nil 0 [4, 5] [1] ⟨[(4, .c (.h 1)), (5, .c (.val (.int .i64 (0 : Int))))], [(1, .row (.int .i64) ((List.take (Int.toNat i_4) l_1) ++ (List.drop (Int.toNat (IntKind.wrap .i64 (i_4 + (1 : Int)))) l_1)))], 2⟩ [(0 : Int) ≤ i_4, i_4 ≤ (((List.length l_1) : Nat) : Int), List.length (List.take (Int.toNat i_4) l_1) * 8 ≤ 140737488355328, (0 : Int) ≤ (IntKind.wrap .i64 (i_4 + (1 : Int))), (IntKind.wrap .i64 (i_4 + (1 : Int))) ≤ (((List.length l_1) : Nat) : Int), (0 : Int) ≤ (IntKind.wrap .i64 (i_4 + (1 : Int))), (IntKind.wrap .i64 (i_4 + (1 : Int))) ≤ (((List.length l_1) : Nat) : Int), (List.length (List.take (Int.toNat i_4) l_1) + List.length (List.drop (Int.toNat (IntKind.wrap .i64 (i_4 + (1 : Int)))) l_1)) * 8 ≤ 140737488355328] (by kernel_rfl) rfl rfl (ap2 c_12.1 (ap2 c_12.2.1 (ap2 c_12.2.2.1 (ap2 c_12.2.2.2.1 (ap2 c_12.2.2.2.2.1 (ap2 c_12.2.2.2.1 (ap2 c_12.2.2.2.2.1 (ap1 c_12.2.2.2.2.2)))))))) (by kernel_rfl) (by kernel_rfl) ?_
      have H_26 := Option.some.inj (show some (((List.take (Int.toNat i_4) l_1) ++ (List.drop (Int.toNat (IntKind.wrap .i64 (i_4 + (1 : Int)))) l_1)), (0 : Int)) = some r from H_25); subst H_26
      refine VL_ret ?_
      refine QB_ret ?_
      refine QL_ret ?_
      refine QB_ret ?_
      exact P_to [(4, .c (.h 2)), (5, .c (.val (.int .i64 (0 : Int))))] [(2, .row (.int .i64) ((List.take (Int.toNat i_4) l_1) ++ (List.drop (Int.toNat (IntKind.wrap .i64 (i_4 + (1 : Int)))) l_1)))] [(2, 1)] hn (by kernel_rfl) (by kernel_rfl) rfl rfl rfl (QF_retS (by kernel_rfl) (by kernel_rfl) rfl)
    · intro b_10; have H_24 := of_f H_22 b_10
      refine V_run hN hn 1 0 [0, 1, 6, 18] [] ⟨[(0, .c (.imm (.slice (.int .i64)) l_1)), (1, .c (.val (.int .i64 at_2))), (6, .c (.val (.int .i64 i_4))), (18, .c (.val (.bool ((List.getD l_1 (Int.toNat i_4) (0 : Int)) == at_2))))], [], 0⟩ [] (by kernel_rfl) rfl rfl ap0 ?_
      refine VL_nil (QB_end ?_)
      refine V_run hN hn 1 0 [0, 1, 6] [] ⟨[(0, .c (.imm (.slice (.int .i64)) l_1)), (1, .c (.val (.int .i64 at_2))), (6, .c (.val (.int .i64 (IntKind.wrap .i64 (i_4 + (1 : Int))))))], [], 0⟩ [] (by kernel_rfl) rfl rfl ap0 ?_
      refine VL_nil ?_
      exact V_roundEnd (IntKind.wrap .i64 (i_4 + (1 : Int))) H_24 [] hn (by kernel_rfl) (by kernel_rfl) rfl rfl rfl
  · intro b_7; have H_21 := of_f H_19 b_7
    refine VL_exit ?_
    refine QL_exit ?_
    refine QB_here ?_
    refine V_run hN hn 2 0 [4, 5] [] ⟨[(4, .c (.val (.slice none 0 0))), (5, .c (.val (.int .i64 (10 : Int))))], [], 0⟩ [] (by kernel_rfl) rfl rfl ap0 ?_
    have H_27 := Option.some.inj (show some (([] : List Int), (10 : Int)) = some r from H_21); subst H_27
    refine VL_ret ?_
    refine P_ghost [.nilSlot 4 (.int .i64)] 0 hn [4, 5] [0] ⟨[(4, .c (.h 0)), (5, .c (.val (.int .i64 (10 : Int))))], [(0, .row (.int .i64) ([] : List Int))], 1⟩ (by kernel_rfl) rfl rfl ?_
    exact P_to [(4, .c (.h 2)), (5, .c (.val (.int .i64 (10 : Int))))] [(2, .row (.int .i64) ([] : List Int))] [(2, 0)] hn (by kernel_rfl) (by kernel_rfl) rfl rfl rfl (QF_retS (by kernel_rfl) (by kernel_rfl) rfl)

theorem delta_IsCopy_spec (K : Nat) (x_1 : Int) (x_2 : Int) (x_3 : ByteArray) (r : Bool) (H : delta_IsCopy K x_1 x_2 x_3 = some r) : Spec Try.prog 49 0 [.agg [.val (.int .i64 x_1), .val (.int .i64 x_2), .val (.string x_3)]] [] (.c (.val (.bool r))) [] := by
  refine Spec_mk (fn := Try.f49) (c := (Try.f49.body).get!) Try.func49 (by kernel_rfl) rfl ?_
  intro C hN hn
  replace hN : C.N = 6 := hN
  unfold delta_IsCopy at H
  refine V_run hN hn 4 0 [2] [] ⟨[(2, .c (.val (.bool (ByteArray.toList x_3 == ByteArray.toList (ByteArray.mk #[])))))], [], 1⟩ [] (by kernel_rfl) rfl rfl ap0 ?_
  have H_6 := Option.some.inj (show some (ByteArray.toList x_3 == ByteArray.toList (ByteArray.mk #[])) = some r from H); subst H_6
  refine VL_ret ?_
  exact P_to [(2, .c (.val (.bool (ByteArray.toList x_3 == ByteArray.toList (ByteArray.mk #[])))))] [] [] hn (by kernel_rfl) (by kernel_rfl) rfl rfl rfl (QF_retS (by kernel_rfl) (by kernel_rfl) rfl)

theorem delta_elem_spec (K : Nat) (x_1 : Int) (x_2 : Int) (x_3 : ByteArray) (base_4 : Int) (to_5 : Int) (ahead_6 : Bool) (copied_7 : Bool) (r : Bool) (H : delta_elem K x_1 x_2 x_3 base_4 to_5 ahead_6 copied_7 = some r) : Spec Try.prog 50 0 [.agg [.val (.int .i64 x_1), .val (.int .i64 x_2), .val (.string x_3)], .c (.val (.int .i64 base_4)), .c (.val (.int .i64 to_5)), .c (.val (.bool ahead_6)), .c (.val (.bool copied_7))] [] (.c (.val (.bool r))) [] := by
  refine Spec_mk (fn := Try.f50) (c := (Try.f50.body).get!) Try.func50 (by kernel_rfl) rfl ?_
  intro C hN hn
  replace hN : C.N = 65 := hN
  unfold delta_elem at H
  refine V_run hN hn 4 0 [1, 2, 3, 4, 5] [0] ⟨[(1, .c (.val (.int .i64 base_4))), (2, .c (.val (.int .i64 to_5))), (3, .c (.val (.bool ahead_6))), (4, .c (.val (.bool copied_7))), (5, .c (.h 0))], [(0, .box [.val (.int .i64 x_1), .val (.int .i64 x_2), .val (.string x_3)])], 1⟩ [] (by kernel_rfl) rfl rfl ap0 ?_
  obtain ⟨r_9, h_10, H_42⟩ := of_bind H
  refine V_reg hN hn [(1, ⟨49, 0, [.agg [.val (.int .i64 x_1), .val (.int .i64 x_2), .val (.string x_3)]], [], .c (.val (.bool r_9)), [], [], 1⟩)] [] (calls_cons (delta_IsCopy_spec K x_1 x_2 x_3 r_9 h_10) (by kernel_rfl) calls_nil) 1 [1, 2, 3, 4, 5, 13] [0] ⟨[(1, .c (.val (.int .i64 base_4))), (2, .c (.val (.int .i64 to_5))), (3, .c (.val (.bool ahead_6))), (4, .c (.val (.bool copied_7))), (5, .c (.h 0)), (13, .c (.val (.bool r_9)))], [(0, .box [.val (.int .i64 x_1), .val (.int .i64 x_2), .val (.string x_3)])], 1⟩ [] (by kernel_rfl) rfl rfl ap0 (by kernel_rfl) (by kernel_rfl) ?_
  refine VL_cond (r_9) (by kernel_rfl) ?_ ?_
  · intro b_12; have H_43 := of_t H_42 b_12
    refine V_run hN hn 1 1 [1, 2, 3, 4, 5, 13] [0] ⟨[(1, .c (.val (.int .i64 base_4))), (2, .c (.val (.int .i64 to_5))), (3, .c (.val (.bool ahead_6))), (4, .c (.val (.bool copied_7))), (5, .c (.h 0)), (13, .c (.val (.bool r_9)))], [(0, .box [.val (.int .i64 x_1), .val (.int .i64 x_2), .val (.string x_3)])], 1⟩ [] (by kernel_rfl) rfl rfl ap0 ?_
    rcases Bool.eq_false_or_eq_true ((decide (x_1 ≥ to_5))) with b_14 | b_14
    · have H_45 := of_t H_43 b_14
      rcases Bool.eq_false_or_eq_true ((decide (x_1 > to_5))) with b_15 | b_15
      · have H_47 := of_t H_45 b_15
        rcases Bool.eq_false_or_eq_true ((decide (x_1 < x_2))) with b_16 | b_16
        · have H_49 := of_t H_47 b_16
          refine V_reg hN hn [] [(18, true), (23, true), (35, true)] calls_nil 1 [10] [] ⟨[(10, .c (.val (.bool (decide (x_2 ≤ base_4)))))], [], 1⟩ [(decide (x_1 ≥ to_5)) = true, (decide (x_1 > to_5)) = true, (decide (x_1 < x_2)) = true] (by kernel_rfl) rfl rfl (ap2 b_14 (ap2 b_15 (ap1 b_16))) (by kernel_rfl) (by kernel_rfl) ?_
          have H_51 := Option.some.inj (show some (decide (x_2 ≤ base_4)) = some r from H_49); subst H_51
          refine VL_ret ?_
          exact P_to [(10, .c (.val (.bool (decide (x_2 ≤ base_4)))))] [] [] hn (by kernel_rfl) (by kernel_rfl) rfl rfl rfl (QF_retS (by kernel_rfl) (by kernel_rfl) rfl)
        · have H_50 := of_f H_47 b_16
          refine V_reg hN hn [] [(18, true), (23, true), (35, false)] calls_nil 1 [10] [] ⟨[(10, .c (.val (.bool false)))], [], 1⟩ [(decide (x_1 ≥ to_5)) = true, (decide (x_1 > to_5)) = true, (decide (x_1 < x_2)) = false] (by kernel_rfl) rfl rfl (ap2 b_14 (ap2 b_15 (ap1 b_16))) (by kernel_rfl) (by kernel_rfl) ?_
          have H_52 := Option.some.inj (show some false = some r from H_50); subst H_52
          refine VL_ret ?_
          exact P_to [(10, .c (.val (.bool false)))] [] [] hn (by kernel_rfl) (by kernel_rfl) rfl rfl rfl (QF_retS (by kernel_rfl) (by kernel_rfl) rfl)
      · have H_48 := of_f H_45 b_15
        rcases Bool.eq_false_or_eq_true ((!copied_7)) with b_19 | b_19
        · have H_53 := of_t H_48 b_19
          rcases Bool.eq_false_or_eq_true ((decide (x_1 < x_2))) with b_20 | b_20
          · have H_55 := of_t H_53 b_20
            refine V_reg hN hn [] [(18, true), (23, false), (28, true), (35, true)] calls_nil 1 [10] [] ⟨[(10, .c (.val (.bool (decide (x_2 ≤ base_4)))))], [], 1⟩ [(decide (x_1 ≥ to_5)) = true, (decide (x_1 > to_5)) = false, (!copied_7) = true, (decide (x_1 < x_2)) = true] (by kernel_rfl) rfl rfl (ap2 b_14 (ap2 b_15 (ap2 b_19 (ap1 b_20)))) (by kernel_rfl) (by kernel_rfl) ?_
            have H_57 := Option.some.inj (show some (decide (x_2 ≤ base_4)) = some r from H_55); subst H_57
            refine VL_ret ?_
            exact P_to [(10, .c (.val (.bool (decide (x_2 ≤ base_4)))))] [] [] hn (by kernel_rfl) (by kernel_rfl) rfl rfl rfl (QF_retS (by kernel_rfl) (by kernel_rfl) rfl)
          · have H_56 := of_f H_53 b_20
            refine V_reg hN hn [] [(18, true), (23, false), (28, true), (35, false)] calls_nil 1 [10] [] ⟨[(10, .c (.val (.bool false)))], [], 1⟩ [(decide (x_1 ≥ to_5)) = true, (decide (x_1 > to_5)) = false, (!copied_7) = true, (decide (x_1 < x_2)) = false] (by kernel_rfl) rfl rfl (ap2 b_14 (ap2 b_15 (ap2 b_19 (ap1 b_20)))) (by kernel_rfl) (by kernel_rfl) ?_
            have H_58 := Option.some.inj (show some false = some r from H_56); subst H_58
            refine VL_ret ?_
            exact P_to [(10, .c (.val (.bool false)))] [] [] hn (by kernel_rfl) (by kernel_rfl) rfl rfl rfl (QF_retS (by kernel_rfl) (by kernel_rfl) rfl)
        · have H_54 := of_f H_48 b_19
          refine V_reg hN hn [] [(18, true), (23, false), (28, false)] calls_nil 1 [10] [] ⟨[(10, .c (.val (.bool false)))], [], 1⟩ [(decide (x_1 ≥ to_5)) = true, (decide (x_1 > to_5)) = false, (!copied_7) = false] (by kernel_rfl) rfl rfl (ap2 b_14 (ap2 b_15 (ap1 b_19))) (by kernel_rfl) (by kernel_rfl) ?_
          have H_59 := Option.some.inj (show some false = some r from H_54); subst H_59
          refine VL_ret ?_
          exact P_to [(10, .c (.val (.bool false)))] [] [] hn (by kernel_rfl) (by kernel_rfl) rfl rfl rfl (QF_retS (by kernel_rfl) (by kernel_rfl) rfl)
    · have H_46 := of_f H_43 b_14
      refine V_reg hN hn [] [(18, false)] calls_nil 1 [10] [] ⟨[(10, .c (.val (.bool false)))], [], 1⟩ [(decide (x_1 ≥ to_5)) = false] (by kernel_rfl) rfl rfl (ap1 b_14) (by kernel_rfl) (by kernel_rfl) ?_
      have H_60 := Option.some.inj (show some false = some r from H_46); subst H_60
      refine VL_ret ?_
      exact P_to [(10, .c (.val (.bool false)))] [] [] hn (by kernel_rfl) (by kernel_rfl) rfl rfl rfl (QF_retS (by kernel_rfl) (by kernel_rfl) rfl)
  · intro b_12; have H_44 := of_f H_42 b_12
    refine V_run hN hn 4 1 [3, 4, 5, 11] [0, 1] ⟨[(3, .c (.val (.bool ahead_6))), (4, .c (.val (.bool copied_7))), (5, .c (.h 0)), (11, .c (.h 1))], [(0, .box [.val (.int .i64 x_1), .val (.int .i64 x_2), .val (.string x_3)]), (1, .box [.val (.int .i64 (0 : Int)), .val (.int .i64 (0 : Int)), .val (.string x_3)])], 2⟩ [] (by kernel_rfl) rfl rfl ap0 ?_
    rcases Bool.eq_false_or_eq_true (((x_1 == (0 : Int)) && ((x_2 == (0 : Int)) && (ByteArray.toList x_3 == ByteArray.toList x_3)))) with b_26 | b_26
    · have H_61 := of_t H_44 b_26
      rcases Bool.eq_false_or_eq_true ((!ahead_6)) with b_27 | b_27
      · have H_63 := of_t H_61 b_27
        rcases Bool.eq_false_or_eq_true ((decide ((((ByteArray.size x_3) : Nat) : Int) ≤ (20000 : Int)))) with b_28 | b_28
        · have H_65 := of_t H_63 b_28
          obtain ⟨r_29, h_30, H_67⟩ := of_bind H_65
          refine V_reg hN hn [(19, ⟨27, 0, [.c (.val (.string x_3))], [], .c (.val (.bool r_29)), [], [], 2⟩)] [(47, true), (50, true), (60, true)] (calls_cons (utf_Valid_spec K x_3 r_29 h_30) (by kernel_rfl) calls_nil) 2 [10] [] ⟨[(10, .c (.val (.bool r_29)))], [], 2⟩ [((x_1 == (0 : Int)) && ((x_2 == (0 : Int)) && (ByteArray.toList x_3 == ByteArray.toList x_3))) = true, (!ahead_6) = true, (decide ((((ByteArray.size x_3) : Nat) : Int) ≤ (20000 : Int))) = true] (by kernel_rfl) rfl rfl (ap2 b_26 (ap2 b_27 (ap1 b_28))) (by kernel_rfl) (by kernel_rfl) ?_
          have H_68 := Option.some.inj (show some r_29 = some r from H_67); subst H_68
          refine VL_ret ?_
          exact P_to [(10, .c (.val (.bool r_29)))] [] [] hn (by kernel_rfl) (by kernel_rfl) rfl rfl rfl (QF_retS (by kernel_rfl) (by kernel_rfl) rfl)
        · have H_66 := of_f H_63 b_28
          refine V_reg hN hn [] [(47, true), (50, true), (60, false)] calls_nil 2 [10] [] ⟨[(10, .c (.val (.bool false)))], [], 2⟩ [((x_1 == (0 : Int)) && ((x_2 == (0 : Int)) && (ByteArray.toList x_3 == ByteArray.toList x_3))) = true, (!ahead_6) = true, (decide ((((ByteArray.size x_3) : Nat) : Int) ≤ (20000 : Int))) = false] (by kernel_rfl) rfl rfl (ap2 b_26 (ap2 b_27 (ap1 b_28))) (by kernel_rfl) (by kernel_rfl) ?_
          have H_69 := Option.some.inj (show some false = some r from H_66); subst H_69
          refine VL_ret ?_
          exact P_to [(10, .c (.val (.bool false)))] [] [] hn (by kernel_rfl) (by kernel_rfl) rfl rfl rfl (QF_retS (by kernel_rfl) (by kernel_rfl) rfl)
      · have H_64 := of_f H_61 b_27
        rcases Bool.eq_false_or_eq_true (copied_7) with b_33 | b_33
        · have H_70 := of_t H_64 b_33
          rcases Bool.eq_false_or_eq_true ((decide ((((ByteArray.size x_3) : Nat) : Int) ≤ (20000 : Int)))) with b_34 | b_34
          · have H_72 := of_t H_70 b_34
            obtain ⟨r_35, h_36, H_74⟩ := of_bind H_72
            refine V_reg hN hn [(19, ⟨27, 0, [.c (.val (.string x_3))], [], .c (.val (.bool r_35)), [], [], 2⟩)] [(47, true), (50, false), (54, true), (60, true)] (calls_cons (utf_Valid_spec K x_3 r_35 h_36) (by kernel_rfl) calls_nil) 2 [10] [] ⟨[(10, .c (.val (.bool r_35)))], [], 2⟩ [((x_1 == (0 : Int)) && ((x_2 == (0 : Int)) && (ByteArray.toList x_3 == ByteArray.toList x_3))) = true, (!ahead_6) = false, copied_7 = true, (decide ((((ByteArray.size x_3) : Nat) : Int) ≤ (20000 : Int))) = true] (by kernel_rfl) rfl rfl (ap2 b_26 (ap2 b_27 (ap2 b_33 (ap1 b_34)))) (by kernel_rfl) (by kernel_rfl) ?_
            have H_75 := Option.some.inj (show some r_35 = some r from H_74); subst H_75
            refine VL_ret ?_
            exact P_to [(10, .c (.val (.bool r_35)))] [] [] hn (by kernel_rfl) (by kernel_rfl) rfl rfl rfl (QF_retS (by kernel_rfl) (by kernel_rfl) rfl)
          · have H_73 := of_f H_70 b_34
            refine V_reg hN hn [] [(47, true), (50, false), (54, true), (60, false)] calls_nil 2 [10] [] ⟨[(10, .c (.val (.bool false)))], [], 2⟩ [((x_1 == (0 : Int)) && ((x_2 == (0 : Int)) && (ByteArray.toList x_3 == ByteArray.toList x_3))) = true, (!ahead_6) = false, copied_7 = true, (decide ((((ByteArray.size x_3) : Nat) : Int) ≤ (20000 : Int))) = false] (by kernel_rfl) rfl rfl (ap2 b_26 (ap2 b_27 (ap2 b_33 (ap1 b_34)))) (by kernel_rfl) (by kernel_rfl) ?_
            have H_76 := Option.some.inj (show some false = some r from H_73); subst H_76
            refine VL_ret ?_
            exact P_to [(10, .c (.val (.bool false)))] [] [] hn (by kernel_rfl) (by kernel_rfl) rfl rfl rfl (QF_retS (by kernel_rfl) (by kernel_rfl) rfl)
        · have H_71 := of_f H_64 b_33
          refine V_reg hN hn [] [(47, true), (50, false), (54, false)] calls_nil 2 [10] [] ⟨[(10, .c (.val (.bool false)))], [], 2⟩ [((x_1 == (0 : Int)) && ((x_2 == (0 : Int)) && (ByteArray.toList x_3 == ByteArray.toList x_3))) = true, (!ahead_6) = false, copied_7 = false] (by kernel_rfl) rfl rfl (ap2 b_26 (ap2 b_27 (ap1 b_33))) (by kernel_rfl) (by kernel_rfl) ?_
          have H_77 := Option.some.inj (show some false = some r from H_71); subst H_77
          refine VL_ret ?_
          exact P_to [(10, .c (.val (.bool false)))] [] [] hn (by kernel_rfl) (by kernel_rfl) rfl rfl rfl (QF_retS (by kernel_rfl) (by kernel_rfl) rfl)
    · have H_62 := of_f H_44 b_26
      refine V_reg hN hn [] [(47, false)] calls_nil 2 [10] [] ⟨[(10, .c (.val (.bool false)))], [], 2⟩ [((x_1 == (0 : Int)) && ((x_2 == (0 : Int)) && (ByteArray.toList x_3 == ByteArray.toList x_3))) = false] (by kernel_rfl) rfl rfl (ap1 b_26) (by kernel_rfl) (by kernel_rfl) ?_
      have H_78 := Option.some.inj (show some false = some r from H_62); subst H_78
      refine VL_ret ?_
      exact P_to [(10, .c (.val (.bool false)))] [] [] hn (by kernel_rfl) (by kernel_rfl) rfl rfl rfl (QF_retS (by kernel_rfl) (by kernel_rfl) rfl)

theorem delta_Is_spec (K : Nat) (d_1 : Int) (d_2 : (List (Int × (Int × ByteArray)))) (r : Bool) (H : delta_Is K d_1 d_2 = some r) : Spec Try.prog 32 0 [.agg [.val (.int .i64 d_1), .imm (.slice (.pair (.int .i64) (.pair (.int .i64) .str))) d_2]] [] (.c (.val (.bool r))) [] := by
  refine Spec_mk (fn := Try.f32) (c := (Try.f32.body).get!) Try.func32 (by kernel_rfl) rfl ?_
  intro C hN hn
  replace hN : C.N = 68 := hN
  unfold delta_Is at H
  refine V_run hN hn 4 0 [1] [0] ⟨[(1, .c (.h 0))], [(0, .box [.val (.int .i64 d_1), .imm (.slice (.pair (.int .i64) (.pair (.int .i64) .str))) d_2])], 1⟩ [] (by kernel_rfl) rfl rfl ap0 ?_
  obtain ⟨q_53, H_54, H_55⟩ := of_bind H
  refine V_cut (Y := Bool) (R := Bool) q_53 (fun y => y) (fun y => [(1, .c (.h 0)), (21, .c (.val (.bool y)))]) (fun y => [(0, .box [.val (.int .i64 d_1), .imm (.slice (.pair (.int .i64) (.pair (.int .i64) .str))) d_2])]) ?_ ?_
  · skip
    rcases Bool.eq_false_or_eq_true ((decide (d_1 < (0 : Int)))) with b_4 | b_4
    · have H_57 := of_t H_54 b_4
      refine V_reg hN hn [] [(11, true)] calls_nil 1 [1, 21] [0] ⟨[(1, .c (.h 0)), (21, .c (.val (.bool true)))], [(0, .box [.val (.int .i64 d_1), .imm (.slice (.pair (.int .i64) (.pair (.int .i64) .str))) d_2])], 1⟩ [(decide (d_1 < (0 : Int))) = true] (by kernel_rfl) rfl rfl (ap1 b_4) (by kernel_rfl) (by kernel_rfl) ?_
      have H_59 := Option.some.inj (show some true = some q_53 from H_57); subst H_59
      refine VL_nil ?_
      exact QP_end true rfl [(0, 0)] hn (by kernel_rfl) (by kernel_rfl) rfl rfl rfl
    · have H_58 := of_f H_54 b_4
      rcases Bool.eq_false_or_eq_true ((decide (d_1 > (20000 : Int)))) with b_6 | b_6
      · have H_60 := of_t H_58 b_6
        refine V_reg hN hn [] [(11, false), (16, true)] calls_nil 1 [1, 21] [0] ⟨[(1, .c (.h 0)), (21, .c (.val (.bool true)))], [(0, .box [.val (.int .i64 d_1), .imm (.slice (.pair (.int .i64) (.pair (.int .i64) .str))) d_2])], 1⟩ [(decide (d_1 < (0 : Int))) = false, (decide (d_1 > (20000 : Int))) = true] (by kernel_rfl) rfl rfl (ap2 b_4 (ap1 b_6)) (by kernel_rfl) (by kernel_rfl) ?_
        have H_62 := Option.some.inj (show some true = some q_53 from H_60); subst H_62
        refine VL_nil ?_
        exact QP_end true rfl [(0, 0)] hn (by kernel_rfl) (by kernel_rfl) rfl rfl rfl
      · have H_61 := of_f H_58 b_6
        refine V_reg hN hn [] [(11, false), (16, false)] calls_nil 1 [1, 21] [0] ⟨[(1, .c (.h 0)), (21, .c (.val (.bool (decide ((((List.length d_2) : Nat) : Int) > (60 : Int))))))], [(0, .box [.val (.int .i64 d_1), .imm (.slice (.pair (.int .i64) (.pair (.int .i64) .str))) d_2])], 1⟩ [(decide (d_1 < (0 : Int))) = false, (decide (d_1 > (20000 : Int))) = false] (by kernel_rfl) rfl rfl (ap2 b_4 (ap1 b_6)) (by kernel_rfl) (by kernel_rfl) ?_
        have H_63 := Option.some.inj (show some (decide ((((List.length d_2) : Nat) : Int) > (60 : Int))) = some q_53 from H_61); subst H_63
        refine VL_nil ?_
        exact QP_end (decide ((((List.length d_2) : Nat) : Int) > (60 : Int))) rfl [(0, 0)] hn (by kernel_rfl) (by kernel_rfl) rfl rfl rfl
  · intro y_56 hy; subst hy
    skip
    skip
    refine VL_cond (y_56) (by kernel_rfl) ?_ ?_
    · intro b_10; have H_64 := of_t H_55 b_10
      refine V_run hN hn 2 1 [2] [] ⟨[(2, .c (.val (.bool false)))], [], 1⟩ [] (by kernel_rfl) rfl rfl ap0 ?_
      have H_66 := Option.some.inj (show some false = some r from H_64); subst H_66
      refine VL_ret ?_
      exact P_to [(2, .c (.val (.bool false)))] [] [] hn (by kernel_rfl) (by kernel_rfl) rfl rfl rfl (QF_retS (by kernel_rfl) (by kernel_rfl) rfl)
    · intro b_10; have H_65 := of_f H_55 b_10
      refine V_run hN hn 6 1 [1, 3, 4, 23, 24, 25] [0] ⟨[(1, .c (.h 0)), (3, .c (.val (.int .i64 (0 : Int)))), (4, .c (.val (.int .i64 (0 : Int)))), (23, .c (.imm (.slice (.pair (.int .i64) (.pair (.int .i64) .str))) d_2)), (24, .c (.val (.int .i64 (((List.length d_2) : Nat) : Int)))), (25, .c (.val (.int .i64 (0 : Int))))], [(0, .box [.val (.int .i64 d_1), .imm (.slice (.pair (.int .i64) (.pair (.int .i64) .str))) d_2])], 1⟩ [] (by kernel_rfl) rfl rfl ap0 ?_
      refine VL_block ?_
      refine V_to [(1, .c (.h 0)), (3, .c (.val (.int .i64 (0 : Int)))), (4, .c (.val (.int .i64 (0 : Int)))), (23, .c (.imm (.slice (.pair (.int .i64) (.pair (.int .i64) .str))) d_2)), (24, .c (.val (.int .i64 (((List.length d_2) : Nat) : Int)))), (25, .c (.val (.int .i64 (0 : Int))))] [(0, .box [.val (.int .i64 d_1), .imm (.slice (.pair (.int .i64) (.pair (.int .i64) .str))) d_2])] [(0, 0)] hn (by kernel_rfl) (by kernel_rfl) rfl rfl rfl ?_
      refine VL_loop (X := (Int × Int × Int)) (fun x => [(1, .c (.h 0)), (3, .c (.val (.int .i64 x.1))), (4, .c (.val (.int .i64 x.2.1))), (23, .c (.imm (.slice (.pair (.int .i64) (.pair (.int .i64) .str))) d_2)), (24, .c (.val (.int .i64 (((List.length d_2) : Nat) : Int)))), (25, .c (.val (.int .i64 x.2.2)))]) (fun x => [(0, .box [.val (.int .i64 d_1), .imm (.slice (.pair (.int .i64) (.pair (.int .i64) .str))) d_2])]) (fun k x => delta_Is.l0 K d_2 d_1 k x.1 x.2.1 x.2.2 = some r) K ((0 : Int), (0 : Int), (0 : Int)) H_65 (fun _ h => no_none h) ?_
      intro k_16 x_16 H_67
      obtain ⟨size_13, to_14, t_15⟩ := x_16
      have H_68 : delta_Is.l0 K d_2 d_1 (k_16 + 1) size_13 to_14 t_15 = some r := H_67
      rw [delta_Is.l0] at H_68
      refine V_run hN hn 3 1 [1, 3, 4, 23, 24, 25, 26] [0] ⟨[(1, .c (.h 0)), (3, .c (.val (.int .i64 size_13))), (4, .c (.val (.int .i64 to_14))), (23, .c (.imm (.slice (.pair (.int .i64) (.pair (.int .i64) .str))) d_2)), (24, .c (.val (.int .i64 (((List.length d_2) : Nat) : Int)))), (25, .c (.val (.int .i64 t_15))), (26, .c (.val (.bool (decide (t_15 < (((List.length d_2) : Nat) : Int))))))], [(0, .box [.val (.int .i64 d_1), .imm (.slice (.pair (.int .i64) (.pair (.int .i64) .str))) d_2])], 1⟩ [] (by kernel_rfl) rfl rfl ap0 ?_
      refine VL_cond ((decide (t_15 < (((List.length d_2) : Nat) : Int)))) (by kernel_rfl) ?_ ?_
      · intro b_18; have H_69 := of_t H_68 b_18
        refine V_run hN hn 2 1 [1, 3, 4, 23, 24, 25, 26] [0] ⟨[(1, .c (.h 0)), (3, .c (.val (.int .i64 size_13))), (4, .c (.val (.int .i64 to_14))), (23, .c (.imm (.slice (.pair (.int .i64) (.pair (.int .i64) .str))) d_2)), (24, .c (.val (.int .i64 (((List.length d_2) : Nat) : Int)))), (25, .c (.val (.int .i64 t_15))), (26, .c (.val (.bool (decide (t_15 < (((List.length d_2) : Nat) : Int))))))], [(0, .box [.val (.int .i64 d_1), .imm (.slice (.pair (.int .i64) (.pair (.int .i64) .str))) d_2])], 1⟩ [] (by kernel_rfl) rfl rfl ap0 ?_
        refine VL_block ?_
        obtain ⟨c_20, H_71⟩ := of_if H_69
        refine V_run hN hn 3 1 [1, 3, 4, 5, 6, 23, 24, 25] [0, 1] ⟨[(1, .c (.h 0)), (3, .c (.val (.int .i64 size_13))), (4, .c (.val (.int .i64 to_14))), (5, .c (.val (.int .i64 t_15))), (6, .c (.h 1)), (23, .c (.imm (.slice (.pair (.int .i64) (.pair (.int .i64) .str))) d_2)), (24, .c (.val (.int .i64 (((List.length d_2) : Nat) : Int)))), (25, .c (.val (.int .i64 t_15)))], [(0, .box [.val (.int .i64 d_1), .imm (.slice (.pair (.int .i64) (.pair (.int .i64) .str))) d_2]), (1, .box [.val (.int .i64 (List.getD d_2 (Int.toNat t_15) ((0 : Int), ((0 : Int), ByteArray.empty))).1), .val (.int .i64 (List.getD d_2 (Int.toNat t_15) ((0 : Int), ((0 : Int), ByteArray.empty))).2.1), .val (.string (List.getD d_2 (Int.toNat t_15) ((0 : Int), ((0 : Int), ByteArray.empty))).2.2)])], 2⟩ [0 ≤ t_15, t_15 < (((List.length d_2) : Nat) : Int)] (by kernel_rfl) rfl rfl (ap2 c_20.1 (ap1 c_20.2)) ?_
        obtain ⟨q_72, H_73, H_74⟩ := of_bind H_71
        refine V_cut (Y := Bool) (R := Bool) q_72 (fun y => y) (fun y => [(1, .c (.h 0)), (3, .c (.val (.int .i64 size_13))), (4, .c (.val (.int .i64 to_14))), (5, .c (.val (.int .i64 t_15))), (6, .c (.h 1)), (7, .c (.val (.bool y))), (23, .c (.imm (.slice (.pair (.int .i64) (.pair (.int .i64) .str))) d_2)), (24, .c (.val (.int .i64 (((List.length d_2) : Nat) : Int)))), (25, .c (.val (.int .i64 t_15)))]) (fun y => [(0, .box [.val (.int .i64 d_1), .imm (.slice (.pair (.int .i64) (.pair (.int .i64) .str))) d_2]), (1, .box [.val (.int .i64 (List.getD d_2 (Int.toNat t_15) ((0 : Int), ((0 : Int), ByteArray.empty))).1), .val (.int .i64 (List.getD d_2 (Int.toNat t_15) ((0 : Int), ((0 : Int), ByteArray.empty))).2.1), .val (.string (List.getD d_2 (Int.toNat t_15) ((0 : Int), ((0 : Int), ByteArray.empty))).2.2)])]) ?_ ?_
        · skip
          rcases Bool.eq_false_or_eq_true ((decide (t_15 > (0 : Int)))) with b_21 | b_21
          · have H_76 := of_t H_73 b_21
            obtain ⟨r_22, h_23, H_78⟩ := of_bind H_76
            obtain ⟨c_24, H_79⟩ := of_if H_78
            refine V_reg hN hn [(9, ⟨49, 0, [.agg [.val (.int .i64 (List.getD d_2 (Int.toNat (IntKind.wrap .i64 (t_15 - (1 : Int)))) ((0 : Int), ((0 : Int), ByteArray.empty))).1), .val (.int .i64 (List.getD d_2 (Int.toNat (IntKind.wrap .i64 (t_15 - (1 : Int)))) ((0 : Int), ((0 : Int), ByteArray.empty))).2.1), .val (.string (List.getD d_2 (Int.toNat (IntKind.wrap .i64 (t_15 - (1 : Int)))) ((0 : Int), ((0 : Int), ByteArray.empty))).2.2)]], [], .c (.val (.bool r_22)), [], [], 2⟩)] [(32, true)] (calls_cons (delta_IsCopy_spec K (List.getD d_2 (Int.toNat (IntKind.wrap .i64 (t_15 - (1 : Int)))) ((0 : Int), ((0 : Int), ByteArray.empty))).1 (List.getD d_2 (Int.toNat (IntKind.wrap .i64 (t_15 - (1 : Int)))) ((0 : Int), ((0 : Int), ByteArray.empty))).2.1 (List.getD d_2 (Int.toNat (IntKind.wrap .i64 (t_15 - (1 : Int)))) ((0 : Int), ((0 : Int), ByteArray.empty))).2.2 r_22 h_23) (by kernel_rfl) calls_nil) 2 [1, 3, 4, 5, 6, 7, 23, 24, 25] [0, 1] ⟨[(1, .c (.h 0)), (3, .c (.val (.int .i64 size_13))), (4, .c (.val (.int .i64 to_14))), (5, .c (.val (.int .i64 t_15))), (6, .c (.h 1)), (7, .c (.val (.bool r_22))), (23, .c (.imm (.slice (.pair (.int .i64) (.pair (.int .i64) .str))) d_2)), (24, .c (.val (.int .i64 (((List.length d_2) : Nat) : Int)))), (25, .c (.val (.int .i64 t_15)))], [(0, .box [.val (.int .i64 d_1), .imm (.slice (.pair (.int .i64) (.pair (.int .i64) .str))) d_2]), (1, .box [.val (.int .i64 (List.getD d_2 (Int.toNat t_15) ((0 : Int), ((0 : Int), ByteArray.empty))).1), .val (.int .i64 (List.getD d_2 (Int.toNat t_15) ((0 : Int), ((0 : Int), ByteArray.empty))).2.1), .val (.string (List.getD d_2 (Int.toNat t_15) ((0 : Int), ((0 : Int), ByteArray.empty))).2.2)])], 2⟩ [(decide (t_15 > (0 : Int))) = true, 0 ≤ (IntKind.wrap .i64 (t_15 - (1 : Int))), (IntKind.wrap .i64 (t_15 - (1 : Int))) < (((List.length d_2) : Nat) : Int)] (by kernel_rfl) rfl rfl (ap2 b_21 (ap2 c_24.1 (ap1 c_24.2))) (by kernel_rfl) (by kernel_rfl) ?_
            have H_80 := Option.some.inj (show some r_22 = some q_72 from H_79); subst H_80
            refine VL_nil ?_
            exact QP_end r_22 rfl [(0, 0), (1, 1)] hn (by kernel_rfl) (by kernel_rfl) rfl rfl rfl
          · have H_77 := of_f H_73 b_21
            refine V_reg hN hn [] [(32, false)] calls_nil 2 [1, 3, 4, 5, 6, 7, 23, 24, 25] [0, 1] ⟨[(1, .c (.h 0)), (3, .c (.val (.int .i64 size_13))), (4, .c (.val (.int .i64 to_14))), (5, .c (.val (.int .i64 t_15))), (6, .c (.h 1)), (7, .c (.val (.bool false))), (23, .c (.imm (.slice (.pair (.int .i64) (.pair (.int .i64) .str))) d_2)), (24, .c (.val (.int .i64 (((List.length d_2) : Nat) : Int)))), (25, .c (.val (.int .i64 t_15)))], [(0, .box [.val (.int .i64 d_1), .imm (.slice (.pair (.int .i64) (.pair (.int .i64) .str))) d_2]), (1, .box [.val (.int .i64 (List.getD d_2 (Int.toNat t_15) ((0 : Int), ((0 : Int), ByteArray.empty))).1), .val (.int .i64 (List.getD d_2 (Int.toNat t_15) ((0 : Int), ((0 : Int), ByteArray.empty))).2.1), .val (.string (List.getD d_2 (Int.toNat t_15) ((0 : Int), ((0 : Int), ByteArray.empty))).2.2)])], 2⟩ [(decide (t_15 > (0 : Int))) = false] (by kernel_rfl) rfl rfl (ap1 b_21) (by kernel_rfl) (by kernel_rfl) ?_
            have H_81 := Option.some.inj (show some false = some q_72 from H_77); subst H_81
            refine VL_nil ?_
            exact QP_end false rfl [(0, 0), (1, 1)] hn (by kernel_rfl) (by kernel_rfl) rfl rfl rfl
        · intro y_75 hy; subst hy
          skip
          skip
          refine V_run hN hn 2 2 [1, 3, 4, 5, 6, 7, 23, 24, 25] [0, 1] ⟨[(1, .c (.h 0)), (3, .c (.val (.int .i64 size_13))), (4, .c (.val (.int .i64 to_14))), (5, .c (.val (.int .i64 t_15))), (6, .c (.h 1)), (7, .c (.val (.bool y_75))), (23, .c (.imm (.slice (.pair (.int .i64) (.pair (.int .i64) .str))) d_2)), (24, .c (.val (.int .i64 (((List.length d_2) : Nat) : Int)))), (25, .c (.val (.int .i64 t_15)))], [(0, .box [.val (.int .i64 d_1), .imm (.slice (.pair (.int .i64) (.pair (.int .i64) .str))) d_2]), (1, .box [.val (.int .i64 (List.getD d_2 (Int.toNat t_15) ((0 : Int), ((0 : Int), ByteArray.empty))).1), .val (.int .i64 (List.getD d_2 (Int.toNat t_15) ((0 : Int), ((0 : Int), ByteArray.empty))).2.1), .val (.string (List.getD d_2 (Int.toNat t_15) ((0 : Int), ((0 : Int), ByteArray.empty))).2.2)])], 2⟩ [] (by kernel_rfl) rfl rfl ap0 ?_
          obtain ⟨r_28, h_29, H_82⟩ := of_bind H_74
          refine V_reg hN hn [(7, ⟨50, 0, [.agg [.val (.int .i64 (List.getD d_2 (Int.toNat t_15) ((0 : Int), ((0 : Int), ByteArray.empty))).1), .val (.int .i64 (List.getD d_2 (Int.toNat t_15) ((0 : Int), ((0 : Int), ByteArray.empty))).2.1), .val (.string (List.getD d_2 (Int.toNat t_15) ((0 : Int), ((0 : Int), ByteArray.empty))).2.2)], .c (.val (.int .i64 d_1)), .c (.val (.int .i64 to_14)), .c (.val (.bool (decide (t_15 > (0 : Int))))), .c (.val (.bool y_75))], [], .c (.val (.bool r_28)), [], [], 2⟩)] [] (calls_cons (delta_elem_spec K (List.getD d_2 (Int.toNat t_15) ((0 : Int), ((0 : Int), ByteArray.empty))).1 (List.getD d_2 (Int.toNat t_15) ((0 : Int), ((0 : Int), ByteArray.empty))).2.1 (List.getD d_2 (Int.toNat t_15) ((0 : Int), ((0 : Int), ByteArray.empty))).2.2 d_1 to_14 (decide (t_15 > (0 : Int))) y_75 r_28 h_29) (by kernel_rfl) calls_nil) 2 [1, 3, 4, 6, 23, 24, 25, 49] [0, 1] ⟨[(1, .c (.h 0)), (3, .c (.val (.int .i64 size_13))), (4, .c (.val (.int .i64 to_14))), (6, .c (.h 1)), (23, .c (.imm (.slice (.pair (.int .i64) (.pair (.int .i64) .str))) d_2)), (24, .c (.val (.int .i64 (((List.length d_2) : Nat) : Int)))), (25, .c (.val (.int .i64 t_15))), (49, .c (.val (.bool (!r_28))))], [(0, .box [.val (.int .i64 d_1), .imm (.slice (.pair (.int .i64) (.pair (.int .i64) .str))) d_2]), (1, .box [.val (.int .i64 (List.getD d_2 (Int.toNat t_15) ((0 : Int), ((0 : Int), ByteArray.empty))).1), .val (.int .i64 (List.getD d_2 (Int.toNat t_15) ((0 : Int), ((0 : Int), ByteArray.empty))).2.1), .val (.string (List.getD d_2 (Int.toNat t_15) ((0 : Int), ((0 : Int), ByteArray.empty))).2.2)])], 2⟩ [] (by kernel_rfl) rfl rfl ap0 (by kernel_rfl) (by kernel_rfl) ?_
          refine VL_cond ((!r_28)) (by kernel_rfl) ?_ ?_
          · intro b_31; have H_83 := of_t H_82 b_31
            refine V_run hN hn 2 2 [2] [] ⟨[(2, .c (.val (.bool false)))], [], 2⟩ [] (by kernel_rfl) rfl rfl ap0 ?_
            have H_85 := Option.some.inj (show some false = some r from H_83); subst H_85
            refine VL_ret ?_
            refine QB_ret ?_
            refine QL_ret ?_
            refine QB_ret ?_
            exact P_to [(2, .c (.val (.bool false)))] [] [] hn (by kernel_rfl) (by kernel_rfl) rfl rfl rfl (QF_retS (by kernel_rfl) (by kernel_rfl) rfl)
          · intro b_31; have H_84 := of_f H_82 b_31
            refine V_run hN hn 3 2 [1, 3, 4, 6, 23, 24, 25, 49] [0, 1] ⟨[(1, .c (.h 0)), (3, .c (.val (.int .i64 size_13))), (4, .c (.val (.int .i64 to_14))), (6, .c (.h 1)), (23, .c (.imm (.slice (.pair (.int .i64) (.pair (.int .i64) .str))) d_2)), (24, .c (.val (.int .i64 (((List.length d_2) : Nat) : Int)))), (25, .c (.val (.int .i64 t_15))), (49, .c (.val (.bool (!r_28))))], [(0, .box [.val (.int .i64 d_1), .imm (.slice (.pair (.int .i64) (.pair (.int .i64) .str))) d_2]), (1, .box [.val (.int .i64 (List.getD d_2 (Int.toNat t_15) ((0 : Int), ((0 : Int), ByteArray.empty))).1), .val (.int .i64 (List.getD d_2 (Int.toNat t_15) ((0 : Int), ((0 : Int), ByteArray.empty))).2.1), .val (.string (List.getD d_2 (Int.toNat t_15) ((0 : Int), ((0 : Int), ByteArray.empty))).2.2)])], 2⟩ [] (by kernel_rfl) rfl rfl ap0 ?_
            obtain ⟨r_34, h_35, H_86⟩ := of_bind H_84
            refine V_reg hN hn [(1, ⟨49, 0, [.agg [.val (.int .i64 (List.getD d_2 (Int.toNat t_15) ((0 : Int), ((0 : Int), ByteArray.empty))).1), .val (.int .i64 (List.getD d_2 (Int.toNat t_15) ((0 : Int), ((0 : Int), ByteArray.empty))).2.1), .val (.string (List.getD d_2 (Int.toNat t_15) ((0 : Int), ((0 : Int), ByteArray.empty))).2.2)]], [], .c (.val (.bool r_34)), [], [], 2⟩)] [] (calls_cons (delta_IsCopy_spec K (List.getD d_2 (Int.toNat t_15) ((0 : Int), ((0 : Int), ByteArray.empty))).1 (List.getD d_2 (Int.toNat t_15) ((0 : Int), ((0 : Int), ByteArray.empty))).2.1 (List.getD d_2 (Int.toNat t_15) ((0 : Int), ((0 : Int), ByteArray.empty))).2.2 r_34 h_35) (by kernel_rfl) calls_nil) 2 [1, 3, 4, 6, 23, 24, 25, 51] [0, 1] ⟨[(1, .c (.h 0)), (3, .c (.val (.int .i64 size_13))), (4, .c (.val (.int .i64 to_14))), (6, .c (.h 1)), (23, .c (.imm (.slice (.pair (.int .i64) (.pair (.int .i64) .str))) d_2)), (24, .c (.val (.int .i64 (((List.length d_2) : Nat) : Int)))), (25, .c (.val (.int .i64 t_15))), (51, .c (.val (.bool r_34)))], [(0, .box [.val (.int .i64 d_1), .imm (.slice (.pair (.int .i64) (.pair (.int .i64) .str))) d_2]), (1, .box [.val (.int .i64 (List.getD d_2 (Int.toNat t_15) ((0 : Int), ((0 : Int), ByteArray.empty))).1), .val (.int .i64 (List.getD d_2 (Int.toNat t_15) ((0 : Int), ((0 : Int), ByteArray.empty))).2.1), .val (.string (List.getD d_2 (Int.toNat t_15) ((0 : Int), ((0 : Int), ByteArray.empty))).2.2)])], 2⟩ [] (by kernel_rfl) rfl rfl ap0 (by kernel_rfl) (by kernel_rfl) ?_
            obtain ⟨q_87, H_88, H_89⟩ := of_bind H_86
            refine V_cut (Y := Int) (R := Int) q_87 (fun y => y) (fun y => [(1, .c (.h 0)), (3, .c (.val (.int .i64 size_13))), (4, .c (.val (.int .i64 y))), (6, .c (.h 1)), (23, .c (.imm (.slice (.pair (.int .i64) (.pair (.int .i64) .str))) d_2)), (24, .c (.val (.int .i64 (((List.length d_2) : Nat) : Int)))), (25, .c (.val (.int .i64 t_15)))]) (fun y => [(0, .box [.val (.int .i64 d_1), .imm (.slice (.pair (.int .i64) (.pair (.int .i64) .str))) d_2]), (1, .box [.val (.int .i64 (List.getD d_2 (Int.toNat t_15) ((0 : Int), ((0 : Int), ByteArray.empty))).1), .val (.int .i64 (List.getD d_2 (Int.toNat t_15) ((0 : Int), ((0 : Int), ByteArray.empty))).2.1), .val (.string (List.getD d_2 (Int.toNat t_15) ((0 : Int), ((0 : Int), ByteArray.empty))).2.2)])]) ?_ ?_
            · skip
              refine VL_cond (r_34) (by kernel_rfl) ?_ ?_
              · intro b_37; have H_91 := of_t H_88 b_37
                refine V_run hN hn 1 2 [1, 3, 4, 6, 23, 24, 25] [0, 1] ⟨[(1, .c (.h 0)), (3, .c (.val (.int .i64 size_13))), (4, .c (.val (.int .i64 (List.getD d_2 (Int.toNat t_15) ((0 : Int), ((0 : Int), ByteArray.empty))).2.1))), (6, .c (.h 1)), (23, .c (.imm (.slice (.pair (.int .i64) (.pair (.int .i64) .str))) d_2)), (24, .c (.val (.int .i64 (((List.length d_2) : Nat) : Int)))), (25, .c (.val (.int .i64 t_15)))], [(0, .box [.val (.int .i64 d_1), .imm (.slice (.pair (.int .i64) (.pair (.int .i64) .str))) d_2]), (1, .box [.val (.int .i64 (List.getD d_2 (Int.toNat t_15) ((0 : Int), ((0 : Int), ByteArray.empty))).1), .val (.int .i64 (List.getD d_2 (Int.toNat t_15) ((0 : Int), ((0 : Int), ByteArray.empty))).2.1), .val (.string (List.getD d_2 (Int.toNat t_15) ((0 : Int), ((0 : Int), ByteArray.empty))).2.2)])], 2⟩ [] (by kernel_rfl) rfl rfl ap0 ?_
                have H_93 := Option.some.inj (show some (List.getD d_2 (Int.toNat t_15) ((0 : Int), ((0 : Int), ByteArray.empty))).2.1 = some q_87 from H_91); subst H_93
                refine VL_nil ?_
                exact QP_end (List.getD d_2 (Int.toNat t_15) ((0 : Int), ((0 : Int), ByteArray.empty))).2.1 rfl [(0, 0), (1, 1)] hn (by kernel_rfl) (by kernel_rfl) rfl rfl rfl
              · intro b_37; have H_92 := of_f H_88 b_37
                refine V_run hN hn 1 2 [1, 3, 4, 6, 23, 24, 25, 51] [0, 1] ⟨[(1, .c (.h 0)), (3, .c (.val (.int .i64 size_13))), (4, .c (.val (.int .i64 to_14))), (6, .c (.h 1)), (23, .c (.imm (.slice (.pair (.int .i64) (.pair (.int .i64) .str))) d_2)), (24, .c (.val (.int .i64 (((List.length d_2) : Nat) : Int)))), (25, .c (.val (.int .i64 t_15))), (51, .c (.val (.bool r_34)))], [(0, .box [.val (.int .i64 d_1), .imm (.slice (.pair (.int .i64) (.pair (.int .i64) .str))) d_2]), (1, .box [.val (.int .i64 (List.getD d_2 (Int.toNat t_15) ((0 : Int), ((0 : Int), ByteArray.empty))).1), .val (.int .i64 (List.getD d_2 (Int.toNat t_15) ((0 : Int), ((0 : Int), ByteArray.empty))).2.1), .val (.string (List.getD d_2 (Int.toNat t_15) ((0 : Int), ((0 : Int), ByteArray.empty))).2.2)])], 2⟩ [] (by kernel_rfl) rfl rfl ap0 ?_
                have H_94 := Option.some.inj (show some to_14 = some q_87 from H_92); subst H_94
                refine VL_nil ?_
                exact QP_end to_14 rfl [(0, 0), (1, 1)] hn (by kernel_rfl) (by kernel_rfl) rfl rfl rfl
            · intro y_90 hy; subst hy
              skip
              skip
              refine V_run hN hn 4 2 [1, 3, 4, 23, 24, 25, 66] [0] ⟨[(1, .c (.h 0)), (3, .c (.val (.int .i64 (IntKind.wrap .i64 (size_13 + (IntKind.wrap .i64 ((IntKind.wrap .i64 ((List.getD d_2 (Int.toNat t_15) ((0 : Int), ((0 : Int), ByteArray.empty))).2.1 - (List.getD d_2 (Int.toNat t_15) ((0 : Int), ((0 : Int), ByteArray.empty))).1)) + (((ByteArray.size (List.getD d_2 (Int.toNat t_15) ((0 : Int), ((0 : Int), ByteArray.empty))).2.2) : Nat) : Int)))))))), (4, .c (.val (.int .i64 y_90))), (23, .c (.imm (.slice (.pair (.int .i64) (.pair (.int .i64) .str))) d_2)), (24, .c (.val (.int .i64 (((List.length d_2) : Nat) : Int)))), (25, .c (.val (.int .i64 t_15))), (66, .c (.val (.bool (decide ((IntKind.wrap .i64 (size_13 + (IntKind.wrap .i64 ((IntKind.wrap .i64 ((List.getD d_2 (Int.toNat t_15) ((0 : Int), ((0 : Int), ByteArray.empty))).2.1 - (List.getD d_2 (Int.toNat t_15) ((0 : Int), ((0 : Int), ByteArray.empty))).1)) + (((ByteArray.size (List.getD d_2 (Int.toNat t_15) ((0 : Int), ((0 : Int), ByteArray.empty))).2.2) : Nat) : Int))))) > (20000 : Int))))))], [(0, .box [.val (.int .i64 d_1), .imm (.slice (.pair (.int .i64) (.pair (.int .i64) .str))) d_2])], 2⟩ [] (by kernel_rfl) rfl rfl ap0 ?_
              refine VL_cond ((decide ((IntKind.wrap .i64 (size_13 + (IntKind.wrap .i64 ((IntKind.wrap .i64 ((List.getD d_2 (Int.toNat t_15) ((0 : Int), ((0 : Int), ByteArray.empty))).2.1 - (List.getD d_2 (Int.toNat t_15) ((0 : Int), ((0 : Int), ByteArray.empty))).1)) + (((ByteArray.size (List.getD d_2 (Int.toNat t_15) ((0 : Int), ((0 : Int), ByteArray.empty))).2.2) : Nat) : Int))))) > (20000 : Int)))) (by kernel_rfl) ?_ ?_
              · intro b_42; have H_95 := of_t H_89 b_42
                refine V_run hN hn 2 2 [2] [] ⟨[(2, .c (.val (.bool false)))], [], 2⟩ [] (by kernel_rfl) rfl rfl ap0 ?_
                have H_97 := Option.some.inj (show some false = some r from H_95); subst H_97
                refine VL_ret ?_
                refine QB_ret ?_
                refine QL_ret ?_
                refine QB_ret ?_
                exact P_to [(2, .c (.val (.bool false)))] [] [] hn (by kernel_rfl) (by kernel_rfl) rfl rfl rfl (QF_retS (by kernel_rfl) (by kernel_rfl) rfl)
              · intro b_42; have H_96 := of_f H_89 b_42
                refine V_run hN hn 1 2 [1, 3, 4, 23, 24, 25, 66] [0] ⟨[(1, .c (.h 0)), (3, .c (.val (.int .i64 (IntKind.wrap .i64 (size_13 + (IntKind.wrap .i64 ((IntKind.wrap .i64 ((List.getD d_2 (Int.toNat t_15) ((0 : Int), ((0 : Int), ByteArray.empty))).2.1 - (List.getD d_2 (Int.toNat t_15) ((0 : Int), ((0 : Int), ByteArray.empty))).1)) + (((ByteArray.size (List.getD d_2 (Int.toNat t_15) ((0 : Int), ((0 : Int), ByteArray.empty))).2.2) : Nat) : Int)))))))), (4, .c (.val (.int .i64 y_90))), (23, .c (.imm (.slice (.pair (.int .i64) (.pair (.int .i64) .str))) d_2)), (24, .c (.val (.int .i64 (((List.length d_2) : Nat) : Int)))), (25, .c (.val (.int .i64 t_15))), (66, .c (.val (.bool (decide ((IntKind.wrap .i64 (size_13 + (IntKind.wrap .i64 ((IntKind.wrap .i64 ((List.getD d_2 (Int.toNat t_15) ((0 : Int), ((0 : Int), ByteArray.empty))).2.1 - (List.getD d_2 (Int.toNat t_15) ((0 : Int), ((0 : Int), ByteArray.empty))).1)) + (((ByteArray.size (List.getD d_2 (Int.toNat t_15) ((0 : Int), ((0 : Int), ByteArray.empty))).2.2) : Nat) : Int))))) > (20000 : Int))))))], [(0, .box [.val (.int .i64 d_1), .imm (.slice (.pair (.int .i64) (.pair (.int .i64) .str))) d_2])], 2⟩ [] (by kernel_rfl) rfl rfl ap0 ?_
                refine VL_nil (QB_end ?_)
                refine V_run hN hn 1 2 [1, 3, 4, 23, 24, 25] [0] ⟨[(1, .c (.h 0)), (3, .c (.val (.int .i64 (IntKind.wrap .i64 (size_13 + (IntKind.wrap .i64 ((IntKind.wrap .i64 ((List.getD d_2 (Int.toNat t_15) ((0 : Int), ((0 : Int), ByteArray.empty))).2.1 - (List.getD d_2 (Int.toNat t_15) ((0 : Int), ((0 : Int), ByteArray.empty))).1)) + (((ByteArray.size (List.getD d_2 (Int.toNat t_15) ((0 : Int), ((0 : Int), ByteArray.empty))).2.2) : Nat) : Int)))))))), (4, .c (.val (.int .i64 y_90))), (23, .c (.imm (.slice (.pair (.int .i64) (.pair (.int .i64) .str))) d_2)), (24, .c (.val (.int .i64 (((List.length d_2) : Nat) : Int)))), (25, .c (.val (.int .i64 (IntKind.wrap .i64 (t_15 + (1 : Int))))))], [(0, .box [.val (.int .i64 d_1), .imm (.slice (.pair (.int .i64) (.pair (.int .i64) .str))) d_2])], 2⟩ [] (by kernel_rfl) rfl rfl ap0 ?_
                refine VL_nil ?_
                exact V_roundEnd ((IntKind.wrap .i64 (size_13 + (IntKind.wrap .i64 ((IntKind.wrap .i64 ((List.getD d_2 (Int.toNat t_15) ((0 : Int), ((0 : Int), ByteArray.empty))).2.1 - (List.getD d_2 (Int.toNat t_15) ((0 : Int), ((0 : Int), ByteArray.empty))).1)) + (((ByteArray.size (List.getD d_2 (Int.toNat t_15) ((0 : Int), ((0 : Int), ByteArray.empty))).2.2) : Nat) : Int))))), y_90, (IntKind.wrap .i64 (t_15 + (1 : Int)))) H_96 [(0, 0)] hn (by kernel_rfl) (by kernel_rfl) rfl rfl rfl
      · intro b_18; have H_70 := of_f H_68 b_18
        refine VL_exit ?_
        refine QL_exit ?_
        refine QB_here ?_
        refine V_run hN hn 2 1 [2] [] ⟨[(2, .c (.val (.bool true)))], [], 1⟩ [] (by kernel_rfl) rfl rfl ap0 ?_
        have H_98 := Option.some.inj (show some true = some r from H_70); subst H_98
        refine VL_ret ?_
        exact P_to [(2, .c (.val (.bool true)))] [] [] hn (by kernel_rfl) (by kernel_rfl) rfl rfl rfl (QF_retS (by kernel_rfl) (by kernel_rfl) rfl)

theorem delta_sums_spec (K : Nat) (d_1 : Int) (d_2 : (List (Int × (Int × ByteArray)))) (r : (Int × Int)) (H : delta_sums K d_1 d_2 = some r) : Spec Try.prog 51 0 [.agg [.val (.int .i64 d_1), .imm (.slice (.pair (.int .i64) (.pair (.int .i64) .str))) d_2]] [] (.tup [(false, [.val (.int .i64 r.1)]), (false, [.val (.int .i64 r.2)])]) [] := by
  refine Spec_mk (fn := Try.f51) (c := (Try.f51.body).get!) Try.func51 (by kernel_rfl) rfl ?_
  intro C hN hn
  replace hN : C.N = 33 := hN
  unfold delta_sums at H
  refine V_run hN hn 6 0 [1, 4, 5] [0] ⟨[(1, .c (.h 0)), (4, .c (.val (.int .i64 (0 : Int)))), (5, .c (.val (.int .i64 (0 : Int))))], [(0, .box [.val (.int .i64 d_1), .imm (.slice (.pair (.int .i64) (.pair (.int .i64) .str))) d_2])], 1⟩ [] (by kernel_rfl) rfl rfl ap0 ?_
  obtain ⟨r_4, h_5, H_22⟩ := of_bind H
  refine V_reg hN hn [(1, ⟨32, 0, [.agg [.val (.int .i64 d_1), .imm (.slice (.pair (.int .i64) (.pair (.int .i64) .str))) d_2]], [], .c (.val (.bool r_4)), [], [], 1⟩)] [] (calls_cons (delta_Is_spec K d_1 d_2 r_4 h_5) (by kernel_rfl) calls_nil) 1 [1, 4, 5, 10] [0] ⟨[(1, .c (.h 0)), (4, .c (.val (.int .i64 (0 : Int)))), (5, .c (.val (.int .i64 (0 : Int)))), (10, .c (.val (.bool (!r_4))))], [(0, .box [.val (.int .i64 d_1), .imm (.slice (.pair (.int .i64) (.pair (.int .i64) .str))) d_2])], 1⟩ [] (by kernel_rfl) rfl rfl ap0 (by kernel_rfl) (by kernel_rfl) ?_
  refine VL_cond ((!r_4)) (by kernel_rfl) ?_ ?_
  · intro b_7; have H_23 := of_t H_22 b_7
    refine V_run hN hn 2 1 [2, 3] [] ⟨[(2, .c (.val (.int .i64 (0 : Int)))), (3, .c (.val (.int .i64 (0 : Int))))], [], 1⟩ [] (by kernel_rfl) rfl rfl ap0 ?_
    have H_25 := Option.some.inj (show some ((0 : Int), (0 : Int)) = some r from H_23); subst H_25
    refine VL_ret ?_
    exact P_to [(2, .c (.val (.int .i64 (0 : Int)))), (3, .c (.val (.int .i64 (0 : Int))))] [] [] hn (by kernel_rfl) (by kernel_rfl) rfl rfl rfl (QF_retS (by kernel_rfl) (by kernel_rfl) rfl)
  · intro b_7; have H_24 := of_f H_22 b_7
    refine V_run hN hn 4 1 [4, 5, 12, 13, 14] [] ⟨[(4, .c (.val (.int .i64 (0 : Int)))), (5, .c (.val (.int .i64 (0 : Int)))), (12, .c (.imm (.slice (.pair (.int .i64) (.pair (.int .i64) .str))) d_2)), (13, .c (.val (.int .i64 (((List.length d_2) : Nat) : Int)))), (14, .c (.val (.int .i64 (0 : Int))))], [], 1⟩ [] (by kernel_rfl) rfl rfl ap0 ?_
    refine VL_block ?_
    refine V_to [(4, .c (.val (.int .i64 (0 : Int)))), (5, .c (.val (.int .i64 (0 : Int)))), (12, .c (.imm (.slice (.pair (.int .i64) (.pair (.int .i64) .str))) d_2)), (13, .c (.val (.int .i64 (((List.length d_2) : Nat) : Int)))), (14, .c (.val (.int .i64 (0 : Int))))] [] [] hn (by kernel_rfl) (by kernel_rfl) rfl rfl rfl ?_
    refine VL_loop (X := (Int × Int × Int)) (fun x => [(4, .c (.val (.int .i64 x.1))), (5, .c (.val (.int .i64 x.2.1))), (12, .c (.imm (.slice (.pair (.int .i64) (.pair (.int .i64) .str))) d_2)), (13, .c (.val (.int .i64 (((List.length d_2) : Nat) : Int)))), (14, .c (.val (.int .i64 x.2.2)))]) (fun x => []) (fun k x => delta_sums.l0 K d_2 k x.1 x.2.1 x.2.2 = some r) K ((0 : Int), (0 : Int), (0 : Int)) H_24 (fun _ h => no_none h) ?_
    intro k_13 x_13 H_26
    obtain ⟨kept_10, put_11, t_12⟩ := x_13
    have H_27 : delta_sums.l0 K d_2 (k_13 + 1) kept_10 put_11 t_12 = some r := H_26
    rw [delta_sums.l0] at H_27
    refine V_run hN hn 3 1 [4, 5, 12, 13, 14, 15] [] ⟨[(4, .c (.val (.int .i64 kept_10))), (5, .c (.val (.int .i64 put_11))), (12, .c (.imm (.slice (.pair (.int .i64) (.pair (.int .i64) .str))) d_2)), (13, .c (.val (.int .i64 (((List.length d_2) : Nat) : Int)))), (14, .c (.val (.int .i64 t_12))), (15, .c (.val (.bool (decide (t_12 < (((List.length d_2) : Nat) : Int))))))], [], 1⟩ [] (by kernel_rfl) rfl rfl ap0 ?_
    refine VL_cond ((decide (t_12 < (((List.length d_2) : Nat) : Int)))) (by kernel_rfl) ?_ ?_
    · intro b_15; have H_28 := of_t H_27 b_15
      refine V_run hN hn 2 1 [4, 5, 12, 13, 14, 15] [] ⟨[(4, .c (.val (.int .i64 kept_10))), (5, .c (.val (.int .i64 put_11))), (12, .c (.imm (.slice (.pair (.int .i64) (.pair (.int .i64) .str))) d_2)), (13, .c (.val (.int .i64 (((List.length d_2) : Nat) : Int)))), (14, .c (.val (.int .i64 t_12))), (15, .c (.val (.bool (decide (t_12 < (((List.length d_2) : Nat) : Int))))))], [], 1⟩ [] (by kernel_rfl) rfl rfl ap0 ?_
      refine VL_block ?_
      obtain ⟨c_17, H_30⟩ := of_if H_28
      refine V_run hN hn 5 1 [4, 5, 12, 13, 14] [] ⟨[(4, .c (.val (.int .i64 (IntKind.wrap .i64 (kept_10 + (IntKind.wrap .i64 ((List.getD d_2 (Int.toNat t_12) ((0 : Int), ((0 : Int), ByteArray.empty))).2.1 - (List.getD d_2 (Int.toNat t_12) ((0 : Int), ((0 : Int), ByteArray.empty))).1))))))), (5, .c (.val (.int .i64 (IntKind.wrap .i64 (put_11 + (((ByteArray.size (List.getD d_2 (Int.toNat t_12) ((0 : Int), ((0 : Int), ByteArray.empty))).2.2) : Nat) : Int)))))), (12, .c (.imm (.slice (.pair (.int .i64) (.pair (.int .i64) .str))) d_2)), (13, .c (.val (.int .i64 (((List.length d_2) : Nat) : Int)))), (14, .c (.val (.int .i64 t_12)))], [], 2⟩ [0 ≤ t_12, t_12 < (((List.length d_2) : Nat) : Int)] (by kernel_rfl) rfl rfl (ap2 c_17.1 (ap1 c_17.2)) ?_
      refine VL_nil (QB_end ?_)
      refine V_run hN hn 1 2 [4, 5, 12, 13, 14] [] ⟨[(4, .c (.val (.int .i64 (IntKind.wrap .i64 (kept_10 + (IntKind.wrap .i64 ((List.getD d_2 (Int.toNat t_12) ((0 : Int), ((0 : Int), ByteArray.empty))).2.1 - (List.getD d_2 (Int.toNat t_12) ((0 : Int), ((0 : Int), ByteArray.empty))).1))))))), (5, .c (.val (.int .i64 (IntKind.wrap .i64 (put_11 + (((ByteArray.size (List.getD d_2 (Int.toNat t_12) ((0 : Int), ((0 : Int), ByteArray.empty))).2.2) : Nat) : Int)))))), (12, .c (.imm (.slice (.pair (.int .i64) (.pair (.int .i64) .str))) d_2)), (13, .c (.val (.int .i64 (((List.length d_2) : Nat) : Int)))), (14, .c (.val (.int .i64 (IntKind.wrap .i64 (t_12 + (1 : Int))))))], [], 2⟩ [] (by kernel_rfl) rfl rfl ap0 ?_
      refine VL_nil ?_
      exact V_roundEnd ((IntKind.wrap .i64 (kept_10 + (IntKind.wrap .i64 ((List.getD d_2 (Int.toNat t_12) ((0 : Int), ((0 : Int), ByteArray.empty))).2.1 - (List.getD d_2 (Int.toNat t_12) ((0 : Int), ((0 : Int), ByteArray.empty))).1)))), (IntKind.wrap .i64 (put_11 + (((ByteArray.size (List.getD d_2 (Int.toNat t_12) ((0 : Int), ((0 : Int), ByteArray.empty))).2.2) : Nat) : Int))), (IntKind.wrap .i64 (t_12 + (1 : Int)))) H_30 [] hn (by kernel_rfl) (by kernel_rfl) rfl rfl rfl
    · intro b_15; have H_29 := of_f H_27 b_15
      refine VL_exit ?_
      refine QL_exit ?_
      refine QB_here ?_
      refine V_run hN hn 2 1 [2, 3] [] ⟨[(2, .c (.val (.int .i64 kept_10))), (3, .c (.val (.int .i64 put_11)))], [], 1⟩ [] (by kernel_rfl) rfl rfl ap0 ?_
      have H_31 := Option.some.inj (show some (kept_10, put_11) = some r from H_29); subst H_31
      refine VL_ret ?_
      exact P_to [(2, .c (.val (.int .i64 kept_10))), (3, .c (.val (.int .i64 put_11)))] [] [] hn (by kernel_rfl) (by kernel_rfl) rfl rfl rfl (QF_retS (by kernel_rfl) (by kernel_rfl) rfl)

theorem delta_Size_spec (K : Nat) (d_1 : Int) (d_2 : (List (Int × (Int × ByteArray)))) (r : Int) (H : delta_Size K d_1 d_2 = some r) : Spec Try.prog 33 0 [.agg [.val (.int .i64 d_1), .imm (.slice (.pair (.int .i64) (.pair (.int .i64) .str))) d_2]] [] (.c (.val (.int .i64 r))) [] := by
  refine Spec_mk (fn := Try.f33) (c := (Try.f33.body).get!) Try.func33 (by kernel_rfl) rfl ?_
  intro C hN hn
  replace hN : C.N = 13 := hN
  unfold delta_Size at H
  refine V_run hN hn 3 0 [1] [0] ⟨[(1, .c (.h 0))], [(0, .box [.val (.int .i64 d_1), .imm (.slice (.pair (.int .i64) (.pair (.int .i64) .str))) d_2])], 1⟩ [] (by kernel_rfl) rfl rfl ap0 ?_
  obtain ⟨r_4, h_5, H_9⟩ := of_bind H
  refine V_reg hN hn [(1, ⟨51, 0, [.agg [.val (.int .i64 d_1), .imm (.slice (.pair (.int .i64) (.pair (.int .i64) .str))) d_2]], [], .tup [(false, [.val (.int .i64 r_4.1)]), (false, [.val (.int .i64 r_4.2)])], [], [], 1⟩)] [] (calls_cons (delta_sums_spec K d_1 d_2 r_4 h_5) (by kernel_rfl) calls_nil) 1 [3, 4] [] ⟨[(3, .c (.val (.int .i64 r_4.1))), (4, .c (.val (.int .i64 r_4.2)))], [], 1⟩ [] (by kernel_rfl) rfl rfl ap0 (by kernel_rfl) (by kernel_rfl) ?_
  refine V_run hN hn 2 1 [2] [] ⟨[(2, .c (.val (.int .i64 (IntKind.wrap .i64 (r_4.1 + r_4.2)))))], [], 1⟩ [] (by kernel_rfl) rfl rfl ap0 ?_
  have H_10 := Option.some.inj (show some (IntKind.wrap .i64 (r_4.1 + r_4.2)) = some r from H_9); subst H_10
  refine VL_ret ?_
  exact P_to [(2, .c (.val (.int .i64 (IntKind.wrap .i64 (r_4.1 + r_4.2)))))] [] [] hn (by kernel_rfl) (by kernel_rfl) rfl rfl rfl (QF_retS (by kernel_rfl) (by kernel_rfl) rfl)

theorem offset_Move_spec (K : Nat) (d_1 : Int) (d_2 : (List (Int × (Int × ByteArray)))) (at_3 : Int) (after_4 : Bool) (r : Int) (H : offset_Move K d_1 d_2 at_3 after_4 = some r) : Spec Try.prog 34 0 [.agg [.val (.int .i64 d_1), .imm (.slice (.pair (.int .i64) (.pair (.int .i64) .str))) d_2], .c (.val (.int .i64 at_3)), .c (.val (.bool after_4))] [] (.c (.val (.int .i64 r))) [] := by
  refine Spec_mk (fn := Try.f34) (c := (Try.f34.body).get!) Try.func34 (by kernel_rfl) rfl ?_
  intro C hN hn
  replace hN : C.N = 61 := hN
  unfold offset_Move at H
  refine V_run hN hn 2 0 [1, 2, 3] [0] ⟨[(1, .c (.val (.int .i64 at_3))), (2, .c (.val (.bool after_4))), (3, .c (.h 0))], [(0, .box [.val (.int .i64 d_1), .imm (.slice (.pair (.int .i64) (.pair (.int .i64) .str))) d_2])], 1⟩ [] (by kernel_rfl) rfl rfl ap0 ?_
  refine VL_scope ?_
  refine V_run hN hn 2 1 [1, 2, 3] [0] ⟨[(1, .c (.val (.int .i64 at_3))), (2, .c (.val (.bool after_4))), (3, .c (.h 0))], [(0, .box [.val (.int .i64 d_1), .imm (.slice (.pair (.int .i64) (.pair (.int .i64) .str))) d_2])], 1⟩ [] (by kernel_rfl) rfl rfl ap0 ?_
  obtain ⟨r_7, h_8, H_43⟩ := of_bind H
  refine V_reg hN hn [(1, ⟨32, 0, [.agg [.val (.int .i64 d_1), .imm (.slice (.pair (.int .i64) (.pair (.int .i64) .str))) d_2]], [], .c (.val (.bool r_7)), [], [], 1⟩)] [] (calls_cons (delta_Is_spec K d_1 d_2 r_7 h_8) (by kernel_rfl) calls_nil) 1 [1, 2, 3, 13] [0] ⟨[(1, .c (.val (.int .i64 at_3))), (2, .c (.val (.bool after_4))), (3, .c (.h 0)), (13, .c (.val (.bool (!r_7))))], [(0, .box [.val (.int .i64 d_1), .imm (.slice (.pair (.int .i64) (.pair (.int .i64) .str))) d_2])], 1⟩ [] (by kernel_rfl) rfl rfl ap0 (by kernel_rfl) (by kernel_rfl) ?_
  refine VL_cond ((!r_7)) (by kernel_rfl) ?_ ?_
  · intro b_10; have H_44 := of_t H_43 b_10
    refine V_run hN hn 2 1 [6] [] ⟨[(6, .c (.val (.int .i64 (0 : Int))))], [], 1⟩ [] (by kernel_rfl) rfl rfl ap0 ?_
    have H_46 := Option.some.inj (show some (0 : Int) = some r from H_44); subst H_46
    refine VL_ret ?_
    refine QG_ret ?_
    exact P_to [(6, .c (.val (.int .i64 (0 : Int))))] [] [] hn (by kernel_rfl) (by kernel_rfl) rfl rfl rfl (QF_retS (by kernel_rfl) (by kernel_rfl) rfl)
  · intro b_10; have H_45 := of_f H_43 b_10
    refine V_run hN hn 6 1 [1, 2, 3, 7, 8] [0] ⟨[(1, .c (.val (.int .i64 (mn2 (mx2 at_3 (0 : Int)) d_1)))), (2, .c (.val (.bool after_4))), (3, .c (.h 0)), (7, .c (.val (.int .i64 (0 : Int)))), (8, .c (.val (.int .i64 (0 : Int))))], [(0, .box [.val (.int .i64 d_1), .imm (.slice (.pair (.int .i64) (.pair (.int .i64) .str))) d_2])], 1⟩ [] (by kernel_rfl) rfl rfl ap0 ?_
    refine VL_label ?_
    refine V_run hN hn 3 1 [1, 2, 7, 8, 20, 21, 22] [] ⟨[(1, .c (.val (.int .i64 (mn2 (mx2 at_3 (0 : Int)) d_1)))), (2, .c (.val (.bool after_4))), (7, .c (.val (.int .i64 (0 : Int)))), (8, .c (.val (.int .i64 (0 : Int)))), (20, .c (.imm (.slice (.pair (.int .i64) (.pair (.int .i64) .str))) d_2)), (21, .c (.val (.int .i64 (((List.length d_2) : Nat) : Int)))), (22, .c (.val (.int .i64 (0 : Int))))], [], 1⟩ [] (by kernel_rfl) rfl rfl ap0 ?_
    obtain ⟨q_47, H_48, H_49⟩ := of_bind H_45
    refine V_cut (Y := (Int × Int)) (R := (Int × Int)) q_47 (fun y => y) (fun y => [(2, .c (.val (.bool after_4))), (7, .c (.val (.int .i64 y.1))), (8, .c (.val (.int .i64 y.2)))]) (fun y => []) ?_ ?_
    · skip
      refine VL_block ?_
      refine V_to [(1, .c (.val (.int .i64 (mn2 (mx2 at_3 (0 : Int)) d_1)))), (2, .c (.val (.bool after_4))), (7, .c (.val (.int .i64 (0 : Int)))), (8, .c (.val (.int .i64 (0 : Int)))), (20, .c (.imm (.slice (.pair (.int .i64) (.pair (.int .i64) .str))) d_2)), (21, .c (.val (.int .i64 (((List.length d_2) : Nat) : Int)))), (22, .c (.val (.int .i64 (0 : Int))))] [] [] hn (by kernel_rfl) (by kernel_rfl) rfl rfl rfl ?_
      refine VL_loop (X := (Int × Int × Int)) (fun x => [(1, .c (.val (.int .i64 (mn2 (mx2 at_3 (0 : Int)) d_1)))), (2, .c (.val (.bool after_4))), (7, .c (.val (.int .i64 x.1))), (8, .c (.val (.int .i64 x.2.1))), (20, .c (.imm (.slice (.pair (.int .i64) (.pair (.int .i64) .str))) d_2)), (21, .c (.val (.int .i64 (((List.length d_2) : Nat) : Int)))), (22, .c (.val (.int .i64 x.2.2)))]) (fun x => []) (fun k x => offset_Move.l0 K d_2 at_3 d_1 k x.1 x.2.1 x.2.2 = some q_47) K ((0 : Int), (0 : Int), (0 : Int)) H_48 (fun _ h => no_none h) ?_
      intro k_17 x_17 H_51
      obtain ⟨n_14, waits_15, t_16⟩ := x_17
      have H_52 : offset_Move.l0 K d_2 at_3 d_1 (k_17 + 1) n_14 waits_15 t_16 = some q_47 := H_51
      rw [offset_Move.l0] at H_52
      refine V_run hN hn 3 1 [1, 2, 7, 8, 20, 21, 22, 23] [] ⟨[(1, .c (.val (.int .i64 (mn2 (mx2 at_3 (0 : Int)) d_1)))), (2, .c (.val (.bool after_4))), (7, .c (.val (.int .i64 n_14))), (8, .c (.val (.int .i64 waits_15))), (20, .c (.imm (.slice (.pair (.int .i64) (.pair (.int .i64) .str))) d_2)), (21, .c (.val (.int .i64 (((List.length d_2) : Nat) : Int)))), (22, .c (.val (.int .i64 t_16))), (23, .c (.val (.bool (decide (t_16 < (((List.length d_2) : Nat) : Int))))))], [], 1⟩ [] (by kernel_rfl) rfl rfl ap0 ?_
      refine VL_cond ((decide (t_16 < (((List.length d_2) : Nat) : Int)))) (by kernel_rfl) ?_ ?_
      · intro b_19; have H_53 := of_t H_52 b_19
        refine V_run hN hn 2 1 [1, 2, 7, 8, 20, 21, 22, 23] [] ⟨[(1, .c (.val (.int .i64 (mn2 (mx2 at_3 (0 : Int)) d_1)))), (2, .c (.val (.bool after_4))), (7, .c (.val (.int .i64 n_14))), (8, .c (.val (.int .i64 waits_15))), (20, .c (.imm (.slice (.pair (.int .i64) (.pair (.int .i64) .str))) d_2)), (21, .c (.val (.int .i64 (((List.length d_2) : Nat) : Int)))), (22, .c (.val (.int .i64 t_16))), (23, .c (.val (.bool (decide (t_16 < (((List.length d_2) : Nat) : Int))))))], [], 1⟩ [] (by kernel_rfl) rfl rfl ap0 ?_
        refine VL_block ?_
        obtain ⟨c_21, H_55⟩ := of_if H_53
        refine V_run hN hn 2 1 [1, 2, 7, 8, 10, 20, 21, 22] [1] ⟨[(1, .c (.val (.int .i64 (mn2 (mx2 at_3 (0 : Int)) d_1)))), (2, .c (.val (.bool after_4))), (7, .c (.val (.int .i64 n_14))), (8, .c (.val (.int .i64 waits_15))), (10, .c (.h 1)), (20, .c (.imm (.slice (.pair (.int .i64) (.pair (.int .i64) .str))) d_2)), (21, .c (.val (.int .i64 (((List.length d_2) : Nat) : Int)))), (22, .c (.val (.int .i64 t_16)))], [(1, .box [.val (.int .i64 (List.getD d_2 (Int.toNat t_16) ((0 : Int), ((0 : Int), ByteArray.empty))).1), .val (.int .i64 (List.getD d_2 (Int.toNat t_16) ((0 : Int), ((0 : Int), ByteArray.empty))).2.1), .val (.string (List.getD d_2 (Int.toNat t_16) ((0 : Int), ((0 : Int), ByteArray.empty))).2.2)])], 2⟩ [0 ≤ t_16, t_16 < (((List.length d_2) : Nat) : Int)] (by kernel_rfl) rfl rfl (ap2 c_21.1 (ap1 c_21.2)) ?_
        refine VL_block ?_
        refine V_run hN hn 1 2 [1, 2, 7, 8, 10, 20, 21, 22] [1] ⟨[(1, .c (.val (.int .i64 (mn2 (mx2 at_3 (0 : Int)) d_1)))), (2, .c (.val (.bool after_4))), (7, .c (.val (.int .i64 n_14))), (8, .c (.val (.int .i64 waits_15))), (10, .c (.h 1)), (20, .c (.imm (.slice (.pair (.int .i64) (.pair (.int .i64) .str))) d_2)), (21, .c (.val (.int .i64 (((List.length d_2) : Nat) : Int)))), (22, .c (.val (.int .i64 t_16)))], [(1, .box [.val (.int .i64 (List.getD d_2 (Int.toNat t_16) ((0 : Int), ((0 : Int), ByteArray.empty))).1), .val (.int .i64 (List.getD d_2 (Int.toNat t_16) ((0 : Int), ((0 : Int), ByteArray.empty))).2.1), .val (.string (List.getD d_2 (Int.toNat t_16) ((0 : Int), ((0 : Int), ByteArray.empty))).2.2)])], 2⟩ [] (by kernel_rfl) rfl rfl ap0 ?_
        obtain ⟨r_23, h_24, H_56⟩ := of_bind H_55
        refine V_reg hN hn [(1, ⟨49, 0, [.agg [.val (.int .i64 (List.getD d_2 (Int.toNat t_16) ((0 : Int), ((0 : Int), ByteArray.empty))).1), .val (.int .i64 (List.getD d_2 (Int.toNat t_16) ((0 : Int), ((0 : Int), ByteArray.empty))).2.1), .val (.string (List.getD d_2 (Int.toNat t_16) ((0 : Int), ((0 : Int), ByteArray.empty))).2.2)]], [], .c (.val (.bool r_23)), [], [], 2⟩)] [] (calls_cons (delta_IsCopy_spec K (List.getD d_2 (Int.toNat t_16) ((0 : Int), ((0 : Int), ByteArray.empty))).1 (List.getD d_2 (Int.toNat t_16) ((0 : Int), ((0 : Int), ByteArray.empty))).2.1 (List.getD d_2 (Int.toNat t_16) ((0 : Int), ((0 : Int), ByteArray.empty))).2.2 r_23 h_24) (by kernel_rfl) calls_nil) 2 [1, 2, 7, 8, 10, 20, 21, 22, 41] [1] ⟨[(1, .c (.val (.int .i64 (mn2 (mx2 at_3 (0 : Int)) d_1)))), (2, .c (.val (.bool after_4))), (7, .c (.val (.int .i64 n_14))), (8, .c (.val (.int .i64 waits_15))), (10, .c (.h 1)), (20, .c (.imm (.slice (.pair (.int .i64) (.pair (.int .i64) .str))) d_2)), (21, .c (.val (.int .i64 (((List.length d_2) : Nat) : Int)))), (22, .c (.val (.int .i64 t_16))), (41, .c (.val (.bool (!r_23))))], [(1, .box [.val (.int .i64 (List.getD d_2 (Int.toNat t_16) ((0 : Int), ((0 : Int), ByteArray.empty))).1), .val (.int .i64 (List.getD d_2 (Int.toNat t_16) ((0 : Int), ((0 : Int), ByteArray.empty))).2.1), .val (.string (List.getD d_2 (Int.toNat t_16) ((0 : Int), ((0 : Int), ByteArray.empty))).2.2)])], 2⟩ [] (by kernel_rfl) rfl rfl ap0 (by kernel_rfl) (by kernel_rfl) ?_
        refine VL_cond ((!r_23)) (by kernel_rfl) ?_ ?_
        · intro b_26; have H_57 := of_t H_56 b_26
          refine V_run hN hn 1 2 [1, 2, 7, 8, 20, 21, 22] [] ⟨[(1, .c (.val (.int .i64 (mn2 (mx2 at_3 (0 : Int)) d_1)))), (2, .c (.val (.bool after_4))), (7, .c (.val (.int .i64 n_14))), (8, .c (.val (.int .i64 (IntKind.wrap .i64 (waits_15 + (((ByteArray.size (List.getD d_2 (Int.toNat t_16) ((0 : Int), ((0 : Int), ByteArray.empty))).2.2) : Nat) : Int)))))), (20, .c (.imm (.slice (.pair (.int .i64) (.pair (.int .i64) .str))) d_2)), (21, .c (.val (.int .i64 (((List.length d_2) : Nat) : Int)))), (22, .c (.val (.int .i64 t_16)))], [], 2⟩ [] (by kernel_rfl) rfl rfl ap0 ?_
          refine VL_nil (QB_end ?_)
          refine VL_nil (QB_end ?_)
          refine V_run hN hn 1 2 [1, 2, 7, 8, 20, 21, 22] [] ⟨[(1, .c (.val (.int .i64 (mn2 (mx2 at_3 (0 : Int)) d_1)))), (2, .c (.val (.bool after_4))), (7, .c (.val (.int .i64 n_14))), (8, .c (.val (.int .i64 (IntKind.wrap .i64 (waits_15 + (((ByteArray.size (List.getD d_2 (Int.toNat t_16) ((0 : Int), ((0 : Int), ByteArray.empty))).2.2) : Nat) : Int)))))), (20, .c (.imm (.slice (.pair (.int .i64) (.pair (.int .i64) .str))) d_2)), (21, .c (.val (.int .i64 (((List.length d_2) : Nat) : Int)))), (22, .c (.val (.int .i64 (IntKind.wrap .i64 (t_16 + (1 : Int))))))], [], 2⟩ [] (by kernel_rfl) rfl rfl ap0 ?_
          refine VL_nil ?_
          exact V_roundEnd (n_14, (IntKind.wrap .i64 (waits_15 + (((ByteArray.size (List.getD d_2 (Int.toNat t_16) ((0 : Int), ((0 : Int), ByteArray.empty))).2.2) : Nat) : Int))), (IntKind.wrap .i64 (t_16 + (1 : Int)))) H_57 [] hn (by kernel_rfl) (by kernel_rfl) rfl rfl rfl
        · intro b_26; have H_58 := of_f H_56 b_26
          refine V_run hN hn 2 2 [1, 2, 7, 8, 10, 20, 21, 22, 50] [1] ⟨[(1, .c (.val (.int .i64 (mn2 (mx2 at_3 (0 : Int)) d_1)))), (2, .c (.val (.bool after_4))), (7, .c (.val (.int .i64 n_14))), (8, .c (.val (.int .i64 waits_15))), (10, .c (.h 1)), (20, .c (.imm (.slice (.pair (.int .i64) (.pair (.int .i64) .str))) d_2)), (21, .c (.val (.int .i64 (((List.length d_2) : Nat) : Int)))), (22, .c (.val (.int .i64 t_16))), (50, .c (.val (.bool (decide ((List.getD d_2 (Int.toNat t_16) ((0 : Int), ((0 : Int), ByteArray.empty))).1 ≥ (mn2 (mx2 at_3 (0 : Int)) d_1))))))], [(1, .box [.val (.int .i64 (List.getD d_2 (Int.toNat t_16) ((0 : Int), ((0 : Int), ByteArray.empty))).1), .val (.int .i64 (List.getD d_2 (Int.toNat t_16) ((0 : Int), ((0 : Int), ByteArray.empty))).2.1), .val (.string (List.getD d_2 (Int.toNat t_16) ((0 : Int), ((0 : Int), ByteArray.empty))).2.2)])], 2⟩ [] (by kernel_rfl) rfl rfl ap0 ?_
          refine VL_cond ((decide ((List.getD d_2 (Int.toNat t_16) ((0 : Int), ((0 : Int), ByteArray.empty))).1 ≥ (mn2 (mx2 at_3 (0 : Int)) d_1)))) (by kernel_rfl) ?_ ?_
          · intro b_30; have H_59 := of_t H_58 b_30
            refine VL_exit ?_
            refine QB_out (by decide) ?_
            refine QB_out (by decide) ?_
            refine QL_exit ?_
            refine QB_here ?_
            have H_61 := Option.some.inj (show some (n_14, waits_15) = some q_47 from H_59); subst H_61
            refine VL_nil ?_
            exact QP_end (n_14, waits_15) rfl [] hn (by kernel_rfl) (by kernel_rfl) rfl rfl rfl
          · intro b_30; have H_60 := of_f H_58 b_30
            refine V_run hN hn 6 2 [1, 2, 7, 8, 20, 21, 22, 40] [] ⟨[(1, .c (.val (.int .i64 (mn2 (mx2 at_3 (0 : Int)) d_1)))), (2, .c (.val (.bool after_4))), (7, .c (.val (.int .i64 (IntKind.wrap .i64 (n_14 + (IntKind.wrap .i64 ((IntKind.wrap .i64 (waits_15 + (mn2 (List.getD d_2 (Int.toNat t_16) ((0 : Int), ((0 : Int), ByteArray.empty))).2.1 (mn2 (mx2 at_3 (0 : Int)) d_1)))) - (List.getD d_2 (Int.toNat t_16) ((0 : Int), ((0 : Int), ByteArray.empty))).1))))))), (8, .c (.val (.int .i64 (0 : Int)))), (20, .c (.imm (.slice (.pair (.int .i64) (.pair (.int .i64) .str))) d_2)), (21, .c (.val (.int .i64 (((List.length d_2) : Nat) : Int)))), (22, .c (.val (.int .i64 t_16))), (40, .c (.val (.bool (decide ((List.getD d_2 (Int.toNat t_16) ((0 : Int), ((0 : Int), ByteArray.empty))).2.1 > (mn2 (mx2 at_3 (0 : Int)) d_1))))))], [], 2⟩ [] (by kernel_rfl) rfl rfl ap0 ?_
            refine VL_cond ((decide ((List.getD d_2 (Int.toNat t_16) ((0 : Int), ((0 : Int), ByteArray.empty))).2.1 > (mn2 (mx2 at_3 (0 : Int)) d_1)))) (by kernel_rfl) ?_ ?_
            · intro b_32; have H_62 := of_t H_60 b_32
              refine VL_exit ?_
              refine QB_out (by decide) ?_
              refine QB_out (by decide) ?_
              refine QL_exit ?_
              refine QB_here ?_
              have H_64 := Option.some.inj (show some ((IntKind.wrap .i64 (n_14 + (IntKind.wrap .i64 ((IntKind.wrap .i64 (waits_15 + (mn2 (List.getD d_2 (Int.toNat t_16) ((0 : Int), ((0 : Int), ByteArray.empty))).2.1 (mn2 (mx2 at_3 (0 : Int)) d_1)))) - (List.getD d_2 (Int.toNat t_16) ((0 : Int), ((0 : Int), ByteArray.empty))).1)))), (0 : Int)) = some q_47 from H_62); subst H_64
              refine VL_nil ?_
              exact QP_end ((IntKind.wrap .i64 (n_14 + (IntKind.wrap .i64 ((IntKind.wrap .i64 (waits_15 + (mn2 (List.getD d_2 (Int.toNat t_16) ((0 : Int), ((0 : Int), ByteArray.empty))).2.1 (mn2 (mx2 at_3 (0 : Int)) d_1)))) - (List.getD d_2 (Int.toNat t_16) ((0 : Int), ((0 : Int), ByteArray.empty))).1)))), (0 : Int)) rfl [] hn (by kernel_rfl) (by kernel_rfl) rfl rfl rfl
            · intro b_32; have H_63 := of_f H_60 b_32
              refine V_run hN hn 1 2 [1, 2, 7, 8, 20, 21, 22, 40] [] ⟨[(1, .c (.val (.int .i64 (mn2 (mx2 at_3 (0 : Int)) d_1)))), (2, .c (.val (.bool after_4))), (7, .c (.val (.int .i64 (IntKind.wrap .i64 (n_14 + (IntKind.wrap .i64 ((IntKind.wrap .i64 (waits_15 + (mn2 (List.getD d_2 (Int.toNat t_16) ((0 : Int), ((0 : Int), ByteArray.empty))).2.1 (mn2 (mx2 at_3 (0 : Int)) d_1)))) - (List.getD d_2 (Int.toNat t_16) ((0 : Int), ((0 : Int), ByteArray.empty))).1))))))), (8, .c (.val (.int .i64 (0 : Int)))), (20, .c (.imm (.slice (.pair (.int .i64) (.pair (.int .i64) .str))) d_2)), (21, .c (.val (.int .i64 (((List.length d_2) : Nat) : Int)))), (22, .c (.val (.int .i64 t_16))), (40, .c (.val (.bool (decide ((List.getD d_2 (Int.toNat t_16) ((0 : Int), ((0 : Int), ByteArray.empty))).2.1 > (mn2 (mx2 at_3 (0 : Int)) d_1))))))], [], 2⟩ [] (by kernel_rfl) rfl rfl ap0 ?_
              refine VL_nil (QB_end ?_)
              refine VL_nil (QB_end ?_)
              refine V_run hN hn 1 2 [1, 2, 7, 8, 20, 21, 22] [] ⟨[(1, .c (.val (.int .i64 (mn2 (mx2 at_3 (0 : Int)) d_1)))), (2, .c (.val (.bool after_4))), (7, .c (.val (.int .i64 (IntKind.wrap .i64 (n_14 + (IntKind.wrap .i64 ((IntKind.wrap .i64 (waits_15 + (mn2 (List.getD d_2 (Int.toNat t_16) ((0 : Int), ((0 : Int), ByteArray.empty))).2.1 (mn2 (mx2 at_3 (0 : Int)) d_1)))) - (List.getD d_2 (Int.toNat t_16) ((0 : Int), ((0 : Int), ByteArray.empty))).1))))))), (8, .c (.val (.int .i64 (0 : Int)))), (20, .c (.imm (.slice (.pair (.int .i64) (.pair (.int .i64) .str))) d_2)), (21, .c (.val (.int .i64 (((List.length d_2) : Nat) : Int)))), (22, .c (.val (.int .i64 (IntKind.wrap .i64 (t_16 + (1 : Int))))))], [], 2⟩ [] (by kernel_rfl) rfl rfl ap0 ?_
              refine VL_nil ?_
              exact V_roundEnd ((IntKind.wrap .i64 (n_14 + (IntKind.wrap .i64 ((IntKind.wrap .i64 (waits_15 + (mn2 (List.getD d_2 (Int.toNat t_16) ((0 : Int), ((0 : Int), ByteArray.empty))).2.1 (mn2 (mx2 at_3 (0 : Int)) d_1)))) - (List.getD d_2 (Int.toNat t_16) ((0 : Int), ((0 : Int), ByteArray.empty))).1)))), (0 : Int), (IntKind.wrap .i64 (t_16 + (1 : Int)))) H_63 [] hn (by kernel_rfl) (by kernel_rfl) rfl rfl rfl
      · intro b_19; have H_54 := of_f H_52 b_19
        refine VL_exit ?_
        refine QL_exit ?_
        refine QB_here ?_
        have H_65 := Option.some.inj (show some (n_14, waits_15) = some q_47 from H_54); subst H_65
        refine VL_nil ?_
        exact QP_end (n_14, waits_15) rfl [] hn (by kernel_rfl) (by kernel_rfl) rfl rfl rfl
    · intro y_50 hy; subst hy
      obtain ⟨n_35, waits_36⟩ := y_50
      refine V_run hN hn 3 2 [7, 8, 56] [] ⟨[(7, .c (.val (.int .i64 n_35))), (8, .c (.val (.int .i64 waits_36))), (56, .c (.val (.bool after_4)))], [], 2⟩ [] (by kernel_rfl) rfl rfl ap0 ?_
      refine VL_cond (after_4) (by kernel_rfl) ?_ ?_
      · intro b_38; have H_66 := of_t H_49 b_38
        refine V_run hN hn 3 2 [6] [] ⟨[(6, .c (.val (.int .i64 (IntKind.wrap .i64 (n_35 + waits_36)))))], [], 2⟩ [] (by kernel_rfl) rfl rfl ap0 ?_
        have H_68 := Option.some.inj (show some (IntKind.wrap .i64 (n_35 + waits_36)) = some r from H_66); subst H_68
        refine VL_ret ?_
        refine QG_ret ?_
        exact P_to [(6, .c (.val (.int .i64 (IntKind.wrap .i64 (n_35 + waits_36)))))] [] [] hn (by kernel_rfl) (by kernel_rfl) rfl rfl rfl (QF_retS (by kernel_rfl) (by kernel_rfl) rfl)
      · intro b_38; have H_67 := of_f H_49 b_38
        refine V_run hN hn 3 2 [6] [] ⟨[(6, .c (.val (.int .i64 n_35)))], [], 2⟩ [] (by kernel_rfl) rfl rfl ap0 ?_
        have H_69 := Option.some.inj (show some n_35 = some r from H_67); subst H_69
        refine VL_ret ?_
        refine QG_ret ?_
        exact P_to [(6, .c (.val (.int .i64 n_35)))] [] [] hn (by kernel_rfl) (by kernel_rfl) rfl rfl rfl (QF_retS (by kernel_rfl) (by kernel_rfl) rfl)

theorem breaks_Edit_spec (K : Nat) (l_1 : (List Int)) (d_2 : Int) (d_3 : (List (Int × (Int × ByteArray)))) (r : ((List Int) × Int)) (H : breaks_Edit K l_1 d_2 d_3 = some r) : Spec Try.prog 23 0 [.c (.imm (.slice (.int .i64)) l_1), .agg [.val (.int .i64 d_2), .imm (.slice (.pair (.int .i64) (.pair (.int .i64) .str))) d_3]] [] (.tup [(false, [.h 5]), (false, [.val (.int .i64 r.2)])]) [(5, .row (.int .i64) r.1)] := by
  refine Spec_mk (fn := Try.f23) (c := (Try.f23.body).get!) Try.func23 (by kernel_rfl) rfl ?_
  intro C hN hn
  replace hN : C.N = 60 := hN
  unfold breaks_Edit at H
  refine V_run hN hn 4 0 [0, 3] [0] ⟨[(0, .c (.imm (.slice (.int .i64)) l_1)), (3, .c (.h 0))], [(0, .box [.val (.int .i64 d_2), .imm (.slice (.pair (.int .i64) (.pair (.int .i64) .str))) d_3])], 1⟩ [] (by kernel_rfl) rfl rfl ap0 ?_
  obtain ⟨q_73, H_74, H_75⟩ := of_bind H
  refine V_cut (Y := Bool) (R := Bool) q_73 (fun y => y) (fun y => [(0, .c (.imm (.slice (.int .i64)) l_1)), (3, .c (.h 0)), (20, .c (.val (.bool y)))]) (fun y => [(0, .box [.val (.int .i64 d_2), .imm (.slice (.pair (.int .i64) (.pair (.int .i64) .str))) d_3])]) ?_ ?_
  · skip
    obtain ⟨r_5, h_6, H_77⟩ := of_bind H_74
    rcases Bool.eq_false_or_eq_true ((!r_5)) with b_7 | b_7
    · have H_78 := of_t H_77 b_7
      refine V_reg hN hn [(1, ⟨32, 0, [.agg [.val (.int .i64 d_2), .imm (.slice (.pair (.int .i64) (.pair (.int .i64) .str))) d_3]], [], .c (.val (.bool r_5)), [], [], 1⟩)] [(14, true)] (calls_cons (delta_Is_spec K d_2 d_3 r_5 h_6) (by kernel_rfl) calls_nil) 1 [0, 3, 20] [0] ⟨[(0, .c (.imm (.slice (.int .i64)) l_1)), (3, .c (.h 0)), (20, .c (.val (.bool true)))], [(0, .box [.val (.int .i64 d_2), .imm (.slice (.pair (.int .i64) (.pair (.int .i64) .str))) d_3])], 1⟩ [(!r_5) = true] (by kernel_rfl) rfl rfl (ap1 b_7) (by kernel_rfl) (by kernel_rfl) ?_
      have H_80 := Option.some.inj (show some true = some q_73 from H_78); subst H_80
      refine VL_nil ?_
      exact QP_end true rfl [(0, 0)] hn (by kernel_rfl) (by kernel_rfl) rfl rfl rfl
    · have H_79 := of_f H_77 b_7
      obtain ⟨r_9, h_10, H_81⟩ := of_bind H_79
      refine V_reg hN hn [(1, ⟨32, 0, [.agg [.val (.int .i64 d_2), .imm (.slice (.pair (.int .i64) (.pair (.int .i64) .str))) d_3]], [], .c (.val (.bool r_5)), [], [], 1⟩), (7, ⟨14, 0, [.c (.imm (.slice (.int .i64)) l_1), .c (.val (.int .i64 d_2))], [], .c (.val (.bool r_9)), [], [], 1⟩)] [(14, false)] (calls_cons (delta_Is_spec K d_2 d_3 r_5 h_6) (by kernel_rfl) (calls_cons (breaks_Is_spec K l_1 d_2 r_9 h_10) (by kernel_rfl) calls_nil)) 1 [0, 3, 20] [0] ⟨[(0, .c (.imm (.slice (.int .i64)) l_1)), (3, .c (.h 0)), (20, .c (.val (.bool (!r_9))))], [(0, .box [.val (.int .i64 d_2), .imm (.slice (.pair (.int .i64) (.pair (.int .i64) .str))) d_3])], 1⟩ [(!r_5) = false] (by kernel_rfl) rfl rfl (ap1 b_7) (by kernel_rfl) (by kernel_rfl) ?_
      have H_82 := Option.some.inj (show some (!r_9) = some q_73 from H_81); subst H_82
      refine VL_nil ?_
      exact QP_end (!r_9) rfl [(0, 0)] hn (by kernel_rfl) (by kernel_rfl) rfl rfl rfl
  · intro y_76 hy; subst hy
    skip
    skip
    refine VL_cond (y_76) (by kernel_rfl) ?_ ?_
    · intro b_13; have H_83 := of_t H_75 b_13
      refine V_run hN hn 2 1 [4, 5] [] ⟨[(4, .c (.val (.slice none 0 0))), (5, .c (.val (.int .i64 (12 : Int))))], [], 1⟩ [] (by kernel_rfl) rfl rfl ap0 ?_
      have H_85 := Option.some.inj (show some (([] : List Int), (12 : Int)) = some r from H_83); subst H_85
      refine VL_ret ?_
      refine P_ghost [.nilSlot 4 (.int .i64)] 1 hn [4, 5] [1] ⟨[(4, .c (.h 1)), (5, .c (.val (.int .i64 (12 : Int))))], [(1, .row (.int .i64) ([] : List Int))], 2⟩ (by kernel_rfl) rfl rfl ?_
      exact P_to [(4, .c (.h 5)), (5, .c (.val (.int .i64 (12 : Int))))] [(5, .row (.int .i64) ([] : List Int))] [(5, 1)] hn (by kernel_rfl) (by kernel_rfl) rfl rfl rfl (QF_retS (by kernel_rfl) (by kernel_rfl) rfl)
    · intro b_13; have H_84 := of_f H_75 b_13
      refine V_run hN hn 4 1 [0, 3, 6] [0] ⟨[(0, .c (.imm (.slice (.int .i64)) l_1)), (3, .c (.h 0)), (6, .c (.val (.slice none 0 0)))], [(0, .box [.val (.int .i64 d_2), .imm (.slice (.pair (.int .i64) (.pair (.int .i64) .str))) d_3])], 1⟩ [] (by kernel_rfl) rfl rfl ap0 ?_
      obtain ⟨r_16, h_17, H_86⟩ := of_bind H_84
      refine V_reg hN hn [(1, ⟨33, 0, [.agg [.val (.int .i64 d_2), .imm (.slice (.pair (.int .i64) (.pair (.int .i64) .str))) d_3]], [], .c (.val (.int .i64 r_16)), [], [], 1⟩)] [] (calls_cons (delta_Size_spec K d_2 d_3 r_16 h_17) (by kernel_rfl) calls_nil) 1 [0, 3, 6, 7] [0] ⟨[(0, .c (.imm (.slice (.int .i64)) l_1)), (3, .c (.h 0)), (6, .c (.val (.slice none 0 0))), (7, .c (.val (.int .i64 r_16)))], [(0, .box [.val (.int .i64 d_2), .imm (.slice (.pair (.int .i64) (.pair (.int .i64) .str))) d_3])], 1⟩ [] (by kernel_rfl) rfl rfl ap0 (by kernel_rfl) (by kernel_rfl) ?_
      refine V_run hN hn 3 1 [3, 6, 7, 23, 24, 25] [0] ⟨[(3, .c (.h 0)), (6, .c (.val (.slice none 0 0))), (7, .c (.val (.int .i64 r_16))), (23, .c (.imm (.slice (.int .i64)) l_1)), (24, .c (.val (.int .i64 (((List.length l_1) : Nat) : Int)))), (25, .c (.val (.int .i64 (0 : Int))))], [(0, .box [.val (.int .i64 d_2), .imm (.slice (.pair (.int .i64) (.pair (.int .i64) .str))) d_3])], 1⟩ [] (by kernel_rfl) rfl rfl ap0 ?_
      refine VL_block ?_
      refine V_ghost [.nilSlot 6 (.int .i64)] 1 hn [3, 6, 7, 23, 24, 25] [0, 1] ⟨[(3, .c (.h 0)), (6, .c (.h 1)), (7, .c (.val (.int .i64 r_16))), (23, .c (.imm (.slice (.int .i64)) l_1)), (24, .c (.val (.int .i64 (((List.length l_1) : Nat) : Int)))), (25, .c (.val (.int .i64 (0 : Int))))], [(0, .box [.val (.int .i64 d_2), .imm (.slice (.pair (.int .i64) (.pair (.int .i64) .str))) d_3]), (1, .row (.int .i64) ([] : List Int))], 2⟩ (by kernel_rfl) rfl rfl ?_
      refine V_to [(3, .c (.h 0)), (6, .c (.h 4)), (7, .c (.val (.int .i64 r_16))), (23, .c (.imm (.slice (.int .i64)) l_1)), (24, .c (.val (.int .i64 (((List.length l_1) : Nat) : Int)))), (25, .c (.val (.int .i64 (0 : Int))))] [(0, .box [.val (.int .i64 d_2), .imm (.slice (.pair (.int .i64) (.pair (.int .i64) .str))) d_3]), (4, .row (.int .i64) ([] : List Int))] [(0, 0), (4, 1)] hn (by kernel_rfl) (by kernel_rfl) rfl rfl rfl ?_
      refine VL_loop (X := ((List Int) × Int)) (fun x => [(3, .c (.h 0)), (6, .c (.h 4)), (7, .c (.val (.int .i64 r_16))), (23, .c (.imm (.slice (.int .i64)) l_1)), (24, .c (.val (.int .i64 (((List.length l_1) : Nat) : Int)))), (25, .c (.val (.int .i64 x.2)))]) (fun x => [(0, .box [.val (.int .i64 d_2), .imm (.slice (.pair (.int .i64) (.pair (.int .i64) .str))) d_3]), (4, .row (.int .i64) x.1)]) (fun k x => breaks_Edit.l0 K l_1 d_2 d_3 r_16 k x.1 x.2 = some r) K (([] : List Int), (0 : Int)) H_86 (fun _ h => no_none h) ?_
      intro k_45 x_45 H_87
      obtain ⟨out_44, t_20⟩ := x_45
      have H_88 : breaks_Edit.l0 K l_1 d_2 d_3 r_16 (k_45 + 1) out_44 t_20 = some r := H_87
      rw [breaks_Edit.l0] at H_88
      refine V_run hN hn 3 5 [3, 6, 7, 23, 24, 25, 26] [0, 4] ⟨[(3, .c (.h 0)), (6, .c (.h 4)), (7, .c (.val (.int .i64 r_16))), (23, .c (.imm (.slice (.int .i64)) l_1)), (24, .c (.val (.int .i64 (((List.length l_1) : Nat) : Int)))), (25, .c (.val (.int .i64 t_20))), (26, .c (.val (.bool (decide (t_20 < (((List.length l_1) : Nat) : Int))))))], [(0, .box [.val (.int .i64 d_2), .imm (.slice (.pair (.int .i64) (.pair (.int .i64) .str))) d_3]), (4, .row (.int .i64) out_44)], 5⟩ [] (by kernel_rfl) rfl rfl ap0 ?_
      refine VL_cond ((decide (t_20 < (((List.length l_1) : Nat) : Int)))) (by kernel_rfl) ?_ ?_
      · intro b_47; have H_89 := of_t H_88 b_47
        refine V_run hN hn 2 5 [3, 6, 7, 23, 24, 25, 26] [0, 4] ⟨[(3, .c (.h 0)), (6, .c (.h 4)), (7, .c (.val (.int .i64 r_16))), (23, .c (.imm (.slice (.int .i64)) l_1)), (24, .c (.val (.int .i64 (((List.length l_1) : Nat) : Int)))), (25, .c (.val (.int .i64 t_20))), (26, .c (.val (.bool (decide (t_20 < (((List.length l_1) : Nat) : Int))))))], [(0, .box [.val (.int .i64 d_2), .imm (.slice (.pair (.int .i64) (.pair (.int .i64) .str))) d_3]), (4, .row (.int .i64) out_44)], 5⟩ [] (by kernel_rfl) rfl rfl ap0 ?_
        refine VL_block ?_
        obtain ⟨c_49, H_91⟩ := of_if H_89
        refine V_run hN hn 3 5 [3, 6, 7, 9, 23, 24, 25] [0, 4] ⟨[(3, .c (.h 0)), (6, .c (.h 4)), (7, .c (.val (.int .i64 r_16))), (9, .c (.val (.int .i64 (List.getD l_1 (Int.toNat t_20) (0 : Int))))), (23, .c (.imm (.slice (.int .i64)) l_1)), (24, .c (.val (.int .i64 (((List.length l_1) : Nat) : Int)))), (25, .c (.val (.int .i64 t_20)))], [(0, .box [.val (.int .i64 d_2), .imm (.slice (.pair (.int .i64) (.pair (.int .i64) .str))) d_3]), (4, .row (.int .i64) out_44)], 5⟩ [0 ≤ t_20, t_20 < (((List.length l_1) : Nat) : Int)] (by kernel_rfl) rfl rfl (ap2 c_49.1 (ap1 c_49.2)) ?_
        obtain ⟨r_50, h_51, H_92⟩ := of_bind H_91
        refine V_reg hN hn [(2, ⟨34, 0, [.agg [.val (.int .i64 d_2), .imm (.slice (.pair (.int .i64) (.pair (.int .i64) .str))) d_3], .c (.val (.int .i64 (List.getD l_1 (Int.toNat t_20) (0 : Int)))), .c (.val (.bool false))], [], .c (.val (.int .i64 r_50)), [], [], 5⟩)] [] (calls_cons (offset_Move_spec K d_2 d_3 (List.getD l_1 (Int.toNat t_20) (0 : Int)) false r_50 h_51) (by kernel_rfl) calls_nil) 5 [3, 6, 7, 10, 23, 24, 25] [0, 4] ⟨[(3, .c (.h 0)), (6, .c (.h 4)), (7, .c (.val (.int .i64 r_16))), (10, .c (.val (.int .i64 r_50))), (23, .c (.imm (.slice (.int .i64)) l_1)), (24, .c (.val (.int .i64 (((List.length l_1) : Nat) : Int)))), (25, .c (.val (.int .i64 t_20)))], [(0, .box [.val (.int .i64 d_2), .imm (.slice (.pair (.int .i64) (.pair (.int .i64) .str))) d_3]), (4, .row (.int .i64) out_44)], 5⟩ [] (by kernel_rfl) rfl rfl ap0 (by kernel_rfl) (by kernel_rfl) ?_
        refine V_run hN hn 1 5 [3, 6, 7, 10, 23, 24, 25] [0, 4] ⟨[(3, .c (.h 0)), (6, .c (.h 4)), (7, .c (.val (.int .i64 r_16))), (10, .c (.val (.int .i64 r_50))), (23, .c (.imm (.slice (.int .i64)) l_1)), (24, .c (.val (.int .i64 (((List.length l_1) : Nat) : Int)))), (25, .c (.val (.int .i64 t_20)))], [(0, .box [.val (.int .i64 d_2), .imm (.slice (.pair (.int .i64) (.pair (.int .i64) .str))) d_3]), (4, .row (.int .i64) out_44)], 5⟩ [] (by kernel_rfl) rfl rfl ap0 ?_
        obtain ⟨q_93, H_94, H_95⟩ := of_bind H_92
        refine V_cut (Y := Bool) (R := Bool) q_93 (fun y => y) (fun y => [(3, .c (.h 0)), (6, .c (.h 4)), (7, .c (.val (.int .i64 r_16))), (10, .c (.val (.int .i64 r_50))), (23, .c (.imm (.slice (.int .i64)) l_1)), (24, .c (.val (.int .i64 (((List.length l_1) : Nat) : Int)))), (25, .c (.val (.int .i64 t_20))), (53, .c (.val (.bool y)))]) (fun y => [(0, .box [.val (.int .i64 d_2), .imm (.slice (.pair (.int .i64) (.pair (.int .i64) .str))) d_3]), (4, .row (.int .i64) out_44)]) ?_ ?_
        · skip
          rcases Bool.eq_false_or_eq_true ((decide (r_50 > (0 : Int)))) with b_54 | b_54
          · have H_97 := of_t H_94 b_54
            rcases Bool.eq_false_or_eq_true ((decide (r_50 < r_16))) with b_55 | b_55
            · have H_99 := of_t H_97 b_55
              rcases Bool.eq_false_or_eq_true (((((List.length out_44) : Nat) : Int) == (0 : Int))) with b_56 | b_56
              · have H_101 := of_t H_99 b_56
                refine V_reg hN hn [] [(34, true), (39, true), (43, true)] calls_nil 5 [3, 6, 7, 10, 23, 24, 25, 53] [0, 4] ⟨[(3, .c (.h 0)), (6, .c (.h 4)), (7, .c (.val (.int .i64 r_16))), (10, .c (.val (.int .i64 r_50))), (23, .c (.imm (.slice (.int .i64)) l_1)), (24, .c (.val (.int .i64 (((List.length l_1) : Nat) : Int)))), (25, .c (.val (.int .i64 t_20))), (53, .c (.val (.bool true)))], [(0, .box [.val (.int .i64 d_2), .imm (.slice (.pair (.int .i64) (.pair (.int .i64) .str))) d_3]), (4, .row (.int .i64) out_44)], 5⟩ [(decide (r_50 > (0 : Int))) = true, (decide (r_50 < r_16)) = true, ((((List.length out_44) : Nat) : Int) == (0 : Int)) = true] (by kernel_rfl) rfl rfl (ap2 b_54 (ap2 b_55 (ap1 b_56))) (by kernel_rfl) (by kernel_rfl) ?_
                have H_103 := Option.some.inj (show some true = some q_93 from H_101); subst H_103
                refine VL_nil ?_
                exact QP_end true rfl [(0, 0), (4, 4)] hn (by kernel_rfl) (by kernel_rfl) rfl rfl rfl
              · have H_102 := of_f H_99 b_56
                obtain ⟨c_58, H_104⟩ := of_if H_102
                refine V_reg hN hn [] [(34, true), (39, true), (43, false)] calls_nil 5 [3, 6, 7, 10, 23, 24, 25, 53] [0, 4] ⟨[(3, .c (.h 0)), (6, .c (.h 4)), (7, .c (.val (.int .i64 r_16))), (10, .c (.val (.int .i64 r_50))), (23, .c (.imm (.slice (.int .i64)) l_1)), (24, .c (.val (.int .i64 (((List.length l_1) : Nat) : Int)))), (25, .c (.val (.int .i64 t_20))), (53, .c (.val (.bool ((List.getD out_44 (Int.toNat (IntKind.wrap .i64 ((((List.length out_44) : Nat) : Int) - (1 : Int)))) (0 : Int)) != r_50))))], [(0, .box [.val (.int .i64 d_2), .imm (.slice (.pair (.int .i64) (.pair (.int .i64) .str))) d_3]), (4, .row (.int .i64) out_44)], 5⟩ [(decide (r_50 > (0 : Int))) = true, (decide (r_50 < r_16)) = true, ((((List.length out_44) : Nat) : Int) == (0 : Int)) = false, 0 ≤ (IntKind.wrap .i64 ((((List.length out_44) : Nat) : Int) - (1 : Int))), (IntKind.wrap .i64 ((((List.length out_44) : Nat) : Int) - (1 : Int))) < (((List.length out_44) : Nat) : Int)] (by kernel_rfl) rfl rfl (ap2 b_54 (ap2 b_55 (ap2 b_56 (ap2 c_58.1 (ap1 c_58.2))))) (by kernel_rfl) (by kernel_rfl) ?_
                have H_105 := Option.some.inj (show some ((List.getD out_44 (Int.toNat (IntKind.wrap .i64 ((((List.length out_44) : Nat) : Int) - (1 : Int)))) (0 : Int)) != r_50) = some q_93 from H_104); subst H_105
                refine VL_nil ?_
                exact QP_end ((List.getD out_44 (Int.toNat (IntKind.wrap .i64 ((((List.length out_44) : Nat) : Int) - (1 : Int)))) (0 : Int)) != r_50) rfl [(0, 0), (4, 4)] hn (by kernel_rfl) (by kernel_rfl) rfl rfl rfl
            · have H_100 := of_f H_97 b_55
              refine V_reg hN hn [] [(34, true), (39, false)] calls_nil 5 [3, 6, 7, 10, 23, 24, 25, 53] [0, 4] ⟨[(3, .c (.h 0)), (6, .c (.h 4)), (7, .c (.val (.int .i64 r_16))), (10, .c (.val (.int .i64 r_50))), (23, .c (.imm (.slice (.int .i64)) l_1)), (24, .c (.val (.int .i64 (((List.length l_1) : Nat) : Int)))), (25, .c (.val (.int .i64 t_20))), (53, .c (.val (.bool false)))], [(0, .box [.val (.int .i64 d_2), .imm (.slice (.pair (.int .i64) (.pair (.int .i64) .str))) d_3]), (4, .row (.int .i64) out_44)], 5⟩ [(decide (r_50 > (0 : Int))) = true, (decide (r_50 < r_16)) = false] (by kernel_rfl) rfl rfl (ap2 b_54 (ap1 b_55)) (by kernel_rfl) (by kernel_rfl) ?_
              have H_106 := Option.some.inj (show some false = some q_93 from H_100); subst H_106
              refine VL_nil ?_
              exact QP_end false rfl [(0, 0), (4, 4)] hn (by kernel_rfl) (by kernel_rfl) rfl rfl rfl
          · have H_98 := of_f H_94 b_54
            refine V_reg hN hn [] [(34, false)] calls_nil 5 [3, 6, 7, 10, 23, 24, 25, 53] [0, 4] ⟨[(3, .c (.h 0)), (6, .c (.h 4)), (7, .c (.val (.int .i64 r_16))), (10, .c (.val (.int .i64 r_50))), (23, .c (.imm (.slice (.int .i64)) l_1)), (24, .c (.val (.int .i64 (((List.length l_1) : Nat) : Int)))), (25, .c (.val (.int .i64 t_20))), (53, .c (.val (.bool false)))], [(0, .box [.val (.int .i64 d_2), .imm (.slice (.pair (.int .i64) (.pair (.int .i64) .str))) d_3]), (4, .row (.int .i64) out_44)], 5⟩ [(decide (r_50 > (0 : Int))) = false] (by kernel_rfl) rfl rfl (ap1 b_54) (by kernel_rfl) (by kernel_rfl) ?_
            have H_107 := Option.some.inj (show some false = some q_93 from H_98); subst H_107
            refine VL_nil ?_
            exact QP_end false rfl [(0, 0), (4, 4)] hn (by kernel_rfl) (by kernel_rfl) rfl rfl rfl
        · intro y_96 hy; subst hy
          skip
          skip
          refine VL_cond (y_96) (by kernel_rfl) ?_ ?_
          · intro b_62; have H_108 := of_t H_95 b_62
            obtain ⟨c_63, H_110⟩ := of_if H_108
            refine V_run hN hn 1 5 [3, 6, 7, 23, 24, 25] [0, 6] ⟨[(3, .c (.h 0)), (6, .c (.h 6)), (7, .c (.val (.int .i64 r_16))), (23, .c (.imm (.slice (.int .i64)) l_1)), (24, .c (.val (.int .i64 (((List.length l_1) : Nat) : Int)))), (25, .c (.val (.int .i64 t_20)))], [(0, .box [.val (.int .i64 d_2), .imm (.slice (.pair (.int .i64) (.pair (.int .i64) .str))) d_3]), (6, .row (.int .i64) (out_44 ++ ([r_50] : List Int)))], 7⟩ [(List.length out_44 + List.length ([r_50] : List Int)) * 8 ≤ 140737488355328] (by kernel_rfl) rfl rfl (ap1 c_63) ?_
            refine VL_nil (QB_end ?_)
            refine V_run hN hn 1 7 [3, 6, 7, 23, 24, 25] [0, 6] ⟨[(3, .c (.h 0)), (6, .c (.h 6)), (7, .c (.val (.int .i64 r_16))), (23, .c (.imm (.slice (.int .i64)) l_1)), (24, .c (.val (.int .i64 (((List.length l_1) : Nat) : Int)))), (25, .c (.val (.int .i64 (IntKind.wrap .i64 (t_20 + (1 : Int))))))], [(0, .box [.val (.int .i64 d_2), .imm (.slice (.pair (.int .i64) (.pair (.int .i64) .str))) d_3]), (6, .row (.int .i64) (out_44 ++ ([r_50] : List Int)))], 7⟩ [] (by kernel_rfl) rfl rfl ap0 ?_
            refine VL_nil ?_
            exact V_roundEnd ((out_44 ++ ([r_50] : List Int)), (IntKind.wrap .i64 (t_20 + (1 : Int)))) H_110 [(0, 0), (4, 6)] hn (by kernel_rfl) (by kernel_rfl) rfl rfl rfl
          · intro b_62; have H_109 := of_f H_95 b_62
            refine V_run hN hn 1 5 [3, 6, 7, 10, 23, 24, 25, 53] [0, 4] ⟨[(3, .c (.h 0)), (6, .c (.h 4)), (7, .c (.val (.int .i64 r_16))), (10, .c (.val (.int .i64 r_50))), (23, .c (.imm (.slice (.int .i64)) l_1)), (24, .c (.val (.int .i64 (((List.length l_1) : Nat) : Int)))), (25, .c (.val (.int .i64 t_20))), (53, .c (.val (.bool y_96)))], [(0, .box [.val (.int .i64 d_2), .imm (.slice (.pair (.int .i64) (.pair (.int .i64) .str))) d_3]), (4, .row (.int .i64) out_44)], 5⟩ [] (by kernel_rfl) rfl rfl ap0 ?_
            refine VL_nil (QB_end ?_)
            refine V_run hN hn 1 5 [3, 6, 7, 23, 24, 25] [0, 4] ⟨[(3, .c (.h 0)), (6, .c (.h 4)), (7, .c (.val (.int .i64 r_16))), (23, .c (.imm (.slice (.int .i64)) l_1)), (24, .c (.val (.int .i64 (((List.length l_1) : Nat) : Int)))), (25, .c (.val (.int .i64 (IntKind.wrap .i64 (t_20 + (1 : Int))))))], [(0, .box [.val (.int .i64 d_2), .imm (.slice (.pair (.int .i64) (.pair (.int .i64) .str))) d_3]), (4, .row (.int .i64) out_44)], 5⟩ [] (by kernel_rfl) rfl rfl ap0 ?_
            refine VL_nil ?_
            exact V_roundEnd (out_44, (IntKind.wrap .i64 (t_20 + (1 : Int)))) H_109 [(0, 0), (4, 4)] hn (by kernel_rfl) (by kernel_rfl) rfl rfl rfl
      · intro b_47; have H_90 := of_f H_88 b_47
        refine VL_exit ?_
        refine QL_exit ?_
        refine QB_here ?_
        refine V_run hN hn 2 5 [4, 5] [4] ⟨[(4, .c (.h 4)), (5, .c (.val (.int .i64 (0 : Int))))], [(4, .row (.int .i64) out_44)], 5⟩ [] (by kernel_rfl) rfl rfl ap0 ?_
        have H_111 := Option.some.inj (show some (out_44, (0 : Int)) = some r from H_90); subst H_111
        refine VL_ret ?_
        exact P_to [(4, .c (.h 5)), (5, .c (.val (.int .i64 (0 : Int))))] [(5, .row (.int .i64) out_44)] [(5, 4)] hn (by kernel_rfl) (by kernel_rfl) rfl rfl rfl (QF_retS (by kernel_rfl) (by kernel_rfl) rfl)

theorem palinoderef11_Is_spec (K : Nat) (d_1 : Int) (d_2 : (List (Int × (Int × ByteArray)))) (r : Bool) (H : palinoderef11_Is K d_1 d_2 = some r) : Spec Try.prog 35 0 [.agg [.val (.int .i64 d_1), .imm (.slice (.pair (.int .i64) (.pair (.int .i64) .str))) d_2]] [] (.c (.val (.bool r))) [] := by
  refine Spec_mk (fn := Try.f35) (c := (Try.f35.body).get!) Try.func35 (by kernel_rfl) rfl ?_
  intro C hN hn
  replace hN : C.N = 122 := hN
  unfold palinoderef11_Is at H
  refine V_run hN hn 4 0 [1] [0] ⟨[(1, .c (.h 0))], [(0, .box [.val (.int .i64 d_1), .imm (.slice (.pair (.int .i64) (.pair (.int .i64) .str))) d_2])], 1⟩ [] (by kernel_rfl) rfl rfl ap0 ?_
  obtain ⟨q_80, H_81, H_82⟩ := of_bind H
  refine V_cut (Y := Bool) (R := Bool) q_80 (fun y => y) (fun y => [(1, .c (.h 0)), (21, .c (.val (.bool y)))]) (fun y => [(0, .box [.val (.int .i64 d_1), .imm (.slice (.pair (.int .i64) (.pair (.int .i64) .str))) d_2])]) ?_ ?_
  · skip
    rcases Bool.eq_false_or_eq_true ((decide (d_1 < (0 : Int)))) with b_4 | b_4
    · have H_84 := of_t H_81 b_4
      refine V_reg hN hn [] [(11, true)] calls_nil 1 [1, 21] [0] ⟨[(1, .c (.h 0)), (21, .c (.val (.bool true)))], [(0, .box [.val (.int .i64 d_1), .imm (.slice (.pair (.int .i64) (.pair (.int .i64) .str))) d_2])], 1⟩ [(decide (d_1 < (0 : Int))) = true] (by kernel_rfl) rfl rfl (ap1 b_4) (by kernel_rfl) (by kernel_rfl) ?_
      have H_86 := Option.some.inj (show some true = some q_80 from H_84); subst H_86
      refine VL_nil ?_
      exact QP_end true rfl [(0, 0)] hn (by kernel_rfl) (by kernel_rfl) rfl rfl rfl
    · have H_85 := of_f H_81 b_4
      rcases Bool.eq_false_or_eq_true ((decide (d_1 > (20000 : Int)))) with b_6 | b_6
      · have H_87 := of_t H_85 b_6
        refine V_reg hN hn [] [(11, false), (16, true)] calls_nil 1 [1, 21] [0] ⟨[(1, .c (.h 0)), (21, .c (.val (.bool true)))], [(0, .box [.val (.int .i64 d_1), .imm (.slice (.pair (.int .i64) (.pair (.int .i64) .str))) d_2])], 1⟩ [(decide (d_1 < (0 : Int))) = false, (decide (d_1 > (20000 : Int))) = true] (by kernel_rfl) rfl rfl (ap2 b_4 (ap1 b_6)) (by kernel_rfl) (by kernel_rfl) ?_
        have H_89 := Option.some.inj (show some true = some q_80 from H_87); subst H_89
        refine VL_nil ?_
        exact QP_end true rfl [(0, 0)] hn (by kernel_rfl) (by kernel_rfl) rfl rfl rfl
      · have H_88 := of_f H_85 b_6
        refine V_reg hN hn [] [(11, false), (16, false)] calls_nil 1 [1, 21] [0] ⟨[(1, .c (.h 0)), (21, .c (.val (.bool (decide ((((List.length d_2) : Nat) : Int) > (60 : Int))))))], [(0, .box [.val (.int .i64 d_1), .imm (.slice (.pair (.int .i64) (.pair (.int .i64) .str))) d_2])], 1⟩ [(decide (d_1 < (0 : Int))) = false, (decide (d_1 > (20000 : Int))) = false] (by kernel_rfl) rfl rfl (ap2 b_4 (ap1 b_6)) (by kernel_rfl) (by kernel_rfl) ?_
        have H_90 := Option.some.inj (show some (decide ((((List.length d_2) : Nat) : Int) > (60 : Int))) = some q_80 from H_88); subst H_90
        refine VL_nil ?_
        exact QP_end (decide ((((List.length d_2) : Nat) : Int) > (60 : Int))) rfl [(0, 0)] hn (by kernel_rfl) (by kernel_rfl) rfl rfl rfl
  · intro y_83 hy; subst hy
    skip
    skip
    refine VL_cond (y_83) (by kernel_rfl) ?_ ?_
    · intro b_10; have H_91 := of_t H_82 b_10
      refine V_run hN hn 2 1 [2] [] ⟨[(2, .c (.val (.bool false)))], [], 1⟩ [] (by kernel_rfl) rfl rfl ap0 ?_
      have H_93 := Option.some.inj (show some false = some r from H_91); subst H_93
      refine VL_ret ?_
      exact P_to [(2, .c (.val (.bool false)))] [] [] hn (by kernel_rfl) (by kernel_rfl) rfl rfl rfl (QF_retS (by kernel_rfl) (by kernel_rfl) rfl)
    · intro b_10; have H_92 := of_f H_82 b_10
      refine V_run hN hn 6 1 [1, 3, 4, 5, 6] [0] ⟨[(1, .c (.h 0)), (3, .c (.val (.int .i64 (0 : Int)))), (4, .c (.val (.bool true))), (5, .c (.val (.int .i64 (0 : Int)))), (6, .c (.val (.int .i64 (0 : Int))))], [(0, .box [.val (.int .i64 d_1), .imm (.slice (.pair (.int .i64) (.pair (.int .i64) .str))) d_2])], 1⟩ [] (by kernel_rfl) rfl rfl ap0 ?_
      refine VL_block ?_
      refine V_to [(1, .c (.h 0)), (3, .c (.val (.int .i64 (0 : Int)))), (4, .c (.val (.bool true))), (5, .c (.val (.int .i64 (0 : Int)))), (6, .c (.val (.int .i64 (0 : Int))))] [(0, .box [.val (.int .i64 d_1), .imm (.slice (.pair (.int .i64) (.pair (.int .i64) .str))) d_2])] [(0, 0)] hn (by kernel_rfl) (by kernel_rfl) rfl rfl rfl ?_
      refine VL_loop (X := (Int × Bool × Int × Int)) (fun x => [(1, .c (.h 0)), (3, .c (.val (.int .i64 x.1))), (4, .c (.val (.bool x.2.1))), (5, .c (.val (.int .i64 x.2.2.1))), (6, .c (.val (.int .i64 x.2.2.2)))]) (fun x => [(0, .box [.val (.int .i64 d_1), .imm (.slice (.pair (.int .i64) (.pair (.int .i64) .str))) d_2])]) (fun k x => palinoderef11_Is.l0 K d_2 d_1 k x.1 x.2.1 x.2.2.1 x.2.2.2 = some r) K ((0 : Int), true, (0 : Int), (0 : Int)) H_92 (fun _ h => no_none h) ?_
      intro k_17 x_17 H_94
      obtain ⟨last_13, text_14, size_15, i_16⟩ := x_17
      have H_95 : palinoderef11_Is.l0 K d_2 d_1 (k_17 + 1) last_13 text_14 size_15 i_16 = some r := H_94
      rw [palinoderef11_Is.l0] at H_95
      refine V_run hN hn 3 1 [1, 3, 4, 5, 6, 26] [0] ⟨[(1, .c (.h 0)), (3, .c (.val (.int .i64 last_13))), (4, .c (.val (.bool text_14))), (5, .c (.val (.int .i64 size_15))), (6, .c (.val (.int .i64 i_16))), (26, .c (.val (.bool (decide (i_16 < (((List.length d_2) : Nat) : Int))))))], [(0, .box [.val (.int .i64 d_1), .imm (.slice (.pair (.int .i64) (.pair (.int .i64) .str))) d_2])], 1⟩ [] (by kernel_rfl) rfl rfl ap0 ?_
      refine VL_cond ((decide (i_16 < (((List.length d_2) : Nat) : Int)))) (by kernel_rfl) ?_ ?_
      · intro b_19; have H_96 := of_t H_95 b_19
        refine V_run hN hn 2 1 [1, 3, 4, 5, 6, 26] [0] ⟨[(1, .c (.h 0)), (3, .c (.val (.int .i64 last_13))), (4, .c (.val (.bool text_14))), (5, .c (.val (.int .i64 size_15))), (6, .c (.val (.int .i64 i_16))), (26, .c (.val (.bool (decide (i_16 < (((List.length d_2) : Nat) : Int))))))], [(0, .box [.val (.int .i64 d_1), .imm (.slice (.pair (.int .i64) (.pair (.int .i64) .str))) d_2])], 1⟩ [] (by kernel_rfl) rfl rfl ap0 ?_
        refine VL_block ?_
        obtain ⟨c_21, H_98⟩ := of_if H_96
        refine V_run hN hn 5 1 [1, 3, 4, 5, 6, 7, 36] [0, 1] ⟨[(1, .c (.h 0)), (3, .c (.val (.int .i64 last_13))), (4, .c (.val (.bool text_14))), (5, .c (.val (.int .i64 size_15))), (6, .c (.val (.int .i64 i_16))), (7, .c (.h 1)), (36, .c (.val (.bool (!(ByteArray.toList (List.getD d_2 (Int.toNat i_16) ((0 : Int), ((0 : Int), ByteArray.empty))).2.2 == ByteArray.toList (ByteArray.mk #[]))))))], [(0, .box [.val (.int .i64 d_1), .imm (.slice (.pair (.int .i64) (.pair (.int .i64) .str))) d_2]), (1, .box [.val (.int .i64 (List.getD d_2 (Int.toNat i_16) ((0 : Int), ((0 : Int), ByteArray.empty))).1), .val (.int .i64 (List.getD d_2 (Int.toNat i_16) ((0 : Int), ((0 : Int), ByteArray.empty))).2.1), .val (.string (List.getD d_2 (Int.toNat i_16) ((0 : Int), ((0 : Int), ByteArray.empty))).2.2)])], 2⟩ [0 ≤ i_16, i_16 < (((List.length d_2) : Nat) : Int)] (by kernel_rfl) rfl rfl (ap2 c_21.1 (ap1 c_21.2)) ?_
        refine VL_cond ((!(ByteArray.toList (List.getD d_2 (Int.toNat i_16) ((0 : Int), ((0 : Int), ByteArray.empty))).2.2 == ByteArray.toList (ByteArray.mk #[])))) (by kernel_rfl) ?_ ?_
        · intro b_22; have H_99 := of_t H_98 b_22
          refine V_run hN hn 2 2 [1, 3, 4, 5, 6, 7, 36] [0, 1] ⟨[(1, .c (.h 0)), (3, .c (.val (.int .i64 last_13))), (4, .c (.val (.bool text_14))), (5, .c (.val (.int .i64 size_15))), (6, .c (.val (.int .i64 i_16))), (7, .c (.h 1)), (36, .c (.val (.bool (!(ByteArray.toList (List.getD d_2 (Int.toNat i_16) ((0 : Int), ((0 : Int), ByteArray.empty))).2.2 == ByteArray.toList (ByteArray.mk #[]))))))], [(0, .box [.val (.int .i64 d_1), .imm (.slice (.pair (.int .i64) (.pair (.int .i64) .str))) d_2]), (1, .box [.val (.int .i64 (List.getD d_2 (Int.toNat i_16) ((0 : Int), ((0 : Int), ByteArray.empty))).1), .val (.int .i64 (List.getD d_2 (Int.toNat i_16) ((0 : Int), ((0 : Int), ByteArray.empty))).2.1), .val (.string (List.getD d_2 (Int.toNat i_16) ((0 : Int), ((0 : Int), ByteArray.empty))).2.2)])], 2⟩ [] (by kernel_rfl) rfl rfl ap0 ?_
          obtain ⟨q_101, H_102, H_103⟩ := of_bind H_99
          refine V_cut (Y := Bool) (R := Bool) q_101 (fun y => y) (fun y => [(1, .c (.h 0)), (3, .c (.val (.int .i64 last_13))), (5, .c (.val (.int .i64 size_15))), (6, .c (.val (.int .i64 i_16))), (7, .c (.h 1)), (65, .c (.val (.bool y)))]) (fun y => [(0, .box [.val (.int .i64 d_1), .imm (.slice (.pair (.int .i64) (.pair (.int .i64) .str))) d_2]), (1, .box [.val (.int .i64 (List.getD d_2 (Int.toNat i_16) ((0 : Int), ((0 : Int), ByteArray.empty))).1), .val (.int .i64 (List.getD d_2 (Int.toNat i_16) ((0 : Int), ((0 : Int), ByteArray.empty))).2.1), .val (.string (List.getD d_2 (Int.toNat i_16) ((0 : Int), ((0 : Int), ByteArray.empty))).2.2)])]) ?_ ?_
          · skip
            rcases Bool.eq_false_or_eq_true (((List.getD d_2 (Int.toNat i_16) ((0 : Int), ((0 : Int), ByteArray.empty))).1 != (0 : Int))) with b_24 | b_24
            · have H_105 := of_t H_102 b_24
              refine V_reg hN hn [] [(40, true)] calls_nil 2 [1, 3, 5, 6, 7, 65] [0, 1] ⟨[(1, .c (.h 0)), (3, .c (.val (.int .i64 last_13))), (5, .c (.val (.int .i64 size_15))), (6, .c (.val (.int .i64 i_16))), (7, .c (.h 1)), (65, .c (.val (.bool true)))], [(0, .box [.val (.int .i64 d_1), .imm (.slice (.pair (.int .i64) (.pair (.int .i64) .str))) d_2]), (1, .box [.val (.int .i64 (List.getD d_2 (Int.toNat i_16) ((0 : Int), ((0 : Int), ByteArray.empty))).1), .val (.int .i64 (List.getD d_2 (Int.toNat i_16) ((0 : Int), ((0 : Int), ByteArray.empty))).2.1), .val (.string (List.getD d_2 (Int.toNat i_16) ((0 : Int), ((0 : Int), ByteArray.empty))).2.2)])], 2⟩ [((List.getD d_2 (Int.toNat i_16) ((0 : Int), ((0 : Int), ByteArray.empty))).1 != (0 : Int)) = true] (by kernel_rfl) rfl rfl (ap1 b_24) (by kernel_rfl) (by kernel_rfl) ?_
              have H_107 := Option.some.inj (show some true = some q_101 from H_105); subst H_107
              refine VL_nil ?_
              exact QP_end true rfl [(0, 0), (1, 1)] hn (by kernel_rfl) (by kernel_rfl) rfl rfl rfl
            · have H_106 := of_f H_102 b_24
              rcases Bool.eq_false_or_eq_true (((List.getD d_2 (Int.toNat i_16) ((0 : Int), ((0 : Int), ByteArray.empty))).2.1 != (0 : Int))) with b_26 | b_26
              · have H_108 := of_t H_106 b_26
                refine V_reg hN hn [] [(40, false), (45, true)] calls_nil 2 [1, 3, 5, 6, 7, 65] [0, 1] ⟨[(1, .c (.h 0)), (3, .c (.val (.int .i64 last_13))), (5, .c (.val (.int .i64 size_15))), (6, .c (.val (.int .i64 i_16))), (7, .c (.h 1)), (65, .c (.val (.bool true)))], [(0, .box [.val (.int .i64 d_1), .imm (.slice (.pair (.int .i64) (.pair (.int .i64) .str))) d_2]), (1, .box [.val (.int .i64 (List.getD d_2 (Int.toNat i_16) ((0 : Int), ((0 : Int), ByteArray.empty))).1), .val (.int .i64 (List.getD d_2 (Int.toNat i_16) ((0 : Int), ((0 : Int), ByteArray.empty))).2.1), .val (.string (List.getD d_2 (Int.toNat i_16) ((0 : Int), ((0 : Int), ByteArray.empty))).2.2)])], 2⟩ [((List.getD d_2 (Int.toNat i_16) ((0 : Int), ((0 : Int), ByteArray.empty))).1 != (0 : Int)) = false, ((List.getD d_2 (Int.toNat i_16) ((0 : Int), ((0 : Int), ByteArray.empty))).2.1 != (0 : Int)) = true] (by kernel_rfl) rfl rfl (ap2 b_24 (ap1 b_26)) (by kernel_rfl) (by kernel_rfl) ?_
                have H_110 := Option.some.inj (show some true = some q_101 from H_108); subst H_110
                refine VL_nil ?_
                exact QP_end true rfl [(0, 0), (1, 1)] hn (by kernel_rfl) (by kernel_rfl) rfl rfl rfl
              · have H_109 := of_f H_106 b_26
                rcases Bool.eq_false_or_eq_true ((decide (i_16 > (0 : Int)))) with b_28 | b_28
                · have H_111 := of_t H_109 b_28
                  rcases Bool.eq_false_or_eq_true (text_14) with b_29 | b_29
                  · have H_113 := of_t H_111 b_29
                    refine V_reg hN hn [] [(40, false), (45, false), (48, true), (52, true)] calls_nil 2 [1, 3, 5, 6, 7, 65] [0, 1] ⟨[(1, .c (.h 0)), (3, .c (.val (.int .i64 last_13))), (5, .c (.val (.int .i64 size_15))), (6, .c (.val (.int .i64 i_16))), (7, .c (.h 1)), (65, .c (.val (.bool true)))], [(0, .box [.val (.int .i64 d_1), .imm (.slice (.pair (.int .i64) (.pair (.int .i64) .str))) d_2]), (1, .box [.val (.int .i64 (List.getD d_2 (Int.toNat i_16) ((0 : Int), ((0 : Int), ByteArray.empty))).1), .val (.int .i64 (List.getD d_2 (Int.toNat i_16) ((0 : Int), ((0 : Int), ByteArray.empty))).2.1), .val (.string (List.getD d_2 (Int.toNat i_16) ((0 : Int), ((0 : Int), ByteArray.empty))).2.2)])], 2⟩ [((List.getD d_2 (Int.toNat i_16) ((0 : Int), ((0 : Int), ByteArray.empty))).1 != (0 : Int)) = false, ((List.getD d_2 (Int.toNat i_16) ((0 : Int), ((0 : Int), ByteArray.empty))).2.1 != (0 : Int)) = false, (decide (i_16 > (0 : Int))) = true, text_14 = true] (by kernel_rfl) rfl rfl (ap2 b_24 (ap2 b_26 (ap2 b_28 (ap1 b_29)))) (by kernel_rfl) (by kernel_rfl) ?_
                    have H_115 := Option.some.inj (show some true = some q_101 from H_113); subst H_115
                    refine VL_nil ?_
                    exact QP_end true rfl [(0, 0), (1, 1)] hn (by kernel_rfl) (by kernel_rfl) rfl rfl rfl
                  · have H_114 := of_f H_111 b_29
                    rcases Bool.eq_false_or_eq_true ((decide ((((ByteArray.size (List.getD d_2 (Int.toNat i_16) ((0 : Int), ((0 : Int), ByteArray.empty))).2.2) : Nat) : Int) > (IntKind.wrap .i64 ((20000 : Int) - size_15))))) with b_31 | b_31
                    · have H_116 := of_t H_114 b_31
                      refine V_reg hN hn [] [(40, false), (45, false), (48, true), (52, false), (60, true)] calls_nil 2 [1, 3, 5, 6, 7, 65] [0, 1] ⟨[(1, .c (.h 0)), (3, .c (.val (.int .i64 last_13))), (5, .c (.val (.int .i64 size_15))), (6, .c (.val (.int .i64 i_16))), (7, .c (.h 1)), (65, .c (.val (.bool true)))], [(0, .box [.val (.int .i64 d_1), .imm (.slice (.pair (.int .i64) (.pair (.int .i64) .str))) d_2]), (1, .box [.val (.int .i64 (List.getD d_2 (Int.toNat i_16) ((0 : Int), ((0 : Int), ByteArray.empty))).1), .val (.int .i64 (List.getD d_2 (Int.toNat i_16) ((0 : Int), ((0 : Int), ByteArray.empty))).2.1), .val (.string (List.getD d_2 (Int.toNat i_16) ((0 : Int), ((0 : Int), ByteArray.empty))).2.2)])], 2⟩ [((List.getD d_2 (Int.toNat i_16) ((0 : Int), ((0 : Int), ByteArray.empty))).1 != (0 : Int)) = false, ((List.getD d_2 (Int.toNat i_16) ((0 : Int), ((0 : Int), ByteArray.empty))).2.1 != (0 : Int)) = false, (decide (i_16 > (0 : Int))) = true, text_14 = false, (decide ((((ByteArray.size (List.getD d_2 (Int.toNat i_16) ((0 : Int), ((0 : Int), ByteArray.empty))).2.2) : Nat) : Int) > (IntKind.wrap .i64 ((20000 : Int) - size_15)))) = true] (by kernel_rfl) rfl rfl (ap2 b_24 (ap2 b_26 (ap2 b_28 (ap2 b_29 (ap1 b_31))))) (by kernel_rfl) (by kernel_rfl) ?_
                      have H_118 := Option.some.inj (show some true = some q_101 from H_116); subst H_118
                      refine VL_nil ?_
                      exact QP_end true rfl [(0, 0), (1, 1)] hn (by kernel_rfl) (by kernel_rfl) rfl rfl rfl
                    · have H_117 := of_f H_114 b_31
                      obtain ⟨r_33, h_34, H_119⟩ := of_bind H_117
                      refine V_reg hN hn [(26, ⟨13, 0, [.c (.val (.string (List.getD d_2 (Int.toNat i_16) ((0 : Int), ((0 : Int), ByteArray.empty))).2.2))], [], .c (.val (.bool r_33)), [], [], 2⟩)] [(40, false), (45, false), (48, true), (52, false), (60, false)] (calls_cons (palinoderef1_Valid_spec K (List.getD d_2 (Int.toNat i_16) ((0 : Int), ((0 : Int), ByteArray.empty))).2.2 r_33 h_34) (by kernel_rfl) calls_nil) 2 [1, 3, 5, 6, 7, 65] [0, 1] ⟨[(1, .c (.h 0)), (3, .c (.val (.int .i64 last_13))), (5, .c (.val (.int .i64 size_15))), (6, .c (.val (.int .i64 i_16))), (7, .c (.h 1)), (65, .c (.val (.bool (!r_33))))], [(0, .box [.val (.int .i64 d_1), .imm (.slice (.pair (.int .i64) (.pair (.int .i64) .str))) d_2]), (1, .box [.val (.int .i64 (List.getD d_2 (Int.toNat i_16) ((0 : Int), ((0 : Int), ByteArray.empty))).1), .val (.int .i64 (List.getD d_2 (Int.toNat i_16) ((0 : Int), ((0 : Int), ByteArray.empty))).2.1), .val (.string (List.getD d_2 (Int.toNat i_16) ((0 : Int), ((0 : Int), ByteArray.empty))).2.2)])], 2⟩ [((List.getD d_2 (Int.toNat i_16) ((0 : Int), ((0 : Int), ByteArray.empty))).1 != (0 : Int)) = false, ((List.getD d_2 (Int.toNat i_16) ((0 : Int), ((0 : Int), ByteArray.empty))).2.1 != (0 : Int)) = false, (decide (i_16 > (0 : Int))) = true, text_14 = false, (decide ((((ByteArray.size (List.getD d_2 (Int.toNat i_16) ((0 : Int), ((0 : Int), ByteArray.empty))).2.2) : Nat) : Int) > (IntKind.wrap .i64 ((20000 : Int) - size_15)))) = false] (by kernel_rfl) rfl rfl (ap2 b_24 (ap2 b_26 (ap2 b_28 (ap2 b_29 (ap1 b_31))))) (by kernel_rfl) (by kernel_rfl) ?_
                      have H_120 := Option.some.inj (show some (!r_33) = some q_101 from H_119); subst H_120
                      refine VL_nil ?_
                      exact QP_end (!r_33) rfl [(0, 0), (1, 1)] hn (by kernel_rfl) (by kernel_rfl) rfl rfl rfl
                · have H_112 := of_f H_109 b_28
                  rcases Bool.eq_false_or_eq_true ((decide ((((ByteArray.size (List.getD d_2 (Int.toNat i_16) ((0 : Int), ((0 : Int), ByteArray.empty))).2.2) : Nat) : Int) > (IntKind.wrap .i64 ((20000 : Int) - size_15))))) with b_36 | b_36
                  · have H_121 := of_t H_112 b_36
                    refine V_reg hN hn [] [(40, false), (45, false), (48, false), (60, true)] calls_nil 2 [1, 3, 5, 6, 7, 65] [0, 1] ⟨[(1, .c (.h 0)), (3, .c (.val (.int .i64 last_13))), (5, .c (.val (.int .i64 size_15))), (6, .c (.val (.int .i64 i_16))), (7, .c (.h 1)), (65, .c (.val (.bool true)))], [(0, .box [.val (.int .i64 d_1), .imm (.slice (.pair (.int .i64) (.pair (.int .i64) .str))) d_2]), (1, .box [.val (.int .i64 (List.getD d_2 (Int.toNat i_16) ((0 : Int), ((0 : Int), ByteArray.empty))).1), .val (.int .i64 (List.getD d_2 (Int.toNat i_16) ((0 : Int), ((0 : Int), ByteArray.empty))).2.1), .val (.string (List.getD d_2 (Int.toNat i_16) ((0 : Int), ((0 : Int), ByteArray.empty))).2.2)])], 2⟩ [((List.getD d_2 (Int.toNat i_16) ((0 : Int), ((0 : Int), ByteArray.empty))).1 != (0 : Int)) = false, ((List.getD d_2 (Int.toNat i_16) ((0 : Int), ((0 : Int), ByteArray.empty))).2.1 != (0 : Int)) = false, (decide (i_16 > (0 : Int))) = false, (decide ((((ByteArray.size (List.getD d_2 (Int.toNat i_16) ((0 : Int), ((0 : Int), ByteArray.empty))).2.2) : Nat) : Int) > (IntKind.wrap .i64 ((20000 : Int) - size_15)))) = true] (by kernel_rfl) rfl rfl (ap2 b_24 (ap2 b_26 (ap2 b_28 (ap1 b_36)))) (by kernel_rfl) (by kernel_rfl) ?_
                    have H_123 := Option.some.inj (show some true = some q_101 from H_121); subst H_123
                    refine VL_nil ?_
                    exact QP_end true rfl [(0, 0), (1, 1)] hn (by kernel_rfl) (by kernel_rfl) rfl rfl rfl
                  · have H_122 := of_f H_112 b_36
                    obtain ⟨r_38, h_39, H_124⟩ := of_bind H_122
                    refine V_reg hN hn [(26, ⟨13, 0, [.c (.val (.string (List.getD d_2 (Int.toNat i_16) ((0 : Int), ((0 : Int), ByteArray.empty))).2.2))], [], .c (.val (.bool r_38)), [], [], 2⟩)] [(40, false), (45, false), (48, false), (60, false)] (calls_cons (palinoderef1_Valid_spec K (List.getD d_2 (Int.toNat i_16) ((0 : Int), ((0 : Int), ByteArray.empty))).2.2 r_38 h_39) (by kernel_rfl) calls_nil) 2 [1, 3, 5, 6, 7, 65] [0, 1] ⟨[(1, .c (.h 0)), (3, .c (.val (.int .i64 last_13))), (5, .c (.val (.int .i64 size_15))), (6, .c (.val (.int .i64 i_16))), (7, .c (.h 1)), (65, .c (.val (.bool (!r_38))))], [(0, .box [.val (.int .i64 d_1), .imm (.slice (.pair (.int .i64) (.pair (.int .i64) .str))) d_2]), (1, .box [.val (.int .i64 (List.getD d_2 (Int.toNat i_16) ((0 : Int), ((0 : Int), ByteArray.empty))).1), .val (.int .i64 (List.getD d_2 (Int.toNat i_16) ((0 : Int), ((0 : Int), ByteArray.empty))).2.1), .val (.string (List.getD d_2 (Int.toNat i_16) ((0 : Int), ((0 : Int), ByteArray.empty))).2.2)])], 2⟩ [((List.getD d_2 (Int.toNat i_16) ((0 : Int), ((0 : Int), ByteArray.empty))).1 != (0 : Int)) = false, ((List.getD d_2 (Int.toNat i_16) ((0 : Int), ((0 : Int), ByteArray.empty))).2.1 != (0 : Int)) = false, (decide (i_16 > (0 : Int))) = false, (decide ((((ByteArray.size (List.getD d_2 (Int.toNat i_16) ((0 : Int), ((0 : Int), ByteArray.empty))).2.2) : Nat) : Int) > (IntKind.wrap .i64 ((20000 : Int) - size_15)))) = false] (by kernel_rfl) rfl rfl (ap2 b_24 (ap2 b_26 (ap2 b_28 (ap1 b_36)))) (by kernel_rfl) (by kernel_rfl) ?_
                    have H_125 := Option.some.inj (show some (!r_38) = some q_101 from H_124); subst H_125
                    refine VL_nil ?_
                    exact QP_end (!r_38) rfl [(0, 0), (1, 1)] hn (by kernel_rfl) (by kernel_rfl) rfl rfl rfl
          · intro y_104 hy; subst hy
            skip
            skip
            refine VL_cond (y_104) (by kernel_rfl) ?_ ?_
            · intro b_42; have H_126 := of_t H_103 b_42
              refine V_run hN hn 2 2 [2] [] ⟨[(2, .c (.val (.bool false)))], [], 2⟩ [] (by kernel_rfl) rfl rfl ap0 ?_
              have H_128 := Option.some.inj (show some false = some r from H_126); subst H_128
              refine VL_ret ?_
              refine QB_ret ?_
              refine QL_ret ?_
              refine QB_ret ?_
              exact P_to [(2, .c (.val (.bool false)))] [] [] hn (by kernel_rfl) (by kernel_rfl) rfl rfl rfl (QF_retS (by kernel_rfl) (by kernel_rfl) rfl)
            · intro b_42; have H_127 := of_f H_103 b_42
              refine V_run hN hn 5 2 [1, 3, 4, 5, 6] [0] ⟨[(1, .c (.h 0)), (3, .c (.val (.int .i64 last_13))), (4, .c (.val (.bool true))), (5, .c (.val (.int .i64 (IntKind.wrap .i64 (size_15 + (((ByteArray.size (List.getD d_2 (Int.toNat i_16) ((0 : Int), ((0 : Int), ByteArray.empty))).2.2) : Nat) : Int)))))), (6, .c (.val (.int .i64 i_16)))], [(0, .box [.val (.int .i64 d_1), .imm (.slice (.pair (.int .i64) (.pair (.int .i64) .str))) d_2])], 2⟩ [] (by kernel_rfl) rfl rfl ap0 ?_
              refine VL_exit ?_
              refine QB_here ?_
              refine V_run hN hn 1 2 [1, 3, 4, 5, 6] [0] ⟨[(1, .c (.h 0)), (3, .c (.val (.int .i64 last_13))), (4, .c (.val (.bool true))), (5, .c (.val (.int .i64 (IntKind.wrap .i64 (size_15 + (((ByteArray.size (List.getD d_2 (Int.toNat i_16) ((0 : Int), ((0 : Int), ByteArray.empty))).2.2) : Nat) : Int)))))), (6, .c (.val (.int .i64 (IntKind.wrap .i64 (i_16 + (1 : Int))))))], [(0, .box [.val (.int .i64 d_1), .imm (.slice (.pair (.int .i64) (.pair (.int .i64) .str))) d_2])], 2⟩ [] (by kernel_rfl) rfl rfl ap0 ?_
              refine VL_nil ?_
              exact V_roundEnd (last_13, true, (IntKind.wrap .i64 (size_15 + (((ByteArray.size (List.getD d_2 (Int.toNat i_16) ((0 : Int), ((0 : Int), ByteArray.empty))).2.2) : Nat) : Int))), (IntKind.wrap .i64 (i_16 + (1 : Int)))) H_127 [(0, 0)] hn (by kernel_rfl) (by kernel_rfl) rfl rfl rfl
        · intro b_22; have H_100 := of_f H_98 b_22
          refine V_run hN hn 3 2 [1, 3, 4, 5, 6, 7, 36] [0, 1] ⟨[(1, .c (.h 0)), (3, .c (.val (.int .i64 last_13))), (4, .c (.val (.bool text_14))), (5, .c (.val (.int .i64 size_15))), (6, .c (.val (.int .i64 i_16))), (7, .c (.h 1)), (36, .c (.val (.bool (!(ByteArray.toList (List.getD d_2 (Int.toNat i_16) ((0 : Int), ((0 : Int), ByteArray.empty))).2.2 == ByteArray.toList (ByteArray.mk #[]))))))], [(0, .box [.val (.int .i64 d_1), .imm (.slice (.pair (.int .i64) (.pair (.int .i64) .str))) d_2]), (1, .box [.val (.int .i64 (List.getD d_2 (Int.toNat i_16) ((0 : Int), ((0 : Int), ByteArray.empty))).1), .val (.int .i64 (List.getD d_2 (Int.toNat i_16) ((0 : Int), ((0 : Int), ByteArray.empty))).2.1), .val (.string (List.getD d_2 (Int.toNat i_16) ((0 : Int), ((0 : Int), ByteArray.empty))).2.2)])], 2⟩ [] (by kernel_rfl) rfl rfl ap0 ?_
          obtain ⟨q_129, H_130, H_131⟩ := of_bind H_100
          refine V_cut (Y := Bool) (R := Bool) q_129 (fun y => y) (fun y => [(1, .c (.h 0)), (5, .c (.val (.int .i64 size_15))), (6, .c (.val (.int .i64 i_16))), (7, .c (.h 1)), (112, .c (.val (.bool y)))]) (fun y => [(0, .box [.val (.int .i64 d_1), .imm (.slice (.pair (.int .i64) (.pair (.int .i64) .str))) d_2]), (1, .box [.val (.int .i64 (List.getD d_2 (Int.toNat i_16) ((0 : Int), ((0 : Int), ByteArray.empty))).1), .val (.int .i64 (List.getD d_2 (Int.toNat i_16) ((0 : Int), ((0 : Int), ByteArray.empty))).2.1), .val (.string (List.getD d_2 (Int.toNat i_16) ((0 : Int), ((0 : Int), ByteArray.empty))).2.2)])]) ?_ ?_
          · skip
            rcases Bool.eq_false_or_eq_true ((decide ((List.getD d_2 (Int.toNat i_16) ((0 : Int), ((0 : Int), ByteArray.empty))).1 < last_13))) with b_47 | b_47
            · have H_133 := of_t H_130 b_47
              refine V_reg hN hn [] [(75, true)] calls_nil 2 [1, 5, 6, 7, 112] [0, 1] ⟨[(1, .c (.h 0)), (5, .c (.val (.int .i64 size_15))), (6, .c (.val (.int .i64 i_16))), (7, .c (.h 1)), (112, .c (.val (.bool true)))], [(0, .box [.val (.int .i64 d_1), .imm (.slice (.pair (.int .i64) (.pair (.int .i64) .str))) d_2]), (1, .box [.val (.int .i64 (List.getD d_2 (Int.toNat i_16) ((0 : Int), ((0 : Int), ByteArray.empty))).1), .val (.int .i64 (List.getD d_2 (Int.toNat i_16) ((0 : Int), ((0 : Int), ByteArray.empty))).2.1), .val (.string (List.getD d_2 (Int.toNat i_16) ((0 : Int), ((0 : Int), ByteArray.empty))).2.2)])], 2⟩ [(decide ((List.getD d_2 (Int.toNat i_16) ((0 : Int), ((0 : Int), ByteArray.empty))).1 < last_13)) = true] (by kernel_rfl) rfl rfl (ap1 b_47) (by kernel_rfl) (by kernel_rfl) ?_
              have H_135 := Option.some.inj (show some true = some q_129 from H_133); subst H_135
              refine VL_nil ?_
              exact QP_end true rfl [(0, 0), (1, 1)] hn (by kernel_rfl) (by kernel_rfl) rfl rfl rfl
            · have H_134 := of_f H_130 b_47
              rcases Bool.eq_false_or_eq_true ((decide (i_16 > (0 : Int)))) with b_49 | b_49
              · have H_136 := of_t H_134 b_49
                rcases Bool.eq_false_or_eq_true ((!text_14)) with b_50 | b_50
                · have H_138 := of_t H_136 b_50
                  rcases Bool.eq_false_or_eq_true (((List.getD d_2 (Int.toNat i_16) ((0 : Int), ((0 : Int), ByteArray.empty))).1 == last_13)) with b_51 | b_51
                  · have H_140 := of_t H_138 b_51
                    refine V_reg hN hn [] [(75, false), (78, true), (82, true), (89, true)] calls_nil 2 [1, 5, 6, 7, 112] [0, 1] ⟨[(1, .c (.h 0)), (5, .c (.val (.int .i64 size_15))), (6, .c (.val (.int .i64 i_16))), (7, .c (.h 1)), (112, .c (.val (.bool true)))], [(0, .box [.val (.int .i64 d_1), .imm (.slice (.pair (.int .i64) (.pair (.int .i64) .str))) d_2]), (1, .box [.val (.int .i64 (List.getD d_2 (Int.toNat i_16) ((0 : Int), ((0 : Int), ByteArray.empty))).1), .val (.int .i64 (List.getD d_2 (Int.toNat i_16) ((0 : Int), ((0 : Int), ByteArray.empty))).2.1), .val (.string (List.getD d_2 (Int.toNat i_16) ((0 : Int), ((0 : Int), ByteArray.empty))).2.2)])], 2⟩ [(decide ((List.getD d_2 (Int.toNat i_16) ((0 : Int), ((0 : Int), ByteArray.empty))).1 < last_13)) = false, (decide (i_16 > (0 : Int))) = true, (!text_14) = true, ((List.getD d_2 (Int.toNat i_16) ((0 : Int), ((0 : Int), ByteArray.empty))).1 == last_13) = true] (by kernel_rfl) rfl rfl (ap2 b_47 (ap2 b_49 (ap2 b_50 (ap1 b_51)))) (by kernel_rfl) (by kernel_rfl) ?_
                    have H_142 := Option.some.inj (show some true = some q_129 from H_140); subst H_142
                    refine VL_nil ?_
                    exact QP_end true rfl [(0, 0), (1, 1)] hn (by kernel_rfl) (by kernel_rfl) rfl rfl rfl
                  · have H_141 := of_f H_138 b_51
                    rcases Bool.eq_false_or_eq_true ((decide ((List.getD d_2 (Int.toNat i_16) ((0 : Int), ((0 : Int), ByteArray.empty))).2.1 ≤ (List.getD d_2 (Int.toNat i_16) ((0 : Int), ((0 : Int), ByteArray.empty))).1))) with b_53 | b_53
                    · have H_143 := of_t H_141 b_53
                      refine V_reg hN hn [] [(75, false), (78, true), (82, true), (89, false), (96, true)] calls_nil 2 [1, 5, 6, 7, 112] [0, 1] ⟨[(1, .c (.h 0)), (5, .c (.val (.int .i64 size_15))), (6, .c (.val (.int .i64 i_16))), (7, .c (.h 1)), (112, .c (.val (.bool true)))], [(0, .box [.val (.int .i64 d_1), .imm (.slice (.pair (.int .i64) (.pair (.int .i64) .str))) d_2]), (1, .box [.val (.int .i64 (List.getD d_2 (Int.toNat i_16) ((0 : Int), ((0 : Int), ByteArray.empty))).1), .val (.int .i64 (List.getD d_2 (Int.toNat i_16) ((0 : Int), ((0 : Int), ByteArray.empty))).2.1), .val (.string (List.getD d_2 (Int.toNat i_16) ((0 : Int), ((0 : Int), ByteArray.empty))).2.2)])], 2⟩ [(decide ((List.getD d_2 (Int.toNat i_16) ((0 : Int), ((0 : Int), ByteArray.empty))).1 < last_13)) = false, (decide (i_16 > (0 : Int))) = true, (!text_14) = true, ((List.getD d_2 (Int.toNat i_16) ((0 : Int), ((0 : Int), ByteArray.empty))).1 == last_13) = false, (decide ((List.getD d_2 (Int.toNat i_16) ((0 : Int), ((0 : Int), ByteArray.empty))).2.1 ≤ (List.getD d_2 (Int.toNat i_16) ((0 : Int), ((0 : Int), ByteArray.empty))).1)) = true] (by kernel_rfl) rfl rfl (ap2 b_47 (ap2 b_49 (ap2 b_50 (ap2 b_51 (ap1 b_53))))) (by kernel_rfl) (by kernel_rfl) ?_
                      have H_145 := Option.some.inj (show some true = some q_129 from H_143); subst H_145
                      refine VL_nil ?_
                      exact QP_end true rfl [(0, 0), (1, 1)] hn (by kernel_rfl) (by kernel_rfl) rfl rfl rfl
                    · have H_144 := of_f H_141 b_53
                      rcases Bool.eq_false_or_eq_true ((decide ((List.getD d_2 (Int.toNat i_16) ((0 : Int), ((0 : Int), ByteArray.empty))).2.1 > d_1))) with b_55 | b_55
                      · have H_146 := of_t H_144 b_55
                        refine V_reg hN hn [] [(75, false), (78, true), (82, true), (89, false), (96, false), (103, true)] calls_nil 2 [1, 5, 6, 7, 112] [0, 1] ⟨[(1, .c (.h 0)), (5, .c (.val (.int .i64 size_15))), (6, .c (.val (.int .i64 i_16))), (7, .c (.h 1)), (112, .c (.val (.bool true)))], [(0, .box [.val (.int .i64 d_1), .imm (.slice (.pair (.int .i64) (.pair (.int .i64) .str))) d_2]), (1, .box [.val (.int .i64 (List.getD d_2 (Int.toNat i_16) ((0 : Int), ((0 : Int), ByteArray.empty))).1), .val (.int .i64 (List.getD d_2 (Int.toNat i_16) ((0 : Int), ((0 : Int), ByteArray.empty))).2.1), .val (.string (List.getD d_2 (Int.toNat i_16) ((0 : Int), ((0 : Int), ByteArray.empty))).2.2)])], 2⟩ [(decide ((List.getD d_2 (Int.toNat i_16) ((0 : Int), ((0 : Int), ByteArray.empty))).1 < last_13)) = false, (decide (i_16 > (0 : Int))) = true, (!text_14) = true, ((List.getD d_2 (Int.toNat i_16) ((0 : Int), ((0 : Int), ByteArray.empty))).1 == last_13) = false, (decide ((List.getD d_2 (Int.toNat i_16) ((0 : Int), ((0 : Int), ByteArray.empty))).2.1 ≤ (List.getD d_2 (Int.toNat i_16) ((0 : Int), ((0 : Int), ByteArray.empty))).1)) = false, (decide ((List.getD d_2 (Int.toNat i_16) ((0 : Int), ((0 : Int), ByteArray.empty))).2.1 > d_1)) = true] (by kernel_rfl) rfl rfl (ap2 b_47 (ap2 b_49 (ap2 b_50 (ap2 b_51 (ap2 b_53 (ap1 b_55)))))) (by kernel_rfl) (by kernel_rfl) ?_
                        have H_148 := Option.some.inj (show some true = some q_129 from H_146); subst H_148
                        refine VL_nil ?_
                        exact QP_end true rfl [(0, 0), (1, 1)] hn (by kernel_rfl) (by kernel_rfl) rfl rfl rfl
                      · have H_147 := of_f H_144 b_55
                        refine V_reg hN hn [] [(75, false), (78, true), (82, true), (89, false), (96, false), (103, false)] calls_nil 2 [1, 5, 6, 7, 112] [0, 1] ⟨[(1, .c (.h 0)), (5, .c (.val (.int .i64 size_15))), (6, .c (.val (.int .i64 i_16))), (7, .c (.h 1)), (112, .c (.val (.bool (decide ((IntKind.wrap .i64 ((List.getD d_2 (Int.toNat i_16) ((0 : Int), ((0 : Int), ByteArray.empty))).2.1 - (List.getD d_2 (Int.toNat i_16) ((0 : Int), ((0 : Int), ByteArray.empty))).1)) > (IntKind.wrap .i64 ((20000 : Int) - size_15)))))))], [(0, .box [.val (.int .i64 d_1), .imm (.slice (.pair (.int .i64) (.pair (.int .i64) .str))) d_2]), (1, .box [.val (.int .i64 (List.getD d_2 (Int.toNat i_16) ((0 : Int), ((0 : Int), ByteArray.empty))).1), .val (.int .i64 (List.getD d_2 (Int.toNat i_16) ((0 : Int), ((0 : Int), ByteArray.empty))).2.1), .val (.string (List.getD d_2 (Int.toNat i_16) ((0 : Int), ((0 : Int), ByteArray.empty))).2.2)])], 2⟩ [(decide ((List.getD d_2 (Int.toNat i_16) ((0 : Int), ((0 : Int), ByteArray.empty))).1 < last_13)) = false, (decide (i_16 > (0 : Int))) = true, (!text_14) = true, ((List.getD d_2 (Int.toNat i_16) ((0 : Int), ((0 : Int), ByteArray.empty))).1 == last_13) = false, (decide ((List.getD d_2 (Int.toNat i_16) ((0 : Int), ((0 : Int), ByteArray.empty))).2.1 ≤ (List.getD d_2 (Int.toNat i_16) ((0 : Int), ((0 : Int), ByteArray.empty))).1)) = false, (decide ((List.getD d_2 (Int.toNat i_16) ((0 : Int), ((0 : Int), ByteArray.empty))).2.1 > d_1)) = false] (by kernel_rfl) rfl rfl (ap2 b_47 (ap2 b_49 (ap2 b_50 (ap2 b_51 (ap2 b_53 (ap1 b_55)))))) (by kernel_rfl) (by kernel_rfl) ?_
                        have H_149 := Option.some.inj (show some (decide ((IntKind.wrap .i64 ((List.getD d_2 (Int.toNat i_16) ((0 : Int), ((0 : Int), ByteArray.empty))).2.1 - (List.getD d_2 (Int.toNat i_16) ((0 : Int), ((0 : Int), ByteArray.empty))).1)) > (IntKind.wrap .i64 ((20000 : Int) - size_15)))) = some q_129 from H_147); subst H_149
                        refine VL_nil ?_
                        exact QP_end (decide ((IntKind.wrap .i64 ((List.getD d_2 (Int.toNat i_16) ((0 : Int), ((0 : Int), ByteArray.empty))).2.1 - (List.getD d_2 (Int.toNat i_16) ((0 : Int), ((0 : Int), ByteArray.empty))).1)) > (IntKind.wrap .i64 ((20000 : Int) - size_15)))) rfl [(0, 0), (1, 1)] hn (by kernel_rfl) (by kernel_rfl) rfl rfl rfl
                · have H_139 := of_f H_136 b_50
                  rcases Bool.eq_false_or_eq_true ((decide ((List.getD d_2 (Int.toNat i_16) ((0 : Int), ((0 : Int), ByteArray.empty))).2.1 ≤ (List.getD d_2 (Int.toNat i_16) ((0 : Int), ((0 : Int), ByteArray.empty))).1))) with b_58 | b_58
                  · have H_150 := of_t H_139 b_58
                    refine V_reg hN hn [] [(75, false), (78, true), (82, false), (96, true)] calls_nil 2 [1, 5, 6, 7, 112] [0, 1] ⟨[(1, .c (.h 0)), (5, .c (.val (.int .i64 size_15))), (6, .c (.val (.int .i64 i_16))), (7, .c (.h 1)), (112, .c (.val (.bool true)))], [(0, .box [.val (.int .i64 d_1), .imm (.slice (.pair (.int .i64) (.pair (.int .i64) .str))) d_2]), (1, .box [.val (.int .i64 (List.getD d_2 (Int.toNat i_16) ((0 : Int), ((0 : Int), ByteArray.empty))).1), .val (.int .i64 (List.getD d_2 (Int.toNat i_16) ((0 : Int), ((0 : Int), ByteArray.empty))).2.1), .val (.string (List.getD d_2 (Int.toNat i_16) ((0 : Int), ((0 : Int), ByteArray.empty))).2.2)])], 2⟩ [(decide ((List.getD d_2 (Int.toNat i_16) ((0 : Int), ((0 : Int), ByteArray.empty))).1 < last_13)) = false, (decide (i_16 > (0 : Int))) = true, (!text_14) = false, (decide ((List.getD d_2 (Int.toNat i_16) ((0 : Int), ((0 : Int), ByteArray.empty))).2.1 ≤ (List.getD d_2 (Int.toNat i_16) ((0 : Int), ((0 : Int), ByteArray.empty))).1)) = true] (by kernel_rfl) rfl rfl (ap2 b_47 (ap2 b_49 (ap2 b_50 (ap1 b_58)))) (by kernel_rfl) (by kernel_rfl) ?_
                    have H_152 := Option.some.inj (show some true = some q_129 from H_150); subst H_152
                    refine VL_nil ?_
                    exact QP_end true rfl [(0, 0), (1, 1)] hn (by kernel_rfl) (by kernel_rfl) rfl rfl rfl
                  · have H_151 := of_f H_139 b_58
                    rcases Bool.eq_false_or_eq_true ((decide ((List.getD d_2 (Int.toNat i_16) ((0 : Int), ((0 : Int), ByteArray.empty))).2.1 > d_1))) with b_60 | b_60
                    · have H_153 := of_t H_151 b_60
                      refine V_reg hN hn [] [(75, false), (78, true), (82, false), (96, false), (103, true)] calls_nil 2 [1, 5, 6, 7, 112] [0, 1] ⟨[(1, .c (.h 0)), (5, .c (.val (.int .i64 size_15))), (6, .c (.val (.int .i64 i_16))), (7, .c (.h 1)), (112, .c (.val (.bool true)))], [(0, .box [.val (.int .i64 d_1), .imm (.slice (.pair (.int .i64) (.pair (.int .i64) .str))) d_2]), (1, .box [.val (.int .i64 (List.getD d_2 (Int.toNat i_16) ((0 : Int), ((0 : Int), ByteArray.empty))).1), .val (.int .i64 (List.getD d_2 (Int.toNat i_16) ((0 : Int), ((0 : Int), ByteArray.empty))).2.1), .val (.string (List.getD d_2 (Int.toNat i_16) ((0 : Int), ((0 : Int), ByteArray.empty))).2.2)])], 2⟩ [(decide ((List.getD d_2 (Int.toNat i_16) ((0 : Int), ((0 : Int), ByteArray.empty))).1 < last_13)) = false, (decide (i_16 > (0 : Int))) = true, (!text_14) = false, (decide ((List.getD d_2 (Int.toNat i_16) ((0 : Int), ((0 : Int), ByteArray.empty))).2.1 ≤ (List.getD d_2 (Int.toNat i_16) ((0 : Int), ((0 : Int), ByteArray.empty))).1)) = false, (decide ((List.getD d_2 (Int.toNat i_16) ((0 : Int), ((0 : Int), ByteArray.empty))).2.1 > d_1)) = true] (by kernel_rfl) rfl rfl (ap2 b_47 (ap2 b_49 (ap2 b_50 (ap2 b_58 (ap1 b_60))))) (by kernel_rfl) (by kernel_rfl) ?_
                      have H_155 := Option.some.inj (show some true = some q_129 from H_153); subst H_155
                      refine VL_nil ?_
                      exact QP_end true rfl [(0, 0), (1, 1)] hn (by kernel_rfl) (by kernel_rfl) rfl rfl rfl
                    · have H_154 := of_f H_151 b_60
                      refine V_reg hN hn [] [(75, false), (78, true), (82, false), (96, false), (103, false)] calls_nil 2 [1, 5, 6, 7, 112] [0, 1] ⟨[(1, .c (.h 0)), (5, .c (.val (.int .i64 size_15))), (6, .c (.val (.int .i64 i_16))), (7, .c (.h 1)), (112, .c (.val (.bool (decide ((IntKind.wrap .i64 ((List.getD d_2 (Int.toNat i_16) ((0 : Int), ((0 : Int), ByteArray.empty))).2.1 - (List.getD d_2 (Int.toNat i_16) ((0 : Int), ((0 : Int), ByteArray.empty))).1)) > (IntKind.wrap .i64 ((20000 : Int) - size_15)))))))], [(0, .box [.val (.int .i64 d_1), .imm (.slice (.pair (.int .i64) (.pair (.int .i64) .str))) d_2]), (1, .box [.val (.int .i64 (List.getD d_2 (Int.toNat i_16) ((0 : Int), ((0 : Int), ByteArray.empty))).1), .val (.int .i64 (List.getD d_2 (Int.toNat i_16) ((0 : Int), ((0 : Int), ByteArray.empty))).2.1), .val (.string (List.getD d_2 (Int.toNat i_16) ((0 : Int), ((0 : Int), ByteArray.empty))).2.2)])], 2⟩ [(decide ((List.getD d_2 (Int.toNat i_16) ((0 : Int), ((0 : Int), ByteArray.empty))).1 < last_13)) = false, (decide (i_16 > (0 : Int))) = true, (!text_14) = false, (decide ((List.getD d_2 (Int.toNat i_16) ((0 : Int), ((0 : Int), ByteArray.empty))).2.1 ≤ (List.getD d_2 (Int.toNat i_16) ((0 : Int), ((0 : Int), ByteArray.empty))).1)) = false, (decide ((List.getD d_2 (Int.toNat i_16) ((0 : Int), ((0 : Int), ByteArray.empty))).2.1 > d_1)) = false] (by kernel_rfl) rfl rfl (ap2 b_47 (ap2 b_49 (ap2 b_50 (ap2 b_58 (ap1 b_60))))) (by kernel_rfl) (by kernel_rfl) ?_
                      have H_156 := Option.some.inj (show some (decide ((IntKind.wrap .i64 ((List.getD d_2 (Int.toNat i_16) ((0 : Int), ((0 : Int), ByteArray.empty))).2.1 - (List.getD d_2 (Int.toNat i_16) ((0 : Int), ((0 : Int), ByteArray.empty))).1)) > (IntKind.wrap .i64 ((20000 : Int) - size_15)))) = some q_129 from H_154); subst H_156
                      refine VL_nil ?_
                      exact QP_end (decide ((IntKind.wrap .i64 ((List.getD d_2 (Int.toNat i_16) ((0 : Int), ((0 : Int), ByteArray.empty))).2.1 - (List.getD d_2 (Int.toNat i_16) ((0 : Int), ((0 : Int), ByteArray.empty))).1)) > (IntKind.wrap .i64 ((20000 : Int) - size_15)))) rfl [(0, 0), (1, 1)] hn (by kernel_rfl) (by kernel_rfl) rfl rfl rfl
              · have H_137 := of_f H_134 b_49
                rcases Bool.eq_false_or_eq_true ((decide ((List.getD d_2 (Int.toNat i_16) ((0 : Int), ((0 : Int), ByteArray.empty))).2.1 ≤ (List.getD d_2 (Int.toNat i_16) ((0 : Int), ((0 : Int), ByteArray.empty))).1))) with b_63 | b_63
                · have H_157 := of_t H_137 b_63
                  refine V_reg hN hn [] [(75, false), (78, false), (96, true)] calls_nil 2 [1, 5, 6, 7, 112] [0, 1] ⟨[(1, .c (.h 0)), (5, .c (.val (.int .i64 size_15))), (6, .c (.val (.int .i64 i_16))), (7, .c (.h 1)), (112, .c (.val (.bool true)))], [(0, .box [.val (.int .i64 d_1), .imm (.slice (.pair (.int .i64) (.pair (.int .i64) .str))) d_2]), (1, .box [.val (.int .i64 (List.getD d_2 (Int.toNat i_16) ((0 : Int), ((0 : Int), ByteArray.empty))).1), .val (.int .i64 (List.getD d_2 (Int.toNat i_16) ((0 : Int), ((0 : Int), ByteArray.empty))).2.1), .val (.string (List.getD d_2 (Int.toNat i_16) ((0 : Int), ((0 : Int), ByteArray.empty))).2.2)])], 2⟩ [(decide ((List.getD d_2 (Int.toNat i_16) ((0 : Int), ((0 : Int), ByteArray.empty))).1 < last_13)) = false, (decide (i_16 > (0 : Int))) = false, (decide ((List.getD d_2 (Int.toNat i_16) ((0 : Int), ((0 : Int), ByteArray.empty))).2.1 ≤ (List.getD d_2 (Int.toNat i_16) ((0 : Int), ((0 : Int), ByteArray.empty))).1)) = true] (by kernel_rfl) rfl rfl (ap2 b_47 (ap2 b_49 (ap1 b_63))) (by kernel_rfl) (by kernel_rfl) ?_
                  have H_159 := Option.some.inj (show some true = some q_129 from H_157); subst H_159
                  refine VL_nil ?_
                  exact QP_end true rfl [(0, 0), (1, 1)] hn (by kernel_rfl) (by kernel_rfl) rfl rfl rfl
                · have H_158 := of_f H_137 b_63
                  rcases Bool.eq_false_or_eq_true ((decide ((List.getD d_2 (Int.toNat i_16) ((0 : Int), ((0 : Int), ByteArray.empty))).2.1 > d_1))) with b_65 | b_65
                  · have H_160 := of_t H_158 b_65
                    refine V_reg hN hn [] [(75, false), (78, false), (96, false), (103, true)] calls_nil 2 [1, 5, 6, 7, 112] [0, 1] ⟨[(1, .c (.h 0)), (5, .c (.val (.int .i64 size_15))), (6, .c (.val (.int .i64 i_16))), (7, .c (.h 1)), (112, .c (.val (.bool true)))], [(0, .box [.val (.int .i64 d_1), .imm (.slice (.pair (.int .i64) (.pair (.int .i64) .str))) d_2]), (1, .box [.val (.int .i64 (List.getD d_2 (Int.toNat i_16) ((0 : Int), ((0 : Int), ByteArray.empty))).1), .val (.int .i64 (List.getD d_2 (Int.toNat i_16) ((0 : Int), ((0 : Int), ByteArray.empty))).2.1), .val (.string (List.getD d_2 (Int.toNat i_16) ((0 : Int), ((0 : Int), ByteArray.empty))).2.2)])], 2⟩ [(decide ((List.getD d_2 (Int.toNat i_16) ((0 : Int), ((0 : Int), ByteArray.empty))).1 < last_13)) = false, (decide (i_16 > (0 : Int))) = false, (decide ((List.getD d_2 (Int.toNat i_16) ((0 : Int), ((0 : Int), ByteArray.empty))).2.1 ≤ (List.getD d_2 (Int.toNat i_16) ((0 : Int), ((0 : Int), ByteArray.empty))).1)) = false, (decide ((List.getD d_2 (Int.toNat i_16) ((0 : Int), ((0 : Int), ByteArray.empty))).2.1 > d_1)) = true] (by kernel_rfl) rfl rfl (ap2 b_47 (ap2 b_49 (ap2 b_63 (ap1 b_65)))) (by kernel_rfl) (by kernel_rfl) ?_
                    have H_162 := Option.some.inj (show some true = some q_129 from H_160); subst H_162
                    refine VL_nil ?_
                    exact QP_end true rfl [(0, 0), (1, 1)] hn (by kernel_rfl) (by kernel_rfl) rfl rfl rfl
                  · have H_161 := of_f H_158 b_65
                    refine V_reg hN hn [] [(75, false), (78, false), (96, false), (103, false)] calls_nil 2 [1, 5, 6, 7, 112] [0, 1] ⟨[(1, .c (.h 0)), (5, .c (.val (.int .i64 size_15))), (6, .c (.val (.int .i64 i_16))), (7, .c (.h 1)), (112, .c (.val (.bool (decide ((IntKind.wrap .i64 ((List.getD d_2 (Int.toNat i_16) ((0 : Int), ((0 : Int), ByteArray.empty))).2.1 - (List.getD d_2 (Int.toNat i_16) ((0 : Int), ((0 : Int), ByteArray.empty))).1)) > (IntKind.wrap .i64 ((20000 : Int) - size_15)))))))], [(0, .box [.val (.int .i64 d_1), .imm (.slice (.pair (.int .i64) (.pair (.int .i64) .str))) d_2]), (1, .box [.val (.int .i64 (List.getD d_2 (Int.toNat i_16) ((0 : Int), ((0 : Int), ByteArray.empty))).1), .val (.int .i64 (List.getD d_2 (Int.toNat i_16) ((0 : Int), ((0 : Int), ByteArray.empty))).2.1), .val (.string (List.getD d_2 (Int.toNat i_16) ((0 : Int), ((0 : Int), ByteArray.empty))).2.2)])], 2⟩ [(decide ((List.getD d_2 (Int.toNat i_16) ((0 : Int), ((0 : Int), ByteArray.empty))).1 < last_13)) = false, (decide (i_16 > (0 : Int))) = false, (decide ((List.getD d_2 (Int.toNat i_16) ((0 : Int), ((0 : Int), ByteArray.empty))).2.1 ≤ (List.getD d_2 (Int.toNat i_16) ((0 : Int), ((0 : Int), ByteArray.empty))).1)) = false, (decide ((List.getD d_2 (Int.toNat i_16) ((0 : Int), ((0 : Int), ByteArray.empty))).2.1 > d_1)) = false] (by kernel_rfl) rfl rfl (ap2 b_47 (ap2 b_49 (ap2 b_63 (ap1 b_65)))) (by kernel_rfl) (by kernel_rfl) ?_
                    have H_163 := Option.some.inj (show some (decide ((IntKind.wrap .i64 ((List.getD d_2 (Int.toNat i_16) ((0 : Int), ((0 : Int), ByteArray.empty))).2.1 - (List.getD d_2 (Int.toNat i_16) ((0 : Int), ((0 : Int), ByteArray.empty))).1)) > (IntKind.wrap .i64 ((20000 : Int) - size_15)))) = some q_129 from H_161); subst H_163
                    refine VL_nil ?_
                    exact QP_end (decide ((IntKind.wrap .i64 ((List.getD d_2 (Int.toNat i_16) ((0 : Int), ((0 : Int), ByteArray.empty))).2.1 - (List.getD d_2 (Int.toNat i_16) ((0 : Int), ((0 : Int), ByteArray.empty))).1)) > (IntKind.wrap .i64 ((20000 : Int) - size_15)))) rfl [(0, 0), (1, 1)] hn (by kernel_rfl) (by kernel_rfl) rfl rfl rfl
          · intro y_132 hy; subst hy
            skip
            skip
            refine VL_cond (y_132) (by kernel_rfl) ?_ ?_
            · intro b_69; have H_164 := of_t H_131 b_69
              refine V_run hN hn 2 2 [2] [] ⟨[(2, .c (.val (.bool false)))], [], 2⟩ [] (by kernel_rfl) rfl rfl ap0 ?_
              have H_166 := Option.some.inj (show some false = some r from H_164); subst H_166
              refine VL_ret ?_
              refine QB_ret ?_
              refine QL_ret ?_
              refine QB_ret ?_
              exact P_to [(2, .c (.val (.bool false)))] [] [] hn (by kernel_rfl) (by kernel_rfl) rfl rfl rfl (QF_retS (by kernel_rfl) (by kernel_rfl) rfl)
            · intro b_69; have H_165 := of_f H_131 b_69
              refine V_run hN hn 4 2 [1, 3, 4, 5, 6] [0] ⟨[(1, .c (.h 0)), (3, .c (.val (.int .i64 (List.getD d_2 (Int.toNat i_16) ((0 : Int), ((0 : Int), ByteArray.empty))).2.1))), (4, .c (.val (.bool false))), (5, .c (.val (.int .i64 (IntKind.wrap .i64 ((IntKind.wrap .i64 (size_15 + (List.getD d_2 (Int.toNat i_16) ((0 : Int), ((0 : Int), ByteArray.empty))).2.1)) - (List.getD d_2 (Int.toNat i_16) ((0 : Int), ((0 : Int), ByteArray.empty))).1))))), (6, .c (.val (.int .i64 i_16)))], [(0, .box [.val (.int .i64 d_1), .imm (.slice (.pair (.int .i64) (.pair (.int .i64) .str))) d_2])], 2⟩ [] (by kernel_rfl) rfl rfl ap0 ?_
              refine VL_nil (QB_end ?_)
              refine V_run hN hn 1 2 [1, 3, 4, 5, 6] [0] ⟨[(1, .c (.h 0)), (3, .c (.val (.int .i64 (List.getD d_2 (Int.toNat i_16) ((0 : Int), ((0 : Int), ByteArray.empty))).2.1))), (4, .c (.val (.bool false))), (5, .c (.val (.int .i64 (IntKind.wrap .i64 ((IntKind.wrap .i64 (size_15 + (List.getD d_2 (Int.toNat i_16) ((0 : Int), ((0 : Int), ByteArray.empty))).2.1)) - (List.getD d_2 (Int.toNat i_16) ((0 : Int), ((0 : Int), ByteArray.empty))).1))))), (6, .c (.val (.int .i64 (IntKind.wrap .i64 (i_16 + (1 : Int))))))], [(0, .box [.val (.int .i64 d_1), .imm (.slice (.pair (.int .i64) (.pair (.int .i64) .str))) d_2])], 2⟩ [] (by kernel_rfl) rfl rfl ap0 ?_
              refine VL_nil ?_
              exact V_roundEnd ((List.getD d_2 (Int.toNat i_16) ((0 : Int), ((0 : Int), ByteArray.empty))).2.1, false, (IntKind.wrap .i64 ((IntKind.wrap .i64 (size_15 + (List.getD d_2 (Int.toNat i_16) ((0 : Int), ((0 : Int), ByteArray.empty))).2.1)) - (List.getD d_2 (Int.toNat i_16) ((0 : Int), ((0 : Int), ByteArray.empty))).1)), (IntKind.wrap .i64 (i_16 + (1 : Int)))) H_165 [(0, 0)] hn (by kernel_rfl) (by kernel_rfl) rfl rfl rfl
      · intro b_19; have H_97 := of_f H_95 b_19
        refine VL_exit ?_
        refine QL_exit ?_
        refine QB_here ?_
        refine V_run hN hn 2 1 [2] [] ⟨[(2, .c (.val (.bool true)))], [], 1⟩ [] (by kernel_rfl) rfl rfl ap0 ?_
        have H_167 := Option.some.inj (show some true = some r from H_97); subst H_167
        refine VL_ret ?_
        exact P_to [(2, .c (.val (.bool true)))] [] [] hn (by kernel_rfl) (by kernel_rfl) rfl rfl rfl (QF_retS (by kernel_rfl) (by kernel_rfl) rfl)

theorem palinoderef11_Cells_spec (K : Nat) (d_1 : Int) (d_2 : (List (Int × (Int × ByteArray)))) (r : (List (Int × Int))) (H : palinoderef11_Cells K d_1 d_2 = some r) : Spec Try.prog 36 0 [.agg [.val (.int .i64 d_1), .imm (.slice (.pair (.int .i64) (.pair (.int .i64) .str))) d_2]] [] (.c (.h 9)) [(9, .row (.pair (.int .i64) (.int .u8)) r)] := by
  refine Spec_mk (fn := Try.f36) (c := (Try.f36.body).get!) Try.func36 (by kernel_rfl) rfl ?_
  intro C hN hn
  replace hN : C.N = 49 := hN
  unfold palinoderef11_Cells at H
  refine V_run hN hn 7 0 [1, 3, 4] [0] ⟨[(1, .c (.h 0)), (3, .c (.val (.slice none 0 0))), (4, .c (.val (.int .i64 (0 : Int))))], [(0, .box [.val (.int .i64 d_1), .imm (.slice (.pair (.int .i64) (.pair (.int .i64) .str))) d_2])], 1⟩ [] (by kernel_rfl) rfl rfl ap0 ?_
  refine VL_block ?_
  refine V_ghost [.nilSlot 3 (.pair (.int .i64) (.int .u8))] 1 hn [1, 3, 4] [0, 1] ⟨[(1, .c (.h 0)), (3, .c (.h 1)), (4, .c (.val (.int .i64 (0 : Int))))], [(0, .box [.val (.int .i64 d_1), .imm (.slice (.pair (.int .i64) (.pair (.int .i64) .str))) d_2]), (1, .row (.pair (.int .i64) (.int .u8)) ([] : List (Int × Int)))], 2⟩ (by kernel_rfl) rfl rfl ?_
  refine V_to [(1, .c (.h 0)), (3, .c (.h 9)), (4, .c (.val (.int .i64 (0 : Int))))] [(0, .box [.val (.int .i64 d_1), .imm (.slice (.pair (.int .i64) (.pair (.int .i64) .str))) d_2]), (9, .row (.pair (.int .i64) (.int .u8)) ([] : List (Int × Int)))] [(0, 0), (9, 1)] hn (by kernel_rfl) (by kernel_rfl) rfl rfl rfl ?_
  refine VL_loop (X := ((List (Int × Int)) × Int)) (fun x => [(1, .c (.h 0)), (3, .c (.h 9)), (4, .c (.val (.int .i64 x.2)))]) (fun x => [(0, .box [.val (.int .i64 d_1), .imm (.slice (.pair (.int .i64) (.pair (.int .i64) .str))) d_2]), (9, .row (.pair (.int .i64) (.int .u8)) x.1)]) (fun k x => palinoderef11_Cells.l0 K d_2 k x.1 x.2 = some r) K (([] : List (Int × Int)), (0 : Int)) H (fun _ h => no_none h) ?_
  intro k_44 x_44 H_87
  obtain ⟨out_43, i_4⟩ := x_44
  have H_88 : palinoderef11_Cells.l0 K d_2 (k_44 + 1) out_43 i_4 = some r := H_87
  rw [palinoderef11_Cells.l0] at H_88
  refine V_run hN hn 3 10 [1, 3, 4, 12] [0, 9] ⟨[(1, .c (.h 0)), (3, .c (.h 9)), (4, .c (.val (.int .i64 i_4))), (12, .c (.val (.bool (decide (i_4 < (((List.length d_2) : Nat) : Int))))))], [(0, .box [.val (.int .i64 d_1), .imm (.slice (.pair (.int .i64) (.pair (.int .i64) .str))) d_2]), (9, .row (.pair (.int .i64) (.int .u8)) out_43)], 10⟩ [] (by kernel_rfl) rfl rfl ap0 ?_
  refine VL_cond ((decide (i_4 < (((List.length d_2) : Nat) : Int)))) (by kernel_rfl) ?_ ?_
  · intro b_46; have H_89 := of_t H_88 b_46
    refine V_run hN hn 2 10 [1, 3, 4, 12] [0, 9] ⟨[(1, .c (.h 0)), (3, .c (.h 9)), (4, .c (.val (.int .i64 i_4))), (12, .c (.val (.bool (decide (i_4 < (((List.length d_2) : Nat) : Int))))))], [(0, .box [.val (.int .i64 d_1), .imm (.slice (.pair (.int .i64) (.pair (.int .i64) .str))) d_2]), (9, .row (.pair (.int .i64) (.int .u8)) out_43)], 10⟩ [] (by kernel_rfl) rfl rfl ap0 ?_
    obtain ⟨q_91, H_92, H_93⟩ := of_bind H_89
    refine V_cut (Y := (List (Int × Int))) (R := (List (Int × Int))) q_91 (fun y => y) (fun y => [(1, .c (.h 0)), (3, .c (.h 16)), (4, .c (.val (.int .i64 i_4)))]) (fun y => [(0, .box [.val (.int .i64 d_1), .imm (.slice (.pair (.int .i64) (.pair (.int .i64) .str))) d_2]), (16, .row (.pair (.int .i64) (.int .u8)) y)]) ?_ ?_
    · skip
      refine VL_block ?_
      obtain ⟨c_48, H_95⟩ := of_if H_92
      refine V_run hN hn 5 10 [1, 3, 4, 5, 6] [0, 9, 10] ⟨[(1, .c (.h 0)), (3, .c (.h 9)), (4, .c (.val (.int .i64 i_4))), (5, .c (.h 10)), (6, .c (.val (.int .i64 (0 : Int))))], [(0, .box [.val (.int .i64 d_1), .imm (.slice (.pair (.int .i64) (.pair (.int .i64) .str))) d_2]), (9, .row (.pair (.int .i64) (.int .u8)) out_43), (10, .box [.val (.int .i64 (List.getD d_2 (Int.toNat i_4) ((0 : Int), ((0 : Int), ByteArray.empty))).1), .val (.int .i64 (List.getD d_2 (Int.toNat i_4) ((0 : Int), ((0 : Int), ByteArray.empty))).2.1), .val (.string (List.getD d_2 (Int.toNat i_4) ((0 : Int), ((0 : Int), ByteArray.empty))).2.2)])], 11⟩ [0 ≤ i_4, i_4 < (((List.length d_2) : Nat) : Int)] (by kernel_rfl) rfl rfl (ap2 c_48.1 (ap1 c_48.2)) ?_
      obtain ⟨q_96, H_97, H_98⟩ := of_bind H_95
      refine V_cut (Y := (List (Int × Int))) (R := (List (Int × Int))) q_96 (fun y => y) (fun y => [(1, .c (.h 0)), (3, .c (.h 13)), (4, .c (.val (.int .i64 i_4))), (5, .c (.h 10))]) (fun y => [(0, .box [.val (.int .i64 d_1), .imm (.slice (.pair (.int .i64) (.pair (.int .i64) .str))) d_2]), (10, .box [.val (.int .i64 (List.getD d_2 (Int.toNat i_4) ((0 : Int), ((0 : Int), ByteArray.empty))).1), .val (.int .i64 (List.getD d_2 (Int.toNat i_4) ((0 : Int), ((0 : Int), ByteArray.empty))).2.1), .val (.string (List.getD d_2 (Int.toNat i_4) ((0 : Int), ((0 : Int), ByteArray.empty))).2.2)]), (13, .row (.pair (.int .i64) (.int .u8)) y)]) ?_ ?_
      · skip
        refine VL_block ?_
        refine V_to [(1, .c (.h 0)), (3, .c (.h 13)), (4, .c (.val (.int .i64 i_4))), (5, .c (.h 10)), (6, .c (.val (.int .i64 (0 : Int))))] [(0, .box [.val (.int .i64 d_1), .imm (.slice (.pair (.int .i64) (.pair (.int .i64) .str))) d_2]), (10, .box [.val (.int .i64 (List.getD d_2 (Int.toNat i_4) ((0 : Int), ((0 : Int), ByteArray.empty))).1), .val (.int .i64 (List.getD d_2 (Int.toNat i_4) ((0 : Int), ((0 : Int), ByteArray.empty))).2.1), .val (.string (List.getD d_2 (Int.toNat i_4) ((0 : Int), ((0 : Int), ByteArray.empty))).2.2)]), (13, .row (.pair (.int .i64) (.int .u8)) out_43)] [(0, 0), (10, 10), (13, 9)] hn (by kernel_rfl) (by kernel_rfl) rfl rfl rfl ?_
        refine VL_loop (X := ((List (Int × Int)) × Int)) (fun x => [(1, .c (.h 0)), (3, .c (.h 13)), (4, .c (.val (.int .i64 i_4))), (5, .c (.h 10)), (6, .c (.val (.int .i64 x.2)))]) (fun x => [(0, .box [.val (.int .i64 d_1), .imm (.slice (.pair (.int .i64) (.pair (.int .i64) .str))) d_2]), (10, .box [.val (.int .i64 (List.getD d_2 (Int.toNat i_4) ((0 : Int), ((0 : Int), ByteArray.empty))).1), .val (.int .i64 (List.getD d_2 (Int.toNat i_4) ((0 : Int), ((0 : Int), ByteArray.empty))).2.1), .val (.string (List.getD d_2 (Int.toNat i_4) ((0 : Int), ((0 : Int), ByteArray.empty))).2.2)]), (13, .row (.pair (.int .i64) (.int .u8)) x.1)]) (fun k x => palinoderef11_Cells.l1 K d_2 i_4 k x.1 x.2 = some q_96) K (out_43, (0 : Int)) H_97 (fun _ h => no_none h) ?_
        intro k_57 x_57 H_100
        obtain ⟨out_56, k_49⟩ := x_57
        have H_101 : palinoderef11_Cells.l1 K d_2 i_4 (k_57 + 1) out_56 k_49 = some q_96 := H_100
        rw [palinoderef11_Cells.l1] at H_101
        refine V_run hN hn 3 14 [1, 3, 4, 5, 6, 24] [0, 10, 13] ⟨[(1, .c (.h 0)), (3, .c (.h 13)), (4, .c (.val (.int .i64 i_4))), (5, .c (.h 10)), (6, .c (.val (.int .i64 k_49))), (24, .c (.val (.bool (decide (k_49 < (((ByteArray.size (List.getD d_2 (Int.toNat i_4) ((0 : Int), ((0 : Int), ByteArray.empty))).2.2) : Nat) : Int))))))], [(0, .box [.val (.int .i64 d_1), .imm (.slice (.pair (.int .i64) (.pair (.int .i64) .str))) d_2]), (10, .box [.val (.int .i64 (List.getD d_2 (Int.toNat i_4) ((0 : Int), ((0 : Int), ByteArray.empty))).1), .val (.int .i64 (List.getD d_2 (Int.toNat i_4) ((0 : Int), ((0 : Int), ByteArray.empty))).2.1), .val (.string (List.getD d_2 (Int.toNat i_4) ((0 : Int), ((0 : Int), ByteArray.empty))).2.2)]), (13, .row (.pair (.int .i64) (.int .u8)) out_56)], 14⟩ [] (by kernel_rfl) rfl rfl ap0 ?_
        refine VL_cond ((decide (k_49 < (((ByteArray.size (List.getD d_2 (Int.toNat i_4) ((0 : Int), ((0 : Int), ByteArray.empty))).2.2) : Nat) : Int)))) (by kernel_rfl) ?_ ?_
        · intro b_59; have H_102 := of_t H_101 b_59
          refine V_run hN hn 2 14 [1, 3, 4, 5, 6, 24] [0, 10, 13] ⟨[(1, .c (.h 0)), (3, .c (.h 13)), (4, .c (.val (.int .i64 i_4))), (5, .c (.h 10)), (6, .c (.val (.int .i64 k_49))), (24, .c (.val (.bool (decide (k_49 < (((ByteArray.size (List.getD d_2 (Int.toNat i_4) ((0 : Int), ((0 : Int), ByteArray.empty))).2.2) : Nat) : Int))))))], [(0, .box [.val (.int .i64 d_1), .imm (.slice (.pair (.int .i64) (.pair (.int .i64) .str))) d_2]), (10, .box [.val (.int .i64 (List.getD d_2 (Int.toNat i_4) ((0 : Int), ((0 : Int), ByteArray.empty))).1), .val (.int .i64 (List.getD d_2 (Int.toNat i_4) ((0 : Int), ((0 : Int), ByteArray.empty))).2.1), .val (.string (List.getD d_2 (Int.toNat i_4) ((0 : Int), ((0 : Int), ByteArray.empty))).2.2)]), (13, .row (.pair (.int .i64) (.int .u8)) out_56)], 14⟩ [] (by kernel_rfl) rfl rfl ap0 ?_
          refine VL_block ?_
          obtain ⟨c_61, H_104⟩ := of_if H_102
          refine V_run hN hn 1 14 [1, 3, 4, 5, 6] [0, 10, 15] ⟨[(1, .c (.h 0)), (3, .c (.h 15)), (4, .c (.val (.int .i64 i_4))), (5, .c (.h 10)), (6, .c (.val (.int .i64 k_49)))], [(0, .box [.val (.int .i64 d_1), .imm (.slice (.pair (.int .i64) (.pair (.int .i64) .str))) d_2]), (10, .box [.val (.int .i64 (List.getD d_2 (Int.toNat i_4) ((0 : Int), ((0 : Int), ByteArray.empty))).1), .val (.int .i64 (List.getD d_2 (Int.toNat i_4) ((0 : Int), ((0 : Int), ByteArray.empty))).2.1), .val (.string (List.getD d_2 (Int.toNat i_4) ((0 : Int), ((0 : Int), ByteArray.empty))).2.2)]), (15, .row (.pair (.int .i64) (.int .u8)) (out_56 ++ ([((-1 : Int), (bt (List.getD d_2 (Int.toNat i_4) ((0 : Int), ((0 : Int), ByteArray.empty))).2.2 k_49))] : List (Int × Int))))], 16⟩ [0 ≤ k_49, k_49 < (((ByteArray.size (List.getD d_2 (Int.toNat i_4) ((0 : Int), ((0 : Int), ByteArray.empty))).2.2) : Nat) : Int), (List.length out_56 + List.length ([((-1 : Int), (bt (List.getD d_2 (Int.toNat i_4) ((0 : Int), ((0 : Int), ByteArray.empty))).2.2 k_49))] : List (Int × Int))) * 16 ≤ 140737488355328] (by kernel_rfl) rfl rfl (ap2 c_61.1 (ap2 c_61.2.1 (ap1 c_61.2.2))) ?_
          refine VL_nil (QB_end ?_)
          refine V_run hN hn 1 16 [1, 3, 4, 5, 6] [0, 10, 15] ⟨[(1, .c (.h 0)), (3, .c (.h 15)), (4, .c (.val (.int .i64 i_4))), (5, .c (.h 10)), (6, .c (.val (.int .i64 (IntKind.wrap .i64 (k_49 + (1 : Int))))))], [(0, .box [.val (.int .i64 d_1), .imm (.slice (.pair (.int .i64) (.pair (.int .i64) .str))) d_2]), (10, .box [.val (.int .i64 (List.getD d_2 (Int.toNat i_4) ((0 : Int), ((0 : Int), ByteArray.empty))).1), .val (.int .i64 (List.getD d_2 (Int.toNat i_4) ((0 : Int), ((0 : Int), ByteArray.empty))).2.1), .val (.string (List.getD d_2 (Int.toNat i_4) ((0 : Int), ((0 : Int), ByteArray.empty))).2.2)]), (15, .row (.pair (.int .i64) (.int .u8)) (out_56 ++ ([((-1 : Int), (bt (List.getD d_2 (Int.toNat i_4) ((0 : Int), ((0 : Int), ByteArray.empty))).2.2 k_49))] : List (Int × Int))))], 16⟩ [] (by kernel_rfl) rfl rfl ap0 ?_
          refine VL_nil ?_
          exact V_roundEnd ((out_56 ++ ([((-1 : Int), (bt (List.getD d_2 (Int.toNat i_4) ((0 : Int), ((0 : Int), ByteArray.empty))).2.2 k_49))] : List (Int × Int))), (IntKind.wrap .i64 (k_49 + (1 : Int)))) H_104 [(0, 0), (10, 10), (13, 15)] hn (by kernel_rfl) (by kernel_rfl) rfl rfl rfl
        · intro b_59; have H_103 := of_f H_101 b_59
          refine VL_exit ?_
          refine QL_exit ?_
          refine QB_here ?_
          have H_105 := Option.some.inj (show some out_56 = some q_96 from H_103); subst H_105
          refine VL_nil ?_
          exact QP_end out_56 rfl [(0, 0), (10, 10), (13, 13)] hn (by kernel_rfl) (by kernel_rfl) rfl rfl rfl
      · intro y_99 hy; subst hy
        skip
        skip
        refine V_run hN hn 2 14 [1, 3, 4, 5, 7] [0, 10, 13] ⟨[(1, .c (.h 0)), (3, .c (.h 13)), (4, .c (.val (.int .i64 i_4))), (5, .c (.h 10)), (7, .c (.val (.int .i64 (List.getD d_2 (Int.toNat i_4) ((0 : Int), ((0 : Int), ByteArray.empty))).1)))], [(0, .box [.val (.int .i64 d_1), .imm (.slice (.pair (.int .i64) (.pair (.int .i64) .str))) d_2]), (10, .box [.val (.int .i64 (List.getD d_2 (Int.toNat i_4) ((0 : Int), ((0 : Int), ByteArray.empty))).1), .val (.int .i64 (List.getD d_2 (Int.toNat i_4) ((0 : Int), ((0 : Int), ByteArray.empty))).2.1), .val (.string (List.getD d_2 (Int.toNat i_4) ((0 : Int), ((0 : Int), ByteArray.empty))).2.2)]), (13, .row (.pair (.int .i64) (.int .u8)) y_99)], 14⟩ [] (by kernel_rfl) rfl rfl ap0 ?_
        refine VL_block ?_
        refine V_to [(1, .c (.h 0)), (3, .c (.h 16)), (4, .c (.val (.int .i64 i_4))), (5, .c (.h 10)), (7, .c (.val (.int .i64 (List.getD d_2 (Int.toNat i_4) ((0 : Int), ((0 : Int), ByteArray.empty))).1)))] [(0, .box [.val (.int .i64 d_1), .imm (.slice (.pair (.int .i64) (.pair (.int .i64) .str))) d_2]), (10, .box [.val (.int .i64 (List.getD d_2 (Int.toNat i_4) ((0 : Int), ((0 : Int), ByteArray.empty))).1), .val (.int .i64 (List.getD d_2 (Int.toNat i_4) ((0 : Int), ((0 : Int), ByteArray.empty))).2.1), .val (.string (List.getD d_2 (Int.toNat i_4) ((0 : Int), ((0 : Int), ByteArray.empty))).2.2)]), (16, .row (.pair (.int .i64) (.int .u8)) y_99)] [(0, 0), (10, 10), (16, 13)] hn (by kernel_rfl) (by kernel_rfl) rfl rfl rfl ?_
        refine VL_loop (X := ((List (Int × Int)) × Int)) (fun x => [(1, .c (.h 0)), (3, .c (.h 16)), (4, .c (.val (.int .i64 i_4))), (5, .c (.h 10)), (7, .c (.val (.int .i64 x.2)))]) (fun x => [(0, .box [.val (.int .i64 d_1), .imm (.slice (.pair (.int .i64) (.pair (.int .i64) .str))) d_2]), (10, .box [.val (.int .i64 (List.getD d_2 (Int.toNat i_4) ((0 : Int), ((0 : Int), ByteArray.empty))).1), .val (.int .i64 (List.getD d_2 (Int.toNat i_4) ((0 : Int), ((0 : Int), ByteArray.empty))).2.1), .val (.string (List.getD d_2 (Int.toNat i_4) ((0 : Int), ((0 : Int), ByteArray.empty))).2.2)]), (16, .row (.pair (.int .i64) (.int .u8)) x.1)]) (fun k x => palinoderef11_Cells.l2 K d_2 i_4 k x.1 x.2 = some q_91) K (y_99, (List.getD d_2 (Int.toNat i_4) ((0 : Int), ((0 : Int), ByteArray.empty))).1) H_98 (fun _ h => no_none h) ?_
        intro k_73 x_73 H_106
        obtain ⟨out_72, k_65⟩ := x_73
        have H_107 : palinoderef11_Cells.l2 K d_2 i_4 (k_73 + 1) out_72 k_65 = some q_91 := H_106
        rw [palinoderef11_Cells.l2] at H_107
        refine V_run hN hn 3 17 [1, 3, 4, 5, 7, 40] [0, 10, 16] ⟨[(1, .c (.h 0)), (3, .c (.h 16)), (4, .c (.val (.int .i64 i_4))), (5, .c (.h 10)), (7, .c (.val (.int .i64 k_65))), (40, .c (.val (.bool (decide (k_65 < (List.getD d_2 (Int.toNat i_4) ((0 : Int), ((0 : Int), ByteArray.empty))).2.1)))))], [(0, .box [.val (.int .i64 d_1), .imm (.slice (.pair (.int .i64) (.pair (.int .i64) .str))) d_2]), (10, .box [.val (.int .i64 (List.getD d_2 (Int.toNat i_4) ((0 : Int), ((0 : Int), ByteArray.empty))).1), .val (.int .i64 (List.getD d_2 (Int.toNat i_4) ((0 : Int), ((0 : Int), ByteArray.empty))).2.1), .val (.string (List.getD d_2 (Int.toNat i_4) ((0 : Int), ((0 : Int), ByteArray.empty))).2.2)]), (16, .row (.pair (.int .i64) (.int .u8)) out_72)], 17⟩ [] (by kernel_rfl) rfl rfl ap0 ?_
        refine VL_cond ((decide (k_65 < (List.getD d_2 (Int.toNat i_4) ((0 : Int), ((0 : Int), ByteArray.empty))).2.1))) (by kernel_rfl) ?_ ?_
        · intro b_75; have H_108 := of_t H_107 b_75
          refine V_run hN hn 2 17 [1, 3, 4, 5, 7, 40] [0, 10, 16] ⟨[(1, .c (.h 0)), (3, .c (.h 16)), (4, .c (.val (.int .i64 i_4))), (5, .c (.h 10)), (7, .c (.val (.int .i64 k_65))), (40, .c (.val (.bool (decide (k_65 < (List.getD d_2 (Int.toNat i_4) ((0 : Int), ((0 : Int), ByteArray.empty))).2.1)))))], [(0, .box [.val (.int .i64 d_1), .imm (.slice (.pair (.int .i64) (.pair (.int .i64) .str))) d_2]), (10, .box [.val (.int .i64 (List.getD d_2 (Int.toNat i_4) ((0 : Int), ((0 : Int), ByteArray.empty))).1), .val (.int .i64 (List.getD d_2 (Int.toNat i_4) ((0 : Int), ((0 : Int), ByteArray.empty))).2.1), .val (.string (List.getD d_2 (Int.toNat i_4) ((0 : Int), ((0 : Int), ByteArray.empty))).2.2)]), (16, .row (.pair (.int .i64) (.int .u8)) out_72)], 17⟩ [] (by kernel_rfl) rfl rfl ap0 ?_
          refine VL_block ?_
          obtain ⟨c_77, H_110⟩ := of_if H_108
          refine V_run hN hn 1 17 [1, 3, 4, 5, 7] [0, 10, 18] ⟨[(1, .c (.h 0)), (3, .c (.h 18)), (4, .c (.val (.int .i64 i_4))), (5, .c (.h 10)), (7, .c (.val (.int .i64 k_65)))], [(0, .box [.val (.int .i64 d_1), .imm (.slice (.pair (.int .i64) (.pair (.int .i64) .str))) d_2]), (10, .box [.val (.int .i64 (List.getD d_2 (Int.toNat i_4) ((0 : Int), ((0 : Int), ByteArray.empty))).1), .val (.int .i64 (List.getD d_2 (Int.toNat i_4) ((0 : Int), ((0 : Int), ByteArray.empty))).2.1), .val (.string (List.getD d_2 (Int.toNat i_4) ((0 : Int), ((0 : Int), ByteArray.empty))).2.2)]), (18, .row (.pair (.int .i64) (.int .u8)) (out_72 ++ ([(k_65, (0 : Int))] : List (Int × Int))))], 19⟩ [(List.length out_72 + List.length ([(k_65, (0 : Int))] : List (Int × Int))) * 16 ≤ 140737488355328] (by kernel_rfl) rfl rfl (ap1 c_77) ?_
          refine VL_nil (QB_end ?_)
          refine V_run hN hn 1 19 [1, 3, 4, 5, 7] [0, 10, 18] ⟨[(1, .c (.h 0)), (3, .c (.h 18)), (4, .c (.val (.int .i64 i_4))), (5, .c (.h 10)), (7, .c (.val (.int .i64 (IntKind.wrap .i64 (k_65 + (1 : Int))))))], [(0, .box [.val (.int .i64 d_1), .imm (.slice (.pair (.int .i64) (.pair (.int .i64) .str))) d_2]), (10, .box [.val (.int .i64 (List.getD d_2 (Int.toNat i_4) ((0 : Int), ((0 : Int), ByteArray.empty))).1), .val (.int .i64 (List.getD d_2 (Int.toNat i_4) ((0 : Int), ((0 : Int), ByteArray.empty))).2.1), .val (.string (List.getD d_2 (Int.toNat i_4) ((0 : Int), ((0 : Int), ByteArray.empty))).2.2)]), (18, .row (.pair (.int .i64) (.int .u8)) (out_72 ++ ([(k_65, (0 : Int))] : List (Int × Int))))], 19⟩ [] (by kernel_rfl) rfl rfl ap0 ?_
          refine VL_nil ?_
          exact V_roundEnd ((out_72 ++ ([(k_65, (0 : Int))] : List (Int × Int))), (IntKind.wrap .i64 (k_65 + (1 : Int)))) H_110 [(0, 0), (10, 10), (16, 18)] hn (by kernel_rfl) (by kernel_rfl) rfl rfl rfl
        · intro b_75; have H_109 := of_f H_107 b_75
          refine VL_exit ?_
          refine QL_exit ?_
          refine QB_here ?_
          refine VL_nil (QB_end ?_)
          have H_111 := Option.some.inj (show some out_72 = some q_91 from H_109); subst H_111
          refine VL_nil ?_
          exact QP_end out_72 rfl [(0, 0), (16, 16)] hn (by kernel_rfl) (by kernel_rfl) rfl rfl rfl
    · intro y_94 hy; subst hy
      skip
      skip
      refine V_run hN hn 1 17 [1, 3, 4] [0, 16] ⟨[(1, .c (.h 0)), (3, .c (.h 16)), (4, .c (.val (.int .i64 (IntKind.wrap .i64 (i_4 + (1 : Int))))))], [(0, .box [.val (.int .i64 d_1), .imm (.slice (.pair (.int .i64) (.pair (.int .i64) .str))) d_2]), (16, .row (.pair (.int .i64) (.int .u8)) y_94)], 17⟩ [] (by kernel_rfl) rfl rfl ap0 ?_
      refine VL_nil ?_
      exact V_roundEnd (y_94, (IntKind.wrap .i64 (i_4 + (1 : Int)))) H_93 [(0, 0), (9, 16)] hn (by kernel_rfl) (by kernel_rfl) rfl rfl rfl
  · intro b_46; have H_90 := of_f H_88 b_46
    refine VL_exit ?_
    refine QL_exit ?_
    refine QB_here ?_
    refine V_run hN hn 2 10 [2] [9] ⟨[(2, .c (.h 9))], [(9, .row (.pair (.int .i64) (.int .u8)) out_43)], 10⟩ [] (by kernel_rfl) rfl rfl ap0 ?_
    have H_112 := Option.some.inj (show some out_43 = some r from H_90); subst H_112
    refine VL_ret ?_
    exact P_to [(2, .c (.h 9))] [(9, .row (.pair (.int .i64) (.int .u8)) out_43)] [(9, 9)] hn (by kernel_rfl) (by kernel_rfl) rfl rfl rfl (QF_retS (by kernel_rfl) (by kernel_rfl) rfl)

theorem palinoderef11_Move_spec (K : Nat) (d_1 : Int) (d_2 : (List (Int × (Int × ByteArray)))) (at_3 : Int) (after_4 : Bool) (r : Int) (H : palinoderef11_Move K d_1 d_2 at_3 after_4 = some r) : Spec Try.prog 37 0 [.agg [.val (.int .i64 d_1), .imm (.slice (.pair (.int .i64) (.pair (.int .i64) .str))) d_2], .c (.val (.int .i64 at_3)), .c (.val (.bool after_4))] [] (.c (.val (.int .i64 r))) [] := by
  refine Spec_mk (fn := Try.f37) (c := (Try.f37.body).get!) Try.func37 (by kernel_rfl) rfl ?_
  intro C hN hn
  replace hN : C.N = 62 := hN
  unfold palinoderef11_Move at H
  refine V_run hN hn 4 0 [1, 2, 3] [0] ⟨[(1, .c (.val (.int .i64 at_3))), (2, .c (.val (.bool after_4))), (3, .c (.h 0))], [(0, .box [.val (.int .i64 d_1), .imm (.slice (.pair (.int .i64) (.pair (.int .i64) .str))) d_2])], 1⟩ [] (by kernel_rfl) rfl rfl ap0 ?_
  obtain ⟨r_6, h_7, H_54⟩ := of_bind H
  refine V_reg hN hn [(1, ⟨35, 0, [.agg [.val (.int .i64 d_1), .imm (.slice (.pair (.int .i64) (.pair (.int .i64) .str))) d_2]], [], .c (.val (.bool r_6)), [], [], 1⟩)] [] (calls_cons (palinoderef11_Is_spec K d_1 d_2 r_6 h_7) (by kernel_rfl) calls_nil) 1 [1, 2, 3, 13] [0] ⟨[(1, .c (.val (.int .i64 at_3))), (2, .c (.val (.bool after_4))), (3, .c (.h 0)), (13, .c (.val (.bool (!r_6))))], [(0, .box [.val (.int .i64 d_1), .imm (.slice (.pair (.int .i64) (.pair (.int .i64) .str))) d_2])], 1⟩ [] (by kernel_rfl) rfl rfl ap0 (by kernel_rfl) (by kernel_rfl) ?_
  refine VL_cond ((!r_6)) (by kernel_rfl) ?_ ?_
  · intro b_9; have H_55 := of_t H_54 b_9
    refine V_run hN hn 2 1 [6] [] ⟨[(6, .c (.val (.int .i64 (0 : Int))))], [], 1⟩ [] (by kernel_rfl) rfl rfl ap0 ?_
    have H_57 := Option.some.inj (show some (0 : Int) = some r from H_55); subst H_57
    refine VL_ret ?_
    exact P_to [(6, .c (.val (.int .i64 (0 : Int))))] [] [] hn (by kernel_rfl) (by kernel_rfl) rfl rfl rfl (QF_retS (by kernel_rfl) (by kernel_rfl) rfl)
  · intro b_9; have H_56 := of_f H_54 b_9
    refine V_run hN hn 4 1 [2, 3, 7] [0] ⟨[(2, .c (.val (.bool after_4))), (3, .c (.h 0)), (7, .c (.val (.int .i64 (mx2 (0 : Int) (mn2 at_3 d_1)))))], [(0, .box [.val (.int .i64 d_1), .imm (.slice (.pair (.int .i64) (.pair (.int .i64) .str))) d_2])], 1⟩ [] (by kernel_rfl) rfl rfl ap0 ?_
    obtain ⟨r_12, h_13, H_58⟩ := of_bind H_56
    refine V_reg hN hn [(1, ⟨36, 0, [.agg [.val (.int .i64 d_1), .imm (.slice (.pair (.int .i64) (.pair (.int .i64) .str))) d_2]], [], .c (.h 9), [(9, .row (.pair (.int .i64) (.int .u8)) r_12)], [(9, 1)], 2⟩)] [] (calls_cons (palinoderef11_Cells_spec K d_1 d_2 r_12 h_13) (by kernel_rfl) calls_nil) 1 [2, 7, 8] [1] ⟨[(2, .c (.val (.bool after_4))), (7, .c (.val (.int .i64 (mx2 (0 : Int) (mn2 at_3 d_1))))), (8, .c (.h 1))], [(1, .row (.pair (.int .i64) (.int .u8)) r_12)], 2⟩ [] (by kernel_rfl) rfl rfl ap0 (by kernel_rfl) (by kernel_rfl) ?_
    refine V_run hN hn 5 2 [2, 7, 8, 9, 10] [1] ⟨[(2, .c (.val (.bool after_4))), (7, .c (.val (.int .i64 (mx2 (0 : Int) (mn2 at_3 d_1))))), (8, .c (.h 1)), (9, .c (.val (.int .i64 (0 : Int)))), (10, .c (.val (.int .i64 (0 : Int))))], [(1, .row (.pair (.int .i64) (.int .u8)) r_12)], 2⟩ [] (by kernel_rfl) rfl rfl ap0 ?_
    obtain ⟨q_59, H_60, H_61⟩ := of_bind H_58
    refine V_cut (Y := Int) (R := Int) q_59 (fun y => y) (fun y => [(2, .c (.val (.bool after_4))), (8, .c (.h 1)), (9, .c (.val (.int .i64 y)))]) (fun y => [(1, .row (.pair (.int .i64) (.int .u8)) r_12)]) ?_ ?_
    · skip
      refine VL_block ?_
      refine V_to [(2, .c (.val (.bool after_4))), (7, .c (.val (.int .i64 (mx2 (0 : Int) (mn2 at_3 d_1))))), (8, .c (.h 1)), (9, .c (.val (.int .i64 (0 : Int)))), (10, .c (.val (.int .i64 (0 : Int))))] [(1, .row (.pair (.int .i64) (.int .u8)) r_12)] [(1, 1)] hn (by kernel_rfl) (by kernel_rfl) rfl rfl rfl ?_
      refine VL_loop (X := (Int × Int)) (fun x => [(2, .c (.val (.bool after_4))), (7, .c (.val (.int .i64 (mx2 (0 : Int) (mn2 at_3 d_1))))), (8, .c (.h 1)), (9, .c (.val (.int .i64 x.1))), (10, .c (.val (.int .i64 x.2)))]) (fun x => [(1, .row (.pair (.int .i64) (.int .u8)) r_12)]) (fun k x => palinoderef11_Move.l0 K r_12 at_3 d_1 k x.1 x.2 = some q_59) K ((0 : Int), (0 : Int)) H_60 (fun _ h => no_none h) ?_
      intro k_18 x_18 H_63
      obtain ⟨n_16, i_17⟩ := x_18
      have H_64 : palinoderef11_Move.l0 K r_12 at_3 d_1 (k_18 + 1) n_16 i_17 = some q_59 := H_63
      rw [palinoderef11_Move.l0] at H_64
      refine V_run hN hn 3 2 [2, 7, 8, 9, 10, 24] [1] ⟨[(2, .c (.val (.bool after_4))), (7, .c (.val (.int .i64 (mx2 (0 : Int) (mn2 at_3 d_1))))), (8, .c (.h 1)), (9, .c (.val (.int .i64 n_16))), (10, .c (.val (.int .i64 i_17))), (24, .c (.val (.bool (decide (i_17 < (((List.length r_12) : Nat) : Int))))))], [(1, .row (.pair (.int .i64) (.int .u8)) r_12)], 2⟩ [] (by kernel_rfl) rfl rfl ap0 ?_
      refine VL_cond ((decide (i_17 < (((List.length r_12) : Nat) : Int)))) (by kernel_rfl) ?_ ?_
      · intro b_20; have H_65 := of_t H_64 b_20
        refine V_run hN hn 2 2 [2, 7, 8, 9, 10, 24] [1] ⟨[(2, .c (.val (.bool after_4))), (7, .c (.val (.int .i64 (mx2 (0 : Int) (mn2 at_3 d_1))))), (8, .c (.h 1)), (9, .c (.val (.int .i64 n_16))), (10, .c (.val (.int .i64 i_17))), (24, .c (.val (.bool (decide (i_17 < (((List.length r_12) : Nat) : Int))))))], [(1, .row (.pair (.int .i64) (.int .u8)) r_12)], 2⟩ [] (by kernel_rfl) rfl rfl ap0 ?_
        refine VL_block ?_
        refine V_run hN hn 1 2 [2, 7, 8, 9, 10, 24] [1] ⟨[(2, .c (.val (.bool after_4))), (7, .c (.val (.int .i64 (mx2 (0 : Int) (mn2 at_3 d_1))))), (8, .c (.h 1)), (9, .c (.val (.int .i64 n_16))), (10, .c (.val (.int .i64 i_17))), (24, .c (.val (.bool (decide (i_17 < (((List.length r_12) : Nat) : Int))))))], [(1, .row (.pair (.int .i64) (.int .u8)) r_12)], 2⟩ [] (by kernel_rfl) rfl rfl ap0 ?_
        obtain ⟨q_67, H_68, H_69⟩ := of_bind H_65
        refine V_cut (Y := Bool) (R := Bool) q_67 (fun y => y) (fun y => [(2, .c (.val (.bool after_4))), (7, .c (.val (.int .i64 (mx2 (0 : Int) (mn2 at_3 d_1))))), (8, .c (.h 1)), (9, .c (.val (.int .i64 n_16))), (10, .c (.val (.int .i64 i_17))), (41, .c (.val (.bool y)))]) (fun y => [(1, .row (.pair (.int .i64) (.int .u8)) r_12)]) ?_ ?_
        · skip
          rcases Bool.eq_false_or_eq_true ((decide ((List.getD r_12 (Int.toNat i_17) ((0 : Int), (0 : Int))).1 ≥ (0 : Int)))) with b_23 | b_23
          · have H_71 := of_t H_68 b_23
            obtain ⟨c_24, H_73⟩ := of_if H_71
            refine V_reg hN hn [] [(33, true)] calls_nil 2 [2, 7, 8, 9, 10, 41] [1] ⟨[(2, .c (.val (.bool after_4))), (7, .c (.val (.int .i64 (mx2 (0 : Int) (mn2 at_3 d_1))))), (8, .c (.h 1)), (9, .c (.val (.int .i64 n_16))), (10, .c (.val (.int .i64 i_17))), (41, .c (.val (.bool (decide ((List.getD r_12 (Int.toNat i_17) ((0 : Int), (0 : Int))).1 < (mx2 (0 : Int) (mn2 at_3 d_1)))))))], [(1, .row (.pair (.int .i64) (.int .u8)) r_12)], 2⟩ [0 ≤ i_17, i_17 < (((List.length r_12) : Nat) : Int), (decide ((List.getD r_12 (Int.toNat i_17) ((0 : Int), (0 : Int))).1 ≥ (0 : Int))) = true, 0 ≤ i_17, i_17 < (((List.length r_12) : Nat) : Int)] (by kernel_rfl) rfl rfl (ap2 c_24.1 (ap2 c_24.2 (ap2 b_23 (ap2 c_24.1 (ap1 c_24.2))))) (by kernel_rfl) (by kernel_rfl) ?_
            have H_74 := Option.some.inj (show some (decide ((List.getD r_12 (Int.toNat i_17) ((0 : Int), (0 : Int))).1 < (mx2 (0 : Int) (mn2 at_3 d_1)))) = some q_67 from H_73); subst H_74
            refine VL_nil ?_
            exact QP_end (decide ((List.getD r_12 (Int.toNat i_17) ((0 : Int), (0 : Int))).1 < (mx2 (0 : Int) (mn2 at_3 d_1)))) rfl [(1, 1)] hn (by kernel_rfl) (by kernel_rfl) rfl rfl rfl
          · have H_72 := of_f H_68 b_23
            obtain ⟨c_25, H_75⟩ := of_if H_72
            refine V_reg hN hn [] [(33, false)] calls_nil 2 [2, 7, 8, 9, 10, 41] [1] ⟨[(2, .c (.val (.bool after_4))), (7, .c (.val (.int .i64 (mx2 (0 : Int) (mn2 at_3 d_1))))), (8, .c (.h 1)), (9, .c (.val (.int .i64 n_16))), (10, .c (.val (.int .i64 i_17))), (41, .c (.val (.bool false)))], [(1, .row (.pair (.int .i64) (.int .u8)) r_12)], 2⟩ [0 ≤ i_17, i_17 < (((List.length r_12) : Nat) : Int), (decide ((List.getD r_12 (Int.toNat i_17) ((0 : Int), (0 : Int))).1 ≥ (0 : Int))) = false] (by kernel_rfl) rfl rfl (ap2 c_25.1 (ap2 c_25.2 (ap1 b_23))) (by kernel_rfl) (by kernel_rfl) ?_
            have H_76 := Option.some.inj (show some false = some q_67 from H_75); subst H_76
            refine VL_nil ?_
            exact QP_end false rfl [(1, 1)] hn (by kernel_rfl) (by kernel_rfl) rfl rfl rfl
        · intro y_70 hy; subst hy
          skip
          skip
          refine VL_cond (y_70) (by kernel_rfl) ?_ ?_
          · intro b_27; have H_77 := of_t H_69 b_27
            refine V_run hN hn 1 2 [2, 7, 8, 9, 10] [1] ⟨[(2, .c (.val (.bool after_4))), (7, .c (.val (.int .i64 (mx2 (0 : Int) (mn2 at_3 d_1))))), (8, .c (.h 1)), (9, .c (.val (.int .i64 (IntKind.wrap .i64 (i_17 + (1 : Int)))))), (10, .c (.val (.int .i64 i_17)))], [(1, .row (.pair (.int .i64) (.int .u8)) r_12)], 2⟩ [] (by kernel_rfl) rfl rfl ap0 ?_
            refine VL_nil (QB_end ?_)
            refine V_run hN hn 1 2 [2, 7, 8, 9, 10] [1] ⟨[(2, .c (.val (.bool after_4))), (7, .c (.val (.int .i64 (mx2 (0 : Int) (mn2 at_3 d_1))))), (8, .c (.h 1)), (9, .c (.val (.int .i64 (IntKind.wrap .i64 (i_17 + (1 : Int)))))), (10, .c (.val (.int .i64 (IntKind.wrap .i64 (i_17 + (1 : Int))))))], [(1, .row (.pair (.int .i64) (.int .u8)) r_12)], 2⟩ [] (by kernel_rfl) rfl rfl ap0 ?_
            refine VL_nil ?_
            exact V_roundEnd ((IntKind.wrap .i64 (i_17 + (1 : Int))), (IntKind.wrap .i64 (i_17 + (1 : Int)))) H_77 [(1, 1)] hn (by kernel_rfl) (by kernel_rfl) rfl rfl rfl
          · intro b_27; have H_78 := of_f H_69 b_27
            refine V_run hN hn 1 2 [2, 7, 8, 9, 10, 41] [1] ⟨[(2, .c (.val (.bool after_4))), (7, .c (.val (.int .i64 (mx2 (0 : Int) (mn2 at_3 d_1))))), (8, .c (.h 1)), (9, .c (.val (.int .i64 n_16))), (10, .c (.val (.int .i64 i_17))), (41, .c (.val (.bool y_70)))], [(1, .row (.pair (.int .i64) (.int .u8)) r_12)], 2⟩ [] (by kernel_rfl) rfl rfl ap0 ?_
            refine VL_nil (QB_end ?_)
            refine V_run hN hn 1 2 [2, 7, 8, 9, 10] [1] ⟨[(2, .c (.val (.bool after_4))), (7, .c (.val (.int .i64 (mx2 (0 : Int) (mn2 at_3 d_1))))), (8, .c (.h 1)), (9, .c (.val (.int .i64 n_16))), (10, .c (.val (.int .i64 (IntKind.wrap .i64 (i_17 + (1 : Int))))))], [(1, .row (.pair (.int .i64) (.int .u8)) r_12)], 2⟩ [] (by kernel_rfl) rfl rfl ap0 ?_
            refine VL_nil ?_
            exact V_roundEnd (n_16, (IntKind.wrap .i64 (i_17 + (1 : Int)))) H_78 [(1, 1)] hn (by kernel_rfl) (by kernel_rfl) rfl rfl rfl
      · intro b_20; have H_66 := of_f H_64 b_20
        refine VL_exit ?_
        refine QL_exit ?_
        refine QB_here ?_
        have H_79 := Option.some.inj (show some n_16 = some q_59 from H_66); subst H_79
        refine VL_nil ?_
        exact QP_end n_16 rfl [(1, 1)] hn (by kernel_rfl) (by kernel_rfl) rfl rfl rfl
    · intro y_62 hy; subst hy
      skip
      skip
      refine V_run hN hn 3 2 [8, 9, 45] [1] ⟨[(8, .c (.h 1)), (9, .c (.val (.int .i64 y_62))), (45, .c (.val (.bool (!after_4))))], [(1, .row (.pair (.int .i64) (.int .u8)) r_12)], 2⟩ [] (by kernel_rfl) rfl rfl ap0 ?_
      refine VL_cond ((!after_4)) (by kernel_rfl) ?_ ?_
      · intro b_34; have H_80 := of_t H_61 b_34
        refine V_run hN hn 2 2 [6] [] ⟨[(6, .c (.val (.int .i64 y_62)))], [], 2⟩ [] (by kernel_rfl) rfl rfl ap0 ?_
        have H_82 := Option.some.inj (show some y_62 = some r from H_80); subst H_82
        refine VL_ret ?_
        exact P_to [(6, .c (.val (.int .i64 y_62)))] [] [] hn (by kernel_rfl) (by kernel_rfl) rfl rfl rfl (QF_retS (by kernel_rfl) (by kernel_rfl) rfl)
      · intro b_34; have H_81 := of_f H_61 b_34
        refine V_run hN hn 2 2 [8, 9, 45] [1] ⟨[(8, .c (.h 1)), (9, .c (.val (.int .i64 y_62))), (45, .c (.val (.bool (!after_4))))], [(1, .row (.pair (.int .i64) (.int .u8)) r_12)], 2⟩ [] (by kernel_rfl) rfl rfl ap0 ?_
        refine VL_block ?_
        refine V_to [(8, .c (.h 1)), (9, .c (.val (.int .i64 y_62)))] [(1, .row (.pair (.int .i64) (.int .u8)) r_12)] [(1, 1)] hn (by kernel_rfl) (by kernel_rfl) rfl rfl rfl ?_
        refine VL_loop (X := Int) (fun x => [(8, .c (.h 1)), (9, .c (.val (.int .i64 x)))]) (fun x => [(1, .row (.pair (.int .i64) (.int .u8)) r_12)]) (fun k x => palinoderef11_Move.l1 K r_12 k x = some r) K y_62 H_81 (fun _ h => no_none h) ?_
        intro k_38 n_37 H_83
        have H_84 : palinoderef11_Move.l1 K r_12 (k_38 + 1) n_37 = some r := H_83
        rw [palinoderef11_Move.l1] at H_84
        refine V_run hN hn 2 2 [8, 9] [1] ⟨[(8, .c (.h 1)), (9, .c (.val (.int .i64 n_37)))], [(1, .row (.pair (.int .i64) (.int .u8)) r_12)], 2⟩ [] (by kernel_rfl) rfl rfl ap0 ?_
        obtain ⟨q_85, H_86, H_87⟩ := of_bind H_84
        refine V_cut (Y := Bool) (R := Bool) q_85 (fun y => y) (fun y => [(8, .c (.h 1)), (9, .c (.val (.int .i64 n_37))), (58, .c (.val (.bool y)))]) (fun y => [(1, .row (.pair (.int .i64) (.int .u8)) r_12)]) ?_ ?_
        · skip
          rcases Bool.eq_false_or_eq_true ((decide (n_37 < (((List.length r_12) : Nat) : Int)))) with b_40 | b_40
          · have H_89 := of_t H_86 b_40
            obtain ⟨c_41, H_91⟩ := of_if H_89
            refine V_reg hN hn [] [(51, true)] calls_nil 2 [8, 9, 58] [1] ⟨[(8, .c (.h 1)), (9, .c (.val (.int .i64 n_37))), (58, .c (.val (.bool (decide ((List.getD r_12 (Int.toNat n_37) ((0 : Int), (0 : Int))).1 < (0 : Int))))))], [(1, .row (.pair (.int .i64) (.int .u8)) r_12)], 2⟩ [(decide (n_37 < (((List.length r_12) : Nat) : Int))) = true, 0 ≤ n_37, n_37 < (((List.length r_12) : Nat) : Int)] (by kernel_rfl) rfl rfl (ap2 b_40 (ap2 c_41.1 (ap1 c_41.2))) (by kernel_rfl) (by kernel_rfl) ?_
            have H_92 := Option.some.inj (show some (decide ((List.getD r_12 (Int.toNat n_37) ((0 : Int), (0 : Int))).1 < (0 : Int))) = some q_85 from H_91); subst H_92
            refine VL_nil ?_
            exact QP_end (decide ((List.getD r_12 (Int.toNat n_37) ((0 : Int), (0 : Int))).1 < (0 : Int))) rfl [(1, 1)] hn (by kernel_rfl) (by kernel_rfl) rfl rfl rfl
          · have H_90 := of_f H_86 b_40
            refine V_reg hN hn [] [(51, false)] calls_nil 2 [8, 9, 58] [1] ⟨[(8, .c (.h 1)), (9, .c (.val (.int .i64 n_37))), (58, .c (.val (.bool false)))], [(1, .row (.pair (.int .i64) (.int .u8)) r_12)], 2⟩ [(decide (n_37 < (((List.length r_12) : Nat) : Int))) = false] (by kernel_rfl) rfl rfl (ap1 b_40) (by kernel_rfl) (by kernel_rfl) ?_
            have H_93 := Option.some.inj (show some false = some q_85 from H_90); subst H_93
            refine VL_nil ?_
            exact QP_end false rfl [(1, 1)] hn (by kernel_rfl) (by kernel_rfl) rfl rfl rfl
        · intro y_88 hy; subst hy
          skip
          skip
          refine VL_cond (y_88) (by kernel_rfl) ?_ ?_
          · intro b_44; have H_94 := of_t H_87 b_44
            refine V_run hN hn 1 2 [8, 9, 58] [1] ⟨[(8, .c (.h 1)), (9, .c (.val (.int .i64 n_37))), (58, .c (.val (.bool y_88)))], [(1, .row (.pair (.int .i64) (.int .u8)) r_12)], 2⟩ [] (by kernel_rfl) rfl rfl ap0 ?_
            refine VL_block ?_
            refine V_run hN hn 1 2 [8, 9] [1] ⟨[(8, .c (.h 1)), (9, .c (.val (.int .i64 (IntKind.wrap .i64 (n_37 + (1 : Int))))))], [(1, .row (.pair (.int .i64) (.int .u8)) r_12)], 2⟩ [] (by kernel_rfl) rfl rfl ap0 ?_
            refine VL_nil (QB_end ?_)
            refine VL_nil ?_
            exact V_roundEnd (IntKind.wrap .i64 (n_37 + (1 : Int))) H_94 [(1, 1)] hn (by kernel_rfl) (by kernel_rfl) rfl rfl rfl
          · intro b_44; have H_95 := of_f H_87 b_44
            refine VL_exit ?_
            refine QL_exit ?_
            refine QB_here ?_
            refine V_run hN hn 2 2 [6] [] ⟨[(6, .c (.val (.int .i64 n_37)))], [], 2⟩ [] (by kernel_rfl) rfl rfl ap0 ?_
            have H_96 := Option.some.inj (show some n_37 = some r from H_95); subst H_96
            refine VL_ret ?_
            exact P_to [(6, .c (.val (.int .i64 n_37)))] [] [] hn (by kernel_rfl) (by kernel_rfl) rfl rfl rfl (QF_retS (by kernel_rfl) (by kernel_rfl) rfl)

theorem palinoderef15_EditBreaks_spec (K : Nat) (l_1 : (List Int)) (d_2 : Int) (d_3 : (List (Int × (Int × ByteArray)))) (r : ((List Int) × Int)) (H : palinoderef15_EditBreaks K l_1 d_2 d_3 = some r) : Spec Try.prog 24 0 [.c (.imm (.slice (.int .i64)) l_1), .agg [.val (.int .i64 d_2), .imm (.slice (.pair (.int .i64) (.pair (.int .i64) .str))) d_3]] [] (.tup [(false, [.h 6]), (false, [.val (.int .i64 r.2)])]) [(6, .row (.int .i64) r.1)] := by
  refine Spec_mk (fn := Try.f24) (c := (Try.f24.body).get!) Try.func24 (by kernel_rfl) rfl ?_
  intro C hN hn
  replace hN : C.N = 62 := hN
  unfold palinoderef15_EditBreaks at H
  refine V_run hN hn 4 0 [0, 3] [0] ⟨[(0, .c (.imm (.slice (.int .i64)) l_1)), (3, .c (.h 0))], [(0, .box [.val (.int .i64 d_2), .imm (.slice (.pair (.int .i64) (.pair (.int .i64) .str))) d_3])], 1⟩ [] (by kernel_rfl) rfl rfl ap0 ?_
  obtain ⟨q_73, H_74, H_75⟩ := of_bind H
  refine V_cut (Y := Bool) (R := Bool) q_73 (fun y => y) (fun y => [(0, .c (.imm (.slice (.int .i64)) l_1)), (3, .c (.h 0)), (19, .c (.val (.bool y)))]) (fun y => [(0, .box [.val (.int .i64 d_2), .imm (.slice (.pair (.int .i64) (.pair (.int .i64) .str))) d_3])]) ?_ ?_
  · skip
    obtain ⟨r_5, h_6, H_77⟩ := of_bind H_74
    rcases Bool.eq_false_or_eq_true ((!r_5)) with b_7 | b_7
    · have H_78 := of_t H_77 b_7
      refine V_reg hN hn [(1, ⟨35, 0, [.agg [.val (.int .i64 d_2), .imm (.slice (.pair (.int .i64) (.pair (.int .i64) .str))) d_3]], [], .c (.val (.bool r_5)), [], [], 1⟩)] [(13, true)] (calls_cons (palinoderef11_Is_spec K d_2 d_3 r_5 h_6) (by kernel_rfl) calls_nil) 1 [0, 3, 19] [0] ⟨[(0, .c (.imm (.slice (.int .i64)) l_1)), (3, .c (.h 0)), (19, .c (.val (.bool true)))], [(0, .box [.val (.int .i64 d_2), .imm (.slice (.pair (.int .i64) (.pair (.int .i64) .str))) d_3])], 1⟩ [(!r_5) = true] (by kernel_rfl) rfl rfl (ap1 b_7) (by kernel_rfl) (by kernel_rfl) ?_
      have H_80 := Option.some.inj (show some true = some q_73 from H_78); subst H_80
      refine VL_nil ?_
      exact QP_end true rfl [(0, 0)] hn (by kernel_rfl) (by kernel_rfl) rfl rfl rfl
    · have H_79 := of_f H_77 b_7
      obtain ⟨r_9, h_10, H_81⟩ := of_bind H_79
      refine V_reg hN hn [(1, ⟨35, 0, [.agg [.val (.int .i64 d_2), .imm (.slice (.pair (.int .i64) (.pair (.int .i64) .str))) d_3]], [], .c (.val (.bool r_5)), [], [], 1⟩), (7, ⟨25, 0, [.c (.imm (.slice (.int .i64)) l_1), .c (.val (.int .i64 d_2))], [], .c (.val (.bool r_9)), [], [], 1⟩)] [(13, false)] (calls_cons (palinoderef11_Is_spec K d_2 d_3 r_5 h_6) (by kernel_rfl) (calls_cons (palinoderef15_IsBreaks_spec K l_1 d_2 r_9 h_10) (by kernel_rfl) calls_nil)) 1 [0, 3, 19] [0] ⟨[(0, .c (.imm (.slice (.int .i64)) l_1)), (3, .c (.h 0)), (19, .c (.val (.bool (!r_9))))], [(0, .box [.val (.int .i64 d_2), .imm (.slice (.pair (.int .i64) (.pair (.int .i64) .str))) d_3])], 1⟩ [(!r_5) = false] (by kernel_rfl) rfl rfl (ap1 b_7) (by kernel_rfl) (by kernel_rfl) ?_
      have H_82 := Option.some.inj (show some (!r_9) = some q_73 from H_81); subst H_82
      refine VL_nil ?_
      exact QP_end (!r_9) rfl [(0, 0)] hn (by kernel_rfl) (by kernel_rfl) rfl rfl rfl
  · intro y_76 hy; subst hy
    skip
    skip
    refine VL_cond (y_76) (by kernel_rfl) ?_ ?_
    · intro b_13; have H_83 := of_t H_75 b_13
      refine V_run hN hn 2 1 [4, 5] [] ⟨[(4, .c (.val (.slice none 0 0))), (5, .c (.val (.int .i64 (12 : Int))))], [], 1⟩ [] (by kernel_rfl) rfl rfl ap0 ?_
      have H_85 := Option.some.inj (show some (([] : List Int), (12 : Int)) = some r from H_83); subst H_85
      refine VL_ret ?_
      refine P_ghost [.nilSlot 4 (.int .i64)] 1 hn [4, 5] [1] ⟨[(4, .c (.h 1)), (5, .c (.val (.int .i64 (12 : Int))))], [(1, .row (.int .i64) ([] : List Int))], 2⟩ (by kernel_rfl) rfl rfl ?_
      exact P_to [(4, .c (.h 6)), (5, .c (.val (.int .i64 (12 : Int))))] [(6, .row (.int .i64) ([] : List Int))] [(6, 1)] hn (by kernel_rfl) (by kernel_rfl) rfl rfl rfl (QF_retS (by kernel_rfl) (by kernel_rfl) rfl)
    · intro b_13; have H_84 := of_f H_75 b_13
      refine V_run hN hn 2 1 [0, 3, 19] [0] ⟨[(0, .c (.imm (.slice (.int .i64)) l_1)), (3, .c (.h 0)), (19, .c (.val (.bool y_76)))], [(0, .box [.val (.int .i64 d_2), .imm (.slice (.pair (.int .i64) (.pair (.int .i64) .str))) d_3])], 1⟩ [] (by kernel_rfl) rfl rfl ap0 ?_
      obtain ⟨r_16, h_17, H_86⟩ := of_bind H_84
      refine V_reg hN hn [(1, ⟨36, 0, [.agg [.val (.int .i64 d_2), .imm (.slice (.pair (.int .i64) (.pair (.int .i64) .str))) d_3]], [], .c (.h 9), [(9, .row (.pair (.int .i64) (.int .u8)) r_16)], [(9, 1)], 2⟩)] [] (calls_cons (palinoderef11_Cells_spec K d_2 d_3 r_16 h_17) (by kernel_rfl) calls_nil) 1 [0, 3, 6] [0] ⟨[(0, .c (.imm (.slice (.int .i64)) l_1)), (3, .c (.h 0)), (6, .c (.val (.int .i64 (((List.length r_16) : Nat) : Int))))], [(0, .box [.val (.int .i64 d_2), .imm (.slice (.pair (.int .i64) (.pair (.int .i64) .str))) d_3])], 2⟩ [] (by kernel_rfl) rfl rfl ap0 (by kernel_rfl) (by kernel_rfl) ?_
      refine V_run hN hn 5 2 [0, 3, 6, 7, 8] [0] ⟨[(0, .c (.imm (.slice (.int .i64)) l_1)), (3, .c (.h 0)), (6, .c (.val (.int .i64 (((List.length r_16) : Nat) : Int)))), (7, .c (.val (.slice none 0 0))), (8, .c (.val (.int .i64 (0 : Int))))], [(0, .box [.val (.int .i64 d_2), .imm (.slice (.pair (.int .i64) (.pair (.int .i64) .str))) d_3])], 2⟩ [] (by kernel_rfl) rfl rfl ap0 ?_
      refine VL_block ?_
      refine V_ghost [.nilSlot 7 (.int .i64)] 2 hn [0, 3, 6, 7, 8] [0, 2] ⟨[(0, .c (.imm (.slice (.int .i64)) l_1)), (3, .c (.h 0)), (6, .c (.val (.int .i64 (((List.length r_16) : Nat) : Int)))), (7, .c (.h 2)), (8, .c (.val (.int .i64 (0 : Int))))], [(0, .box [.val (.int .i64 d_2), .imm (.slice (.pair (.int .i64) (.pair (.int .i64) .str))) d_3]), (2, .row (.int .i64) ([] : List Int))], 3⟩ (by kernel_rfl) rfl rfl ?_
      refine V_to [(0, .c (.imm (.slice (.int .i64)) l_1)), (3, .c (.h 0)), (6, .c (.val (.int .i64 (((List.length r_16) : Nat) : Int)))), (7, .c (.h 5)), (8, .c (.val (.int .i64 (0 : Int))))] [(0, .box [.val (.int .i64 d_2), .imm (.slice (.pair (.int .i64) (.pair (.int .i64) .str))) d_3]), (5, .row (.int .i64) ([] : List Int))] [(0, 0), (5, 2)] hn (by kernel_rfl) (by kernel_rfl) rfl rfl rfl ?_
      refine VL_loop (X := ((List Int) × Int)) (fun x => [(0, .c (.imm (.slice (.int .i64)) l_1)), (3, .c (.h 0)), (6, .c (.val (.int .i64 (((List.length r_16) : Nat) : Int)))), (7, .c (.h 5)), (8, .c (.val (.int .i64 x.2)))]) (fun x => [(0, .box [.val (.int .i64 d_2), .imm (.slice (.pair (.int .i64) (.pair (.int .i64) .str))) d_3]), (5, .row (.int .i64) x.1)]) (fun k x => palinoderef15_EditBreaks.l0 K l_1 d_2 d_3 r_16 k x.1 x.2 = some r) K (([] : List Int), (0 : Int)) H_86 (fun _ h => no_none h) ?_
      intro k_45 x_45 H_87
      obtain ⟨out_44, i_20⟩ := x_45
      have H_88 : palinoderef15_EditBreaks.l0 K l_1 d_2 d_3 r_16 (k_45 + 1) out_44 i_20 = some r := H_87
      rw [palinoderef15_EditBreaks.l0] at H_88
      refine V_run hN hn 3 6 [0, 3, 6, 7, 8, 26] [0, 5] ⟨[(0, .c (.imm (.slice (.int .i64)) l_1)), (3, .c (.h 0)), (6, .c (.val (.int .i64 (((List.length r_16) : Nat) : Int)))), (7, .c (.h 5)), (8, .c (.val (.int .i64 i_20))), (26, .c (.val (.bool (decide (i_20 < (((List.length l_1) : Nat) : Int))))))], [(0, .box [.val (.int .i64 d_2), .imm (.slice (.pair (.int .i64) (.pair (.int .i64) .str))) d_3]), (5, .row (.int .i64) out_44)], 6⟩ [] (by kernel_rfl) rfl rfl ap0 ?_
      refine VL_cond ((decide (i_20 < (((List.length l_1) : Nat) : Int)))) (by kernel_rfl) ?_ ?_
      · intro b_47; have H_89 := of_t H_88 b_47
        refine V_run hN hn 2 6 [0, 3, 6, 7, 8, 26] [0, 5] ⟨[(0, .c (.imm (.slice (.int .i64)) l_1)), (3, .c (.h 0)), (6, .c (.val (.int .i64 (((List.length r_16) : Nat) : Int)))), (7, .c (.h 5)), (8, .c (.val (.int .i64 i_20))), (26, .c (.val (.bool (decide (i_20 < (((List.length l_1) : Nat) : Int))))))], [(0, .box [.val (.int .i64 d_2), .imm (.slice (.pair (.int .i64) (.pair (.int .i64) .str))) d_3]), (5, .row (.int .i64) out_44)], 6⟩ [] (by kernel_rfl) rfl rfl ap0 ?_
        refine VL_block ?_
        refine V_run hN hn 1 6 [0, 3, 6, 7, 8, 26] [0, 5] ⟨[(0, .c (.imm (.slice (.int .i64)) l_1)), (3, .c (.h 0)), (6, .c (.val (.int .i64 (((List.length r_16) : Nat) : Int)))), (7, .c (.h 5)), (8, .c (.val (.int .i64 i_20))), (26, .c (.val (.bool (decide (i_20 < (((List.length l_1) : Nat) : Int))))))], [(0, .box [.val (.int .i64 d_2), .imm (.slice (.pair (.int .i64) (.pair (.int .i64) .str))) d_3]), (5, .row (.int .i64) out_44)], 6⟩ [] (by kernel_rfl) rfl rfl ap0 ?_
        obtain ⟨r_50, h_51, H_91⟩ := of_bind H_89
        obtain ⟨c_52, H_92⟩ := of_if H_91
        refine V_draw hN hn (by kernel_rfl) [(5, ⟨37, 0, [.agg [.val (.int .i64 d_2), .imm (.slice (.pair (.int .i64) (.pair (.int .i64) .str))) d_3], .c (.val (.int .i64 (List.getD l_1 (Int.toNat i_20) (0 : Int)))), .c (.val (.bool false))], [], .c (.val (.int .i64 r_50)), [], [], 6⟩)] [] (calls_cons (palinoderef11_Move_spec K d_2 d_3 (List.getD l_1 (Int.toNat i_20) (0 : Int)) false r_50 h_51) (by kernel_rfl) calls_nil) 6 [0, 3, 6, 7, 8, 9] [0, 5] ⟨[(0, .c (.imm (.slice (.int .i64)) l_1)), (3, .c (.h 0)), (6, .c (.val (.int .i64 (((List.length r_16) : Nat) : Int)))), (7, .c (.h 5)), (8, .c (.val (.int .i64 i_20))), (9, .c (.val (.int .i64 r_50)))], [(0, .box [.val (.int .i64 d_2), .imm (.slice (.pair (.int .i64) (.pair (.int .i64) .str))) d_3]), (5, .row (.int .i64) out_44)], 6⟩ [0 ≤ i_20, i_20 < (((List.length l_1) : Nat) : Int)] (by kernel_rfl) rfl rfl (ap2 c_52.1 (ap1 c_52.2)) (by kernel_rfl) (by kernel_rfl) ?_
        refine V_run hN hn 1 6 [0, 3, 6, 7, 8, 9] [0, 5] ⟨[(0, .c (.imm (.slice (.int .i64)) l_1)), (3, .c (.h 0)), (6, .c (.val (.int .i64 (((List.length r_16) : Nat) : Int)))), (7, .c (.h 5)), (8, .c (.val (.int .i64 i_20))), (9, .c (.val (.int .i64 r_50)))], [(0, .box [.val (.int .i64 d_2), .imm (.slice (.pair (.int .i64) (.pair (.int .i64) .str))) d_3]), (5, .row (.int .i64) out_44)], 6⟩ [] (by kernel_rfl) rfl rfl ap0 ?_
        obtain ⟨q_93, H_94, H_95⟩ := of_bind H_92
        refine V_cut (Y := Bool) (R := Bool) q_93 (fun y => y) (fun y => [(0, .c (.imm (.slice (.int .i64)) l_1)), (3, .c (.h 0)), (6, .c (.val (.int .i64 (((List.length r_16) : Nat) : Int)))), (7, .c (.h 5)), (8, .c (.val (.int .i64 i_20))), (9, .c (.val (.int .i64 r_50))), (56, .c (.val (.bool y)))]) (fun y => [(0, .box [.val (.int .i64 d_2), .imm (.slice (.pair (.int .i64) (.pair (.int .i64) .str))) d_3]), (5, .row (.int .i64) out_44)]) ?_ ?_
        · skip
          rcases Bool.eq_false_or_eq_true ((decide (r_50 > (0 : Int)))) with b_54 | b_54
          · have H_97 := of_t H_94 b_54
            rcases Bool.eq_false_or_eq_true ((decide (r_50 < (((List.length r_16) : Nat) : Int)))) with b_55 | b_55
            · have H_99 := of_t H_97 b_55
              rcases Bool.eq_false_or_eq_true (((((List.length out_44) : Nat) : Int) == (0 : Int))) with b_56 | b_56
              · have H_101 := of_t H_99 b_56
                refine V_reg hN hn [] [(37, true), (42, true), (46, true)] calls_nil 6 [0, 3, 6, 7, 8, 9, 56] [0, 5] ⟨[(0, .c (.imm (.slice (.int .i64)) l_1)), (3, .c (.h 0)), (6, .c (.val (.int .i64 (((List.length r_16) : Nat) : Int)))), (7, .c (.h 5)), (8, .c (.val (.int .i64 i_20))), (9, .c (.val (.int .i64 r_50))), (56, .c (.val (.bool true)))], [(0, .box [.val (.int .i64 d_2), .imm (.slice (.pair (.int .i64) (.pair (.int .i64) .str))) d_3]), (5, .row (.int .i64) out_44)], 6⟩ [(decide (r_50 > (0 : Int))) = true, (decide (r_50 < (((List.length r_16) : Nat) : Int))) = true, ((((List.length out_44) : Nat) : Int) == (0 : Int)) = true] (by kernel_rfl) rfl rfl (ap2 b_54 (ap2 b_55 (ap1 b_56))) (by kernel_rfl) (by kernel_rfl) ?_
                have H_103 := Option.some.inj (show some true = some q_93 from H_101); subst H_103
                refine VL_nil ?_
                exact QP_end true rfl [(0, 0), (5, 5)] hn (by kernel_rfl) (by kernel_rfl) rfl rfl rfl
              · have H_102 := of_f H_99 b_56
                obtain ⟨c_58, H_104⟩ := of_if H_102
                refine V_reg hN hn [] [(37, true), (42, true), (46, false)] calls_nil 6 [0, 3, 6, 7, 8, 9, 56] [0, 5] ⟨[(0, .c (.imm (.slice (.int .i64)) l_1)), (3, .c (.h 0)), (6, .c (.val (.int .i64 (((List.length r_16) : Nat) : Int)))), (7, .c (.h 5)), (8, .c (.val (.int .i64 i_20))), (9, .c (.val (.int .i64 r_50))), (56, .c (.val (.bool ((List.getD out_44 (Int.toNat (IntKind.wrap .i64 ((((List.length out_44) : Nat) : Int) - (1 : Int)))) (0 : Int)) != r_50))))], [(0, .box [.val (.int .i64 d_2), .imm (.slice (.pair (.int .i64) (.pair (.int .i64) .str))) d_3]), (5, .row (.int .i64) out_44)], 6⟩ [(decide (r_50 > (0 : Int))) = true, (decide (r_50 < (((List.length r_16) : Nat) : Int))) = true, ((((List.length out_44) : Nat) : Int) == (0 : Int)) = false, 0 ≤ (IntKind.wrap .i64 ((((List.length out_44) : Nat) : Int) - (1 : Int))), (IntKind.wrap .i64 ((((List.length out_44) : Nat) : Int) - (1 : Int))) < (((List.length out_44) : Nat) : Int)] (by kernel_rfl) rfl rfl (ap2 b_54 (ap2 b_55 (ap2 b_56 (ap2 c_58.1 (ap1 c_58.2))))) (by kernel_rfl) (by kernel_rfl) ?_
                have H_105 := Option.some.inj (show some ((List.getD out_44 (Int.toNat (IntKind.wrap .i64 ((((List.length out_44) : Nat) : Int) - (1 : Int)))) (0 : Int)) != r_50) = some q_93 from H_104); subst H_105
                refine VL_nil ?_
                exact QP_end ((List.getD out_44 (Int.toNat (IntKind.wrap .i64 ((((List.length out_44) : Nat) : Int) - (1 : Int)))) (0 : Int)) != r_50) rfl [(0, 0), (5, 5)] hn (by kernel_rfl) (by kernel_rfl) rfl rfl rfl
            · have H_100 := of_f H_97 b_55
              refine V_reg hN hn [] [(37, true), (42, false)] calls_nil 6 [0, 3, 6, 7, 8, 9, 56] [0, 5] ⟨[(0, .c (.imm (.slice (.int .i64)) l_1)), (3, .c (.h 0)), (6, .c (.val (.int .i64 (((List.length r_16) : Nat) : Int)))), (7, .c (.h 5)), (8, .c (.val (.int .i64 i_20))), (9, .c (.val (.int .i64 r_50))), (56, .c (.val (.bool false)))], [(0, .box [.val (.int .i64 d_2), .imm (.slice (.pair (.int .i64) (.pair (.int .i64) .str))) d_3]), (5, .row (.int .i64) out_44)], 6⟩ [(decide (r_50 > (0 : Int))) = true, (decide (r_50 < (((List.length r_16) : Nat) : Int))) = false] (by kernel_rfl) rfl rfl (ap2 b_54 (ap1 b_55)) (by kernel_rfl) (by kernel_rfl) ?_
              have H_106 := Option.some.inj (show some false = some q_93 from H_100); subst H_106
              refine VL_nil ?_
              exact QP_end false rfl [(0, 0), (5, 5)] hn (by kernel_rfl) (by kernel_rfl) rfl rfl rfl
          · have H_98 := of_f H_94 b_54
            refine V_reg hN hn [] [(37, false)] calls_nil 6 [0, 3, 6, 7, 8, 9, 56] [0, 5] ⟨[(0, .c (.imm (.slice (.int .i64)) l_1)), (3, .c (.h 0)), (6, .c (.val (.int .i64 (((List.length r_16) : Nat) : Int)))), (7, .c (.h 5)), (8, .c (.val (.int .i64 i_20))), (9, .c (.val (.int .i64 r_50))), (56, .c (.val (.bool false)))], [(0, .box [.val (.int .i64 d_2), .imm (.slice (.pair (.int .i64) (.pair (.int .i64) .str))) d_3]), (5, .row (.int .i64) out_44)], 6⟩ [(decide (r_50 > (0 : Int))) = false] (by kernel_rfl) rfl rfl (ap1 b_54) (by kernel_rfl) (by kernel_rfl) ?_
            have H_107 := Option.some.inj (show some false = some q_93 from H_98); subst H_107
            refine VL_nil ?_
            exact QP_end false rfl [(0, 0), (5, 5)] hn (by kernel_rfl) (by kernel_rfl) rfl rfl rfl
        · intro y_96 hy; subst hy
          skip
          skip
          refine VL_cond (y_96) (by kernel_rfl) ?_ ?_
          · intro b_62; have H_108 := of_t H_95 b_62
            obtain ⟨c_63, H_110⟩ := of_if H_108
            refine V_run hN hn 1 6 [0, 3, 6, 7, 8] [0, 7] ⟨[(0, .c (.imm (.slice (.int .i64)) l_1)), (3, .c (.h 0)), (6, .c (.val (.int .i64 (((List.length r_16) : Nat) : Int)))), (7, .c (.h 7)), (8, .c (.val (.int .i64 i_20)))], [(0, .box [.val (.int .i64 d_2), .imm (.slice (.pair (.int .i64) (.pair (.int .i64) .str))) d_3]), (7, .row (.int .i64) (out_44 ++ ([r_50] : List Int)))], 8⟩ [(List.length out_44 + List.length ([r_50] : List Int)) * 8 ≤ 140737488355328] (by kernel_rfl) rfl rfl (ap1 c_63) ?_
            refine VL_nil (QB_end ?_)
            refine V_run hN hn 1 8 [0, 3, 6, 7, 8] [0, 7] ⟨[(0, .c (.imm (.slice (.int .i64)) l_1)), (3, .c (.h 0)), (6, .c (.val (.int .i64 (((List.length r_16) : Nat) : Int)))), (7, .c (.h 7)), (8, .c (.val (.int .i64 (IntKind.wrap .i64 (i_20 + (1 : Int))))))], [(0, .box [.val (.int .i64 d_2), .imm (.slice (.pair (.int .i64) (.pair (.int .i64) .str))) d_3]), (7, .row (.int .i64) (out_44 ++ ([r_50] : List Int)))], 8⟩ [] (by kernel_rfl) rfl rfl ap0 ?_
            refine VL_nil ?_
            exact V_roundEnd ((out_44 ++ ([r_50] : List Int)), (IntKind.wrap .i64 (i_20 + (1 : Int)))) H_110 [(0, 0), (5, 7)] hn (by kernel_rfl) (by kernel_rfl) rfl rfl rfl
          · intro b_62; have H_109 := of_f H_95 b_62
            refine V_run hN hn 1 6 [0, 3, 6, 7, 8, 9, 56] [0, 5] ⟨[(0, .c (.imm (.slice (.int .i64)) l_1)), (3, .c (.h 0)), (6, .c (.val (.int .i64 (((List.length r_16) : Nat) : Int)))), (7, .c (.h 5)), (8, .c (.val (.int .i64 i_20))), (9, .c (.val (.int .i64 r_50))), (56, .c (.val (.bool y_96)))], [(0, .box [.val (.int .i64 d_2), .imm (.slice (.pair (.int .i64) (.pair (.int .i64) .str))) d_3]), (5, .row (.int .i64) out_44)], 6⟩ [] (by kernel_rfl) rfl rfl ap0 ?_
            refine VL_nil (QB_end ?_)
            refine V_run hN hn 1 6 [0, 3, 6, 7, 8] [0, 5] ⟨[(0, .c (.imm (.slice (.int .i64)) l_1)), (3, .c (.h 0)), (6, .c (.val (.int .i64 (((List.length r_16) : Nat) : Int)))), (7, .c (.h 5)), (8, .c (.val (.int .i64 (IntKind.wrap .i64 (i_20 + (1 : Int))))))], [(0, .box [.val (.int .i64 d_2), .imm (.slice (.pair (.int .i64) (.pair (.int .i64) .str))) d_3]), (5, .row (.int .i64) out_44)], 6⟩ [] (by kernel_rfl) rfl rfl ap0 ?_
            refine VL_nil ?_
            exact V_roundEnd (out_44, (IntKind.wrap .i64 (i_20 + (1 : Int)))) H_109 [(0, 0), (5, 5)] hn (by kernel_rfl) (by kernel_rfl) rfl rfl rfl
      · intro b_47; have H_90 := of_f H_88 b_47
        refine VL_exit ?_
        refine QL_exit ?_
        refine QB_here ?_
        refine V_run hN hn 2 6 [4, 5] [5] ⟨[(4, .c (.h 5)), (5, .c (.val (.int .i64 (0 : Int))))], [(5, .row (.int .i64) out_44)], 6⟩ [] (by kernel_rfl) rfl rfl ap0 ?_
        have H_111 := Option.some.inj (show some (out_44, (0 : Int)) = some r from H_90); subst H_111
        refine VL_ret ?_
        exact P_to [(4, .c (.h 6)), (5, .c (.val (.int .i64 (0 : Int))))] [(6, .row (.int .i64) out_44)] [(6, 5)] hn (by kernel_rfl) (by kernel_rfl) rfl rfl rfl (QF_retS (by kernel_rfl) (by kernel_rfl) rfl)

theorem palinodelaw16_same_rg_spec (K : Nat) (a_1 : (List Int)) (b_2 : (List Int)) (r : Bool) (H : palinodelaw16_same_rr K a_1 b_2 = some r) : Spec Try.prog 12 1 [.c (.h 0), .c (.imm (.slice (.int .i64)) b_2)] [(0, .row (.int .i64) a_1)] (.c (.val (.bool r))) [(0, .row (.int .i64) a_1)] := by
  refine Spec_mk (fn := Try.f12) (c := (Try.f12.body).get!) Try.func12 (by kernel_rfl) rfl ?_
  intro C hN hn
  replace hN : C.N = 26 := hN
  unfold palinodelaw16_same_rr at H
  refine V_run hN hn 5 1 [0, 1, 10] [0] ⟨[(0, .c (.h 0)), (1, .c (.imm (.slice (.int .i64)) b_2)), (10, .c (.val (.bool ((((List.length a_1) : Nat) : Int) != (((List.length b_2) : Nat) : Int)))))], [(0, .row (.int .i64) a_1)], 1⟩ [] (by kernel_rfl) rfl rfl ap0 ?_
  refine VL_cond (((((List.length a_1) : Nat) : Int) != (((List.length b_2) : Nat) : Int))) (by kernel_rfl) ?_ ?_
  · intro b_4; have H_20 := of_t H b_4
    refine V_run hN hn 2 1 [4] [0] ⟨[(4, .c (.val (.bool false)))], [(0, .row (.int .i64) a_1)], 1⟩ [] (by kernel_rfl) rfl rfl ap0 ?_
    have H_22 := Option.some.inj (show some false = some r from H_20); subst H_22
    refine VL_ret ?_
    exact P_to [(4, .c (.val (.bool false)))] [(0, .row (.int .i64) a_1)] [] hn (by kernel_rfl) (by kernel_rfl) rfl rfl rfl (QF_retS (by kernel_rfl) (by kernel_rfl) rfl)
  · intro b_4; have H_21 := of_f H b_4
    refine V_run hN hn 4 1 [0, 1, 5] [0] ⟨[(0, .c (.h 0)), (1, .c (.imm (.slice (.int .i64)) b_2)), (5, .c (.val (.int .i64 (0 : Int))))], [(0, .row (.int .i64) a_1)], 1⟩ [] (by kernel_rfl) rfl rfl ap0 ?_
    refine VL_block ?_
    refine V_to [(0, .c (.h 0)), (1, .c (.imm (.slice (.int .i64)) b_2)), (5, .c (.val (.int .i64 (0 : Int))))] [(0, .row (.int .i64) a_1)] [] hn (by kernel_rfl) (by kernel_rfl) rfl rfl rfl ?_
    refine VL_loop (X := Int) (fun x => [(0, .c (.h 0)), (1, .c (.imm (.slice (.int .i64)) b_2)), (5, .c (.val (.int .i64 x)))]) (fun x => [(0, .row (.int .i64) a_1)]) (fun k x => palinodelaw16_same_rr.l0 K a_1 b_2 k x = some r) K (0 : Int) H_21 (fun _ h => no_none h) ?_
    intro k_8 i_7 H_23
    have H_24 : palinodelaw16_same_rr.l0 K a_1 b_2 (k_8 + 1) i_7 = some r := H_23
    rw [palinodelaw16_same_rr.l0] at H_24
    refine V_run hN hn 3 1 [0, 1, 5, 14] [0] ⟨[(0, .c (.h 0)), (1, .c (.imm (.slice (.int .i64)) b_2)), (5, .c (.val (.int .i64 i_7))), (14, .c (.val (.bool (decide (i_7 < (((List.length a_1) : Nat) : Int))))))], [(0, .row (.int .i64) a_1)], 1⟩ [] (by kernel_rfl) rfl rfl ap0 ?_
    refine VL_cond ((decide (i_7 < (((List.length a_1) : Nat) : Int)))) (by kernel_rfl) ?_ ?_
    · intro b_10; have H_25 := of_t H_24 b_10
      refine V_run hN hn 2 1 [0, 1, 5, 14] [0] ⟨[(0, .c (.h 0)), (1, .c (.imm (.slice (.int .i64)) b_2)), (5, .c (.val (.int .i64 i_7))), (14, .c (.val (.bool (decide (i_7 < (((List.length a_1) : Nat) : Int))))))], [(0, .row (.int .i64) a_1)], 1⟩ [] (by kernel_rfl) rfl rfl ap0 ?_
      refine VL_block ?_
      refine V_run hN hn 1 1 [0, 1, 5, 14] [0] ⟨[(0, .c (.h 0)), (1, .c (.imm (.slice (.int .i64)) b_2)), (5, .c (.val (.int .i64 i_7))), (14, .c (.val (.bool (decide (i_7 < (((List.length a_1) : Nat) : Int))))))], [(0, .row (.int .i64) a_1)], 1⟩ [] (by kernel_rfl) rfl rfl ap0 ?_
      obtain ⟨c_13, H_27⟩ := of_if H_25
      refine V_draw hN hn (by kernel_rfl) [] [] calls_nil 1 [0, 1, 5, 25] [0] ⟨[(0, .c (.h 0)), (1, .c (.imm (.slice (.int .i64)) b_2)), (5, .c (.val (.int .i64 i_7))), (25, .c (.val (.bool ((List.getD a_1 (Int.toNat i_7) (0 : Int)) != (List.getD b_2 (Int.toNat i_7) (0 : Int))))))], [(0, .row (.int .i64) a_1)], 1⟩ [0 ≤ i_7, i_7 < (((List.length a_1) : Nat) : Int), 0 ≤ i_7, i_7 < (((List.length b_2) : Nat) : Int)] (by kernel_rfl) rfl rfl (ap2 c_13.1 (ap2 c_13.2.1 (ap2 c_13.1 (ap1 c_13.2.2)))) (by kernel_rfl) (by kernel_rfl) ?_
      refine VL_cond (((List.getD a_1 (Int.toNat i_7) (0 : Int)) != (List.getD b_2 (Int.toNat i_7) (0 : Int)))) (by kernel_rfl) ?_ ?_
      · intro b_14; have H_28 := of_t H_27 b_14
        refine V_run hN hn 2 1 [4] [0] ⟨[(4, .c (.val (.bool false)))], [(0, .row (.int .i64) a_1)], 1⟩ [] (by kernel_rfl) rfl rfl ap0 ?_
        have H_30 := Option.some.inj (show some false = some r from H_28); subst H_30
        refine VL_ret ?_
        refine QB_ret ?_
        refine QL_ret ?_
        refine QB_ret ?_
        exact P_to [(4, .c (.val (.bool false)))] [(0, .row (.int .i64) a_1)] [] hn (by kernel_rfl) (by kernel_rfl) rfl rfl rfl (QF_retS (by kernel_rfl) (by kernel_rfl) rfl)
      · intro b_14; have H_29 := of_f H_27 b_14
        refine V_run hN hn 1 1 [0, 1, 5, 25] [0] ⟨[(0, .c (.h 0)), (1, .c (.imm (.slice (.int .i64)) b_2)), (5, .c (.val (.int .i64 i_7))), (25, .c (.val (.bool ((List.getD a_1 (Int.toNat i_7) (0 : Int)) != (List.getD b_2 (Int.toNat i_7) (0 : Int))))))], [(0, .row (.int .i64) a_1)], 1⟩ [] (by kernel_rfl) rfl rfl ap0 ?_
        refine VL_nil (QB_end ?_)
        refine V_run hN hn 1 1 [0, 1, 5] [0] ⟨[(0, .c (.h 0)), (1, .c (.imm (.slice (.int .i64)) b_2)), (5, .c (.val (.int .i64 (IntKind.wrap .i64 (i_7 + (1 : Int))))))], [(0, .row (.int .i64) a_1)], 1⟩ [] (by kernel_rfl) rfl rfl ap0 ?_
        refine VL_nil ?_
        exact V_roundEnd (IntKind.wrap .i64 (i_7 + (1 : Int))) H_29 [] hn (by kernel_rfl) (by kernel_rfl) rfl rfl rfl
    · intro b_10; have H_26 := of_f H_24 b_10
      refine VL_exit ?_
      refine QL_exit ?_
      refine QB_here ?_
      refine V_run hN hn 2 1 [4] [0] ⟨[(4, .c (.val (.bool true)))], [(0, .row (.int .i64) a_1)], 1⟩ [] (by kernel_rfl) rfl rfl ap0 ?_
      have H_31 := Option.some.inj (show some true = some r from H_26); subst H_31
      refine VL_ret ?_
      exact P_to [(4, .c (.val (.bool true)))] [(0, .row (.int .i64) a_1)] [] hn (by kernel_rfl) (by kernel_rfl) rfl rfl rfl (QF_retS (by kernel_rfl) (by kernel_rfl) rfl)

theorem breaks_Line_spec (K : Nat) (l_1 : (List Int)) (at_2 : Int) (r : Int) (H : breaks_Line_rg K l_1 at_2 = some r) : Spec Try.prog 19 0 [.c (.imm (.slice (.int .i64)) l_1), .c (.val (.int .i64 at_2))] [] (.c (.val (.int .i64 r))) [] := by
  refine Spec_mk (fn := Try.f19) (c := (Try.f19.body).get!) Try.func19 (by kernel_rfl) rfl ?_
  intro C hN hn
  replace hN : C.N = 21 := hN
  unfold breaks_Line_rg at H
  refine V_run hN hn 7 0 [1, 5, 8, 9, 10] [] ⟨[(1, .c (.val (.int .i64 at_2))), (5, .c (.val (.int .i64 (0 : Int)))), (8, .c (.imm (.slice (.int .i64)) l_1)), (9, .c (.val (.int .i64 (((List.length l_1) : Nat) : Int)))), (10, .c (.val (.int .i64 (0 : Int))))], [], 0⟩ [] (by kernel_rfl) rfl rfl ap0 ?_
  refine VL_block ?_
  refine V_to [(1, .c (.val (.int .i64 at_2))), (5, .c (.val (.int .i64 (0 : Int)))), (8, .c (.imm (.slice (.int .i64)) l_1)), (9, .c (.val (.int .i64 (((List.length l_1) : Nat) : Int)))), (10, .c (.val (.int .i64 (0 : Int))))] [] [] hn (by kernel_rfl) (by kernel_rfl) rfl rfl rfl ?_
  refine VL_loop (X := (Int × Int)) (fun x => [(1, .c (.val (.int .i64 at_2))), (5, .c (.val (.int .i64 x.1))), (8, .c (.imm (.slice (.int .i64)) l_1)), (9, .c (.val (.int .i64 (((List.length l_1) : Nat) : Int)))), (10, .c (.val (.int .i64 x.2)))]) (fun x => []) (fun k x => breaks_Line_rg.l0 K l_1 at_2 k x.1 x.2 = some r) K ((0 : Int), (0 : Int)) H (fun _ h => no_none h) ?_
  intro k_6 x_6 H_18
  obtain ⟨n_4, t_5⟩ := x_6
  have H_19 : breaks_Line_rg.l0 K l_1 at_2 (k_6 + 1) n_4 t_5 = some r := H_18
  rw [breaks_Line_rg.l0] at H_19
  refine V_run hN hn 3 0 [1, 5, 8, 9, 10, 11] [] ⟨[(1, .c (.val (.int .i64 at_2))), (5, .c (.val (.int .i64 n_4))), (8, .c (.imm (.slice (.int .i64)) l_1)), (9, .c (.val (.int .i64 (((List.length l_1) : Nat) : Int)))), (10, .c (.val (.int .i64 t_5))), (11, .c (.val (.bool (decide (t_5 < (((List.length l_1) : Nat) : Int))))))], [], 0⟩ [] (by kernel_rfl) rfl rfl ap0 ?_
  refine VL_cond ((decide (t_5 < (((List.length l_1) : Nat) : Int)))) (by kernel_rfl) ?_ ?_
  · intro b_8; have H_20 := of_t H_19 b_8
    refine V_run hN hn 2 0 [1, 5, 8, 9, 10, 11] [] ⟨[(1, .c (.val (.int .i64 at_2))), (5, .c (.val (.int .i64 n_4))), (8, .c (.imm (.slice (.int .i64)) l_1)), (9, .c (.val (.int .i64 (((List.length l_1) : Nat) : Int)))), (10, .c (.val (.int .i64 t_5))), (11, .c (.val (.bool (decide (t_5 < (((List.length l_1) : Nat) : Int))))))], [], 0⟩ [] (by kernel_rfl) rfl rfl ap0 ?_
    refine VL_block ?_
    obtain ⟨c_10, H_22⟩ := of_if H_20
    refine V_run hN hn 4 0 [1, 5, 8, 9, 10, 16] [] ⟨[(1, .c (.val (.int .i64 at_2))), (5, .c (.val (.int .i64 n_4))), (8, .c (.imm (.slice (.int .i64)) l_1)), (9, .c (.val (.int .i64 (((List.length l_1) : Nat) : Int)))), (10, .c (.val (.int .i64 t_5))), (16, .c (.val (.bool (decide ((List.getD l_1 (Int.toNat t_5) (0 : Int)) ≤ at_2)))))], [], 0⟩ [0 ≤ t_5, t_5 < (((List.length l_1) : Nat) : Int)] (by kernel_rfl) rfl rfl (ap2 c_10.1 (ap1 c_10.2)) ?_
    refine VL_cond ((decide ((List.getD l_1 (Int.toNat t_5) (0 : Int)) ≤ at_2))) (by kernel_rfl) ?_ ?_
    · intro b_11; have H_23 := of_t H_22 b_11
      refine V_run hN hn 1 0 [1, 5, 8, 9, 10] [] ⟨[(1, .c (.val (.int .i64 at_2))), (5, .c (.val (.int .i64 (IntKind.wrap .i64 (n_4 + (1 : Int)))))), (8, .c (.imm (.slice (.int .i64)) l_1)), (9, .c (.val (.int .i64 (((List.length l_1) : Nat) : Int)))), (10, .c (.val (.int .i64 t_5)))], [], 0⟩ [] (by kernel_rfl) rfl rfl ap0 ?_
      refine VL_nil (QB_end ?_)
      refine V_run hN hn 1 0 [1, 5, 8, 9, 10] [] ⟨[(1, .c (.val (.int .i64 at_2))), (5, .c (.val (.int .i64 (IntKind.wrap .i64 (n_4 + (1 : Int)))))), (8, .c (.imm (.slice (.int .i64)) l_1)), (9, .c (.val (.int .i64 (((List.length l_1) : Nat) : Int)))), (10, .c (.val (.int .i64 (IntKind.wrap .i64 (t_5 + (1 : Int))))))], [], 0⟩ [] (by kernel_rfl) rfl rfl ap0 ?_
      refine VL_nil ?_
      exact V_roundEnd ((IntKind.wrap .i64 (n_4 + (1 : Int))), (IntKind.wrap .i64 (t_5 + (1 : Int)))) H_23 [] hn (by kernel_rfl) (by kernel_rfl) rfl rfl rfl
    · intro b_11; have H_24 := of_f H_22 b_11
      refine V_run hN hn 1 0 [1, 5, 8, 9, 10, 16] [] ⟨[(1, .c (.val (.int .i64 at_2))), (5, .c (.val (.int .i64 n_4))), (8, .c (.imm (.slice (.int .i64)) l_1)), (9, .c (.val (.int .i64 (((List.length l_1) : Nat) : Int)))), (10, .c (.val (.int .i64 t_5))), (16, .c (.val (.bool (decide ((List.getD l_1 (Int.toNat t_5) (0 : Int)) ≤ at_2)))))], [], 0⟩ [] (by kernel_rfl) rfl rfl ap0 ?_
      refine VL_nil (QB_end ?_)
      refine V_run hN hn 1 0 [1, 5, 8, 9, 10] [] ⟨[(1, .c (.val (.int .i64 at_2))), (5, .c (.val (.int .i64 n_4))), (8, .c (.imm (.slice (.int .i64)) l_1)), (9, .c (.val (.int .i64 (((List.length l_1) : Nat) : Int)))), (10, .c (.val (.int .i64 (IntKind.wrap .i64 (t_5 + (1 : Int))))))], [], 0⟩ [] (by kernel_rfl) rfl rfl ap0 ?_
      refine VL_nil ?_
      exact V_roundEnd (n_4, (IntKind.wrap .i64 (t_5 + (1 : Int)))) H_24 [] hn (by kernel_rfl) (by kernel_rfl) rfl rfl rfl
  · intro b_8; have H_21 := of_f H_19 b_8
    refine VL_exit ?_
    refine QL_exit ?_
    refine QB_here ?_
    refine V_run hN hn 2 0 [4] [] ⟨[(4, .c (.val (.int .i64 n_4)))], [], 0⟩ [] (by kernel_rfl) rfl rfl ap0 ?_
    have H_25 := Option.some.inj (show some n_4 = some r from H_21); subst H_25
    refine VL_ret ?_
    exact P_to [(4, .c (.val (.int .i64 n_4)))] [] [] hn (by kernel_rfl) (by kernel_rfl) rfl rfl rfl (QF_retS (by kernel_rfl) (by kernel_rfl) rfl)

theorem palinodelaw16_BreaksTell_spec (K : Nat) (l_1 : (List Int)) (at_2 : Int) (n_3 : Int) (d_4 : Int) (d_5 : (List (Int × (Int × ByteArray)))) (r : Bool) (H : palinodelaw16_BreaksTell K l_1 at_2 n_3 d_4 d_5 = some r) : Spec Try.prog 7 0 [.c (.imm (.slice (.int .i64)) l_1), .c (.val (.int .i64 at_2)), .c (.val (.int .i64 n_3)), .agg [.val (.int .i64 d_4), .imm (.slice (.pair (.int .i64) (.pair (.int .i64) .str))) d_5]] [] (.c (.val (.bool r))) [] := by
  refine Spec_mk (fn := Try.f7) (c := (Try.f7.body).get!) Try.func7 (by kernel_rfl) rfl ?_
  intro C hN hn
  replace hN : C.N = 127 := hN
  unfold palinodelaw16_BreaksTell at H
  refine V_run hN hn 4 0 [0, 1, 2, 7] [0] ⟨[(0, .c (.imm (.slice (.int .i64)) l_1)), (1, .c (.val (.int .i64 at_2))), (2, .c (.val (.int .i64 n_3))), (7, .c (.h 0))], [(0, .box [.val (.int .i64 d_4), .imm (.slice (.pair (.int .i64) (.pair (.int .i64) .str))) d_5])], 1⟩ [] (by kernel_rfl) rfl rfl ap0 ?_
  obtain ⟨r_7, h_8, H_90⟩ := of_bind H
  refine V_reg hN hn [(0, ⟨9, 0, [], [], .c (.val (.bool r_7)), [], [], 1⟩)] [] (calls_cons (palinodelaw16_known_spec K  r_7 h_8) (by kernel_rfl) calls_nil) 1 [0, 1, 2, 7, 24] [0] ⟨[(0, .c (.imm (.slice (.int .i64)) l_1)), (1, .c (.val (.int .i64 at_2))), (2, .c (.val (.int .i64 n_3))), (7, .c (.h 0)), (24, .c (.val (.bool (!r_7))))], [(0, .box [.val (.int .i64 d_4), .imm (.slice (.pair (.int .i64) (.pair (.int .i64) .str))) d_5])], 1⟩ [] (by kernel_rfl) rfl rfl ap0 (by kernel_rfl) (by kernel_rfl) ?_
  refine VL_cond ((!r_7)) (by kernel_rfl) ?_ ?_
  · intro b_10; have H_91 := of_t H_90 b_10
    refine V_run hN hn 2 1 [8] [] ⟨[(8, .c (.val (.bool false)))], [], 1⟩ [] (by kernel_rfl) rfl rfl ap0 ?_
    have H_93 := Option.some.inj (show some false = some r from H_91); subst H_93
    refine VL_ret ?_
    exact P_to [(8, .c (.val (.bool false)))] [] [] hn (by kernel_rfl) (by kernel_rfl) rfl rfl rfl (QF_retS (by kernel_rfl) (by kernel_rfl) rfl)
  · intro b_10; have H_92 := of_f H_90 b_10
    refine V_run hN hn 3 1 [0, 1, 2, 7, 24] [0] ⟨[(0, .c (.imm (.slice (.int .i64)) l_1)), (1, .c (.val (.int .i64 at_2))), (2, .c (.val (.int .i64 n_3))), (7, .c (.h 0)), (24, .c (.val (.bool (!r_7))))], [(0, .box [.val (.int .i64 d_4), .imm (.slice (.pair (.int .i64) (.pair (.int .i64) .str))) d_5])], 1⟩ [] (by kernel_rfl) rfl rfl ap0 ?_
    obtain ⟨q_94, H_95, H_96⟩ := of_bind H_92
    refine V_cut (Y := Bool) (R := Bool) q_94 (fun y => y) (fun y => [(0, .c (.imm (.slice (.int .i64)) l_1)), (1, .c (.val (.int .i64 at_2))), (2, .c (.val (.int .i64 n_3))), (7, .c (.h 0)), (32, .c (.val (.bool y)))]) (fun y => [(0, .box [.val (.int .i64 d_4), .imm (.slice (.pair (.int .i64) (.pair (.int .i64) .str))) d_5])]) ?_ ?_
    · skip
      rcases Bool.eq_false_or_eq_true ((decide ((((List.length l_1) : Nat) : Int) > (70 : Int)))) with b_13 | b_13
      · have H_98 := of_t H_95 b_13
        refine V_reg hN hn [] [(28, true)] calls_nil 1 [0, 1, 2, 7, 32] [0] ⟨[(0, .c (.imm (.slice (.int .i64)) l_1)), (1, .c (.val (.int .i64 at_2))), (2, .c (.val (.int .i64 n_3))), (7, .c (.h 0)), (32, .c (.val (.bool true)))], [(0, .box [.val (.int .i64 d_4), .imm (.slice (.pair (.int .i64) (.pair (.int .i64) .str))) d_5])], 1⟩ [(decide ((((List.length l_1) : Nat) : Int) > (70 : Int))) = true] (by kernel_rfl) rfl rfl (ap1 b_13) (by kernel_rfl) (by kernel_rfl) ?_
        have H_100 := Option.some.inj (show some true = some q_94 from H_98); subst H_100
        refine VL_nil ?_
        exact QP_end true rfl [(0, 0)] hn (by kernel_rfl) (by kernel_rfl) rfl rfl rfl
      · have H_99 := of_f H_95 b_13
        obtain ⟨r_15, h_16, H_101⟩ := of_bind H_99
        refine V_reg hN hn [(5, ⟨20, 0, [.agg [.val (.int .i64 d_4), .imm (.slice (.pair (.int .i64) (.pair (.int .i64) .str))) d_5]], [], .c (.val (.bool r_15)), [], [], 1⟩)] [(28, false)] (calls_cons (palinodelaw16_few_spec K d_4 d_5 r_15 h_16) (by kernel_rfl) calls_nil) 1 [0, 1, 2, 7, 32] [0] ⟨[(0, .c (.imm (.slice (.int .i64)) l_1)), (1, .c (.val (.int .i64 at_2))), (2, .c (.val (.int .i64 n_3))), (7, .c (.h 0)), (32, .c (.val (.bool (!r_15))))], [(0, .box [.val (.int .i64 d_4), .imm (.slice (.pair (.int .i64) (.pair (.int .i64) .str))) d_5])], 1⟩ [(decide ((((List.length l_1) : Nat) : Int) > (70 : Int))) = false] (by kernel_rfl) rfl rfl (ap1 b_13) (by kernel_rfl) (by kernel_rfl) ?_
        have H_102 := Option.some.inj (show some (!r_15) = some q_94 from H_101); subst H_102
        refine VL_nil ?_
        exact QP_end (!r_15) rfl [(0, 0)] hn (by kernel_rfl) (by kernel_rfl) rfl rfl rfl
    · intro y_97 hy; subst hy
      skip
      skip
      refine VL_cond (y_97) (by kernel_rfl) ?_ ?_
      · intro b_19; have H_103 := of_t H_96 b_19
        refine V_run hN hn 2 1 [8] [] ⟨[(8, .c (.val (.bool true)))], [], 1⟩ [] (by kernel_rfl) rfl rfl ap0 ?_
        have H_105 := Option.some.inj (show some true = some r from H_103); subst H_105
        refine VL_ret ?_
        exact P_to [(8, .c (.val (.bool true)))] [] [] hn (by kernel_rfl) (by kernel_rfl) rfl rfl rfl (QF_retS (by kernel_rfl) (by kernel_rfl) rfl)
      · intro b_19; have H_104 := of_f H_96 b_19
        refine V_run hN hn 2 1 [0, 1, 2, 7, 32] [0] ⟨[(0, .c (.imm (.slice (.int .i64)) l_1)), (1, .c (.val (.int .i64 at_2))), (2, .c (.val (.int .i64 n_3))), (7, .c (.h 0)), (32, .c (.val (.bool y_97)))], [(0, .box [.val (.int .i64 d_4), .imm (.slice (.pair (.int .i64) (.pair (.int .i64) .str))) d_5])], 1⟩ [] (by kernel_rfl) rfl rfl ap0 ?_
        obtain ⟨r_22, h_23, H_106⟩ := of_bind H_104
        refine V_reg hN hn [(2, ⟨18, 0, [.c (.imm (.slice (.int .i64)) l_1), .c (.val (.int .i64 at_2))], [], .tup [(false, [.h 3]), (false, [.val (.int .i64 r_22.2)])], [(3, .row (.int .i64) r_22.1)], [(3, 1)], 2⟩)] [] (calls_cons (breaks_Put_spec K l_1 at_2 r_22 h_23) (by kernel_rfl) calls_nil) 1 [0, 1, 2, 7, 9, 10] [0, 1] ⟨[(0, .c (.imm (.slice (.int .i64)) l_1)), (1, .c (.val (.int .i64 at_2))), (2, .c (.val (.int .i64 n_3))), (7, .c (.h 0)), (9, .c (.h 1)), (10, .c (.val (.int .i64 r_22.2)))], [(0, .box [.val (.int .i64 d_4), .imm (.slice (.pair (.int .i64) (.pair (.int .i64) .str))) d_5]), (1, .row (.int .i64) r_22.1)], 2⟩ [] (by kernel_rfl) rfl rfl ap0 (by kernel_rfl) (by kernel_rfl) ?_
        refine V_run hN hn 1 2 [0, 1, 2, 7, 9, 10] [0, 1] ⟨[(0, .c (.imm (.slice (.int .i64)) l_1)), (1, .c (.val (.int .i64 at_2))), (2, .c (.val (.int .i64 n_3))), (7, .c (.h 0)), (9, .c (.h 1)), (10, .c (.val (.int .i64 r_22.2)))], [(0, .box [.val (.int .i64 d_4), .imm (.slice (.pair (.int .i64) (.pair (.int .i64) .str))) d_5]), (1, .row (.int .i64) r_22.1)], 2⟩ [] (by kernel_rfl) rfl rfl ap0 ?_
        obtain ⟨r_26, h_27, H_107⟩ := of_bind H_106
        refine V_reg hN hn [(2, ⟨21, 0, [.c (.imm (.slice (.int .i64)) l_1), .c (.val (.int .i64 at_2))], [], .tup [(false, [.imm (.slice (.int .i64)) r_26.1]), (false, [.val (.int .i64 r_26.2)])], [], [], 2⟩)] [] (calls_cons (palinoderef15_PutBreak_spec K l_1 at_2 r_26 h_27) (by kernel_rfl) calls_nil) 2 [0, 1, 2, 7, 9, 10, 11, 12] [0, 1] ⟨[(0, .c (.imm (.slice (.int .i64)) l_1)), (1, .c (.val (.int .i64 at_2))), (2, .c (.val (.int .i64 n_3))), (7, .c (.h 0)), (9, .c (.h 1)), (10, .c (.val (.int .i64 r_22.2))), (11, .c (.imm (.slice (.int .i64)) r_26.1)), (12, .c (.val (.int .i64 r_26.2)))], [(0, .box [.val (.int .i64 d_4), .imm (.slice (.pair (.int .i64) (.pair (.int .i64) .str))) d_5]), (1, .row (.int .i64) r_22.1)], 2⟩ [] (by kernel_rfl) rfl rfl ap0 (by kernel_rfl) (by kernel_rfl) ?_
        refine V_run hN hn 1 2 [0, 1, 2, 7, 9, 10, 11, 12] [0, 1] ⟨[(0, .c (.imm (.slice (.int .i64)) l_1)), (1, .c (.val (.int .i64 at_2))), (2, .c (.val (.int .i64 n_3))), (7, .c (.h 0)), (9, .c (.h 1)), (10, .c (.val (.int .i64 r_22.2))), (11, .c (.imm (.slice (.int .i64)) r_26.1)), (12, .c (.val (.int .i64 r_26.2)))], [(0, .box [.val (.int .i64 d_4), .imm (.slice (.pair (.int .i64) (.pair (.int .i64) .str))) d_5]), (1, .row (.int .i64) r_22.1)], 2⟩ [] (by kernel_rfl) rfl rfl ap0 ?_
        obtain ⟨r_30, h_31, H_108⟩ := of_bind H_107
        refine V_reg hN hn [(2, ⟨17, 0, [.c (.imm (.slice (.int .i64)) l_1), .c (.val (.int .i64 at_2))], [], .tup [(false, [.h 0]), (false, [.val (.int .i64 r_30.2)])], [(0, .row (.int .i64) r_30.1)], [(0, 2)], 3⟩)] [] (calls_cons (breaks_Take_spec K l_1 at_2 r_30 h_31) (by kernel_rfl) calls_nil) 2 [0, 1, 2, 7, 9, 10, 11, 12, 13, 14] [0, 1, 2] ⟨[(0, .c (.imm (.slice (.int .i64)) l_1)), (1, .c (.val (.int .i64 at_2))), (2, .c (.val (.int .i64 n_3))), (7, .c (.h 0)), (9, .c (.h 1)), (10, .c (.val (.int .i64 r_22.2))), (11, .c (.imm (.slice (.int .i64)) r_26.1)), (12, .c (.val (.int .i64 r_26.2))), (13, .c (.h 2)), (14, .c (.val (.int .i64 r_30.2)))], [(0, .box [.val (.int .i64 d_4), .imm (.slice (.pair (.int .i64) (.pair (.int .i64) .str))) d_5]), (1, .row (.int .i64) r_22.1), (2, .row (.int .i64) r_30.1)], 3⟩ [] (by kernel_rfl) rfl rfl ap0 (by kernel_rfl) (by kernel_rfl) ?_
        refine V_run hN hn 1 3 [0, 1, 2, 7, 9, 10, 11, 12, 13, 14] [0, 1, 2] ⟨[(0, .c (.imm (.slice (.int .i64)) l_1)), (1, .c (.val (.int .i64 at_2))), (2, .c (.val (.int .i64 n_3))), (7, .c (.h 0)), (9, .c (.h 1)), (10, .c (.val (.int .i64 r_22.2))), (11, .c (.imm (.slice (.int .i64)) r_26.1)), (12, .c (.val (.int .i64 r_26.2))), (13, .c (.h 2)), (14, .c (.val (.int .i64 r_30.2)))], [(0, .box [.val (.int .i64 d_4), .imm (.slice (.pair (.int .i64) (.pair (.int .i64) .str))) d_5]), (1, .row (.int .i64) r_22.1), (2, .row (.int .i64) r_30.1)], 3⟩ [] (by kernel_rfl) rfl rfl ap0 ?_
        obtain ⟨r_34, h_35, H_109⟩ := of_bind H_108
        refine V_reg hN hn [(2, ⟨22, 0, [.c (.imm (.slice (.int .i64)) l_1), .c (.val (.int .i64 at_2))], [], .tup [(false, [.h 2]), (false, [.val (.int .i64 r_34.2)])], [(2, .row (.int .i64) r_34.1)], [(2, 3)], 4⟩)] [] (calls_cons (palinodelaw16_take_spec K l_1 at_2 r_34 h_35) (by kernel_rfl) calls_nil) 3 [0, 1, 2, 7, 9, 10, 11, 12, 13, 14, 15, 16] [0, 1, 2, 3] ⟨[(0, .c (.imm (.slice (.int .i64)) l_1)), (1, .c (.val (.int .i64 at_2))), (2, .c (.val (.int .i64 n_3))), (7, .c (.h 0)), (9, .c (.h 1)), (10, .c (.val (.int .i64 r_22.2))), (11, .c (.imm (.slice (.int .i64)) r_26.1)), (12, .c (.val (.int .i64 r_26.2))), (13, .c (.h 2)), (14, .c (.val (.int .i64 r_30.2))), (15, .c (.h 3)), (16, .c (.val (.int .i64 r_34.2)))], [(0, .box [.val (.int .i64 d_4), .imm (.slice (.pair (.int .i64) (.pair (.int .i64) .str))) d_5]), (1, .row (.int .i64) r_22.1), (2, .row (.int .i64) r_30.1), (3, .row (.int .i64) r_34.1)], 4⟩ [] (by kernel_rfl) rfl rfl ap0 (by kernel_rfl) (by kernel_rfl) ?_
        refine V_run hN hn 1 4 [0, 1, 2, 7, 9, 10, 11, 12, 13, 14, 15, 16] [0, 1, 2, 3] ⟨[(0, .c (.imm (.slice (.int .i64)) l_1)), (1, .c (.val (.int .i64 at_2))), (2, .c (.val (.int .i64 n_3))), (7, .c (.h 0)), (9, .c (.h 1)), (10, .c (.val (.int .i64 r_22.2))), (11, .c (.imm (.slice (.int .i64)) r_26.1)), (12, .c (.val (.int .i64 r_26.2))), (13, .c (.h 2)), (14, .c (.val (.int .i64 r_30.2))), (15, .c (.h 3)), (16, .c (.val (.int .i64 r_34.2)))], [(0, .box [.val (.int .i64 d_4), .imm (.slice (.pair (.int .i64) (.pair (.int .i64) .str))) d_5]), (1, .row (.int .i64) r_22.1), (2, .row (.int .i64) r_30.1), (3, .row (.int .i64) r_34.1)], 4⟩ [] (by kernel_rfl) rfl rfl ap0 ?_
        obtain ⟨r_38, h_39, H_110⟩ := of_bind H_109
        refine V_reg hN hn [(2, ⟨23, 0, [.c (.imm (.slice (.int .i64)) l_1), .agg [.val (.int .i64 d_4), .imm (.slice (.pair (.int .i64) (.pair (.int .i64) .str))) d_5]], [], .tup [(false, [.h 5]), (false, [.val (.int .i64 r_38.2)])], [(5, .row (.int .i64) r_38.1)], [(5, 4)], 5⟩)] [] (calls_cons (breaks_Edit_spec K l_1 d_4 d_5 r_38 h_39) (by kernel_rfl) calls_nil) 4 [0, 1, 2, 7, 9, 10, 11, 12, 13, 14, 15, 16, 17, 18] [0, 1, 2, 3, 4] ⟨[(0, .c (.imm (.slice (.int .i64)) l_1)), (1, .c (.val (.int .i64 at_2))), (2, .c (.val (.int .i64 n_3))), (7, .c (.h 0)), (9, .c (.h 1)), (10, .c (.val (.int .i64 r_22.2))), (11, .c (.imm (.slice (.int .i64)) r_26.1)), (12, .c (.val (.int .i64 r_26.2))), (13, .c (.h 2)), (14, .c (.val (.int .i64 r_30.2))), (15, .c (.h 3)), (16, .c (.val (.int .i64 r_34.2))), (17, .c (.h 4)), (18, .c (.val (.int .i64 r_38.2)))], [(0, .box [.val (.int .i64 d_4), .imm (.slice (.pair (.int .i64) (.pair (.int .i64) .str))) d_5]), (1, .row (.int .i64) r_22.1), (2, .row (.int .i64) r_30.1), (3, .row (.int .i64) r_34.1), (4, .row (.int .i64) r_38.1)], 5⟩ [] (by kernel_rfl) rfl rfl ap0 (by kernel_rfl) (by kernel_rfl) ?_
        refine V_run hN hn 1 5 [0, 1, 2, 7, 9, 10, 11, 12, 13, 14, 15, 16, 17, 18] [0, 1, 2, 3, 4] ⟨[(0, .c (.imm (.slice (.int .i64)) l_1)), (1, .c (.val (.int .i64 at_2))), (2, .c (.val (.int .i64 n_3))), (7, .c (.h 0)), (9, .c (.h 1)), (10, .c (.val (.int .i64 r_22.2))), (11, .c (.imm (.slice (.int .i64)) r_26.1)), (12, .c (.val (.int .i64 r_26.2))), (13, .c (.h 2)), (14, .c (.val (.int .i64 r_30.2))), (15, .c (.h 3)), (16, .c (.val (.int .i64 r_34.2))), (17, .c (.h 4)), (18, .c (.val (.int .i64 r_38.2)))], [(0, .box [.val (.int .i64 d_4), .imm (.slice (.pair (.int .i64) (.pair (.int .i64) .str))) d_5]), (1, .row (.int .i64) r_22.1), (2, .row (.int .i64) r_30.1), (3, .row (.int .i64) r_34.1), (4, .row (.int .i64) r_38.1)], 5⟩ [] (by kernel_rfl) rfl rfl ap0 ?_
        obtain ⟨r_42, h_43, H_111⟩ := of_bind H_110
        refine V_reg hN hn [(2, ⟨24, 0, [.c (.imm (.slice (.int .i64)) l_1), .agg [.val (.int .i64 d_4), .imm (.slice (.pair (.int .i64) (.pair (.int .i64) .str))) d_5]], [], .tup [(false, [.h 6]), (false, [.val (.int .i64 r_42.2)])], [(6, .row (.int .i64) r_42.1)], [(6, 5)], 6⟩)] [] (calls_cons (palinoderef15_EditBreaks_spec K l_1 d_4 d_5 r_42 h_43) (by kernel_rfl) calls_nil) 5 [0, 1, 2, 9, 10, 11, 12, 13, 14, 15, 16, 17, 18, 19, 20] [1, 2, 3, 4, 5] ⟨[(0, .c (.imm (.slice (.int .i64)) l_1)), (1, .c (.val (.int .i64 at_2))), (2, .c (.val (.int .i64 n_3))), (9, .c (.h 1)), (10, .c (.val (.int .i64 r_22.2))), (11, .c (.imm (.slice (.int .i64)) r_26.1)), (12, .c (.val (.int .i64 r_26.2))), (13, .c (.h 2)), (14, .c (.val (.int .i64 r_30.2))), (15, .c (.h 3)), (16, .c (.val (.int .i64 r_34.2))), (17, .c (.h 4)), (18, .c (.val (.int .i64 r_38.2))), (19, .c (.h 5)), (20, .c (.val (.int .i64 r_42.2)))], [(1, .row (.int .i64) r_22.1), (2, .row (.int .i64) r_30.1), (3, .row (.int .i64) r_34.1), (4, .row (.int .i64) r_38.1), (5, .row (.int .i64) r_42.1)], 6⟩ [] (by kernel_rfl) rfl rfl ap0 (by kernel_rfl) (by kernel_rfl) ?_
        refine V_run hN hn 5 6 [0, 1, 2, 9, 10, 11, 12, 13, 14, 15, 16, 17, 18, 19, 20, 21, 22] [1, 2, 3, 4, 5] ⟨[(0, .c (.imm (.slice (.int .i64)) l_1)), (1, .c (.val (.int .i64 at_2))), (2, .c (.val (.int .i64 n_3))), (9, .c (.h 1)), (10, .c (.val (.int .i64 r_22.2))), (11, .c (.imm (.slice (.int .i64)) r_26.1)), (12, .c (.val (.int .i64 r_26.2))), (13, .c (.h 2)), (14, .c (.val (.int .i64 r_30.2))), (15, .c (.h 3)), (16, .c (.val (.int .i64 r_34.2))), (17, .c (.h 4)), (18, .c (.val (.int .i64 r_38.2))), (19, .c (.h 5)), (20, .c (.val (.int .i64 r_42.2))), (21, .c (.val (.int .i64 (0 : Int)))), (22, .c (.val (.int .i64 (0 : Int))))], [(1, .row (.int .i64) r_22.1), (2, .row (.int .i64) r_30.1), (3, .row (.int .i64) r_34.1), (4, .row (.int .i64) r_38.1), (5, .row (.int .i64) r_42.1)], 6⟩ [] (by kernel_rfl) rfl rfl ap0 ?_
        obtain ⟨q_112, H_113, H_114⟩ := of_bind H_111
        refine V_cut (Y := Int) (R := Int) q_112 (fun y => y) (fun y => [(0, .c (.imm (.slice (.int .i64)) l_1)), (1, .c (.val (.int .i64 at_2))), (2, .c (.val (.int .i64 n_3))), (9, .c (.h 1)), (10, .c (.val (.int .i64 r_22.2))), (11, .c (.imm (.slice (.int .i64)) r_26.1)), (12, .c (.val (.int .i64 r_26.2))), (13, .c (.h 2)), (14, .c (.val (.int .i64 r_30.2))), (15, .c (.h 3)), (16, .c (.val (.int .i64 r_34.2))), (17, .c (.h 4)), (18, .c (.val (.int .i64 r_38.2))), (19, .c (.h 5)), (20, .c (.val (.int .i64 r_42.2))), (21, .c (.val (.int .i64 y)))]) (fun y => [(1, .row (.int .i64) r_22.1), (2, .row (.int .i64) r_30.1), (3, .row (.int .i64) r_34.1), (4, .row (.int .i64) r_38.1), (5, .row (.int .i64) r_42.1)]) ?_ ?_
        · skip
          refine VL_block ?_
          refine V_to [(0, .c (.imm (.slice (.int .i64)) l_1)), (1, .c (.val (.int .i64 at_2))), (2, .c (.val (.int .i64 n_3))), (9, .c (.h 1)), (10, .c (.val (.int .i64 r_22.2))), (11, .c (.imm (.slice (.int .i64)) r_26.1)), (12, .c (.val (.int .i64 r_26.2))), (13, .c (.h 2)), (14, .c (.val (.int .i64 r_30.2))), (15, .c (.h 3)), (16, .c (.val (.int .i64 r_34.2))), (17, .c (.h 4)), (18, .c (.val (.int .i64 r_38.2))), (19, .c (.h 5)), (20, .c (.val (.int .i64 r_42.2))), (21, .c (.val (.int .i64 (0 : Int)))), (22, .c (.val (.int .i64 (0 : Int))))] [(1, .row (.int .i64) r_22.1), (2, .row (.int .i64) r_30.1), (3, .row (.int .i64) r_34.1), (4, .row (.int .i64) r_38.1), (5, .row (.int .i64) r_42.1)] [(1, 1), (2, 2), (3, 3), (4, 4), (5, 5)] hn (by kernel_rfl) (by kernel_rfl) rfl rfl rfl ?_
          refine VL_loop (X := (Int × Int)) (fun x => [(0, .c (.imm (.slice (.int .i64)) l_1)), (1, .c (.val (.int .i64 at_2))), (2, .c (.val (.int .i64 n_3))), (9, .c (.h 1)), (10, .c (.val (.int .i64 r_22.2))), (11, .c (.imm (.slice (.int .i64)) r_26.1)), (12, .c (.val (.int .i64 r_26.2))), (13, .c (.h 2)), (14, .c (.val (.int .i64 r_30.2))), (15, .c (.h 3)), (16, .c (.val (.int .i64 r_34.2))), (17, .c (.h 4)), (18, .c (.val (.int .i64 r_38.2))), (19, .c (.h 5)), (20, .c (.val (.int .i64 r_42.2))), (21, .c (.val (.int .i64 x.1))), (22, .c (.val (.int .i64 x.2)))]) (fun x => [(1, .row (.int .i64) r_22.1), (2, .row (.int .i64) r_30.1), (3, .row (.int .i64) r_34.1), (4, .row (.int .i64) r_38.1), (5, .row (.int .i64) r_42.1)]) (fun k x => palinodelaw16_BreaksTell.l0 K l_1 at_2 k x.1 x.2 = some q_112) K ((0 : Int), (0 : Int)) H_113 (fun _ h => no_none h) ?_
          intro k_48 x_48 H_116
          obtain ⟨k_46, q_47⟩ := x_48
          have H_117 : palinodelaw16_BreaksTell.l0 K l_1 at_2 (k_48 + 1) k_46 q_47 = some q_112 := H_116
          rw [palinodelaw16_BreaksTell.l0] at H_117
          refine V_run hN hn 3 6 [0, 1, 2, 9, 10, 11, 12, 13, 14, 15, 16, 17, 18, 19, 20, 21, 22, 72] [1, 2, 3, 4, 5] ⟨[(0, .c (.imm (.slice (.int .i64)) l_1)), (1, .c (.val (.int .i64 at_2))), (2, .c (.val (.int .i64 n_3))), (9, .c (.h 1)), (10, .c (.val (.int .i64 r_22.2))), (11, .c (.imm (.slice (.int .i64)) r_26.1)), (12, .c (.val (.int .i64 r_26.2))), (13, .c (.h 2)), (14, .c (.val (.int .i64 r_30.2))), (15, .c (.h 3)), (16, .c (.val (.int .i64 r_34.2))), (17, .c (.h 4)), (18, .c (.val (.int .i64 r_38.2))), (19, .c (.h 5)), (20, .c (.val (.int .i64 r_42.2))), (21, .c (.val (.int .i64 k_46))), (22, .c (.val (.int .i64 q_47))), (72, .c (.val (.bool (decide (q_47 < (((List.length l_1) : Nat) : Int))))))], [(1, .row (.int .i64) r_22.1), (2, .row (.int .i64) r_30.1), (3, .row (.int .i64) r_34.1), (4, .row (.int .i64) r_38.1), (5, .row (.int .i64) r_42.1)], 6⟩ [] (by kernel_rfl) rfl rfl ap0 ?_
          refine VL_cond ((decide (q_47 < (((List.length l_1) : Nat) : Int)))) (by kernel_rfl) ?_ ?_
          · intro b_50; have H_118 := of_t H_117 b_50
            refine V_run hN hn 2 6 [0, 1, 2, 9, 10, 11, 12, 13, 14, 15, 16, 17, 18, 19, 20, 21, 22, 72] [1, 2, 3, 4, 5] ⟨[(0, .c (.imm (.slice (.int .i64)) l_1)), (1, .c (.val (.int .i64 at_2))), (2, .c (.val (.int .i64 n_3))), (9, .c (.h 1)), (10, .c (.val (.int .i64 r_22.2))), (11, .c (.imm (.slice (.int .i64)) r_26.1)), (12, .c (.val (.int .i64 r_26.2))), (13, .c (.h 2)), (14, .c (.val (.int .i64 r_30.2))), (15, .c (.h 3)), (16, .c (.val (.int .i64 r_34.2))), (17, .c (.h 4)), (18, .c (.val (.int .i64 r_38.2))), (19, .c (.h 5)), (20, .c (.val (.int .i64 r_42.2))), (21, .c (.val (.int .i64 k_46))), (22, .c (.val (.int .i64 q_47))), (72, .c (.val (.bool (decide (q_47 < (((List.length l_1) : Nat) : Int))))))], [(1, .row (.int .i64) r_22.1), (2, .row (.int .i64) r_30.1), (3, .row (.int .i64) r_34.1), (4, .row (.int .i64) r_38.1), (5, .row (.int .i64) r_42.1)], 6⟩ [] (by kernel_rfl) rfl rfl ap0 ?_
            refine VL_block ?_
            obtain ⟨c_52, H_120⟩ := of_if H_118
            refine V_run hN hn 2 6 [0, 1, 2, 9, 10, 11, 12, 13, 14, 15, 16, 17, 18, 19, 20, 21, 22, 80] [1, 2, 3, 4, 5] ⟨[(0, .c (.imm (.slice (.int .i64)) l_1)), (1, .c (.val (.int .i64 at_2))), (2, .c (.val (.int .i64 n_3))), (9, .c (.h 1)), (10, .c (.val (.int .i64 r_22.2))), (11, .c (.imm (.slice (.int .i64)) r_26.1)), (12, .c (.val (.int .i64 r_26.2))), (13, .c (.h 2)), (14, .c (.val (.int .i64 r_30.2))), (15, .c (.h 3)), (16, .c (.val (.int .i64 r_34.2))), (17, .c (.h 4)), (18, .c (.val (.int .i64 r_38.2))), (19, .c (.h 5)), (20, .c (.val (.int .i64 r_42.2))), (21, .c (.val (.int .i64 k_46))), (22, .c (.val (.int .i64 q_47))), (80, .c (.val (.bool (decide ((List.getD l_1 (Int.toNat q_47) (0 : Int)) ≤ at_2)))))], [(1, .row (.int .i64) r_22.1), (2, .row (.int .i64) r_30.1), (3, .row (.int .i64) r_34.1), (4, .row (.int .i64) r_38.1), (5, .row (.int .i64) r_42.1)], 6⟩ [0 ≤ q_47, q_47 < (((List.length l_1) : Nat) : Int)] (by kernel_rfl) rfl rfl (ap2 c_52.1 (ap1 c_52.2)) ?_
            refine VL_cond ((decide ((List.getD l_1 (Int.toNat q_47) (0 : Int)) ≤ at_2))) (by kernel_rfl) ?_ ?_
            · intro b_53; have H_121 := of_t H_120 b_53
              refine V_run hN hn 1 6 [0, 1, 2, 9, 10, 11, 12, 13, 14, 15, 16, 17, 18, 19, 20, 21, 22] [1, 2, 3, 4, 5] ⟨[(0, .c (.imm (.slice (.int .i64)) l_1)), (1, .c (.val (.int .i64 at_2))), (2, .c (.val (.int .i64 n_3))), (9, .c (.h 1)), (10, .c (.val (.int .i64 r_22.2))), (11, .c (.imm (.slice (.int .i64)) r_26.1)), (12, .c (.val (.int .i64 r_26.2))), (13, .c (.h 2)), (14, .c (.val (.int .i64 r_30.2))), (15, .c (.h 3)), (16, .c (.val (.int .i64 r_34.2))), (17, .c (.h 4)), (18, .c (.val (.int .i64 r_38.2))), (19, .c (.h 5)), (20, .c (.val (.int .i64 r_42.2))), (21, .c (.val (.int .i64 (IntKind.wrap .i64 (k_46 + (1 : Int)))))), (22, .c (.val (.int .i64 q_47)))], [(1, .row (.int .i64) r_22.1), (2, .row (.int .i64) r_30.1), (3, .row (.int .i64) r_34.1), (4, .row (.int .i64) r_38.1), (5, .row (.int .i64) r_42.1)], 6⟩ [] (by kernel_rfl) rfl rfl ap0 ?_
              refine VL_nil (QB_end ?_)
              refine V_run hN hn 1 6 [0, 1, 2, 9, 10, 11, 12, 13, 14, 15, 16, 17, 18, 19, 20, 21, 22] [1, 2, 3, 4, 5] ⟨[(0, .c (.imm (.slice (.int .i64)) l_1)), (1, .c (.val (.int .i64 at_2))), (2, .c (.val (.int .i64 n_3))), (9, .c (.h 1)), (10, .c (.val (.int .i64 r_22.2))), (11, .c (.imm (.slice (.int .i64)) r_26.1)), (12, .c (.val (.int .i64 r_26.2))), (13, .c (.h 2)), (14, .c (.val (.int .i64 r_30.2))), (15, .c (.h 3)), (16, .c (.val (.int .i64 r_34.2))), (17, .c (.h 4)), (18, .c (.val (.int .i64 r_38.2))), (19, .c (.h 5)), (20, .c (.val (.int .i64 r_42.2))), (21, .c (.val (.int .i64 (IntKind.wrap .i64 (k_46 + (1 : Int)))))), (22, .c (.val (.int .i64 (IntKind.wrap .i64 (q_47 + (1 : Int))))))], [(1, .row (.int .i64) r_22.1), (2, .row (.int .i64) r_30.1), (3, .row (.int .i64) r_34.1), (4, .row (.int .i64) r_38.1), (5, .row (.int .i64) r_42.1)], 6⟩ [] (by kernel_rfl) rfl rfl ap0 ?_
              refine VL_nil ?_
              exact V_roundEnd ((IntKind.wrap .i64 (k_46 + (1 : Int))), (IntKind.wrap .i64 (q_47 + (1 : Int)))) H_121 [(1, 1), (2, 2), (3, 3), (4, 4), (5, 5)] hn (by kernel_rfl) (by kernel_rfl) rfl rfl rfl
            · intro b_53; have H_122 := of_f H_120 b_53
              refine V_run hN hn 1 6 [0, 1, 2, 9, 10, 11, 12, 13, 14, 15, 16, 17, 18, 19, 20, 21, 22, 80] [1, 2, 3, 4, 5] ⟨[(0, .c (.imm (.slice (.int .i64)) l_1)), (1, .c (.val (.int .i64 at_2))), (2, .c (.val (.int .i64 n_3))), (9, .c (.h 1)), (10, .c (.val (.int .i64 r_22.2))), (11, .c (.imm (.slice (.int .i64)) r_26.1)), (12, .c (.val (.int .i64 r_26.2))), (13, .c (.h 2)), (14, .c (.val (.int .i64 r_30.2))), (15, .c (.h 3)), (16, .c (.val (.int .i64 r_34.2))), (17, .c (.h 4)), (18, .c (.val (.int .i64 r_38.2))), (19, .c (.h 5)), (20, .c (.val (.int .i64 r_42.2))), (21, .c (.val (.int .i64 k_46))), (22, .c (.val (.int .i64 q_47))), (80, .c (.val (.bool (decide ((List.getD l_1 (Int.toNat q_47) (0 : Int)) ≤ at_2)))))], [(1, .row (.int .i64) r_22.1), (2, .row (.int .i64) r_30.1), (3, .row (.int .i64) r_34.1), (4, .row (.int .i64) r_38.1), (5, .row (.int .i64) r_42.1)], 6⟩ [] (by kernel_rfl) rfl rfl ap0 ?_
              refine VL_nil (QB_end ?_)
              refine V_run hN hn 1 6 [0, 1, 2, 9, 10, 11, 12, 13, 14, 15, 16, 17, 18, 19, 20, 21, 22] [1, 2, 3, 4, 5] ⟨[(0, .c (.imm (.slice (.int .i64)) l_1)), (1, .c (.val (.int .i64 at_2))), (2, .c (.val (.int .i64 n_3))), (9, .c (.h 1)), (10, .c (.val (.int .i64 r_22.2))), (11, .c (.imm (.slice (.int .i64)) r_26.1)), (12, .c (.val (.int .i64 r_26.2))), (13, .c (.h 2)), (14, .c (.val (.int .i64 r_30.2))), (15, .c (.h 3)), (16, .c (.val (.int .i64 r_34.2))), (17, .c (.h 4)), (18, .c (.val (.int .i64 r_38.2))), (19, .c (.h 5)), (20, .c (.val (.int .i64 r_42.2))), (21, .c (.val (.int .i64 k_46))), (22, .c (.val (.int .i64 (IntKind.wrap .i64 (q_47 + (1 : Int))))))], [(1, .row (.int .i64) r_22.1), (2, .row (.int .i64) r_30.1), (3, .row (.int .i64) r_34.1), (4, .row (.int .i64) r_38.1), (5, .row (.int .i64) r_42.1)], 6⟩ [] (by kernel_rfl) rfl rfl ap0 ?_
              refine VL_nil ?_
              exact V_roundEnd (k_46, (IntKind.wrap .i64 (q_47 + (1 : Int)))) H_122 [(1, 1), (2, 2), (3, 3), (4, 4), (5, 5)] hn (by kernel_rfl) (by kernel_rfl) rfl rfl rfl
          · intro b_50; have H_119 := of_f H_117 b_50
            refine VL_exit ?_
            refine QL_exit ?_
            refine QB_here ?_
            have H_123 := Option.some.inj (show some k_46 = some q_112 from H_119); subst H_123
            refine VL_nil ?_
            exact QP_end k_46 rfl [(1, 1), (2, 2), (3, 3), (4, 4), (5, 5)] hn (by kernel_rfl) (by kernel_rfl) rfl rfl rfl
        · intro y_115 hy; subst hy
          skip
          skip
          refine V_run hN hn 1 6 [0, 1, 2, 9, 10, 11, 12, 13, 14, 15, 16, 17, 18, 19, 20, 21] [1, 2, 3, 4, 5] ⟨[(0, .c (.imm (.slice (.int .i64)) l_1)), (1, .c (.val (.int .i64 at_2))), (2, .c (.val (.int .i64 n_3))), (9, .c (.h 1)), (10, .c (.val (.int .i64 r_22.2))), (11, .c (.imm (.slice (.int .i64)) r_26.1)), (12, .c (.val (.int .i64 r_26.2))), (13, .c (.h 2)), (14, .c (.val (.int .i64 r_30.2))), (15, .c (.h 3)), (16, .c (.val (.int .i64 r_34.2))), (17, .c (.h 4)), (18, .c (.val (.int .i64 r_38.2))), (19, .c (.h 5)), (20, .c (.val (.int .i64 r_42.2))), (21, .c (.val (.int .i64 y_115)))], [(1, .row (.int .i64) r_22.1), (2, .row (.int .i64) r_30.1), (3, .row (.int .i64) r_34.1), (4, .row (.int .i64) r_38.1), (5, .row (.int .i64) r_42.1)], 6⟩ [] (by kernel_rfl) rfl rfl ap0 ?_
          obtain ⟨r_60, h_61, H_124⟩ := of_bind H_114
          obtain ⟨r_62, h_63, H_125⟩ := of_bind H_124
          rcases Bool.eq_false_or_eq_true ((r_60 == r_62)) with b_64 | b_64
          · have H_126 := of_t H_125 b_64
            rcases Bool.eq_false_or_eq_true ((r_22.2 == r_26.2)) with b_65 | b_65
            · have H_128 := of_t H_126 b_65
              obtain ⟨r_66, h_67, H_130⟩ := of_bind H_128
              rcases Bool.eq_false_or_eq_true (r_66) with b_68 | b_68
              · have H_131 := of_t H_130 b_68
                rcases Bool.eq_false_or_eq_true ((r_30.2 == r_34.2)) with b_69 | b_69
                · have H_133 := of_t H_131 b_69
                  obtain ⟨r_70, h_71, H_135⟩ := of_bind H_133
                  rcases Bool.eq_false_or_eq_true (r_70) with b_72 | b_72
                  · have H_136 := of_t H_135 b_72
                    rcases Bool.eq_false_or_eq_true ((r_38.2 == r_42.2)) with b_73 | b_73
                    · have H_138 := of_t H_136 b_73
                      obtain ⟨r_74, h_75, H_140⟩ := of_bind H_138
                      rcases Bool.eq_false_or_eq_true (r_74) with b_76 | b_76
                      · have H_141 := of_t H_140 b_76
                        obtain ⟨r_77, h_78, H_143⟩ := of_bind H_141
                        refine V_reg hN hn [(2, ⟨14, 0, [.c (.imm (.slice (.int .i64)) l_1), .c (.val (.int .i64 n_3))], [], .c (.val (.bool r_60)), [], [], 6⟩), (5, ⟨25, 0, [.c (.imm (.slice (.int .i64)) l_1), .c (.val (.int .i64 n_3))], [], .c (.val (.bool r_62)), [], [], 6⟩), (15, ⟨12, 1, [.c (.h 0), .c (.imm (.slice (.int .i64)) r_26.1)], [(0, .row (.int .i64) r_22.1)], .c (.val (.bool r_66)), [(0, .row (.int .i64) r_22.1)], [(0, 1)], 6⟩), (25, ⟨12, 2, [.c (.h 0), .c (.h 1)], [(0, .row (.int .i64) r_30.1), (1, .row (.int .i64) r_34.1)], .c (.val (.bool r_70)), [(0, .row (.int .i64) r_30.1), (1, .row (.int .i64) r_34.1)], [(0, 2), (1, 3)], 6⟩), (35, ⟨12, 2, [.c (.h 0), .c (.h 1)], [(0, .row (.int .i64) r_38.1), (1, .row (.int .i64) r_42.1)], .c (.val (.bool r_74)), [(0, .row (.int .i64) r_38.1), (1, .row (.int .i64) r_42.1)], [(0, 4), (1, 5)], 6⟩), (40, ⟨19, 0, [.c (.imm (.slice (.int .i64)) l_1), .c (.val (.int .i64 at_2))], [], .c (.val (.int .i64 r_77)), [], [], 6⟩)] [(90, true), (95, true), (100, true), (105, true), (110, true), (115, true), (120, true)] (calls_cons (breaks_Is_spec K l_1 n_3 r_60 h_61) (by kernel_rfl) (calls_cons (palinoderef15_IsBreaks_spec K l_1 n_3 r_62 h_63) (by kernel_rfl) (calls_cons (palinodelaw16_same_rg_spec K r_22.1 r_26.1 r_66 h_67) (by kernel_rfl) (calls_cons (palinodelaw16_same_rr_spec K r_30.1 r_34.1 r_70 h_71) (by kernel_rfl) (calls_cons (palinodelaw16_same_rr_spec K r_38.1 r_42.1 r_74 h_75) (by kernel_rfl) (calls_cons (breaks_Line_spec K l_1 at_2 r_77 h_78) (by kernel_rfl) calls_nil)))))) 6 [8] [] ⟨[(8, .c (.val (.bool (r_77 == y_115))))], [], 6⟩ [(r_60 == r_62) = true, (r_22.2 == r_26.2) = true, r_66 = true, (r_30.2 == r_34.2) = true, r_70 = true, (r_38.2 == r_42.2) = true, r_74 = true] (by kernel_rfl) rfl rfl (ap2 b_64 (ap2 b_65 (ap2 b_68 (ap2 b_69 (ap2 b_72 (ap2 b_73 (ap1 b_76))))))) (by kernel_rfl) (by kernel_rfl) ?_
                        have H_144 := Option.some.inj (show some (r_77 == y_115) = some r from H_143); subst H_144
                        refine VL_ret ?_
                        exact P_to [(8, .c (.val (.bool (r_77 == y_115))))] [] [] hn (by kernel_rfl) (by kernel_rfl) rfl rfl rfl (QF_retS (by kernel_rfl) (by kernel_rfl) rfl)
                      · have H_142 := of_f H_140 b_76
                        refine V_reg hN hn [(2, ⟨14, 0, [.c (.imm (.slice (.int .i64)) l_1), .c (.val (.int .i64 n_3))], [], .c (.val (.bool r_60)), [], [], 6⟩), (5, ⟨25, 0, [.c (.imm (.slice (.int .i64)) l_1), .c (.val (.int .i64 n_3))], [], .c (.val (.bool r_62)), [], [], 6⟩), (15, ⟨12, 1, [.c (.h 0), .c (.imm (.slice (.int .i64)) r_26.1)], [(0, .row (.int .i64) r_22.1)], .c (.val (.bool r_66)), [(0, .row (.int .i64) r_22.1)], [(0, 1)], 6⟩), (25, ⟨12, 2, [.c (.h 0), .c (.h 1)], [(0, .row (.int .i64) r_30.1), (1, .row (.int .i64) r_34.1)], .c (.val (.bool r_70)), [(0, .row (.int .i64) r_30.1), (1, .row (.int .i64) r_34.1)], [(0, 2), (1, 3)], 6⟩), (35, ⟨12, 2, [.c (.h 0), .c (.h 1)], [(0, .row (.int .i64) r_38.1), (1, .row (.int .i64) r_42.1)], .c (.val (.bool r_74)), [(0, .row (.int .i64) r_38.1), (1, .row (.int .i64) r_42.1)], [(0, 4), (1, 5)], 6⟩)] [(90, true), (95, true), (100, true), (105, true), (110, true), (115, true), (120, false)] (calls_cons (breaks_Is_spec K l_1 n_3 r_60 h_61) (by kernel_rfl) (calls_cons (palinoderef15_IsBreaks_spec K l_1 n_3 r_62 h_63) (by kernel_rfl) (calls_cons (palinodelaw16_same_rg_spec K r_22.1 r_26.1 r_66 h_67) (by kernel_rfl) (calls_cons (palinodelaw16_same_rr_spec K r_30.1 r_34.1 r_70 h_71) (by kernel_rfl) (calls_cons (palinodelaw16_same_rr_spec K r_38.1 r_42.1 r_74 h_75) (by kernel_rfl) calls_nil))))) 6 [8] [] ⟨[(8, .c (.val (.bool false)))], [], 6⟩ [(r_60 == r_62) = true, (r_22.2 == r_26.2) = true, r_66 = true, (r_30.2 == r_34.2) = true, r_70 = true, (r_38.2 == r_42.2) = true, r_74 = false] (by kernel_rfl) rfl rfl (ap2 b_64 (ap2 b_65 (ap2 b_68 (ap2 b_69 (ap2 b_72 (ap2 b_73 (ap1 b_76))))))) (by kernel_rfl) (by kernel_rfl) ?_
                        have H_145 := Option.some.inj (show some false = some r from H_142); subst H_145
                        refine VL_ret ?_
                        exact P_to [(8, .c (.val (.bool false)))] [] [] hn (by kernel_rfl) (by kernel_rfl) rfl rfl rfl (QF_retS (by kernel_rfl) (by kernel_rfl) rfl)
                    · have H_139 := of_f H_136 b_73
                      refine V_reg hN hn [(2, ⟨14, 0, [.c (.imm (.slice (.int .i64)) l_1), .c (.val (.int .i64 n_3))], [], .c (.val (.bool r_60)), [], [], 6⟩), (5, ⟨25, 0, [.c (.imm (.slice (.int .i64)) l_1), .c (.val (.int .i64 n_3))], [], .c (.val (.bool r_62)), [], [], 6⟩), (15, ⟨12, 1, [.c (.h 0), .c (.imm (.slice (.int .i64)) r_26.1)], [(0, .row (.int .i64) r_22.1)], .c (.val (.bool r_66)), [(0, .row (.int .i64) r_22.1)], [(0, 1)], 6⟩), (25, ⟨12, 2, [.c (.h 0), .c (.h 1)], [(0, .row (.int .i64) r_30.1), (1, .row (.int .i64) r_34.1)], .c (.val (.bool r_70)), [(0, .row (.int .i64) r_30.1), (1, .row (.int .i64) r_34.1)], [(0, 2), (1, 3)], 6⟩)] [(90, true), (95, true), (100, true), (105, true), (110, true), (115, false)] (calls_cons (breaks_Is_spec K l_1 n_3 r_60 h_61) (by kernel_rfl) (calls_cons (palinoderef15_IsBreaks_spec K l_1 n_3 r_62 h_63) (by kernel_rfl) (calls_cons (palinodelaw16_same_rg_spec K r_22.1 r_26.1 r_66 h_67) (by kernel_rfl) (calls_cons (palinodelaw16_same_rr_spec K r_30.1 r_34.1 r_70 h_71) (by kernel_rfl) calls_nil)))) 6 [8] [] ⟨[(8, .c (.val (.bool false)))], [], 6⟩ [(r_60 == r_62) = true, (r_22.2 == r_26.2) = true, r_66 = true, (r_30.2 == r_34.2) = true, r_70 = true, (r_38.2 == r_42.2) = false] (by kernel_rfl) rfl rfl (ap2 b_64 (ap2 b_65 (ap2 b_68 (ap2 b_69 (ap2 b_72 (ap1 b_73)))))) (by kernel_rfl) (by kernel_rfl) ?_
                      have H_146 := Option.some.inj (show some false = some r from H_139); subst H_146
                      refine VL_ret ?_
                      exact P_to [(8, .c (.val (.bool false)))] [] [] hn (by kernel_rfl) (by kernel_rfl) rfl rfl rfl (QF_retS (by kernel_rfl) (by kernel_rfl) rfl)
                  · have H_137 := of_f H_135 b_72
                    refine V_reg hN hn [(2, ⟨14, 0, [.c (.imm (.slice (.int .i64)) l_1), .c (.val (.int .i64 n_3))], [], .c (.val (.bool r_60)), [], [], 6⟩), (5, ⟨25, 0, [.c (.imm (.slice (.int .i64)) l_1), .c (.val (.int .i64 n_3))], [], .c (.val (.bool r_62)), [], [], 6⟩), (15, ⟨12, 1, [.c (.h 0), .c (.imm (.slice (.int .i64)) r_26.1)], [(0, .row (.int .i64) r_22.1)], .c (.val (.bool r_66)), [(0, .row (.int .i64) r_22.1)], [(0, 1)], 6⟩), (25, ⟨12, 2, [.c (.h 0), .c (.h 1)], [(0, .row (.int .i64) r_30.1), (1, .row (.int .i64) r_34.1)], .c (.val (.bool r_70)), [(0, .row (.int .i64) r_30.1), (1, .row (.int .i64) r_34.1)], [(0, 2), (1, 3)], 6⟩)] [(90, true), (95, true), (100, true), (105, true), (110, false)] (calls_cons (breaks_Is_spec K l_1 n_3 r_60 h_61) (by kernel_rfl) (calls_cons (palinoderef15_IsBreaks_spec K l_1 n_3 r_62 h_63) (by kernel_rfl) (calls_cons (palinodelaw16_same_rg_spec K r_22.1 r_26.1 r_66 h_67) (by kernel_rfl) (calls_cons (palinodelaw16_same_rr_spec K r_30.1 r_34.1 r_70 h_71) (by kernel_rfl) calls_nil)))) 6 [8] [] ⟨[(8, .c (.val (.bool false)))], [], 6⟩ [(r_60 == r_62) = true, (r_22.2 == r_26.2) = true, r_66 = true, (r_30.2 == r_34.2) = true, r_70 = false] (by kernel_rfl) rfl rfl (ap2 b_64 (ap2 b_65 (ap2 b_68 (ap2 b_69 (ap1 b_72))))) (by kernel_rfl) (by kernel_rfl) ?_
                    have H_147 := Option.some.inj (show some false = some r from H_137); subst H_147
                    refine VL_ret ?_
                    exact P_to [(8, .c (.val (.bool false)))] [] [] hn (by kernel_rfl) (by kernel_rfl) rfl rfl rfl (QF_retS (by kernel_rfl) (by kernel_rfl) rfl)
                · have H_134 := of_f H_131 b_69
                  refine V_reg hN hn [(2, ⟨14, 0, [.c (.imm (.slice (.int .i64)) l_1), .c (.val (.int .i64 n_3))], [], .c (.val (.bool r_60)), [], [], 6⟩), (5, ⟨25, 0, [.c (.imm (.slice (.int .i64)) l_1), .c (.val (.int .i64 n_3))], [], .c (.val (.bool r_62)), [], [], 6⟩), (15, ⟨12, 1, [.c (.h 0), .c (.imm (.slice (.int .i64)) r_26.1)], [(0, .row (.int .i64) r_22.1)], .c (.val (.bool r_66)), [(0, .row (.int .i64) r_22.1)], [(0, 1)], 6⟩)] [(90, true), (95, true), (100, true), (105, false)] (calls_cons (breaks_Is_spec K l_1 n_3 r_60 h_61) (by kernel_rfl) (calls_cons (palinoderef15_IsBreaks_spec K l_1 n_3 r_62 h_63) (by kernel_rfl) (calls_cons (palinodelaw16_same_rg_spec K r_22.1 r_26.1 r_66 h_67) (by kernel_rfl) calls_nil))) 6 [8] [] ⟨[(8, .c (.val (.bool false)))], [], 6⟩ [(r_60 == r_62) = true, (r_22.2 == r_26.2) = true, r_66 = true, (r_30.2 == r_34.2) = false] (by kernel_rfl) rfl rfl (ap2 b_64 (ap2 b_65 (ap2 b_68 (ap1 b_69)))) (by kernel_rfl) (by kernel_rfl) ?_
                  have H_148 := Option.some.inj (show some false = some r from H_134); subst H_148
                  refine VL_ret ?_
                  exact P_to [(8, .c (.val (.bool false)))] [] [] hn (by kernel_rfl) (by kernel_rfl) rfl rfl rfl (QF_retS (by kernel_rfl) (by kernel_rfl) rfl)
              · have H_132 := of_f H_130 b_68
                refine V_reg hN hn [(2, ⟨14, 0, [.c (.imm (.slice (.int .i64)) l_1), .c (.val (.int .i64 n_3))], [], .c (.val (.bool r_60)), [], [], 6⟩), (5, ⟨25, 0, [.c (.imm (.slice (.int .i64)) l_1), .c (.val (.int .i64 n_3))], [], .c (.val (.bool r_62)), [], [], 6⟩), (15, ⟨12, 1, [.c (.h 0), .c (.imm (.slice (.int .i64)) r_26.1)], [(0, .row (.int .i64) r_22.1)], .c (.val (.bool r_66)), [(0, .row (.int .i64) r_22.1)], [(0, 1)], 6⟩)] [(90, true), (95, true), (100, false)] (calls_cons (breaks_Is_spec K l_1 n_3 r_60 h_61) (by kernel_rfl) (calls_cons (palinoderef15_IsBreaks_spec K l_1 n_3 r_62 h_63) (by kernel_rfl) (calls_cons (palinodelaw16_same_rg_spec K r_22.1 r_26.1 r_66 h_67) (by kernel_rfl) calls_nil))) 6 [8] [] ⟨[(8, .c (.val (.bool false)))], [], 6⟩ [(r_60 == r_62) = true, (r_22.2 == r_26.2) = true, r_66 = false] (by kernel_rfl) rfl rfl (ap2 b_64 (ap2 b_65 (ap1 b_68))) (by kernel_rfl) (by kernel_rfl) ?_
                have H_149 := Option.some.inj (show some false = some r from H_132); subst H_149
                refine VL_ret ?_
                exact P_to [(8, .c (.val (.bool false)))] [] [] hn (by kernel_rfl) (by kernel_rfl) rfl rfl rfl (QF_retS (by kernel_rfl) (by kernel_rfl) rfl)
            · have H_129 := of_f H_126 b_65
              refine V_reg hN hn [(2, ⟨14, 0, [.c (.imm (.slice (.int .i64)) l_1), .c (.val (.int .i64 n_3))], [], .c (.val (.bool r_60)), [], [], 6⟩), (5, ⟨25, 0, [.c (.imm (.slice (.int .i64)) l_1), .c (.val (.int .i64 n_3))], [], .c (.val (.bool r_62)), [], [], 6⟩)] [(90, true), (95, false)] (calls_cons (breaks_Is_spec K l_1 n_3 r_60 h_61) (by kernel_rfl) (calls_cons (palinoderef15_IsBreaks_spec K l_1 n_3 r_62 h_63) (by kernel_rfl) calls_nil)) 6 [8] [] ⟨[(8, .c (.val (.bool false)))], [], 6⟩ [(r_60 == r_62) = true, (r_22.2 == r_26.2) = false] (by kernel_rfl) rfl rfl (ap2 b_64 (ap1 b_65)) (by kernel_rfl) (by kernel_rfl) ?_
              have H_150 := Option.some.inj (show some false = some r from H_129); subst H_150
              refine VL_ret ?_
              exact P_to [(8, .c (.val (.bool false)))] [] [] hn (by kernel_rfl) (by kernel_rfl) rfl rfl rfl (QF_retS (by kernel_rfl) (by kernel_rfl) rfl)
          · have H_127 := of_f H_125 b_64
            refine V_reg hN hn [(2, ⟨14, 0, [.c (.imm (.slice (.int .i64)) l_1), .c (.val (.int .i64 n_3))], [], .c (.val (.bool r_60)), [], [], 6⟩), (5, ⟨25, 0, [.c (.imm (.slice (.int .i64)) l_1), .c (.val (.int .i64 n_3))], [], .c (.val (.bool r_62)), [], [], 6⟩)] [(90, false)] (calls_cons (breaks_Is_spec K l_1 n_3 r_60 h_61) (by kernel_rfl) (calls_cons (palinoderef15_IsBreaks_spec K l_1 n_3 r_62 h_63) (by kernel_rfl) calls_nil)) 6 [8] [] ⟨[(8, .c (.val (.bool false)))], [], 6⟩ [(r_60 == r_62) = false] (by kernel_rfl) rfl rfl (ap1 b_64) (by kernel_rfl) (by kernel_rfl) ?_
            have H_151 := Option.some.inj (show some false = some r from H_127); subst H_151
            refine VL_ret ?_
            exact P_to [(8, .c (.val (.bool false)))] [] [] hn (by kernel_rfl) (by kernel_rfl) rfl rfl rfl (QF_retS (by kernel_rfl) (by kernel_rfl) rfl)

end Go.Pal
