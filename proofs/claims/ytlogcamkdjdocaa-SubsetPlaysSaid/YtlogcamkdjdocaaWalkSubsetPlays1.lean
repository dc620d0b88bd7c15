/- The Go functions that SubsetPlays reaches compute what the plain functions say: part 1, printed by a program of this workplace. -/
import Derived.Test.YtlogcamkdjdocaaChecked
import Derived.Test.YtlogcamkdjdocaaWalkSubsetPlays0
namespace Go.Pal
open Go Go.Proofs
set_option maxRecDepth 100000
set_option linter.unusedVariables false

theorem palinodelaw7_same_spec (K : Nat) (s_1 : (Option ((List (Int × Int)) × Int))) (l_2 : (List Int)) (r : Bool) (H : palinodelaw7_same_gr K s_1 l_2 = some r) : Spec Try.prog 37 0 [.c (.imm (.opt (.pair (.slice (.pair (.int .i64) (.int .i64))) (.int .i64))) s_1), .c (.imm (.slice (.int .i64)) l_2)] [] (.c (.val (.bool r))) [] := by
  refine Spec_mk (fn := Try.f37) (c := (Try.f37.body).get!) Try.func37 (by kernel_rfl) rfl ?_
  intro C hN hn
  replace hN : C.N = 102 := hN
  unfold palinodelaw7_same_gr at H
  refine V_run hN hn 4 0 [0, 1] [] ⟨[(0, .c (.imm (.opt (.pair (.slice (.pair (.int .i64) (.int .i64))) (.int .i64))) s_1)), (1, .c (.imm (.slice (.int .i64)) l_2))], [], 0⟩ [] (by kernel_rfl) rfl rfl ap0 ?_
  obtain ⟨r_4, h_5, H_84⟩ := of_bind H
  refine V_reg hN hn [(1, ⟨18, 0, [.c (.imm (.opt (.pair (.slice (.pair (.int .i64) (.int .i64))) (.int .i64))) s_1)], [], .c (.val (.int .i64 r_4)), [], [], 0⟩)] [] (calls_cons (subset_Subset_Len_spec K s_1 r_4 h_5) (by kernel_rfl) calls_nil) 0 [0, 1, 14] [] ⟨[(0, .c (.imm (.opt (.pair (.slice (.pair (.int .i64) (.int .i64))) (.int .i64))) s_1)), (1, .c (.imm (.slice (.int .i64)) l_2)), (14, .c (.val (.bool (r_4 != (((List.length l_2) : Nat) : Int)))))], [], 0⟩ [] (by kernel_rfl) rfl rfl ap0 (by kernel_rfl) (by kernel_rfl) ?_
  refine VL_cond ((r_4 != (((List.length l_2) : Nat) : Int))) (by kernel_rfl) ?_ ?_
  · intro b_7; have H_85 := of_t H_84 b_7
    refine V_run hN hn 2 0 [4] [] ⟨[(4, .c (.val (.bool false)))], [], 0⟩ [] (by kernel_rfl) rfl rfl ap0 ?_
    have H_87 := Option.some.inj (show some false = some r from H_85); subst H_87
    refine VL_ret ?_
    exact P_to [(4, .c (.val (.bool false)))] [] [] hn (by kernel_rfl) (by kernel_rfl) rfl rfl rfl (QF_retS (by kernel_rfl) (by kernel_rfl) rfl)
  · intro b_7; have H_86 := of_f H_84 b_7
    refine V_run hN hn 6 0 [0, 1, 5, 6] [] ⟨[(0, .c (.imm (.opt (.pair (.slice (.pair (.int .i64) (.int .i64))) (.int .i64))) s_1)), (1, .c (.imm (.slice (.int .i64)) l_2)), (5, .c (.val (.int .i64 (0 : Int)))), (6, .c (.val (.int .i64 (0 : Int))))], [], 0⟩ [] (by kernel_rfl) rfl rfl ap0 ?_
    obtain ⟨q_88, H_89, H_90⟩ := of_bind H_86
    refine V_cut (Y := Int) (R := (Bool ⊕ Int)) q_88 (fun y => (Sum.inr y)) (fun y => [(0, .c (.imm (.opt (.pair (.slice (.pair (.int .i64) (.int .i64))) (.int .i64))) s_1)), (1, .c (.imm (.slice (.int .i64)) l_2)), (5, .c (.val (.int .i64 y)))]) (fun y => []) ?_ ?_
    · skip
      refine VL_block ?_
      refine V_to [(0, .c (.imm (.opt (.pair (.slice (.pair (.int .i64) (.int .i64))) (.int .i64))) s_1)), (1, .c (.imm (.slice (.int .i64)) l_2)), (5, .c (.val (.int .i64 (0 : Int)))), (6, .c (.val (.int .i64 (0 : Int))))] [] [] hn (by kernel_rfl) (by kernel_rfl) rfl rfl rfl ?_
      refine VL_loop (X := (Int × Int)) (fun x => [(0, .c (.imm (.opt (.pair (.slice (.pair (.int .i64) (.int .i64))) (.int .i64))) s_1)), (1, .c (.imm (.slice (.int .i64)) l_2)), (5, .c (.val (.int .i64 x.1))), (6, .c (.val (.int .i64 x.2)))]) (fun x => []) (fun k x => palinodelaw7_same_gr.l0 K l_2 s_1 k x.1 x.2 = some q_88) K ((0 : Int), (0 : Int)) H_89 (fun _ h => no_none h) ?_
      intro k_12 x_12 H_92
      obtain ⟨n_10, i_11⟩ := x_12
      have H_93 : palinodelaw7_same_gr.l0 K l_2 s_1 (k_12 + 1) n_10 i_11 = some q_88 := H_92
      rw [palinodelaw7_same_gr.l0] at H_93
      refine V_run hN hn 3 0 [0, 1, 5, 6, 18] [] ⟨[(0, .c (.imm (.opt (.pair (.slice (.pair (.int .i64) (.int .i64))) (.int .i64))) s_1)), (1, .c (.imm (.slice (.int .i64)) l_2)), (5, .c (.val (.int .i64 n_10))), (6, .c (.val (.int .i64 i_11))), (18, .c (.val (.bool (decide (i_11 < (((List.length l_2) : Nat) : Int))))))], [], 0⟩ [] (by kernel_rfl) rfl rfl ap0 ?_
      refine VL_cond ((decide (i_11 < (((List.length l_2) : Nat) : Int)))) (by kernel_rfl) ?_ ?_
      · intro b_14; have H_94 := of_t H_93 b_14
        refine V_run hN hn 2 0 [0, 1, 5, 6, 18] [] ⟨[(0, .c (.imm (.opt (.pair (.slice (.pair (.int .i64) (.int .i64))) (.int .i64))) s_1)), (1, .c (.imm (.slice (.int .i64)) l_2)), (5, .c (.val (.int .i64 n_10))), (6, .c (.val (.int .i64 i_11))), (18, .c (.val (.bool (decide (i_11 < (((List.length l_2) : Nat) : Int))))))], [], 0⟩ [] (by kernel_rfl) rfl rfl ap0 ?_
        refine VL_block ?_
        refine V_run hN hn 2 0 [0, 1, 5, 6, 18] [] ⟨[(0, .c (.imm (.opt (.pair (.slice (.pair (.int .i64) (.int .i64))) (.int .i64))) s_1)), (1, .c (.imm (.slice (.int .i64)) l_2)), (5, .c (.val (.int .i64 n_10))), (6, .c (.val (.int .i64 i_11))), (18, .c (.val (.bool (decide (i_11 < (((List.length l_2) : Nat) : Int))))))], [], 0⟩ [] (by kernel_rfl) rfl rfl ap0 ?_
        obtain ⟨q_96, H_97, H_98⟩ := of_bind H_94
        refine V_cut (Y := Bool) (R := Bool) q_96 (fun y => y) (fun y => [(0, .c (.imm (.opt (.pair (.slice (.pair (.int .i64) (.int .i64))) (.int .i64))) s_1)), (1, .c (.imm (.slice (.int .i64)) l_2)), (5, .c (.val (.int .i64 n_10))), (6, .c (.val (.int .i64 i_11))), (39, .c (.val (.bool y)))]) (fun y => []) ?_ ?_
        · skip
          obtain ⟨r_17, h_18, H_100⟩ := of_bind H_97
          rcases Bool.eq_false_or_eq_true ((r_17 != (List.getD l_2 (Int.toNat i_11) (0 : Int)))) with b_19 | b_19
          · have H_101 := of_t H_100 b_19
            obtain ⟨c_20, H_103⟩ := of_if H_101
            refine V_draw hN hn (by kernel_rfl) [(2, ⟨20, 0, [.c (.imm (.opt (.pair (.slice (.pair (.int .i64) (.int .i64))) (.int .i64))) s_1), .c (.val (.int .i64 i_11))], [], .c (.val (.int .i64 r_17)), [], [], 0⟩)] [(29, true)] (calls_cons (subset_Subset_Count_spec K s_1 i_11 r_17 h_18) (by kernel_rfl) calls_nil) 0 [0, 1, 5, 6, 39] [] ⟨[(0, .c (.imm (.opt (.pair (.slice (.pair (.int .i64) (.int .i64))) (.int .i64))) s_1)), (1, .c (.imm (.slice (.int .i64)) l_2)), (5, .c (.val (.int .i64 n_10))), (6, .c (.val (.int .i64 i_11))), (39, .c (.val (.bool true)))], [], 0⟩ [0 ≤ i_11, i_11 < (((List.length l_2) : Nat) : Int), (r_17 != (List.getD l_2 (Int.toNat i_11) (0 : Int))) = true] (by kernel_rfl) rfl rfl (ap2 c_20.1 (ap2 c_20.2 (ap1 b_19))) (by kernel_rfl) (by kernel_rfl) ?_
            have H_104 := Option.some.inj (show some true = some q_96 from H_103); subst H_104
            refine VL_nil ?_
            exact QP_end true rfl [] hn (by kernel_rfl) (by kernel_rfl) rfl rfl rfl
          · have H_102 := of_f H_100 b_19
            obtain ⟨r_21, h_22, H_105⟩ := of_bind H_102
            obtain ⟨c_23, H_106⟩ := of_if H_105
            refine V_draw hN hn (by kernel_rfl) [(2, ⟨20, 0, [.c (.imm (.opt (.pair (.slice (.pair (.int .i64) (.int .i64))) (.int .i64))) s_1), .c (.val (.int .i64 i_11))], [], .c (.val (.int .i64 r_17)), [], [], 0⟩), (11, ⟨39, 0, [.c (.imm (.opt (.pair (.slice (.pair (.int .i64) (.int .i64))) (.int .i64))) s_1), .c (.val (.int .i64 i_11))], [], .c (.val (.bool r_21)), [], [], 0⟩)] [(29, false)] (calls_cons (subset_Subset_Count_spec K s_1 i_11 r_17 h_18) (by kernel_rfl) (calls_cons (subset_Subset_Has_spec K s_1 i_11 r_21 h_22) (by kernel_rfl) calls_nil)) 0 [0, 1, 5, 6, 39] [] ⟨[(0, .c (.imm (.opt (.pair (.slice (.pair (.int .i64) (.int .i64))) (.int .i64))) s_1)), (1, .c (.imm (.slice (.int .i64)) l_2)), (5, .c (.val (.int .i64 n_10))), (6, .c (.val (.int .i64 i_11))), (39, .c (.val (.bool (!(r_21 == (decide ((List.getD l_2 (Int.toNat i_11) (0 : Int)) > (0 : Int))))))))], [], 0⟩ [0 ≤ i_11, i_11 < (((List.length l_2) : Nat) : Int), (r_17 != (List.getD l_2 (Int.toNat i_11) (0 : Int))) = false, 0 ≤ i_11, i_11 < (((List.length l_2) : Nat) : Int)] (by kernel_rfl) rfl rfl (ap2 c_23.1 (ap2 c_23.2 (ap2 b_19 (ap2 c_23.1 (ap1 c_23.2))))) (by kernel_rfl) (by kernel_rfl) ?_
            have H_107 := Option.some.inj (show some (!(r_21 == (decide ((List.getD l_2 (Int.toNat i_11) (0 : Int)) > (0 : Int))))) = some q_96 from H_106); subst H_107
            refine VL_nil ?_
            exact QP_end (!(r_21 == (decide ((List.getD l_2 (Int.toNat i_11) (0 : Int)) > (0 : Int))))) rfl [] hn (by kernel_rfl) (by kernel_rfl) rfl rfl rfl
        · intro y_99 hy; subst hy
          skip
          skip
          refine VL_cond (y_99) (by kernel_rfl) ?_ ?_
          · intro b_25; have H_108 := of_t H_98 b_25
            refine V_run hN hn 2 0 [4] [] ⟨[(4, .c (.val (.bool false)))], [], 0⟩ [] (by kernel_rfl) rfl rfl ap0 ?_
            have H_110 := Option.some.inj (show some (Sum.inl false) = some q_88 from H_108); subst H_110
            have H_111 := Option.some.inj (show some false = some r from H_90); subst H_111
            refine VL_ret ?_
            refine QB_ret ?_
            refine QL_ret ?_
            refine QB_ret ?_
            refine QP_ret ?_
            exact P_to [(4, .c (.val (.bool false)))] [] [] hn (by kernel_rfl) (by kernel_rfl) rfl rfl rfl (QF_retS (by kernel_rfl) (by kernel_rfl) rfl)
          · intro b_25; have H_109 := of_f H_98 b_25
            obtain ⟨c_27, H_112⟩ := of_if H_109
            refine V_run hN hn 3 0 [0, 1, 5, 6, 44] [] ⟨[(0, .c (.imm (.opt (.pair (.slice (.pair (.int .i64) (.int .i64))) (.int .i64))) s_1)), (1, .c (.imm (.slice (.int .i64)) l_2)), (5, .c (.val (.int .i64 n_10))), (6, .c (.val (.int .i64 i_11))), (44, .c (.val (.bool (decide ((List.getD l_2 (Int.toNat i_11) (0 : Int)) > (0 : Int))))))], [], 0⟩ [0 ≤ i_11, i_11 < (((List.length l_2) : Nat) : Int)] (by kernel_rfl) rfl rfl (ap2 c_27.1 (ap1 c_27.2)) ?_
            refine VL_cond ((decide ((List.getD l_2 (Int.toNat i_11) (0 : Int)) > (0 : Int)))) (by kernel_rfl) ?_ ?_
            · intro b_28; have H_113 := of_t H_112 b_28
              refine V_run hN hn 1 0 [0, 1, 5, 6] [] ⟨[(0, .c (.imm (.opt (.pair (.slice (.pair (.int .i64) (.int .i64))) (.int .i64))) s_1)), (1, .c (.imm (.slice (.int .i64)) l_2)), (5, .c (.val (.int .i64 (IntKind.wrap .i64 (n_10 + (1 : Int)))))), (6, .c (.val (.int .i64 i_11)))], [], 0⟩ [] (by kernel_rfl) rfl rfl ap0 ?_
              refine VL_nil (QB_end ?_)
              refine V_run hN hn 1 0 [0, 1, 5, 6] [] ⟨[(0, .c (.imm (.opt (.pair (.slice (.pair (.int .i64) (.int .i64))) (.int .i64))) s_1)), (1, .c (.imm (.slice (.int .i64)) l_2)), (5, .c (.val (.int .i64 (IntKind.wrap .i64 (n_10 + (1 : Int)))))), (6, .c (.val (.int .i64 (IntKind.wrap .i64 (i_11 + (1 : Int))))))], [], 0⟩ [] (by kernel_rfl) rfl rfl ap0 ?_
              refine VL_nil ?_
              exact V_roundEnd ((IntKind.wrap .i64 (n_10 + (1 : Int))), (IntKind.wrap .i64 (i_11 + (1 : Int)))) H_113 [] hn (by kernel_rfl) (by kernel_rfl) rfl rfl rfl
            · intro b_28; have H_114 := of_f H_112 b_28
              refine V_run hN hn 1 0 [0, 1, 5, 6, 44] [] ⟨[(0, .c (.imm (.opt (.pair (.slice (.pair (.int .i64) (.int .i64))) (.int .i64))) s_1)), (1, .c (.imm (.slice (.int .i64)) l_2)), (5, .c (.val (.int .i64 n_10))), (6, .c (.val (.int .i64 i_11))), (44, .c (.val (.bool (decide ((List.getD l_2 (Int.toNat i_11) (0 : Int)) > (0 : Int))))))], [], 0⟩ [] (by kernel_rfl) rfl rfl ap0 ?_
              refine VL_nil (QB_end ?_)
              refine V_run hN hn 1 0 [0, 1, 5, 6] [] ⟨[(0, .c (.imm (.opt (.pair (.slice (.pair (.int .i64) (.int .i64))) (.int .i64))) s_1)), (1, .c (.imm (.slice (.int .i64)) l_2)), (5, .c (.val (.int .i64 n_10))), (6, .c (.val (.int .i64 (IntKind.wrap .i64 (i_11 + (1 : Int))))))], [], 0⟩ [] (by kernel_rfl) rfl rfl ap0 ?_
              refine VL_nil ?_
              exact V_roundEnd (n_10, (IntKind.wrap .i64 (i_11 + (1 : Int)))) H_114 [] hn (by kernel_rfl) (by kernel_rfl) rfl rfl rfl
      · intro b_14; have H_95 := of_f H_93 b_14
        refine VL_exit ?_
        refine QL_exit ?_
        refine QB_here ?_
        have H_115 := Option.some.inj (show some (Sum.inr n_10) = some q_88 from H_95); subst H_115
        refine VL_nil ?_
        exact QP_end n_10 rfl [] hn (by kernel_rfl) (by kernel_rfl) rfl rfl rfl
    · intro y_91 hy; subst hy
      skip
      skip
      refine V_run hN hn 1 0 [0, 1, 5] [] ⟨[(0, .c (.imm (.opt (.pair (.slice (.pair (.int .i64) (.int .i64))) (.int .i64))) s_1)), (1, .c (.imm (.slice (.int .i64)) l_2)), (5, .c (.val (.int .i64 y_91)))], [], 0⟩ [] (by kernel_rfl) rfl rfl ap0 ?_
      obtain ⟨r_35, h_36, H_116⟩ := of_bind H_90
      obtain ⟨r_37, h_38, H_117⟩ := of_bind H_116
      refine V_reg hN hn [(1, ⟨17, 0, [.c (.imm (.opt (.pair (.slice (.pair (.int .i64) (.int .i64))) (.int .i64))) s_1)], [], .c (.h 0), [(0, .row (.pair (.int .i64) (.int .i64)) r_35)], [(0, 0)], 1⟩), (3, ⟨45, 0, [.c (.imm (.slice (.int .i64)) l_2)], [], .c (.h 3), [(3, .row (.pair (.int .i64) (.int .i64)) r_37)], [(3, 1)], 2⟩)] [] (calls_cons (subset_Subset_Segs_spec K s_1 r_35 h_36) (by kernel_rfl) (calls_cons (palinoderef7_Segs_spec K l_2 r_37 h_38) (by kernel_rfl) calls_nil)) 0 [0, 1, 5, 7, 8] [0, 1] ⟨[(0, .c (.imm (.opt (.pair (.slice (.pair (.int .i64) (.int .i64))) (.int .i64))) s_1)), (1, .c (.imm (.slice (.int .i64)) l_2)), (5, .c (.val (.int .i64 y_91))), (7, .c (.h 0)), (8, .c (.h 1))], [(0, .row (.pair (.int .i64) (.int .i64)) r_35), (1, .row (.pair (.int .i64) (.int .i64)) r_37)], 2⟩ [] (by kernel_rfl) rfl rfl ap0 (by kernel_rfl) (by kernel_rfl) ?_
      refine V_run hN hn 2 2 [0, 1, 5, 7, 8] [0, 1] ⟨[(0, .c (.imm (.opt (.pair (.slice (.pair (.int .i64) (.int .i64))) (.int .i64))) s_1)), (1, .c (.imm (.slice (.int .i64)) l_2)), (5, .c (.val (.int .i64 y_91))), (7, .c (.h 0)), (8, .c (.h 1))], [(0, .row (.pair (.int .i64) (.int .i64)) r_35), (1, .row (.pair (.int .i64) (.int .i64)) r_37)], 2⟩ [] (by kernel_rfl) rfl rfl ap0 ?_
      obtain ⟨q_118, H_119, H_120⟩ := of_bind H_117
      refine V_cut (Y := Bool) (R := Bool) q_118 (fun y => y) (fun y => [(7, .c (.h 0)), (8, .c (.h 1)), (86, .c (.val (.bool y)))]) (fun y => [(0, .row (.pair (.int .i64) (.int .i64)) r_35), (1, .row (.pair (.int .i64) (.int .i64)) r_37)]) ?_ ?_
      · skip
        rcases Bool.eq_false_or_eq_true (((((List.length r_35) : Nat) : Int) != (((List.length r_37) : Nat) : Int))) with b_41 | b_41
        · have H_122 := of_t H_119 b_41
          refine V_reg hN hn [] [(56, true)] calls_nil 2 [7, 8, 86] [0, 1] ⟨[(7, .c (.h 0)), (8, .c (.h 1)), (86, .c (.val (.bool true)))], [(0, .row (.pair (.int .i64) (.int .i64)) r_35), (1, .row (.pair (.int .i64) (.int .i64)) r_37)], 2⟩ [((((List.length r_35) : Nat) : Int) != (((List.length r_37) : Nat) : Int)) = true] (by kernel_rfl) rfl rfl (ap1 b_41) (by kernel_rfl) (by kernel_rfl) ?_
          have H_124 := Option.some.inj (show some true = some q_118 from H_122); subst H_124
          refine VL_nil ?_
          exact QP_end true rfl [(0, 0), (1, 1)] hn (by kernel_rfl) (by kernel_rfl) rfl rfl rfl
        · have H_123 := of_f H_119 b_41
          obtain ⟨r_43, h_44, H_125⟩ := of_bind H_123
          rcases Bool.eq_false_or_eq_true ((r_43 != y_91)) with b_45 | b_45
          · have H_126 := of_t H_125 b_45
            refine V_reg hN hn [(7, ⟨15, 0, [.c (.imm (.opt (.pair (.slice (.pair (.int .i64) (.int .i64))) (.int .i64))) s_1)], [], .c (.val (.int .i64 r_43)), [], [], 2⟩)] [(56, false), (62, true)] (calls_cons (subset_Subset_Size_spec K s_1 r_43 h_44) (by kernel_rfl) calls_nil) 2 [7, 8, 86] [0, 1] ⟨[(7, .c (.h 0)), (8, .c (.h 1)), (86, .c (.val (.bool true)))], [(0, .row (.pair (.int .i64) (.int .i64)) r_35), (1, .row (.pair (.int .i64) (.int .i64)) r_37)], 2⟩ [((((List.length r_35) : Nat) : Int) != (((List.length r_37) : Nat) : Int)) = false, (r_43 != y_91) = true] (by kernel_rfl) rfl rfl (ap2 b_41 (ap1 b_45)) (by kernel_rfl) (by kernel_rfl) ?_
            have H_128 := Option.some.inj (show some true = some q_118 from H_126); subst H_128
            refine VL_nil ?_
            exact QP_end true rfl [(0, 0), (1, 1)] hn (by kernel_rfl) (by kernel_rfl) rfl rfl rfl
          · have H_127 := of_f H_125 b_45
            obtain ⟨r_47, h_48, H_129⟩ := of_bind H_127
            rcases Bool.eq_false_or_eq_true ((!(r_47 == (y_91 == (0 : Int))))) with b_49 | b_49
            · have H_130 := of_t H_129 b_49
              refine V_reg hN hn [(7, ⟨15, 0, [.c (.imm (.opt (.pair (.slice (.pair (.int .i64) (.int .i64))) (.int .i64))) s_1)], [], .c (.val (.int .i64 r_43)), [], [], 2⟩), (13, ⟨21, 0, [.c (.imm (.opt (.pair (.slice (.pair (.int .i64) (.int .i64))) (.int .i64))) s_1)], [], .c (.val (.bool r_47)), [], [], 2⟩)] [(56, false), (62, false), (69, true)] (calls_cons (subset_Subset_Size_spec K s_1 r_43 h_44) (by kernel_rfl) (calls_cons (subset_Subset_Empty_spec K s_1 r_47 h_48) (by kernel_rfl) calls_nil)) 2 [7, 8, 86] [0, 1] ⟨[(7, .c (.h 0)), (8, .c (.h 1)), (86, .c (.val (.bool true)))], [(0, .row (.pair (.int .i64) (.int .i64)) r_35), (1, .row (.pair (.int .i64) (.int .i64)) r_37)], 2⟩ [((((List.length r_35) : Nat) : Int) != (((List.length r_37) : Nat) : Int)) = false, (r_43 != y_91) = false, (!(r_47 == (y_91 == (0 : Int)))) = true] (by kernel_rfl) rfl rfl (ap2 b_41 (ap2 b_45 (ap1 b_49))) (by kernel_rfl) (by kernel_rfl) ?_
              have H_132 := Option.some.inj (show some true = some q_118 from H_130); subst H_132
              refine VL_nil ?_
              exact QP_end true rfl [(0, 0), (1, 1)] hn (by kernel_rfl) (by kernel_rfl) rfl rfl rfl
            · have H_131 := of_f H_129 b_49
              obtain ⟨r_51, h_52, H_133⟩ := of_bind H_131
              rcases Bool.eq_false_or_eq_true ((r_51 != (0 : Int))) with b_53 | b_53
              · have H_134 := of_t H_133 b_53
                refine V_reg hN hn [(7, ⟨15, 0, [.c (.imm (.opt (.pair (.slice (.pair (.int .i64) (.int .i64))) (.int .i64))) s_1)], [], .c (.val (.int .i64 r_43)), [], [], 2⟩), (13, ⟨21, 0, [.c (.imm (.opt (.pair (.slice (.pair (.int .i64) (.int .i64))) (.int .i64))) s_1)], [], .c (.val (.bool r_47)), [], [], 2⟩), (20, ⟨20, 0, [.c (.imm (.opt (.pair (.slice (.pair (.int .i64) (.int .i64))) (.int .i64))) s_1), .c (.val (.int .i64 (-1 : Int)))], [], .c (.val (.int .i64 r_51)), [], [], 2⟩)] [(56, false), (62, false), (69, false), (74, true)] (calls_cons (subset_Subset_Size_spec K s_1 r_43 h_44) (by kernel_rfl) (calls_cons (subset_Subset_Empty_spec K s_1 r_47 h_48) (by kernel_rfl) (calls_cons (subset_Subset_Count_spec K s_1 (-1 : Int) r_51 h_52) (by kernel_rfl) calls_nil))) 2 [7, 8, 86] [0, 1] ⟨[(7, .c (.h 0)), (8, .c (.h 1)), (86, .c (.val (.bool true)))], [(0, .row (.pair (.int .i64) (.int .i64)) r_35), (1, .row (.pair (.int .i64) (.int .i64)) r_37)], 2⟩ [((((List.length r_35) : Nat) : Int) != (((List.length r_37) : Nat) : Int)) = false, (r_43 != y_91) = false, (!(r_47 == (y_91 == (0 : Int)))) = false, (r_51 != (0 : Int)) = true] (by kernel_rfl) rfl rfl (ap2 b_41 (ap2 b_45 (ap2 b_49 (ap1 b_53)))) (by kernel_rfl) (by kernel_rfl) ?_
                have H_136 := Option.some.inj (show some true = some q_118 from H_134); subst H_136
                refine VL_nil ?_
                exact QP_end true rfl [(0, 0), (1, 1)] hn (by kernel_rfl) (by kernel_rfl) rfl rfl rfl
              · have H_135 := of_f H_133 b_53
                obtain ⟨r_55, h_56, H_137⟩ := of_bind H_135
                rcases Bool.eq_false_or_eq_true ((r_55 != (0 : Int))) with b_57 | b_57
                · have H_138 := of_t H_137 b_57
                  refine V_reg hN hn [(7, ⟨15, 0, [.c (.imm (.opt (.pair (.slice (.pair (.int .i64) (.int .i64))) (.int .i64))) s_1)], [], .c (.val (.int .i64 r_43)), [], [], 2⟩), (13, ⟨21, 0, [.c (.imm (.opt (.pair (.slice (.pair (.int .i64) (.int .i64))) (.int .i64))) s_1)], [], .c (.val (.bool r_47)), [], [], 2⟩), (20, ⟨20, 0, [.c (.imm (.opt (.pair (.slice (.pair (.int .i64) (.int .i64))) (.int .i64))) s_1), .c (.val (.int .i64 (-1 : Int)))], [], .c (.val (.int .i64 r_51)), [], [], 2⟩), (27, ⟨20, 0, [.c (.imm (.opt (.pair (.slice (.pair (.int .i64) (.int .i64))) (.int .i64))) s_1), .c (.val (.int .i64 (((List.length l_2) : Nat) : Int)))], [], .c (.val (.int .i64 r_55)), [], [], 2⟩)] [(56, false), (62, false), (69, false), (74, false), (81, true)] (calls_cons (subset_Subset_Size_spec K s_1 r_43 h_44) (by kernel_rfl) (calls_cons (subset_Subset_Empty_spec K s_1 r_47 h_48) (by kernel_rfl) (calls_cons (subset_Subset_Count_spec K s_1 (-1 : Int) r_51 h_52) (by kernel_rfl) (calls_cons (subset_Subset_Count_spec K s_1 (((List.length l_2) : Nat) : Int) r_55 h_56) (by kernel_rfl) calls_nil)))) 2 [7, 8, 86] [0, 1] ⟨[(7, .c (.h 0)), (8, .c (.h 1)), (86, .c (.val (.bool true)))], [(0, .row (.pair (.int .i64) (.int .i64)) r_35), (1, .row (.pair (.int .i64) (.int .i64)) r_37)], 2⟩ [((((List.length r_35) : Nat) : Int) != (((List.length r_37) : Nat) : Int)) = false, (r_43 != y_91) = false, (!(r_47 == (y_91 == (0 : Int)))) = false, (r_51 != (0 : Int)) = false, (r_55 != (0 : Int)) = true] (by kernel_rfl) rfl rfl (ap2 b_41 (ap2 b_45 (ap2 b_49 (ap2 b_53 (ap1 b_57))))) (by kernel_rfl) (by kernel_rfl) ?_
                  have H_140 := Option.some.inj (show some true = some q_118 from H_138); subst H_140
                  refine VL_nil ?_
                  exact QP_end true rfl [(0, 0), (1, 1)] hn (by kernel_rfl) (by kernel_rfl) rfl rfl rfl
                · have H_139 := of_f H_137 b_57
                  obtain ⟨r_59, h_60, H_141⟩ := of_bind H_139
                  refine V_reg hN hn [(7, ⟨15, 0, [.c (.imm (.opt (.pair (.slice (.pair (.int .i64) (.int .i64))) (.int .i64))) s_1)], [], .c (.val (.int .i64 r_43)), [], [], 2⟩), (13, ⟨21, 0, [.c (.imm (.opt (.pair (.slice (.pair (.int .i64) (.int .i64))) (.int .i64))) s_1)], [], .c (.val (.bool r_47)), [], [], 2⟩), (20, ⟨20, 0, [.c (.imm (.opt (.pair (.slice (.pair (.int .i64) (.int .i64))) (.int .i64))) s_1), .c (.val (.int .i64 (-1 : Int)))], [], .c (.val (.int .i64 r_51)), [], [], 2⟩), (27, ⟨20, 0, [.c (.imm (.opt (.pair (.slice (.pair (.int .i64) (.int .i64))) (.int .i64))) s_1), .c (.val (.int .i64 (((List.length l_2) : Nat) : Int)))], [], .c (.val (.int .i64 r_55)), [], [], 2⟩), (34, ⟨39, 0, [.c (.imm (.opt (.pair (.slice (.pair (.int .i64) (.int .i64))) (.int .i64))) s_1), .c (.val (.int .i64 (((List.length l_2) : Nat) : Int)))], [], .c (.val (.bool r_59)), [], [], 2⟩)] [(56, false), (62, false), (69, false), (74, false), (81, false)] (calls_cons (subset_Subset_Size_spec K s_1 r_43 h_44) (by kernel_rfl) (calls_cons (subset_Subset_Empty_spec K s_1 r_47 h_48) (by kernel_rfl) (calls_cons (subset_Subset_Count_spec K s_1 (-1 : Int) r_51 h_52) (by kernel_rfl) (calls_cons (subset_Subset_Count_spec K s_1 (((List.length l_2) : Nat) : Int) r_55 h_56) (by kernel_rfl) (calls_cons (subset_Subset_Has_spec K s_1 (((List.length l_2) : Nat) : Int) r_59 h_60) (by kernel_rfl) calls_nil))))) 2 [7, 8, 86] [0, 1] ⟨[(7, .c (.h 0)), (8, .c (.h 1)), (86, .c (.val (.bool r_59)))], [(0, .row (.pair (.int .i64) (.int .i64)) r_35), (1, .row (.pair (.int .i64) (.int .i64)) r_37)], 2⟩ [((((List.length r_35) : Nat) : Int) != (((List.length r_37) : Nat) : Int)) = false, (r_43 != y_91) = false, (!(r_47 == (y_91 == (0 : Int)))) = false, (r_51 != (0 : Int)) = false, (r_55 != (0 : Int)) = false] (by kernel_rfl) rfl rfl (ap2 b_41 (ap2 b_45 (ap2 b_49 (ap2 b_53 (ap1 b_57))))) (by kernel_rfl) (by kernel_rfl) ?_
                  have H_142 := Option.some.inj (show some r_59 = some q_118 from H_141); subst H_142
                  refine VL_nil ?_
                  exact QP_end r_59 rfl [(0, 0), (1, 1)] hn (by kernel_rfl) (by kernel_rfl) rfl rfl rfl
      · intro y_121 hy; subst hy
        skip
        skip
        refine VL_cond (y_121) (by kernel_rfl) ?_ ?_
        · intro b_63; have H_143 := of_t H_120 b_63
          refine V_run hN hn 2 2 [4] [] ⟨[(4, .c (.val (.bool false)))], [], 2⟩ [] (by kernel_rfl) rfl rfl ap0 ?_
          have H_145 := Option.some.inj (show some false = some r from H_143); subst H_145
          refine VL_ret ?_
          exact P_to [(4, .c (.val (.bool false)))] [] [] hn (by kernel_rfl) (by kernel_rfl) rfl rfl rfl (QF_retS (by kernel_rfl) (by kernel_rfl) rfl)
        · intro b_63; have H_144 := of_f H_120 b_63
          refine V_run hN hn 4 2 [7, 8, 9] [0, 1] ⟨[(7, .c (.h 0)), (8, .c (.h 1)), (9, .c (.val (.int .i64 (0 : Int))))], [(0, .row (.pair (.int .i64) (.int .i64)) r_35), (1, .row (.pair (.int .i64) (.int .i64)) r_37)], 2⟩ [] (by kernel_rfl) rfl rfl ap0 ?_
          refine VL_block ?_
          refine V_to [(7, .c (.h 0)), (8, .c (.h 1)), (9, .c (.val (.int .i64 (0 : Int))))] [(0, .row (.pair (.int .i64) (.int .i64)) r_35), (1, .row (.pair (.int .i64) (.int .i64)) r_37)] [(0, 0), (1, 1)] hn (by kernel_rfl) (by kernel_rfl) rfl rfl rfl ?_
          refine VL_loop (X := Int) (fun x => [(7, .c (.h 0)), (8, .c (.h 1)), (9, .c (.val (.int .i64 x)))]) (fun x => [(0, .row (.pair (.int .i64) (.int .i64)) r_35), (1, .row (.pair (.int .i64) (.int .i64)) r_37)]) (fun k x => palinodelaw7_same_gr.l1 K r_35 r_37 k x = some r) K (0 : Int) H_144 (fun _ h => no_none h) ?_
          intro k_67 i_66 H_146
          have H_147 : palinodelaw7_same_gr.l1 K r_35 r_37 (k_67 + 1) i_66 = some r := H_146
          rw [palinodelaw7_same_gr.l1] at H_147
          refine V_run hN hn 3 2 [7, 8, 9, 90] [0, 1] ⟨[(7, .c (.h 0)), (8, .c (.h 1)), (9, .c (.val (.int .i64 i_66))), (90, .c (.val (.bool (decide (i_66 < (((List.length r_35) : Nat) : Int))))))], [(0, .row (.pair (.int .i64) (.int .i64)) r_35), (1, .row (.pair (.int .i64) (.int .i64)) r_37)], 2⟩ [] (by kernel_rfl) rfl rfl ap0 ?_
          refine VL_cond ((decide (i_66 < (((List.length r_35) : Nat) : Int)))) (by kernel_rfl) ?_ ?_
          · intro b_69; have H_148 := of_t H_147 b_69
            refine V_run hN hn 2 2 [7, 8, 9, 90] [0, 1] ⟨[(7, .c (.h 0)), (8, .c (.h 1)), (9, .c (.val (.int .i64 i_66))), (90, .c (.val (.bool (decide (i_66 < (((List.length r_35) : Nat) : Int))))))], [(0, .row (.pair (.int .i64) (.int .i64)) r_35), (1, .row (.pair (.int .i64) (.int .i64)) r_37)], 2⟩ [] (by kernel_rfl) rfl rfl ap0 ?_
            refine VL_block ?_
            refine V_run hN hn 1 2 [7, 8, 9, 90] [0, 1] ⟨[(7, .c (.h 0)), (8, .c (.h 1)), (9, .c (.val (.int .i64 i_66))), (90, .c (.val (.bool (decide (i_66 < (((List.length r_35) : Nat) : Int))))))], [(0, .row (.pair (.int .i64) (.int .i64)) r_35), (1, .row (.pair (.int .i64) (.int .i64)) r_37)], 2⟩ [] (by kernel_rfl) rfl rfl ap0 ?_
            obtain ⟨c_72, H_150⟩ := of_if H_148
            refine V_draw hN hn (by kernel_rfl) [] [] calls_nil 2 [7, 8, 9, 101] [0, 1] ⟨[(7, .c (.h 0)), (8, .c (.h 1)), (9, .c (.val (.int .i64 i_66))), (101, .c (.val (.bool (!(((List.getD r_35 (Int.toNat i_66) ((0 : Int), (0 : Int))).1 == (List.getD r_37 (Int.toNat i_66) ((0 : Int), (0 : Int))).1) && ((List.getD r_35 (Int.toNat i_66) ((0 : Int), (0 : Int))).2 == (List.getD r_37 (Int.toNat i_66) ((0 : Int), (0 : Int))).2))))))], [(0, .row (.pair (.int .i64) (.int .i64)) r_35), (1, .row (.pair (.int .i64) (.int .i64)) r_37)], 2⟩ [0 ≤ i_66, i_66 < (((List.length r_35) : Nat) : Int), 0 ≤ i_66, i_66 < (((List.length r_37) : Nat) : Int)] (by kernel_rfl) rfl rfl (ap2 c_72.1 (ap2 c_72.2.1 (ap2 c_72.1 (ap1 c_72.2.2)))) (by kernel_rfl) (by kernel_rfl) ?_
            refine VL_cond ((!(((List.getD r_35 (Int.toNat i_66) ((0 : Int), (0 : Int))).1 == (List.getD r_37 (Int.toNat i_66) ((0 : Int), (0 : Int))).1) && ((List.getD r_35 (Int.toNat i_66) ((0 : Int), (0 : Int))).2 == (List.getD r_37 (Int.toNat i_66) ((0 : Int), (0 : Int))).2)))) (by kernel_rfl) ?_ ?_
            · intro b_73; have H_151 := of_t H_150 b_73
              refine V_run hN hn 2 2 [4] [] ⟨[(4, .c (.val (.bool false)))], [], 2⟩ [] (by kernel_rfl) rfl rfl ap0 ?_
              have H_153 := Option.some.inj (show some false = some r from H_151); subst H_153
              refine VL_ret ?_
              refine QB_ret ?_
              refine QL_ret ?_
              refine QB_ret ?_
              exact P_to [(4, .c (.val (.bool false)))] [] [] hn (by kernel_rfl) (by kernel_rfl) rfl rfl rfl (QF_retS (by kernel_rfl) (by kernel_rfl) rfl)
            · intro b_73; have H_152 := of_f H_150 b_73
              refine V_run hN hn 1 2 [7, 8, 9, 101] [0, 1] ⟨[(7, .c (.h 0)), (8, .c (.h 1)), (9, .c (.val (.int .i64 i_66))), (101, .c (.val (.bool (!(((List.getD r_35 (Int.toNat i_66) ((0 : Int), (0 : Int))).1 == (List.getD r_37 (Int.toNat i_66) ((0 : Int), (0 : Int))).1) && ((List.getD r_35 (Int.toNat i_66) ((0 : Int), (0 : Int))).2 == (List.getD r_37 (Int.toNat i_66) ((0 : Int), (0 : Int))).2))))))], [(0, .row (.pair (.int .i64) (.int .i64)) r_35), (1, .row (.pair (.int .i64) (.int .i64)) r_37)], 2⟩ [] (by kernel_rfl) rfl rfl ap0 ?_
              refine VL_nil (QB_end ?_)
              refine V_run hN hn 1 2 [7, 8, 9] [0, 1] ⟨[(7, .c (.h 0)), (8, .c (.h 1)), (9, .c (.val (.int .i64 (IntKind.wrap .i64 (i_66 + (1 : Int))))))], [(0, .row (.pair (.int .i64) (.int .i64)) r_35), (1, .row (.pair (.int .i64) (.int .i64)) r_37)], 2⟩ [] (by kernel_rfl) rfl rfl ap0 ?_
              refine VL_nil ?_
              exact V_roundEnd (IntKind.wrap .i64 (i_66 + (1 : Int))) H_152 [(0, 0), (1, 1)] hn (by kernel_rfl) (by kernel_rfl) rfl rfl rfl
          · intro b_69; have H_149 := of_f H_147 b_69
            refine VL_exit ?_
            refine QL_exit ?_
            refine QB_here ?_
            refine V_run hN hn 2 2 [4] [] ⟨[(4, .c (.val (.bool true)))], [], 2⟩ [] (by kernel_rfl) rfl rfl ap0 ?_
            have H_154 := Option.some.inj (show some true = some r from H_149); subst H_154
            refine VL_ret ?_
            exact P_to [(4, .c (.val (.bool true)))] [] [] hn (by kernel_rfl) (by kernel_rfl) rfl rfl rfl (QF_retS (by kernel_rfl) (by kernel_rfl) rfl)

theorem subset_Subset_Same_1_spec (K : Nat) (a_1 : Int) (a_2 : Int) (b_3 : Int) (b_4 : Int) (r : Bool) (H : subset_Subset_Same_1 K a_1 a_2 b_3 b_4 = some r) : Spec Try.prog 44 0 [.agg [.val (.int .i64 a_1), .val (.int .i64 a_2)], .agg [.val (.int .i64 b_3), .val (.int .i64 b_4)]] [] (.c (.val (.bool r))) [] := by
  refine Spec_mk (fn := Try.f44) (c := (Try.f44.body).get!) Try.func44 (by kernel_rfl) rfl ?_
  intro C hN hn
  replace hN : C.N = 8 := hN
  unfold subset_Subset_Same_1 at H
  refine V_run hN hn 4 0 [4] [] ⟨[(4, .c (.val (.bool ((a_1 == b_3) && (a_2 == b_4)))))], [], 2⟩ [] (by kernel_rfl) rfl rfl ap0 ?_
  have H_7 := Option.some.inj (show some ((a_1 == b_3) && (a_2 == b_4)) = some r from H); subst H_7
  refine VL_ret ?_
  exact P_to [(4, .c (.val (.bool ((a_1 == b_3) && (a_2 == b_4)))))] [] [] hn (by kernel_rfl) (by kernel_rfl) rfl rfl rfl (QF_retS (by kernel_rfl) (by kernel_rfl) rfl)

theorem slices_EqualFunc_ggcsubsetSubsetSame1_spec (K : Nat) (s1_1 : (List (Int × Int))) (s2_2 : (List (Int × Int))) (r : Bool) (H : slices_EqualFunc_ggcsubsetSubsetSame1 K s1_1 s2_2 = some r) : Spec Try.prog 43 0 [.c (.imm (.slice (.pair (.int .i64) (.int .i64))) s1_1), .c (.imm (.slice (.pair (.int .i64) (.int .i64))) s2_2), .c (.clo 44 [])] [] (.c (.val (.bool r))) [] := by
  refine Spec_mk (fn := Try.f43) (c := (Try.f43.body).get!) Try.func43 (by kernel_rfl) rfl ?_
  intro C hN hn
  replace hN : C.N = 32 := hN
  unfold slices_EqualFunc_ggcsubsetSubsetSame1 at H
  refine V_run hN hn 5 0 [0, 1, 2, 14] [] ⟨[(0, .c (.imm (.slice (.pair (.int .i64) (.int .i64))) s1_1)), (1, .c (.imm (.slice (.pair (.int .i64) (.int .i64))) s2_2)), (2, .c (.clo 44 [])), (14, .c (.val (.bool ((((List.length s1_1) : Nat) : Int) != (((List.length s2_2) : Nat) : Int)))))], [], 0⟩ [] (by kernel_rfl) rfl rfl ap0 ?_
  refine VL_cond (((((List.length s1_1) : Nat) : Int) != (((List.length s2_2) : Nat) : Int))) (by kernel_rfl) ?_ ?_
  · intro b_4; have H_22 := of_t H b_4
    refine V_run hN hn 2 0 [6] [] ⟨[(6, .c (.val (.bool false)))], [], 0⟩ [] (by kernel_rfl) rfl rfl ap0 ?_
    have H_24 := Option.some.inj (show some false = some r from H_22); subst H_24
    refine VL_ret ?_
    exact P_to [(6, .c (.val (.bool false)))] [] [] hn (by kernel_rfl) (by kernel_rfl) rfl rfl rfl (QF_retS (by kernel_rfl) (by kernel_rfl) rfl)
  · intro b_4; have H_23 := of_f H b_4
    refine V_run hN hn 4 0 [1, 2, 15, 16, 17] [] ⟨[(1, .c (.imm (.slice (.pair (.int .i64) (.int .i64))) s2_2)), (2, .c (.clo 44 [])), (15, .c (.imm (.slice (.pair (.int .i64) (.int .i64))) s1_1)), (16, .c (.val (.int .i64 (((List.length s1_1) : Nat) : Int)))), (17, .c (.val (.int .i64 (0 : Int))))], [], 0⟩ [] (by kernel_rfl) rfl rfl ap0 ?_
    refine VL_block ?_
    refine V_to [(1, .c (.imm (.slice (.pair (.int .i64) (.int .i64))) s2_2)), (2, .c (.clo 44 [])), (15, .c (.imm (.slice (.pair (.int .i64) (.int .i64))) s1_1)), (16, .c (.val (.int .i64 (((List.length s1_1) : Nat) : Int)))), (17, .c (.val (.int .i64 (0 : Int))))] [] [] hn (by kernel_rfl) (by kernel_rfl) rfl rfl rfl ?_
    refine VL_loop (X := Int) (fun x => [(1, .c (.imm (.slice (.pair (.int .i64) (.int .i64))) s2_2)), (2, .c (.clo 44 [])), (15, .c (.imm (.slice (.pair (.int .i64) (.int .i64))) s1_1)), (16, .c (.val (.int .i64 (((List.length s1_1) : Nat) : Int)))), (17, .c (.val (.int .i64 x)))]) (fun x => []) (fun k x => slices_EqualFunc_ggcsubsetSubsetSame1.l0 K s1_1 s2_2 k x = some r) K (0 : Int) H_23 (fun _ h => no_none h) ?_
    intro k_8 t_7 H_25
    have H_26 : slices_EqualFunc_ggcsubsetSubsetSame1.l0 K s1_1 s2_2 (k_8 + 1) t_7 = some r := H_25
    rw [slices_EqualFunc_ggcsubsetSubsetSame1.l0] at H_26
    refine V_run hN hn 3 0 [1, 2, 15, 16, 17, 18] [] ⟨[(1, .c (.imm (.slice (.pair (.int .i64) (.int .i64))) s2_2)), (2, .c (.clo 44 [])), (15, .c (.imm (.slice (.pair (.int .i64) (.int .i64))) s1_1)), (16, .c (.val (.int .i64 (((List.length s1_1) : Nat) : Int)))), (17, .c (.val (.int .i64 t_7))), (18, .c (.val (.bool (decide (t_7 < (((List.length s1_1) : Nat) : Int))))))], [], 0⟩ [] (by kernel_rfl) rfl rfl ap0 ?_
    refine VL_cond ((decide (t_7 < (((List.length s1_1) : Nat) : Int)))) (by kernel_rfl) ?_ ?_
    · intro b_10; have H_27 := of_t H_26 b_10
      refine V_run hN hn 2 0 [1, 2, 15, 16, 17, 18] [] ⟨[(1, .c (.imm (.slice (.pair (.int .i64) (.int .i64))) s2_2)), (2, .c (.clo 44 [])), (15, .c (.imm (.slice (.pair (.int .i64) (.int .i64))) s1_1)), (16, .c (.val (.int .i64 (((List.length s1_1) : Nat) : Int)))), (17, .c (.val (.int .i64 t_7))), (18, .c (.val (.bool (decide (t_7 < (((List.length s1_1) : Nat) : Int))))))], [], 0⟩ [] (by kernel_rfl) rfl rfl ap0 ?_
      refine VL_block ?_
      obtain ⟨c_12, H_29⟩ := of_if H_27
      refine V_run hN hn 5 0 [1, 2, 8, 9, 15, 16, 17] [0, 1] ⟨[(1, .c (.imm (.slice (.pair (.int .i64) (.int .i64))) s2_2)), (2, .c (.clo 44 [])), (8, .c (.h 0)), (9, .c (.h 1)), (15, .c (.imm (.slice (.pair (.int .i64) (.int .i64))) s1_1)), (16, .c (.val (.int .i64 (((List.length s1_1) : Nat) : Int)))), (17, .c (.val (.int .i64 t_7)))], [(0, .box [.val (.int .i64 (List.getD s1_1 (Int.toNat t_7) ((0 : Int), (0 : Int))).1), .val (.int .i64 (List.getD s1_1 (Int.toNat t_7) ((0 : Int), (0 : Int))).2)]), (1, .box [.val (.int .i64 (List.getD s2_2 (Int.toNat t_7) ((0 : Int), (0 : Int))).1), .val (.int .i64 (List.getD s2_2 (Int.toNat t_7) ((0 : Int), (0 : Int))).2)])], 2⟩ [0 ≤ t_7, t_7 < (((List.length s1_1) : Nat) : Int), 0 ≤ t_7, t_7 < (((List.length s2_2) : Nat) : Int)] (by kernel_rfl) rfl rfl (ap2 c_12.1 (ap2 c_12.2.1 (ap2 c_12.1 (ap1 c_12.2.2)))) ?_
      obtain ⟨r_13, h_14, H_30⟩ := of_bind H_29
      refine V_reg hN hn [(3, ⟨44, 0, [.agg [.val (.int .i64 (List.getD s1_1 (Int.toNat t_7) ((0 : Int), (0 : Int))).1), .val (.int .i64 (List.getD s1_1 (Int.toNat t_7) ((0 : Int), (0 : Int))).2)], .agg [.val (.int .i64 (List.getD s2_2 (Int.toNat t_7) ((0 : Int), (0 : Int))).1), .val (.int .i64 (List.getD s2_2 (Int.toNat t_7) ((0 : Int), (0 : Int))).2)]], [], .c (.val (.bool r_13)), [], [], 2⟩)] [] (calls_cons (subset_Subset_Same_1_spec K (List.getD s1_1 (Int.toNat t_7) ((0 : Int), (0 : Int))).1 (List.getD s1_1 (Int.toNat t_7) ((0 : Int), (0 : Int))).2 (List.getD s2_2 (Int.toNat t_7) ((0 : Int), (0 : Int))).1 (List.getD s2_2 (Int.toNat t_7) ((0 : Int), (0 : Int))).2 r_13 h_14) (by kernel_rfl) calls_nil) 2 [1, 2, 15, 16, 17, 30] [] ⟨[(1, .c (.imm (.slice (.pair (.int .i64) (.int .i64))) s2_2)), (2, .c (.clo 44 [])), (15, .c (.imm (.slice (.pair (.int .i64) (.int .i64))) s1_1)), (16, .c (.val (.int .i64 (((List.length s1_1) : Nat) : Int)))), (17, .c (.val (.int .i64 t_7))), (30, .c (.val (.bool (!r_13))))], [], 2⟩ [] (by kernel_rfl) rfl rfl ap0 (by kernel_rfl) (by kernel_rfl) ?_
      refine VL_cond ((!r_13)) (by kernel_rfl) ?_ ?_
      · intro b_16; have H_31 := of_t H_30 b_16
        refine V_run hN hn 2 2 [6] [] ⟨[(6, .c (.val (.bool false)))], [], 2⟩ [] (by kernel_rfl) rfl rfl ap0 ?_
        have H_33 := Option.some.inj (show some false = some r from H_31); subst H_33
        refine VL_ret ?_
        refine QB_ret ?_
        refine QL_ret ?_
        refine QB_ret ?_
        exact P_to [(6, .c (.val (.bool false)))] [] [] hn (by kernel_rfl) (by kernel_rfl) rfl rfl rfl (QF_retS (by kernel_rfl) (by kernel_rfl) rfl)
      · intro b_16; have H_32 := of_f H_30 b_16
        refine V_run hN hn 1 2 [1, 2, 15, 16, 17, 30] [] ⟨[(1, .c (.imm (.slice (.pair (.int .i64) (.int .i64))) s2_2)), (2, .c (.clo 44 [])), (15, .c (.imm (.slice (.pair (.int .i64) (.int .i64))) s1_1)), (16, .c (.val (.int .i64 (((List.length s1_1) : Nat) : Int)))), (17, .c (.val (.int .i64 t_7))), (30, .c (.val (.bool (!r_13))))], [], 2⟩ [] (by kernel_rfl) rfl rfl ap0 ?_
        refine VL_nil (QB_end ?_)
        refine V_run hN hn 1 2 [1, 2, 15, 16, 17] [] ⟨[(1, .c (.imm (.slice (.pair (.int .i64) (.int .i64))) s2_2)), (2, .c (.clo 44 [])), (15, .c (.imm (.slice (.pair (.int .i64) (.int .i64))) s1_1)), (16, .c (.val (.int .i64 (((List.length s1_1) : Nat) : Int)))), (17, .c (.val (.int .i64 (IntKind.wrap .i64 (t_7 + (1 : Int))))))], [], 2⟩ [] (by kernel_rfl) rfl rfl ap0 ?_
        refine VL_nil ?_
        exact V_roundEnd (IntKind.wrap .i64 (t_7 + (1 : Int))) H_32 [] hn (by kernel_rfl) (by kernel_rfl) rfl rfl rfl
    · intro b_10; have H_28 := of_f H_26 b_10
      refine VL_exit ?_
      refine QL_exit ?_
      refine QB_here ?_
      refine V_run hN hn 2 0 [6] [] ⟨[(6, .c (.val (.bool true)))], [], 0⟩ [] (by kernel_rfl) rfl rfl ap0 ?_
      have H_34 := Option.some.inj (show some true = some r from H_28); subst H_34
      refine VL_ret ?_
      exact P_to [(6, .c (.val (.bool true)))] [] [] hn (by kernel_rfl) (by kernel_rfl) rfl rfl rfl (QF_retS (by kernel_rfl) (by kernel_rfl) rfl)

theorem subset_Subset_Same_spec (K : Nat) (s_1 : (Option ((List (Int × Int)) × Int))) (o_2 : (Option ((List (Int × Int)) × Int))) (r : Bool) (H : subset_Subset_Same K s_1 o_2 = some r) : Spec Try.prog 19 0 [.c (.imm (.opt (.pair (.slice (.pair (.int .i64) (.int .i64))) (.int .i64))) s_1), .c (.imm (.opt (.pair (.slice (.pair (.int .i64) (.int .i64))) (.int .i64))) o_2)] [] (.c (.val (.bool r))) [] := by
  refine Spec_mk (fn := Try.f19) (c := (Try.f19.body).get!) Try.func19 (by kernel_rfl) rfl ?_
  intro C hN hn
  replace hN : C.N = 32 := hN
  unfold subset_Subset_Same at H
  refine V_run hN hn 5 0 [0, 1, 6] [] ⟨[(0, .c (.imm (.opt (.pair (.slice (.pair (.int .i64) (.int .i64))) (.int .i64))) s_1)), (1, .c (.imm (.opt (.pair (.slice (.pair (.int .i64) (.int .i64))) (.int .i64))) o_2)), (6, .c (.val (.bool (Option.isNone o_2))))], [], 0⟩ [] (by kernel_rfl) rfl rfl ap0 ?_
  refine VL_cond ((Option.isNone o_2)) (by kernel_rfl) ?_ ?_
  · intro b_4; have H_13 := of_t H b_4
    obtain ⟨c_5, H_15⟩ := of_if H_13
    refine V_run hN hn 2 0 [4] [] ⟨[(4, .c (.val (.bool ((Option.getD s_1 (([] : (List (Int × Int))), (0 : Int))).2 == (0 : Int)))))], [], 0⟩ [Option.isSome s_1 = true] (by kernel_rfl) rfl rfl (ap1 c_5) ?_
    have H_16 := Option.some.inj (show some ((Option.getD s_1 (([] : (List (Int × Int))), (0 : Int))).2 == (0 : Int)) = some r from H_15); subst H_16
    refine VL_ret ?_
    exact P_to [(4, .c (.val (.bool ((Option.getD s_1 (([] : (List (Int × Int))), (0 : Int))).2 == (0 : Int)))))] [] [] hn (by kernel_rfl) (by kernel_rfl) rfl rfl rfl (QF_retS (by kernel_rfl) (by kernel_rfl) rfl)
  · intro b_4; have H_14 := of_f H b_4
    refine V_run hN hn 2 0 [0, 1, 6] [] ⟨[(0, .c (.imm (.opt (.pair (.slice (.pair (.int .i64) (.int .i64))) (.int .i64))) s_1)), (1, .c (.imm (.opt (.pair (.slice (.pair (.int .i64) (.int .i64))) (.int .i64))) o_2)), (6, .c (.val (.bool (Option.isNone o_2))))], [], 0⟩ [] (by kernel_rfl) rfl rfl ap0 ?_
    rcases Bool.eq_false_or_eq_true (((Option.getD s_1 (([] : (List (Int × Int))), (0 : Int))).2 == (Option.getD o_2 (([] : (List (Int × Int))), (0 : Int))).2)) with b_7 | b_7
    · have H_17 := of_t H_14 b_7
      obtain ⟨r_8, h_9, H_19⟩ := of_bind H_17
      obtain ⟨c_10, H_20⟩ := of_if H_19
      refine V_draw hN hn (by kernel_rfl) [(18, ⟨43, 0, [.c (.imm (.slice (.pair (.int .i64) (.int .i64))) (Option.getD s_1 (([] : (List (Int × Int))), (0 : Int))).1), .c (.imm (.slice (.pair (.int .i64) (.int .i64))) (Option.getD o_2 (([] : (List (Int × Int))), (0 : Int))).1), .c (.clo 44 [])], [], .c (.val (.bool r_8)), [], [], 0⟩)] [(21, true)] (calls_cons (slices_EqualFunc_ggcsubsetSubsetSame1_spec K (Option.getD s_1 (([] : (List (Int × Int))), (0 : Int))).1 (Option.getD o_2 (([] : (List (Int × Int))), (0 : Int))).1 r_8 h_9) (by kernel_rfl) calls_nil) 0 [4] [] ⟨[(4, .c (.val (.bool r_8)))], [], 0⟩ [Option.isSome s_1 = true, Option.isSome o_2 = true, ((Option.getD s_1 (([] : (List (Int × Int))), (0 : Int))).2 == (Option.getD o_2 (([] : (List (Int × Int))), (0 : Int))).2) = true, Option.isSome s_1 = true, Option.isSome o_2 = true] (by kernel_rfl) rfl rfl (ap2 c_10.1 (ap2 c_10.2 (ap2 b_7 (ap2 c_10.1 (ap1 c_10.2))))) (by kernel_rfl) (by kernel_rfl) ?_
      have H_21 := Option.some.inj (show some r_8 = some r from H_20); subst H_21
      refine VL_ret ?_
      exact P_to [(4, .c (.val (.bool r_8)))] [] [] hn (by kernel_rfl) (by kernel_rfl) rfl rfl rfl (QF_retS (by kernel_rfl) (by kernel_rfl) rfl)
    · have H_18 := of_f H_14 b_7
      obtain ⟨c_11, H_22⟩ := of_if H_18
      refine V_draw hN hn (by kernel_rfl) [] [(21, false)] calls_nil 0 [4] [] ⟨[(4, .c (.val (.bool false)))], [], 0⟩ [Option.isSome s_1 = true, Option.isSome o_2 = true, ((Option.getD s_1 (([] : (List (Int × Int))), (0 : Int))).2 == (Option.getD o_2 (([] : (List (Int × Int))), (0 : Int))).2) = false] (by kernel_rfl) rfl rfl (ap2 c_11.1 (ap2 c_11.2 (ap1 b_7))) (by kernel_rfl) (by kernel_rfl) ?_
      have H_23 := Option.some.inj (show some false = some r from H_22); subst H_23
      refine VL_ret ?_
      exact P_to [(4, .c (.val (.bool false)))] [] [] hn (by kernel_rfl) (by kernel_rfl) rfl rfl rfl (QF_retS (by kernel_rfl) (by kernel_rfl) rfl)

theorem palinodelaw7_equal_gr_spec (K : Nat) (a_1 : (List Int)) (b_2 : (List Int)) (r : Bool) (H : palinodelaw7_equal_gr K a_1 b_2 = some r) : Spec Try.prog 38 1 [.c (.imm (.slice (.int .i64)) a_1), .c (.h 0)] [(0, .row (.int .i64) b_2)] (.c (.val (.bool r))) [(0, .row (.int .i64) b_2)] := by
  refine Spec_mk (fn := Try.f38) (c := (Try.f38.body).get!) Try.func38 (by kernel_rfl) rfl ?_
  intro C hN hn
  replace hN : C.N = 21 := hN
  unfold palinodelaw7_equal_gr at H
  refine V_run hN hn 5 1 [0, 1, 5] [0] ⟨[(0, .c (.imm (.slice (.int .i64)) a_1)), (1, .c (.h 0)), (5, .c (.val (.int .i64 (0 : Int))))], [(0, .row (.int .i64) b_2)], 1⟩ [] (by kernel_rfl) rfl rfl ap0 ?_
  refine VL_block ?_
  refine V_to [(0, .c (.imm (.slice (.int .i64)) a_1)), (1, .c (.h 0)), (5, .c (.val (.int .i64 (0 : Int))))] [(0, .row (.int .i64) b_2)] [] hn (by kernel_rfl) (by kernel_rfl) rfl rfl rfl ?_
  refine VL_loop (X := Int) (fun x => [(0, .c (.imm (.slice (.int .i64)) a_1)), (1, .c (.h 0)), (5, .c (.val (.int .i64 x)))]) (fun x => [(0, .row (.int .i64) b_2)]) (fun k x => palinodelaw7_equal_gr.l0 K a_1 b_2 k x = some r) K (0 : Int) H (fun _ h => no_none h) ?_
  intro k_5 i_4 H_17
  have H_18 : palinodelaw7_equal_gr.l0 K a_1 b_2 (k_5 + 1) i_4 = some r := H_17
  rw [palinodelaw7_equal_gr.l0] at H_18
  refine V_run hN hn 3 1 [0, 1, 5, 9] [0] ⟨[(0, .c (.imm (.slice (.int .i64)) a_1)), (1, .c (.h 0)), (5, .c (.val (.int .i64 i_4))), (9, .c (.val (.bool (decide (i_4 < (((List.length a_1) : Nat) : Int))))))], [(0, .row (.int .i64) b_2)], 1⟩ [] (by kernel_rfl) rfl rfl ap0 ?_
  refine VL_cond ((decide (i_4 < (((List.length a_1) : Nat) : Int)))) (by kernel_rfl) ?_ ?_
  · intro b_7; have H_19 := of_t H_18 b_7
    refine V_run hN hn 2 1 [0, 1, 5, 9] [0] ⟨[(0, .c (.imm (.slice (.int .i64)) a_1)), (1, .c (.h 0)), (5, .c (.val (.int .i64 i_4))), (9, .c (.val (.bool (decide (i_4 < (((List.length a_1) : Nat) : Int))))))], [(0, .row (.int .i64) b_2)], 1⟩ [] (by kernel_rfl) rfl rfl ap0 ?_
    refine VL_block ?_
    refine V_run hN hn 1 1 [0, 1, 5, 9] [0] ⟨[(0, .c (.imm (.slice (.int .i64)) a_1)), (1, .c (.h 0)), (5, .c (.val (.int .i64 i_4))), (9, .c (.val (.bool (decide (i_4 < (((List.length a_1) : Nat) : Int))))))], [(0, .row (.int .i64) b_2)], 1⟩ [] (by kernel_rfl) rfl rfl ap0 ?_
    obtain ⟨c_10, H_21⟩ := of_if H_19
    refine V_draw hN hn (by kernel_rfl) [] [] calls_nil 1 [0, 1, 5, 20] [0] ⟨[(0, .c (.imm (.slice (.int .i64)) a_1)), (1, .c (.h 0)), (5, .c (.val (.int .i64 i_4))), (20, .c (.val (.bool ((List.getD a_1 (Int.toNat i_4) (0 : Int)) != (List.getD b_2 (Int.toNat i_4) (0 : Int))))))], [(0, .row (.int .i64) b_2)], 1⟩ [0 ≤ i_4, i_4 < (((List.length a_1) : Nat) : Int), 0 ≤ i_4, i_4 < (((List.length b_2) : Nat) : Int)] (by kernel_rfl) rfl rfl (ap2 c_10.1 (ap2 c_10.2.1 (ap2 c_10.1 (ap1 c_10.2.2)))) (by kernel_rfl) (by kernel_rfl) ?_
    refine VL_cond (((List.getD a_1 (Int.toNat i_4) (0 : Int)) != (List.getD b_2 (Int.toNat i_4) (0 : Int)))) (by kernel_rfl) ?_ ?_
    · intro b_11; have H_22 := of_t H_21 b_11
      refine V_run hN hn 2 1 [4] [0] ⟨[(4, .c (.val (.bool false)))], [(0, .row (.int .i64) b_2)], 1⟩ [] (by kernel_rfl) rfl rfl ap0 ?_
      have H_24 := Option.some.inj (show some false = some r from H_22); subst H_24
      refine VL_ret ?_
      refine QB_ret ?_
      refine QL_ret ?_
      refine QB_ret ?_
      exact P_to [(4, .c (.val (.bool false)))] [(0, .row (.int .i64) b_2)] [] hn (by kernel_rfl) (by kernel_rfl) rfl rfl rfl (QF_retS (by kernel_rfl) (by kernel_rfl) rfl)
    · intro b_11; have H_23 := of_f H_21 b_11
      refine V_run hN hn 1 1 [0, 1, 5, 20] [0] ⟨[(0, .c (.imm (.slice (.int .i64)) a_1)), (1, .c (.h 0)), (5, .c (.val (.int .i64 i_4))), (20, .c (.val (.bool ((List.getD a_1 (Int.toNat i_4) (0 : Int)) != (List.getD b_2 (Int.toNat i_4) (0 : Int))))))], [(0, .row (.int .i64) b_2)], 1⟩ [] (by kernel_rfl) rfl rfl ap0 ?_
      refine VL_nil (QB_end ?_)
      refine V_run hN hn 1 1 [0, 1, 5] [0] ⟨[(0, .c (.imm (.slice (.int .i64)) a_1)), (1, .c (.h 0)), (5, .c (.val (.int .i64 (IntKind.wrap .i64 (i_4 + (1 : Int))))))], [(0, .row (.int .i64) b_2)], 1⟩ [] (by kernel_rfl) rfl rfl ap0 ?_
      refine VL_nil ?_
      exact V_roundEnd (IntKind.wrap .i64 (i_4 + (1 : Int))) H_23 [] hn (by kernel_rfl) (by kernel_rfl) rfl rfl rfl
  · intro b_7; have H_20 := of_f H_18 b_7
    refine VL_exit ?_
    refine QL_exit ?_
    refine QB_here ?_
    refine V_run hN hn 2 1 [4] [0] ⟨[(4, .c (.val (.bool true)))], [(0, .row (.int .i64) b_2)], 1⟩ [] (by kernel_rfl) rfl rfl ap0 ?_
    have H_25 := Option.some.inj (show some true = some r from H_20); subst H_25
    refine VL_ret ?_
    exact P_to [(4, .c (.val (.bool true)))] [(0, .row (.int .i64) b_2)] [] hn (by kernel_rfl) (by kernel_rfl) rfl rfl rfl (QF_retS (by kernel_rfl) (by kernel_rfl) rfl)

theorem palinodelaw7_equal_spec (K : Nat) (a_1 : (List Int)) (b_2 : (List Int)) (r : Bool) (H : palinodelaw7_equal_gr K a_1 b_2 = some r) : Spec Try.prog 38 0 [.c (.imm (.slice (.int .i64)) a_1), .c (.imm (.slice (.int .i64)) b_2)] [] (.c (.val (.bool r))) [] := by
  refine Spec_mk (fn := Try.f38) (c := (Try.f38.body).get!) Try.func38 (by kernel_rfl) rfl ?_
  intro C hN hn
  replace hN : C.N = 21 := hN
  unfold palinodelaw7_equal_gr at H
  refine V_run hN hn 5 0 [0, 1, 5] [] ⟨[(0, .c (.imm (.slice (.int .i64)) a_1)), (1, .c (.imm (.slice (.int .i64)) b_2)), (5, .c (.val (.int .i64 (0 : Int))))], [], 0⟩ [] (by kernel_rfl) rfl rfl ap0 ?_
  refine VL_block ?_
  refine V_to [(0, .c (.imm (.slice (.int .i64)) a_1)), (1, .c (.imm (.slice (.int .i64)) b_2)), (5, .c (.val (.int .i64 (0 : Int))))] [] [] hn (by kernel_rfl) (by kernel_rfl) rfl rfl rfl ?_
  refine VL_loop (X := Int) (fun x => [(0, .c (.imm (.slice (.int .i64)) a_1)), (1, .c (.imm (.slice (.int .i64)) b_2)), (5, .c (.val (.int .i64 x)))]) (fun x => []) (fun k x => palinodelaw7_equal_gr.l0 K a_1 b_2 k x = some r) K (0 : Int) H (fun _ h => no_none h) ?_
  intro k_5 i_4 H_17
  have H_18 : palinodelaw7_equal_gr.l0 K a_1 b_2 (k_5 + 1) i_4 = some r := H_17
  rw [palinodelaw7_equal_gr.l0] at H_18
  refine V_run hN hn 3 0 [0, 1, 5, 9] [] ⟨[(0, .c (.imm (.slice (.int .i64)) a_1)), (1, .c (.imm (.slice (.int .i64)) b_2)), (5, .c (.val (.int .i64 i_4))), (9, .c (.val (.bool (decide (i_4 < (((List.length a_1) : Nat) : Int))))))], [], 0⟩ [] (by kernel_rfl) rfl rfl ap0 ?_
  refine VL_cond ((decide (i_4 < (((List.length a_1) : Nat) : Int)))) (by kernel_rfl) ?_ ?_
  · intro b_7; have H_19 := of_t H_18 b_7
    refine V_run hN hn 2 0 [0, 1, 5, 9] [] ⟨[(0, .c (.imm (.slice (.int .i64)) a_1)), (1, .c (.imm (.slice (.int .i64)) b_2)), (5, .c (.val (.int .i64 i_4))), (9, .c (.val (.bool (decide (i_4 < (((List.length a_1) : Nat) : Int))))))], [], 0⟩ [] (by kernel_rfl) rfl rfl ap0 ?_
    refine VL_block ?_
    refine V_run hN hn 1 0 [0, 1, 5, 9] [] ⟨[(0, .c (.imm (.slice (.int .i64)) a_1)), (1, .c (.imm (.slice (.int .i64)) b_2)), (5, .c (.val (.int .i64 i_4))), (9, .c (.val (.bool (decide (i_4 < (((List.length a_1) : Nat) : Int))))))], [], 0⟩ [] (by kernel_rfl) rfl rfl ap0 ?_
    obtain ⟨c_10, H_21⟩ := of_if H_19
    refine V_draw hN hn (by kernel_rfl) [] [] calls_nil 0 [0, 1, 5, 20] [] ⟨[(0, .c (.imm (.slice (.int .i64)) a_1)), (1, .c (.imm (.slice (.int .i64)) b_2)), (5, .c (.val (.int .i64 i_4))), (20, .c (.val (.bool ((List.getD a_1 (Int.toNat i_4) (0 : Int)) != (List.getD b_2 (Int.toNat i_4) (0 : Int))))))], [], 0⟩ [0 ≤ i_4, i_4 < (((List.length a_1) : Nat) : Int), 0 ≤ i_4, i_4 < (((List.length b_2) : Nat) : Int)] (by kernel_rfl) rfl rfl (ap2 c_10.1 (ap2 c_10.2.1 (ap2 c_10.1 (ap1 c_10.2.2)))) (by kernel_rfl) (by kernel_rfl) ?_
    refine VL_cond (((List.getD a_1 (Int.toNat i_4) (0 : Int)) != (List.getD b_2 (Int.toNat i_4) (0 : Int)))) (by kernel_rfl) ?_ ?_
    · intro b_11; have H_22 := of_t H_21 b_11
      refine V_run hN hn 2 0 [4] [] ⟨[(4, .c (.val (.bool false)))], [], 0⟩ [] (by kernel_rfl) rfl rfl ap0 ?_
      have H_24 := Option.some.inj (show some false = some r from H_22); subst H_24
      refine VL_ret ?_
      refine QB_ret ?_
      refine QL_ret ?_
      refine QB_ret ?_
      exact P_to [(4, .c (.val (.bool false)))] [] [] hn (by kernel_rfl) (by kernel_rfl) rfl rfl rfl (QF_retS (by kernel_rfl) (by kernel_rfl) rfl)
    · intro b_11; have H_23 := of_f H_21 b_11
      refine V_run hN hn 1 0 [0, 1, 5, 20] [] ⟨[(0, .c (.imm (.slice (.int .i64)) a_1)), (1, .c (.imm (.slice (.int .i64)) b_2)), (5, .c (.val (.int .i64 i_4))), (20, .c (.val (.bool ((List.getD a_1 (Int.toNat i_4) (0 : Int)) != (List.getD b_2 (Int.toNat i_4) (0 : Int))))))], [], 0⟩ [] (by kernel_rfl) rfl rfl ap0 ?_
      refine VL_nil (QB_end ?_)
      refine V_run hN hn 1 0 [0, 1, 5] [] ⟨[(0, .c (.imm (.slice (.int .i64)) a_1)), (1, .c (.imm (.slice (.int .i64)) b_2)), (5, .c (.val (.int .i64 (IntKind.wrap .i64 (i_4 + (1 : Int))))))], [], 0⟩ [] (by kernel_rfl) rfl rfl ap0 ?_
      refine VL_nil ?_
      exact V_roundEnd (IntKind.wrap .i64 (i_4 + (1 : Int))) H_23 [] hn (by kernel_rfl) (by kernel_rfl) rfl rfl rfl
  · intro b_7; have H_20 := of_f H_18 b_7
    refine VL_exit ?_
    refine QL_exit ?_
    refine QB_here ?_
    refine V_run hN hn 2 0 [4] [] ⟨[(4, .c (.val (.bool true)))], [], 0⟩ [] (by kernel_rfl) rfl rfl ap0 ?_
    have H_25 := Option.some.inj (show some true = some r from H_20); subst H_25
    refine VL_ret ?_
    exact P_to [(4, .c (.val (.bool true)))] [] [] hn (by kernel_rfl) (by kernel_rfl) rfl rfl rfl (QF_retS (by kernel_rfl) (by kernel_rfl) rfl)

theorem palinodelaw7_SubsetPlays_spec (K : Nat) (segs_1 : (List (Int × Int))) (l_2 : (List (Int × (Int × Int)))) (r : Bool) (H : palinodelaw7_SubsetPlays K segs_1 l_2 = some r) : Spec Try.prog 8 0 [.c (.imm (.slice (.pair (.int .i64) (.int .i64))) segs_1), .c (.imm (.slice (.pair (.int .i64) (.pair (.int .i64) (.int .i64)))) l_2)] [] (.c (.val (.bool r))) [] := by
  refine Spec_mk (fn := Try.f8) (c := (Try.f8.body).get!) Try.func8 (by kernel_rfl) rfl ?_
  intro C hN hn
  replace hN : C.N = 158 := hN
  unfold palinodelaw7_SubsetPlays at H
  refine V_run hN hn 4 0 [0, 1] [] ⟨[(0, .c (.imm (.slice (.pair (.int .i64) (.int .i64))) segs_1)), (1, .c (.imm (.slice (.pair (.int .i64) (.pair (.int .i64) (.int .i64)))) l_2))], [], 0⟩ [] (by kernel_rfl) rfl rfl ap0 ?_
  obtain ⟨r_4, h_5, H_229⟩ := of_bind H
  refine V_reg hN hn [(0, ⟨12, 0, [], [], .c (.val (.bool r_4)), [], [], 0⟩)] [] (calls_cons (palinodelaw7_known_spec K  r_4 h_5) (by kernel_rfl) calls_nil) 0 [0, 1, 17] [] ⟨[(0, .c (.imm (.slice (.pair (.int .i64) (.int .i64))) segs_1)), (1, .c (.imm (.slice (.pair (.int .i64) (.pair (.int .i64) (.int .i64)))) l_2)), (17, .c (.val (.bool (!r_4))))], [], 0⟩ [] (by kernel_rfl) rfl rfl ap0 (by kernel_rfl) (by kernel_rfl) ?_
  refine VL_cond ((!r_4)) (by kernel_rfl) ?_ ?_
  · intro b_7; have H_230 := of_t H_229 b_7
    refine V_run hN hn 2 0 [4] [] ⟨[(4, .c (.val (.bool false)))], [], 0⟩ [] (by kernel_rfl) rfl rfl ap0 ?_
    have H_232 := Option.some.inj (show some false = some r from H_230); subst H_232
    refine VL_ret ?_
    exact P_to [(4, .c (.val (.bool false)))] [] [] hn (by kernel_rfl) (by kernel_rfl) rfl rfl rfl (QF_retS (by kernel_rfl) (by kernel_rfl) rfl)
  · intro b_7; have H_231 := of_f H_229 b_7
    refine V_run hN hn 3 0 [0, 1, 17] [] ⟨[(0, .c (.imm (.slice (.pair (.int .i64) (.int .i64))) segs_1)), (1, .c (.imm (.slice (.pair (.int .i64) (.pair (.int .i64) (.int .i64)))) l_2)), (17, .c (.val (.bool (!r_4))))], [], 0⟩ [] (by kernel_rfl) rfl rfl ap0 ?_
    obtain ⟨q_233, H_234, H_235⟩ := of_bind H_231
    refine V_cut (Y := Bool) (R := Bool) q_233 (fun y => y) (fun y => [(0, .c (.imm (.slice (.pair (.int .i64) (.int .i64))) segs_1)), (1, .c (.imm (.slice (.pair (.int .i64) (.pair (.int .i64) (.int .i64)))) l_2)), (25, .c (.val (.bool y)))]) (fun y => []) ?_ ?_
    · skip
      obtain ⟨r_10, h_11, H_237⟩ := of_bind H_234
      rcases Bool.eq_false_or_eq_true ((!r_10)) with b_12 | b_12
      · have H_238 := of_t H_237 b_12
        refine V_reg hN hn [(1, ⟨34, 0, [.c (.imm (.slice (.pair (.int .i64) (.int .i64))) segs_1)], [], .c (.val (.bool r_10)), [], [], 0⟩)] [(21, true)] (calls_cons (palinodelaw7_few_spec K segs_1 r_10 h_11) (by kernel_rfl) calls_nil) 0 [0, 1, 25] [] ⟨[(0, .c (.imm (.slice (.pair (.int .i64) (.int .i64))) segs_1)), (1, .c (.imm (.slice (.pair (.int .i64) (.pair (.int .i64) (.int .i64)))) l_2)), (25, .c (.val (.bool true)))], [], 0⟩ [(!r_10) = true] (by kernel_rfl) rfl rfl (ap1 b_12) (by kernel_rfl) (by kernel_rfl) ?_
        have H_240 := Option.some.inj (show some true = some q_233 from H_238); subst H_240
        refine VL_nil ?_
        exact QP_end true rfl [] hn (by kernel_rfl) (by kernel_rfl) rfl rfl rfl
      · have H_239 := of_f H_237 b_12
        refine V_reg hN hn [(1, ⟨34, 0, [.c (.imm (.slice (.pair (.int .i64) (.int .i64))) segs_1)], [], .c (.val (.bool r_10)), [], [], 0⟩)] [(21, false)] (calls_cons (palinodelaw7_few_spec K segs_1 r_10 h_11) (by kernel_rfl) calls_nil) 0 [0, 1, 25] [] ⟨[(0, .c (.imm (.slice (.pair (.int .i64) (.int .i64))) segs_1)), (1, .c (.imm (.slice (.pair (.int .i64) (.pair (.int .i64) (.int .i64)))) l_2)), (25, .c (.val (.bool (decide ((((List.length l_2) : Nat) : Int) > (20 : Int))))))], [], 0⟩ [(!r_10) = false] (by kernel_rfl) rfl rfl (ap1 b_12) (by kernel_rfl) (by kernel_rfl) ?_
        have H_241 := Option.some.inj (show some (decide ((((List.length l_2) : Nat) : Int) > (20 : Int))) = some q_233 from H_239); subst H_241
        refine VL_nil ?_
        exact QP_end (decide ((((List.length l_2) : Nat) : Int) > (20 : Int))) rfl [] hn (by kernel_rfl) (by kernel_rfl) rfl rfl rfl
    · intro y_236 hy; subst hy
      skip
      skip
      refine VL_cond (y_236) (by kernel_rfl) ?_ ?_
      · intro b_16; have H_242 := of_t H_235 b_16
        refine V_run hN hn 2 0 [4] [] ⟨[(4, .c (.val (.bool true)))], [], 0⟩ [] (by kernel_rfl) rfl rfl ap0 ?_
        have H_244 := Option.some.inj (show some true = some r from H_242); subst H_244
        refine VL_ret ?_
        exact P_to [(4, .c (.val (.bool true)))] [] [] hn (by kernel_rfl) (by kernel_rfl) rfl rfl rfl (QF_retS (by kernel_rfl) (by kernel_rfl) rfl)
      · intro b_16; have H_243 := of_f H_235 b_16
        refine V_run hN hn 2 0 [0, 1, 25] [] ⟨[(0, .c (.imm (.slice (.pair (.int .i64) (.int .i64))) segs_1)), (1, .c (.imm (.slice (.pair (.int .i64) (.pair (.int .i64) (.int .i64)))) l_2)), (25, .c (.val (.bool y_236)))], [], 0⟩ [] (by kernel_rfl) rfl rfl ap0 ?_
        obtain ⟨r_19, h_20, H_245⟩ := of_bind H_243
        refine V_reg hN hn [(1, ⟨16, 0, [.c (.imm (.slice (.pair (.int .i64) (.int .i64))) segs_1)], [], .tup [(false, [.imm (.opt (.pair (.slice (.pair (.int .i64) (.int .i64))) (.int .i64))) r_19.1]), (false, [.val (.int .i64 r_19.2)])], [], [], 0⟩)] [] (calls_cons (subset_Of_spec K segs_1 r_19 h_20) (by kernel_rfl) calls_nil) 0 [0, 1, 5, 6] [] ⟨[(0, .c (.imm (.slice (.pair (.int .i64) (.int .i64))) segs_1)), (1, .c (.imm (.slice (.pair (.int .i64) (.pair (.int .i64) (.int .i64)))) l_2)), (5, .c (.imm (.opt (.pair (.slice (.pair (.int .i64) (.int .i64))) (.int .i64))) r_19.1)), (6, .c (.val (.int .i64 r_19.2)))], [], 0⟩ [] (by kernel_rfl) rfl rfl ap0 (by kernel_rfl) (by kernel_rfl) ?_
        refine V_run hN hn 1 0 [0, 1, 5, 6] [] ⟨[(0, .c (.imm (.slice (.pair (.int .i64) (.int .i64))) segs_1)), (1, .c (.imm (.slice (.pair (.int .i64) (.pair (.int .i64) (.int .i64)))) l_2)), (5, .c (.imm (.opt (.pair (.slice (.pair (.int .i64) (.int .i64))) (.int .i64))) r_19.1)), (6, .c (.val (.int .i64 r_19.2)))], [], 0⟩ [] (by kernel_rfl) rfl rfl ap0 ?_
        obtain ⟨r_23, h_24, H_246⟩ := of_bind H_245
        refine V_reg hN hn [(1, ⟨35, 0, [.c (.imm (.slice (.pair (.int .i64) (.int .i64))) segs_1)], [], .tup [(false, [.h 5]), (false, [.val (.int .i64 r_23.2)])], [(5, .row (.int .i64) r_23.1)], [(5, 0)], 1⟩)] [] (calls_cons (palinoderef7_Of_spec K segs_1 r_23 h_24) (by kernel_rfl) calls_nil) 0 [1, 5, 6, 7, 8] [0] ⟨[(1, .c (.imm (.slice (.pair (.int .i64) (.pair (.int .i64) (.int .i64)))) l_2)), (5, .c (.imm (.opt (.pair (.slice (.pair (.int .i64) (.int .i64))) (.int .i64))) r_19.1)), (6, .c (.val (.int .i64 r_19.2))), (7, .c (.h 0)), (8, .c (.val (.int .i64 r_23.2)))], [(0, .row (.int .i64) r_23.1)], 1⟩ [] (by kernel_rfl) rfl rfl ap0 (by kernel_rfl) (by kernel_rfl) ?_
        refine V_run hN hn 2 1 [1, 5, 6, 7, 8] [0] ⟨[(1, .c (.imm (.slice (.pair (.int .i64) (.pair (.int .i64) (.int .i64)))) l_2)), (5, .c (.imm (.opt (.pair (.slice (.pair (.int .i64) (.int .i64))) (.int .i64))) r_19.1)), (6, .c (.val (.int .i64 r_19.2))), (7, .c (.h 0)), (8, .c (.val (.int .i64 r_23.2)))], [(0, .row (.int .i64) r_23.1)], 1⟩ [] (by kernel_rfl) rfl rfl ap0 ?_
        obtain ⟨q_247, H_248, H_249⟩ := of_bind H_246
        refine V_cut (Y := Bool) (R := Bool) q_247 (fun y => y) (fun y => [(1, .c (.imm (.slice (.pair (.int .i64) (.pair (.int .i64) (.int .i64)))) l_2)), (5, .c (.imm (.opt (.pair (.slice (.pair (.int .i64) (.int .i64))) (.int .i64))) r_19.1)), (6, .c (.val (.int .i64 r_19.2))), (7, .c (.h 0)), (45, .c (.val (.bool y)))]) (fun y => [(0, .row (.int .i64) r_23.1)]) ?_ ?_
        · skip
          rcases Bool.eq_false_or_eq_true ((r_19.2 != r_23.2)) with b_27 | b_27
          · have H_251 := of_t H_248 b_27
            refine V_reg hN hn [] [(39, true)] calls_nil 1 [1, 5, 6, 7, 45] [0] ⟨[(1, .c (.imm (.slice (.pair (.int .i64) (.pair (.int .i64) (.int .i64)))) l_2)), (5, .c (.imm (.opt (.pair (.slice (.pair (.int .i64) (.int .i64))) (.int .i64))) r_19.1)), (6, .c (.val (.int .i64 r_19.2))), (7, .c (.h 0)), (45, .c (.val (.bool true)))], [(0, .row (.int .i64) r_23.1)], 1⟩ [(r_19.2 != r_23.2) = true] (by kernel_rfl) rfl rfl (ap1 b_27) (by kernel_rfl) (by kernel_rfl) ?_
            have H_253 := Option.some.inj (show some true = some q_247 from H_251); subst H_253
            refine VL_nil ?_
            exact QP_end true rfl [(0, 0)] hn (by kernel_rfl) (by kernel_rfl) rfl rfl rfl
          · have H_252 := of_f H_248 b_27
            refine V_reg hN hn [] [(39, false)] calls_nil 1 [1, 5, 6, 7, 45] [0] ⟨[(1, .c (.imm (.slice (.pair (.int .i64) (.pair (.int .i64) (.int .i64)))) l_2)), (5, .c (.imm (.opt (.pair (.slice (.pair (.int .i64) (.int .i64))) (.int .i64))) r_19.1)), (6, .c (.val (.int .i64 r_19.2))), (7, .c (.h 0)), (45, .c (.val (.bool (!((Option.isNone r_19.1) == (r_19.2 != (0 : Int)))))))], [(0, .row (.int .i64) r_23.1)], 1⟩ [(r_19.2 != r_23.2) = false] (by kernel_rfl) rfl rfl (ap1 b_27) (by kernel_rfl) (by kernel_rfl) ?_
            have H_254 := Option.some.inj (show some (!((Option.isNone r_19.1) == (r_19.2 != (0 : Int)))) = some q_247 from H_252); subst H_254
            refine VL_nil ?_
            exact QP_end (!((Option.isNone r_19.1) == (r_19.2 != (0 : Int)))) rfl [(0, 0)] hn (by kernel_rfl) (by kernel_rfl) rfl rfl rfl
        · intro y_250 hy; subst hy
          skip
          skip
          refine VL_cond (y_250) (by kernel_rfl) ?_ ?_
          · intro b_31; have H_255 := of_t H_249 b_31
            refine V_run hN hn 2 1 [4] [] ⟨[(4, .c (.val (.bool false)))], [], 1⟩ [] (by kernel_rfl) rfl rfl ap0 ?_
            have H_257 := Option.some.inj (show some false = some r from H_255); subst H_257
            refine VL_ret ?_
            exact P_to [(4, .c (.val (.bool false)))] [] [] hn (by kernel_rfl) (by kernel_rfl) rfl rfl rfl (QF_retS (by kernel_rfl) (by kernel_rfl) rfl)
          · intro b_31; have H_256 := of_f H_249 b_31
            refine V_run hN hn 4 1 [1, 5, 7, 47] [0] ⟨[(1, .c (.imm (.slice (.pair (.int .i64) (.pair (.int .i64) (.int .i64)))) l_2)), (5, .c (.imm (.opt (.pair (.slice (.pair (.int .i64) (.int .i64))) (.int .i64))) r_19.1)), (7, .c (.h 0)), (47, .c (.val (.bool (r_19.2 != (0 : Int)))))], [(0, .row (.int .i64) r_23.1)], 1⟩ [] (by kernel_rfl) rfl rfl ap0 ?_
            refine VL_cond ((r_19.2 != (0 : Int))) (by kernel_rfl) ?_ ?_
            · intro b_34; have H_258 := of_t H_256 b_34
              refine V_run hN hn 2 1 [4] [] ⟨[(4, .c (.val (.bool true)))], [], 1⟩ [] (by kernel_rfl) rfl rfl ap0 ?_
              have H_260 := Option.some.inj (show some true = some r from H_258); subst H_260
              refine VL_ret ?_
              exact P_to [(4, .c (.val (.bool true)))] [] [] hn (by kernel_rfl) (by kernel_rfl) rfl rfl rfl (QF_retS (by kernel_rfl) (by kernel_rfl) rfl)
            · intro b_34; have H_259 := of_f H_256 b_34
              refine V_run hN hn 4 1 [1, 5, 7, 9] [0] ⟨[(1, .c (.imm (.slice (.pair (.int .i64) (.pair (.int .i64) (.int .i64)))) l_2)), (5, .c (.imm (.opt (.pair (.slice (.pair (.int .i64) (.int .i64))) (.int .i64))) r_19.1)), (7, .c (.h 0)), (9, .c (.val (.int .i64 (0 : Int))))], [(0, .row (.int .i64) r_23.1)], 1⟩ [] (by kernel_rfl) rfl rfl ap0 ?_
              obtain ⟨q_261, H_262, H_263⟩ := of_bind H_259
              refine V_cut (Y := ((Option ((List (Int × Int)) × Int)) × (List Int))) (R := (Bool ⊕ ((Option ((List (Int × Int)) × Int)) × (List Int)))) q_261 (fun y => (Sum.inr y)) (fun y => [(5, .c (.imm (.opt (.pair (.slice (.pair (.int .i64) (.int .i64))) (.int .i64))) y.1)), (7, .c (.imm (.slice (.int .i64)) y.2))]) (fun y => []) ?_ ?_
              · skip
                refine VL_block ?_
                refine V_ghost [.shut 0] 1 hn [1, 5, 7, 9] [] ⟨[(1, .c (.imm (.slice (.pair (.int .i64) (.pair (.int .i64) (.int .i64)))) l_2)), (5, .c (.imm (.opt (.pair (.slice (.pair (.int .i64) (.int .i64))) (.int .i64))) r_19.1)), (7, .c (.imm (.slice (.int .i64)) r_23.1)), (9, .c (.val (.int .i64 (0 : Int))))], [], 1⟩ (by kernel_rfl) rfl rfl ?_
                refine V_to [(1, .c (.imm (.slice (.pair (.int .i64) (.pair (.int .i64) (.int .i64)))) l_2)), (5, .c (.imm (.opt (.pair (.slice (.pair (.int .i64) (.int .i64))) (.int .i64))) r_19.1)), (7, .c (.imm (.slice (.int .i64)) r_23.1)), (9, .c (.val (.int .i64 (0 : Int))))] [] [] hn (by kernel_rfl) (by kernel_rfl) rfl rfl rfl ?_
                refine VL_loop (X := ((Option ((List (Int × Int)) × Int)) × (List Int) × Int)) (fun x => [(1, .c (.imm (.slice (.pair (.int .i64) (.pair (.int .i64) (.int .i64)))) l_2)), (5, .c (.imm (.opt (.pair (.slice (.pair (.int .i64) (.int .i64))) (.int .i64))) x.1)), (7, .c (.imm (.slice (.int .i64)) x.2.1)), (9, .c (.val (.int .i64 x.2.2)))]) (fun x => []) (fun k x => palinodelaw7_SubsetPlays.l0 K l_2 k x.1 x.2.1 x.2.2 = some q_261) K (r_19.1, r_23.1, (0 : Int)) H_262 (fun _ h => no_none h) ?_
                intro k_121 x_121 H_265
                obtain ⟨s_37, m_120, i_38⟩ := x_121
                have H_266 : palinodelaw7_SubsetPlays.l0 K l_2 (k_121 + 1) s_37 m_120 i_38 = some q_261 := H_265
                rw [palinodelaw7_SubsetPlays.l0] at H_266
                refine V_run hN hn 3 3 [1, 5, 7, 9, 51] [] ⟨[(1, .c (.imm (.slice (.pair (.int .i64) (.pair (.int .i64) (.int .i64)))) l_2)), (5, .c (.imm (.opt (.pair (.slice (.pair (.int .i64) (.int .i64))) (.int .i64))) s_37)), (7, .c (.imm (.slice (.int .i64)) m_120)), (9, .c (.val (.int .i64 i_38))), (51, .c (.val (.bool (decide (i_38 < (((List.length l_2) : Nat) : Int))))))], [], 3⟩ [] (by kernel_rfl) rfl rfl ap0 ?_
                refine VL_cond ((decide (i_38 < (((List.length l_2) : Nat) : Int)))) (by kernel_rfl) ?_ ?_
                · intro b_123; have H_267 := of_t H_266 b_123
                  refine V_run hN hn 2 3 [1, 5, 7, 9, 51] [] ⟨[(1, .c (.imm (.slice (.pair (.int .i64) (.pair (.int .i64) (.int .i64)))) l_2)), (5, .c (.imm (.opt (.pair (.slice (.pair (.int .i64) (.int .i64))) (.int .i64))) s_37)), (7, .c (.imm (.slice (.int .i64)) m_120)), (9, .c (.val (.int .i64 i_38))), (51, .c (.val (.bool (decide (i_38 < (((List.length l_2) : Nat) : Int))))))], [], 3⟩ [] (by kernel_rfl) rfl rfl ap0 ?_
                  obtain ⟨q_269, H_270, H_271⟩ := of_bind H_267
                  refine V_cut (Y := ((Option ((List (Int × Int)) × Int)) × (List Int))) (R := (Bool ⊕ ((Option ((List (Int × Int)) × Int)) × (List Int)))) q_269 (fun y => (Sum.inr y)) (fun y => [(1, .c (.imm (.slice (.pair (.int .i64) (.pair (.int .i64) (.int .i64)))) l_2)), (5, .c (.imm (.opt (.pair (.slice (.pair (.int .i64) (.int .i64))) (.int .i64))) y.1)), (7, .c (.imm (.slice (.int .i64)) y.2)), (9, .c (.val (.int .i64 i_38)))]) (fun y => []) ?_ ?_
                  · skip
                    refine VL_block ?_
                    obtain ⟨c_125, H_273⟩ := of_if H_270
                    refine V_run hN hn 7 3 [1, 5, 7, 9, 10, 12] [3, 4] ⟨[(1, .c (.imm (.slice (.pair (.int .i64) (.pair (.int .i64) (.int .i64)))) l_2)), (5, .c (.imm (.opt (.pair (.slice (.pair (.int .i64) (.int .i64))) (.int .i64))) s_37)), (7, .c (.imm (.slice (.int .i64)) m_120)), (9, .c (.val (.int .i64 i_38))), (10, .c (.h 3)), (12, .c (.h 4))], [(3, .box [.val (.int .i64 (List.getD l_2 (Int.toNat i_38) ((0 : Int), ((0 : Int), (0 : Int)))).1), .val (.int .i64 (List.getD l_2 (Int.toNat i_38) ((0 : Int), ((0 : Int), (0 : Int)))).2.1), .val (.int .i64 (List.getD l_2 (Int.toNat i_38) ((0 : Int), ((0 : Int), (0 : Int)))).2.2)]), (4, .row (.int .i64) m_120)], 5⟩ [0 ≤ i_38, i_38 < (((List.length l_2) : Nat) : Int), List.length m_120 * 8 ≤ 140737488355328] (by kernel_rfl) rfl rfl (ap2 c_125.1 (ap2 c_125.2.1 (ap1 c_125.2.2))) ?_
                    obtain ⟨q_274, H_275, H_276⟩ := of_bind H_273
                    refine V_cut (Y := (Int × (List Int))) (R := (Int × (List Int))) q_274 (fun y => y) (fun y => [(1, .c (.imm (.slice (.pair (.int .i64) (.pair (.int .i64) (.int .i64)))) l_2)), (5, .c (.imm (.opt (.pair (.slice (.pair (.int .i64) (.int .i64))) (.int .i64))) s_37)), (7, .c (.imm (.slice (.int .i64)) m_120)), (9, .c (.val (.int .i64 i_38))), (10, .c (.h 3)), (11, .c (.val (.int .i64 y.1))), (12, .c (.imm (.slice (.int .i64)) y.2))]) (fun y => [(3, .box [.val (.int .i64 (List.getD l_2 (Int.toNat i_38) ((0 : Int), ((0 : Int), (0 : Int)))).1), .val (.int .i64 (List.getD l_2 (Int.toNat i_38) ((0 : Int), ((0 : Int), (0 : Int)))).2.1), .val (.int .i64 (List.getD l_2 (Int.toNat i_38) ((0 : Int), ((0 : Int), (0 : Int)))).2.2)])]) ?_ ?_
                    · skip
                      refine VL_block ?_
                      refine V_run hN hn 1 5 [1, 5, 7, 9, 10, 12] [3, 4] ⟨[(1, .c (.imm (.slice (.pair (.int .i64) (.pair (.int .i64) (.int .i64)))) l_2)), (5, .c (.imm (.opt (.pair (.slice (.pair (.int .i64) (.int .i64))) (.int .i64))) s_37)), (7, .c (.imm (.slice (.int .i64)) m_120)), (9, .c (.val (.int .i64 i_38))), (10, .c (.h 3)), (12, .c (.h 4))], [(3, .box [.val (.int .i64 (List.getD l_2 (Int.toNat i_38) ((0 : Int), ((0 : Int), (0 : Int)))).1), .val (.int .i64 (List.getD l_2 (Int.toNat i_38) ((0 : Int), ((0 : Int), (0 : Int)))).2.1), .val (.int .i64 (List.getD l_2 (Int.toNat i_38) ((0 : Int), ((0 : Int), (0 : Int)))).2.2)]), (4, .row (.int .i64) m_120)], 5⟩ [] (by kernel_rfl) rfl rfl ap0 ?_
                      obtain ⟨q_278, H_279, H_280⟩ := of_bind H_275
                      refine V_cut (Y := Bool) (R := Bool) q_278 (fun y => y) (fun y => [(1, .c (.imm (.slice (.pair (.int .i64) (.pair (.int .i64) (.int .i64)))) l_2)), (5, .c (.imm (.opt (.pair (.slice (.pair (.int .i64) (.int .i64))) (.int .i64))) s_37)), (7, .c (.imm (.slice (.int .i64)) m_120)), (9, .c (.val (.int .i64 i_38))), (10, .c (.h 3)), (12, .c (.h 4)), (78, .c (.val (.bool y)))]) (fun y => [(3, .box [.val (.int .i64 (List.getD l_2 (Int.toNat i_38) ((0 : Int), ((0 : Int), (0 : Int)))).1), .val (.int .i64 (List.getD l_2 (Int.toNat i_38) ((0 : Int), ((0 : Int), (0 : Int)))).2.1), .val (.int .i64 (List.getD l_2 (Int.toNat i_38) ((0 : Int), ((0 : Int), (0 : Int)))).2.2)]), (4, .row (.int .i64) m_120)]) ?_ ?_
                      · skip
                        rcases Bool.eq_false_or_eq_true ((decide ((List.getD l_2 (Int.toNat i_38) ((0 : Int), ((0 : Int), (0 : Int)))).1 < (0 : Int)))) with b_127 | b_127
                        · have H_282 := of_t H_279 b_127
                          refine V_reg hN hn [] [(82, true)] calls_nil 5 [1, 5, 7, 9, 10, 12, 78] [3, 4] ⟨[(1, .c (.imm (.slice (.pair (.int .i64) (.pair (.int .i64) (.int .i64)))) l_2)), (5, .c (.imm (.opt (.pair (.slice (.pair (.int .i64) (.int .i64))) (.int .i64))) s_37)), (7, .c (.imm (.slice (.int .i64)) m_120)), (9, .c (.val (.int .i64 i_38))), (10, .c (.h 3)), (12, .c (.h 4)), (78, .c (.val (.bool true)))], [(3, .box [.val (.int .i64 (List.getD l_2 (Int.toNat i_38) ((0 : Int), ((0 : Int), (0 : Int)))).1), .val (.int .i64 (List.getD l_2 (Int.toNat i_38) ((0 : Int), ((0 : Int), (0 : Int)))).2.1), .val (.int .i64 (List.getD l_2 (Int.toNat i_38) ((0 : Int), ((0 : Int), (0 : Int)))).2.2)]), (4, .row (.int .i64) m_120)], 5⟩ [(decide ((List.getD l_2 (Int.toNat i_38) ((0 : Int), ((0 : Int), (0 : Int)))).1 < (0 : Int))) = true] (by kernel_rfl) rfl rfl (ap1 b_127) (by kernel_rfl) (by kernel_rfl) ?_
                          have H_284 := Option.some.inj (show some true = some q_278 from H_282); subst H_284
                          refine VL_nil ?_
                          exact QP_end true rfl [(3, 3), (4, 4)] hn (by kernel_rfl) (by kernel_rfl) rfl rfl rfl
                        · have H_283 := of_f H_279 b_127
                          rcases Bool.eq_false_or_eq_true ((decide ((List.getD l_2 (Int.toNat i_38) ((0 : Int), ((0 : Int), (0 : Int)))).2.1 < (List.getD l_2 (Int.toNat i_38) ((0 : Int), ((0 : Int), (0 : Int)))).1))) with b_129 | b_129
                          · have H_285 := of_t H_283 b_129
                            refine V_reg hN hn [] [(82, false), (89, true)] calls_nil 5 [1, 5, 7, 9, 10, 12, 78] [3, 4] ⟨[(1, .c (.imm (.slice (.pair (.int .i64) (.pair (.int .i64) (.int .i64)))) l_2)), (5, .c (.imm (.opt (.pair (.slice (.pair (.int .i64) (.int .i64))) (.int .i64))) s_37)), (7, .c (.imm (.slice (.int .i64)) m_120)), (9, .c (.val (.int .i64 i_38))), (10, .c (.h 3)), (12, .c (.h 4)), (78, .c (.val (.bool true)))], [(3, .box [.val (.int .i64 (List.getD l_2 (Int.toNat i_38) ((0 : Int), ((0 : Int), (0 : Int)))).1), .val (.int .i64 (List.getD l_2 (Int.toNat i_38) ((0 : Int), ((0 : Int), (0 : Int)))).2.1), .val (.int .i64 (List.getD l_2 (Int.toNat i_38) ((0 : Int), ((0 : Int), (0 : Int)))).2.2)]), (4, .row (.int .i64) m_120)], 5⟩ [(decide ((List.getD l_2 (Int.toNat i_38) ((0 : Int), ((0 : Int), (0 : Int)))).1 < (0 : Int))) = false, (decide ((List.getD l_2 (Int.toNat i_38) ((0 : Int), ((0 : Int), (0 : Int)))).2.1 < (List.getD l_2 (Int.toNat i_38) ((0 : Int), ((0 : Int), (0 : Int)))).1)) = true] (by kernel_rfl) rfl rfl (ap2 b_127 (ap1 b_129)) (by kernel_rfl) (by kernel_rfl) ?_
                            have H_287 := Option.some.inj (show some true = some q_278 from H_285); subst H_287
                            refine VL_nil ?_
                            exact QP_end true rfl [(3, 3), (4, 4)] hn (by kernel_rfl) (by kernel_rfl) rfl rfl rfl
                          · have H_286 := of_f H_283 b_129
                            refine V_reg hN hn [] [(82, false), (89, false)] calls_nil 5 [1, 5, 7, 9, 10, 12, 78] [3, 4] ⟨[(1, .c (.imm (.slice (.pair (.int .i64) (.pair (.int .i64) (.int .i64)))) l_2)), (5, .c (.imm (.opt (.pair (.slice (.pair (.int .i64) (.int .i64))) (.int .i64))) s_37)), (7, .c (.imm (.slice (.int .i64)) m_120)), (9, .c (.val (.int .i64 i_38))), (10, .c (.h 3)), (12, .c (.h 4)), (78, .c (.val (.bool (decide ((List.getD l_2 (Int.toNat i_38) ((0 : Int), ((0 : Int), (0 : Int)))).2.1 > (((List.length m_120) : Nat) : Int))))))], [(3, .box [.val (.int .i64 (List.getD l_2 (Int.toNat i_38) ((0 : Int), ((0 : Int), (0 : Int)))).1), .val (.int .i64 (List.getD l_2 (Int.toNat i_38) ((0 : Int), ((0 : Int), (0 : Int)))).2.1), .val (.int .i64 (List.getD l_2 (Int.toNat i_38) ((0 : Int), ((0 : Int), (0 : Int)))).2.2)]), (4, .row (.int .i64) m_120)], 5⟩ [(decide ((List.getD l_2 (Int.toNat i_38) ((0 : Int), ((0 : Int), (0 : Int)))).1 < (0 : Int))) = false, (decide ((List.getD l_2 (Int.toNat i_38) ((0 : Int), ((0 : Int), (0 : Int)))).2.1 < (List.getD l_2 (Int.toNat i_38) ((0 : Int), ((0 : Int), (0 : Int)))).1)) = false] (by kernel_rfl) rfl rfl (ap2 b_127 (ap1 b_129)) (by kernel_rfl) (by kernel_rfl) ?_
                            have H_288 := Option.some.inj (show some (decide ((List.getD l_2 (Int.toNat i_38) ((0 : Int), ((0 : Int), (0 : Int)))).2.1 > (((List.length m_120) : Nat) : Int))) = some q_278 from H_286); subst H_288
                            refine VL_nil ?_
                            exact QP_end (decide ((List.getD l_2 (Int.toNat i_38) ((0 : Int), ((0 : Int), (0 : Int)))).2.1 > (((List.length m_120) : Nat) : Int))) rfl [(3, 3), (4, 4)] hn (by kernel_rfl) (by kernel_rfl) rfl rfl rfl
                      · intro y_281 hy; subst hy
                        skip
                        skip
                        refine VL_cond (y_281) (by kernel_rfl) ?_ ?_
                        · intro b_133; have H_289 := of_t H_280 b_133
                          refine V_run hN hn 1 5 [1, 5, 7, 9, 10, 11, 12] [3, 4] ⟨[(1, .c (.imm (.slice (.pair (.int .i64) (.pair (.int .i64) (.int .i64)))) l_2)), (5, .c (.imm (.opt (.pair (.slice (.pair (.int .i64) (.int .i64))) (.int .i64))) s_37)), (7, .c (.imm (.slice (.int .i64)) m_120)), (9, .c (.val (.int .i64 i_38))), (10, .c (.h 3)), (11, .c (.val (.int .i64 (10 : Int)))), (12, .c (.h 4))], [(3, .box [.val (.int .i64 (List.getD l_2 (Int.toNat i_38) ((0 : Int), ((0 : Int), (0 : Int)))).1), .val (.int .i64 (List.getD l_2 (Int.toNat i_38) ((0 : Int), ((0 : Int), (0 : Int)))).2.1), .val (.int .i64 (List.getD l_2 (Int.toNat i_38) ((0 : Int), ((0 : Int), (0 : Int)))).2.2)]), (4, .row (.int .i64) m_120)], 5⟩ [] (by kernel_rfl) rfl rfl ap0 ?_
                          refine VL_nil (QB_end ?_)
                          have H_291 := Option.some.inj (show some ((10 : Int), m_120) = some q_274 from H_289); subst H_291
                          refine VL_nil ?_
                          refine P_ghost [.shut 4] 5 hn [1, 5, 7, 9, 10, 11, 12] [3] ⟨[(1, .c (.imm (.slice (.pair (.int .i64) (.pair (.int .i64) (.int .i64)))) l_2)), (5, .c (.imm (.opt (.pair (.slice (.pair (.int .i64) (.int .i64))) (.int .i64))) s_37)), (7, .c (.imm (.slice (.int .i64)) m_120)), (9, .c (.val (.int .i64 i_38))), (10, .c (.h 3)), (11, .c (.val (.int .i64 (10 : Int)))), (12, .c (.imm (.slice (.int .i64)) m_120))], [(3, .box [.val (.int .i64 (List.getD l_2 (Int.toNat i_38) ((0 : Int), ((0 : Int), (0 : Int)))).1), .val (.int .i64 (List.getD l_2 (Int.toNat i_38) ((0 : Int), ((0 : Int), (0 : Int)))).2.1), .val (.int .i64 (List.getD l_2 (Int.toNat i_38) ((0 : Int), ((0 : Int), (0 : Int)))).2.2)])], 5⟩ (by kernel_rfl) rfl rfl ?_
                          exact QP_end ((10 : Int), m_120) rfl [(3, 3)] hn (by kernel_rfl) (by kernel_rfl) rfl rfl rfl
                        · intro b_133; have H_290 := of_f H_280 b_133
                          refine V_run hN hn 1 5 [1, 5, 7, 9, 10, 12, 78] [3, 4] ⟨[(1, .c (.imm (.slice (.pair (.int .i64) (.pair (.int .i64) (.int .i64)))) l_2)), (5, .c (.imm (.opt (.pair (.slice (.pair (.int .i64) (.int .i64))) (.int .i64))) s_37)), (7, .c (.imm (.slice (.int .i64)) m_120)), (9, .c (.val (.int .i64 i_38))), (10, .c (.h 3)), (12, .c (.h 4)), (78, .c (.val (.bool y_281)))], [(3, .box [.val (.int .i64 (List.getD l_2 (Int.toNat i_38) ((0 : Int), ((0 : Int), (0 : Int)))).1), .val (.int .i64 (List.getD l_2 (Int.toNat i_38) ((0 : Int), ((0 : Int), (0 : Int)))).2.1), .val (.int .i64 (List.getD l_2 (Int.toNat i_38) ((0 : Int), ((0 : Int), (0 : Int)))).2.2)]), (4, .row (.int .i64) m_120)], 5⟩ [] (by kernel_rfl) rfl rfl ap0 ?_
                          obtain ⟨q_292, H_293, H_294⟩ := of_bind H_290
                          refine V_cut (Y := Bool) (R := Bool) q_292 (fun y => y) (fun y => [(1, .c (.imm (.slice (.pair (.int .i64) (.pair (.int .i64) (.int .i64)))) l_2)), (5, .c (.imm (.opt (.pair (.slice (.pair (.int .i64) (.int .i64))) (.int .i64))) s_37)), (7, .c (.imm (.slice (.int .i64)) m_120)), (9, .c (.val (.int .i64 i_38))), (10, .c (.h 3)), (12, .c (.h 4)), (96, .c (.val (.bool y)))]) (fun y => [(3, .box [.val (.int .i64 (List.getD l_2 (Int.toNat i_38) ((0 : Int), ((0 : Int), (0 : Int)))).1), .val (.int .i64 (List.getD l_2 (Int.toNat i_38) ((0 : Int), ((0 : Int), (0 : Int)))).2.1), .val (.int .i64 (List.getD l_2 (Int.toNat i_38) ((0 : Int), ((0 : Int), (0 : Int)))).2.2)]), (4, .row (.int .i64) m_120)]) ?_ ?_
                          · skip
                            rcases Bool.eq_false_or_eq_true ((decide ((List.getD l_2 (Int.toNat i_38) ((0 : Int), ((0 : Int), (0 : Int)))).2.2 < (0 : Int)))) with b_136 | b_136
                            · have H_296 := of_t H_293 b_136
                              refine V_reg hN hn [] [(100, true)] calls_nil 5 [1, 5, 7, 9, 10, 12, 96] [3, 4] ⟨[(1, .c (.imm (.slice (.pair (.int .i64) (.pair (.int .i64) (.int .i64)))) l_2)), (5, .c (.imm (.opt (.pair (.slice (.pair (.int .i64) (.int .i64))) (.int .i64))) s_37)), (7, .c (.imm (.slice (.int .i64)) m_120)), (9, .c (.val (.int .i64 i_38))), (10, .c (.h 3)), (12, .c (.h 4)), (96, .c (.val (.bool true)))], [(3, .box [.val (.int .i64 (List.getD l_2 (Int.toNat i_38) ((0 : Int), ((0 : Int), (0 : Int)))).1), .val (.int .i64 (List.getD l_2 (Int.toNat i_38) ((0 : Int), ((0 : Int), (0 : Int)))).2.1), .val (.int .i64 (List.getD l_2 (Int.toNat i_38) ((0 : Int), ((0 : Int), (0 : Int)))).2.2)]), (4, .row (.int .i64) m_120)], 5⟩ [(decide ((List.getD l_2 (Int.toNat i_38) ((0 : Int), ((0 : Int), (0 : Int)))).2.2 < (0 : Int))) = true] (by kernel_rfl) rfl rfl (ap1 b_136) (by kernel_rfl) (by kernel_rfl) ?_
                              have H_298 := Option.some.inj (show some true = some q_292 from H_296); subst H_298
                              refine VL_nil ?_
                              exact QP_end true rfl [(3, 3), (4, 4)] hn (by kernel_rfl) (by kernel_rfl) rfl rfl rfl
                            · have H_297 := of_f H_293 b_136
                              refine V_reg hN hn [] [(100, false)] calls_nil 5 [1, 5, 7, 9, 10, 12, 96] [3, 4] ⟨[(1, .c (.imm (.slice (.pair (.int .i64) (.pair (.int .i64) (.int .i64)))) l_2)), (5, .c (.imm (.opt (.pair (.slice (.pair (.int .i64) (.int .i64))) (.int .i64))) s_37)), (7, .c (.imm (.slice (.int .i64)) m_120)), (9, .c (.val (.int .i64 i_38))), (10, .c (.h 3)), (12, .c (.h 4)), (96, .c (.val (.bool (decide ((List.getD l_2 (Int.toNat i_38) ((0 : Int), ((0 : Int), (0 : Int)))).2.2 > (100 : Int))))))], [(3, .box [.val (.int .i64 (List.getD l_2 (Int.toNat i_38) ((0 : Int), ((0 : Int), (0 : Int)))).1), .val (.int .i64 (List.getD l_2 (Int.toNat i_38) ((0 : Int), ((0 : Int), (0 : Int)))).2.1), .val (.int .i64 (List.getD l_2 (Int.toNat i_38) ((0 : Int), ((0 : Int), (0 : Int)))).2.2)]), (4, .row (.int .i64) m_120)], 5⟩ [(decide ((List.getD l_2 (Int.toNat i_38) ((0 : Int), ((0 : Int), (0 : Int)))).2.2 < (0 : Int))) = false] (by kernel_rfl) rfl rfl (ap1 b_136) (by kernel_rfl) (by kernel_rfl) ?_
                              have H_299 := Option.some.inj (show some (decide ((List.getD l_2 (Int.toNat i_38) ((0 : Int), ((0 : Int), (0 : Int)))).2.2 > (100 : Int))) = some q_292 from H_297); subst H_299
                              refine VL_nil ?_
                              exact QP_end (decide ((List.getD l_2 (Int.toNat i_38) ((0 : Int), ((0 : Int), (0 : Int)))).2.2 > (100 : Int))) rfl [(3, 3), (4, 4)] hn (by kernel_rfl) (by kernel_rfl) rfl rfl rfl
                          · intro y_295 hy; subst hy
                            skip
                            skip
                            refine VL_cond (y_295) (by kernel_rfl) ?_ ?_
                            · intro b_140; have H_300 := of_t H_294 b_140
                              refine V_run hN hn 1 5 [1, 5, 7, 9, 10, 11, 12] [3, 4] ⟨[(1, .c (.imm (.slice (.pair (.int .i64) (.pair (.int .i64) (.int .i64)))) l_2)), (5, .c (.imm (.opt (.pair (.slice (.pair (.int .i64) (.int .i64))) (.int .i64))) s_37)), (7, .c (.imm (.slice (.int .i64)) m_120)), (9, .c (.val (.int .i64 i_38))), (10, .c (.h 3)), (11, .c (.val (.int .i64 (12 : Int)))), (12, .c (.h 4))], [(3, .box [.val (.int .i64 (List.getD l_2 (Int.toNat i_38) ((0 : Int), ((0 : Int), (0 : Int)))).1), .val (.int .i64 (List.getD l_2 (Int.toNat i_38) ((0 : Int), ((0 : Int), (0 : Int)))).2.1), .val (.int .i64 (List.getD l_2 (Int.toNat i_38) ((0 : Int), ((0 : Int), (0 : Int)))).2.2)]), (4, .row (.int .i64) m_120)], 5⟩ [] (by kernel_rfl) rfl rfl ap0 ?_
                              refine VL_nil (QB_end ?_)
                              have H_302 := Option.some.inj (show some ((12 : Int), m_120) = some q_274 from H_300); subst H_302
                              refine VL_nil ?_
                              refine P_ghost [.shut 4] 5 hn [1, 5, 7, 9, 10, 11, 12] [3] ⟨[(1, .c (.imm (.slice (.pair (.int .i64) (.pair (.int .i64) (.int .i64)))) l_2)), (5, .c (.imm (.opt (.pair (.slice (.pair (.int .i64) (.int .i64))) (.int .i64))) s_37)), (7, .c (.imm (.slice (.int .i64)) m_120)), (9, .c (.val (.int .i64 i_38))), (10, .c (.h 3)), (11, .c (.val (.int .i64 (12 : Int)))), (12, .c (.imm (.slice (.int .i64)) m_120))], [(3, .box [.val (.int .i64 (List.getD l_2 (Int.toNat i_38) ((0 : Int), ((0 : Int), (0 : Int)))).1), .val (.int .i64 (List.getD l_2 (Int.toNat i_38) ((0 : Int), ((0 : Int), (0 : Int)))).2.1), .val (.int .i64 (List.getD l_2 (Int.toNat i_38) ((0 : Int), ((0 : Int), (0 : Int)))).2.2)])], 5⟩ (by kernel_rfl) rfl rfl ?_
                              exact QP_end ((12 : Int), m_120) rfl [(3, 3)] hn (by kernel_rfl) (by kernel_rfl) rfl rfl rfl
                            · intro b_140; have H_301 := of_f H_294 b_140
                              refine V_run hN hn 3 5 [1, 5, 7, 9, 10, 12, 13] [3, 4] ⟨[(1, .c (.imm (.slice (.pair (.int .i64) (.pair (.int .i64) (.int .i64)))) l_2)), (5, .c (.imm (.opt (.pair (.slice (.pair (.int .i64) (.int .i64))) (.int .i64))) s_37)), (7, .c (.imm (.slice (.int .i64)) m_120)), (9, .c (.val (.int .i64 i_38))), (10, .c (.h 3)), (12, .c (.h 4)), (13, .c (.val (.int .i64 (List.getD l_2 (Int.toNat i_38) ((0 : Int), ((0 : Int), (0 : Int)))).1)))], [(3, .box [.val (.int .i64 (List.getD l_2 (Int.toNat i_38) ((0 : Int), ((0 : Int), (0 : Int)))).1), .val (.int .i64 (List.getD l_2 (Int.toNat i_38) ((0 : Int), ((0 : Int), (0 : Int)))).2.1), .val (.int .i64 (List.getD l_2 (Int.toNat i_38) ((0 : Int), ((0 : Int), (0 : Int)))).2.2)]), (4, .row (.int .i64) m_120)], 5⟩ [] (by kernel_rfl) rfl rfl ap0 ?_
                              obtain ⟨q_303, H_304, H_305⟩ := of_bind H_301
                              refine V_cut (Y := (List Int)) (R := (List Int)) q_303 (fun y => y) (fun y => [(1, .c (.imm (.slice (.pair (.int .i64) (.pair (.int .i64) (.int .i64)))) l_2)), (5, .c (.imm (.opt (.pair (.slice (.pair (.int .i64) (.int .i64))) (.int .i64))) s_37)), (7, .c (.imm (.slice (.int .i64)) m_120)), (9, .c (.val (.int .i64 i_38))), (10, .c (.h 3)), (12, .c (.h 4))]) (fun y => [(3, .box [.val (.int .i64 (List.getD l_2 (Int.toNat i_38) ((0 : Int), ((0 : Int), (0 : Int)))).1), .val (.int .i64 (List.getD l_2 (Int.toNat i_38) ((0 : Int), ((0 : Int), (0 : Int)))).2.1), .val (.int .i64 (List.getD l_2 (Int.toNat i_38) ((0 : Int), ((0 : Int), (0 : Int)))).2.2)]), (4, .row (.int .i64) y)]) ?_ ?_
                              · skip
                                refine VL_block ?_
                                refine V_to [(1, .c (.imm (.slice (.pair (.int .i64) (.pair (.int .i64) (.int .i64)))) l_2)), (5, .c (.imm (.opt (.pair (.slice (.pair (.int .i64) (.int .i64))) (.int .i64))) s_37)), (7, .c (.imm (.slice (.int .i64)) m_120)), (9, .c (.val (.int .i64 i_38))), (10, .c (.h 3)), (12, .c (.h 4)), (13, .c (.val (.int .i64 (List.getD l_2 (Int.toNat i_38) ((0 : Int), ((0 : Int), (0 : Int)))).1)))] [(3, .box [.val (.int .i64 (List.getD l_2 (Int.toNat i_38) ((0 : Int), ((0 : Int), (0 : Int)))).1), .val (.int .i64 (List.getD l_2 (Int.toNat i_38) ((0 : Int), ((0 : Int), (0 : Int)))).2.1), .val (.int .i64 (List.getD l_2 (Int.toNat i_38) ((0 : Int), ((0 : Int), (0 : Int)))).2.2)]), (4, .row (.int .i64) m_120)] [(3, 3), (4, 4)] hn (by kernel_rfl) (by kernel_rfl) rfl rfl rfl ?_
                                refine VL_loop (X := ((List Int) × Int)) (fun x => [(1, .c (.imm (.slice (.pair (.int .i64) (.pair (.int .i64) (.int .i64)))) l_2)), (5, .c (.imm (.opt (.pair (.slice (.pair (.int .i64) (.int .i64))) (.int .i64))) s_37)), (7, .c (.imm (.slice (.int .i64)) m_120)), (9, .c (.val (.int .i64 i_38))), (10, .c (.h 3)), (12, .c (.h 4)), (13, .c (.val (.int .i64 x.2)))]) (fun x => [(3, .box [.val (.int .i64 (List.getD l_2 (Int.toNat i_38) ((0 : Int), ((0 : Int), (0 : Int)))).1), .val (.int .i64 (List.getD l_2 (Int.toNat i_38) ((0 : Int), ((0 : Int), (0 : Int)))).2.1), .val (.int .i64 (List.getD l_2 (Int.toNat i_38) ((0 : Int), ((0 : Int), (0 : Int)))).2.2)]), (4, .row (.int .i64) x.1)]) (fun k x => palinodelaw7_SubsetPlays.l1 K l_2 i_38 k x.1 x.2 = some q_303) K (m_120, (List.getD l_2 (Int.toNat i_38) ((0 : Int), ((0 : Int), (0 : Int)))).1) H_304 (fun _ h => no_none h) ?_
                                intro k_151 x_151 H_307
                                obtain ⟨n_150, k_143⟩ := x_151
                                have H_308 : palinodelaw7_SubsetPlays.l1 K l_2 i_38 (k_151 + 1) n_150 k_143 = some q_303 := H_307
                                rw [palinodelaw7_SubsetPlays.l1] at H_308
                                refine V_run hN hn 3 5 [1, 5, 7, 9, 10, 12, 13, 65] [3, 4] ⟨[(1, .c (.imm (.slice (.pair (.int .i64) (.pair (.int .i64) (.int .i64)))) l_2)), (5, .c (.imm (.opt (.pair (.slice (.pair (.int .i64) (.int .i64))) (.int .i64))) s_37)), (7, .c (.imm (.slice (.int .i64)) m_120)), (9, .c (.val (.int .i64 i_38))), (10, .c (.h 3)), (12, .c (.h 4)), (13, .c (.val (.int .i64 k_143))), (65, .c (.val (.bool (decide (k_143 < (List.getD l_2 (Int.toNat i_38) ((0 : Int), ((0 : Int), (0 : Int)))).2.1)))))], [(3, .box [.val (.int .i64 (List.getD l_2 (Int.toNat i_38) ((0 : Int), ((0 : Int), (0 : Int)))).1), .val (.int .i64 (List.getD l_2 (Int.toNat i_38) ((0 : Int), ((0 : Int), (0 : Int)))).2.1), .val (.int .i64 (List.getD l_2 (Int.toNat i_38) ((0 : Int), ((0 : Int), (0 : Int)))).2.2)]), (4, .row (.int .i64) n_150)], 5⟩ [] (by kernel_rfl) rfl rfl ap0 ?_
                                refine VL_cond ((decide (k_143 < (List.getD l_2 (Int.toNat i_38) ((0 : Int), ((0 : Int), (0 : Int)))).2.1))) (by kernel_rfl) ?_ ?_
                                · intro b_153; have H_309 := of_t H_308 b_153
                                  refine V_run hN hn 2 5 [1, 5, 7, 9, 10, 12, 13, 65] [3, 4] ⟨[(1, .c (.imm (.slice (.pair (.int .i64) (.pair (.int .i64) (.int .i64)))) l_2)), (5, .c (.imm (.opt (.pair (.slice (.pair (.int .i64) (.int .i64))) (.int .i64))) s_37)), (7, .c (.imm (.slice (.int .i64)) m_120)), (9, .c (.val (.int .i64 i_38))), (10, .c (.h 3)), (12, .c (.h 4)), (13, .c (.val (.int .i64 k_143))), (65, .c (.val (.bool (decide (k_143 < (List.getD l_2 (Int.toNat i_38) ((0 : Int), ((0 : Int), (0 : Int)))).2.1)))))], [(3, .box [.val (.int .i64 (List.getD l_2 (Int.toNat i_38) ((0 : Int), ((0 : Int), (0 : Int)))).1), .val (.int .i64 (List.getD l_2 (Int.toNat i_38) ((0 : Int), ((0 : Int), (0 : Int)))).2.1), .val (.int .i64 (List.getD l_2 (Int.toNat i_38) ((0 : Int), ((0 : Int), (0 : Int)))).2.2)]), (4, .row (.int .i64) n_150)], 5⟩ [] (by kernel_rfl) rfl rfl ap0 ?_
                                  refine VL_block ?_
                                  obtain ⟨c_155, H_311⟩ := of_if H_309
                                  refine V_run hN hn 1 5 [1, 5, 7, 9, 10, 12, 13] [3, 4] ⟨[(1, .c (.imm (.slice (.pair (.int .i64) (.pair (.int .i64) (.int .i64)))) l_2)), (5, .c (.imm (.opt (.pair (.slice (.pair (.int .i64) (.int .i64))) (.int .i64))) s_37)), (7, .c (.imm (.slice (.int .i64)) m_120)), (9, .c (.val (.int .i64 i_38))), (10, .c (.h 3)), (12, .c (.h 4)), (13, .c (.val (.int .i64 k_143)))], [(3, .box [.val (.int .i64 (List.getD l_2 (Int.toNat i_38) ((0 : Int), ((0 : Int), (0 : Int)))).1), .val (.int .i64 (List.getD l_2 (Int.toNat i_38) ((0 : Int), ((0 : Int), (0 : Int)))).2.1), .val (.int .i64 (List.getD l_2 (Int.toNat i_38) ((0 : Int), ((0 : Int), (0 : Int)))).2.2)]), (4, .row (.int .i64) (List.set n_150 (Int.toNat k_143) (List.getD l_2 (Int.toNat i_38) ((0 : Int), ((0 : Int), (0 : Int)))).2.2))], 5⟩ [0 ≤ k_143, k_143 < (((List.length n_150) : Nat) : Int)] (by kernel_rfl) rfl rfl (ap2 c_155.1 (ap1 c_155.2)) ?_
                                  refine VL_nil (QB_end ?_)
                                  refine V_run hN hn 1 5 [1, 5, 7, 9, 10, 12, 13] [3, 4] ⟨[(1, .c (.imm (.slice (.pair (.int .i64) (.pair (.int .i64) (.int .i64)))) l_2)), (5, .c (.imm (.opt (.pair (.slice (.pair (.int .i64) (.int .i64))) (.int .i64))) s_37)), (7, .c (.imm (.slice (.int .i64)) m_120)), (9, .c (.val (.int .i64 i_38))), (10, .c (.h 3)), (12, .c (.h 4)), (13, .c (.val (.int .i64 (IntKind.wrap .i64 (k_143 + (1 : Int))))))], [(3, .box [.val (.int .i64 (List.getD l_2 (Int.toNat i_38) ((0 : Int), ((0 : Int), (0 : Int)))).1), .val (.int .i64 (List.getD l_2 (Int.toNat i_38) ((0 : Int), ((0 : Int), (0 : Int)))).2.1), .val (.int .i64 (List.getD l_2 (Int.toNat i_38) ((0 : Int), ((0 : Int), (0 : Int)))).2.2)]), (4, .row (.int .i64) (List.set n_150 (Int.toNat k_143) (List.getD l_2 (Int.toNat i_38) ((0 : Int), ((0 : Int), (0 : Int)))).2.2))], 5⟩ [] (by kernel_rfl) rfl rfl ap0 ?_
                                  refine VL_nil ?_
                                  exact V_roundEnd ((List.set n_150 (Int.toNat k_143) (List.getD l_2 (Int.toNat i_38) ((0 : Int), ((0 : Int), (0 : Int)))).2.2), (IntKind.wrap .i64 (k_143 + (1 : Int)))) H_311 [(3, 3), (4, 4)] hn (by kernel_rfl) (by kernel_rfl) rfl rfl rfl
                                · intro b_153; have H_310 := of_f H_308 b_153
                                  refine VL_exit ?_
                                  refine QL_exit ?_
                                  refine QB_here ?_
                                  have H_312 := Option.some.inj (show some n_150 = some q_303 from H_310); subst H_312
                                  refine VL_nil ?_
                                  exact QP_end n_150 rfl [(3, 3), (4, 4)] hn (by kernel_rfl) (by kernel_rfl) rfl rfl rfl
                              · intro y_306 hy; subst hy
                                skip
                                skip
                                refine V_ghost [.shut 4] 5 hn [1, 5, 7, 9, 10, 12] [3] ⟨[(1, .c (.imm (.slice (.pair (.int .i64) (.pair (.int .i64) (.int .i64)))) l_2)), (5, .c (.imm (.opt (.pair (.slice (.pair (.int .i64) (.int .i64))) (.int .i64))) s_37)), (7, .c (.imm (.slice (.int .i64)) m_120)), (9, .c (.val (.int .i64 i_38))), (10, .c (.h 3)), (12, .c (.imm (.slice (.int .i64)) y_306))], [(3, .box [.val (.int .i64 (List.getD l_2 (Int.toNat i_38) ((0 : Int), ((0 : Int), (0 : Int)))).1), .val (.int .i64 (List.getD l_2 (Int.toNat i_38) ((0 : Int), ((0 : Int), (0 : Int)))).2.1), .val (.int .i64 (List.getD l_2 (Int.toNat i_38) ((0 : Int), ((0 : Int), (0 : Int)))).2.2)])], 5⟩ (by kernel_rfl) rfl rfl ?_
                                obtain ⟨r_158, h_159, H_313⟩ := of_bind H_305
                                refine V_reg hN hn [(1, ⟨36, 0, [.c (.imm (.slice (.int .i64)) y_306)], [], .tup [(false, [.imm (.slice (.int .i64)) r_158.1]), (false, [.val (.int .i64 r_158.2)])], [], [], 5⟩)] [] (calls_cons (palinoderef7_Told_spec K y_306 r_158 h_159) (by kernel_rfl) calls_nil) 5 [1, 5, 7, 9, 10, 11, 12] [3] ⟨[(1, .c (.imm (.slice (.pair (.int .i64) (.pair (.int .i64) (.int .i64)))) l_2)), (5, .c (.imm (.opt (.pair (.slice (.pair (.int .i64) (.int .i64))) (.int .i64))) s_37)), (7, .c (.imm (.slice (.int .i64)) m_120)), (9, .c (.val (.int .i64 i_38))), (10, .c (.h 3)), (11, .c (.val (.int .i64 r_158.2))), (12, .c (.imm (.slice (.int .i64)) y_306))], [(3, .box [.val (.int .i64 (List.getD l_2 (Int.toNat i_38) ((0 : Int), ((0 : Int), (0 : Int)))).1), .val (.int .i64 (List.getD l_2 (Int.toNat i_38) ((0 : Int), ((0 : Int), (0 : Int)))).2.1), .val (.int .i64 (List.getD l_2 (Int.toNat i_38) ((0 : Int), ((0 : Int), (0 : Int)))).2.2)])], 5⟩ [] (by kernel_rfl) rfl rfl ap0 (by kernel_rfl) (by kernel_rfl) ?_
                                refine VL_nil (QB_end ?_)
                                have H_314 := Option.some.inj (show some (r_158.2, y_306) = some q_274 from H_313); subst H_314
                                refine VL_nil ?_
                                exact QP_end (r_158.2, y_306) rfl [(3, 3)] hn (by kernel_rfl) (by kernel_rfl) rfl rfl rfl
                    · intro y_277 hy; subst hy
                      obtain ⟨want_161, n_162⟩ := y_277
                      refine V_run hN hn 1 5 [1, 5, 7, 9, 10, 11, 12] [3] ⟨[(1, .c (.imm (.slice (.pair (.int .i64) (.pair (.int .i64) (.int .i64)))) l_2)), (5, .c (.imm (.opt (.pair (.slice (.pair (.int .i64) (.int .i64))) (.int .i64))) s_37)), (7, .c (.imm (.slice (.int .i64)) m_120)), (9, .c (.val (.int .i64 i_38))), (10, .c (.h 3)), (11, .c (.val (.int .i64 want_161))), (12, .c (.imm (.slice (.int .i64)) n_162))], [(3, .box [.val (.int .i64 (List.getD l_2 (Int.toNat i_38) ((0 : Int), ((0 : Int), (0 : Int)))).1), .val (.int .i64 (List.getD l_2 (Int.toNat i_38) ((0 : Int), ((0 : Int), (0 : Int)))).2.1), .val (.int .i64 (List.getD l_2 (Int.toNat i_38) ((0 : Int), ((0 : Int), (0 : Int)))).2.2)])], 5⟩ [] (by kernel_rfl) rfl rfl ap0 ?_
                      obtain ⟨r_164, h_165, H_315⟩ := of_bind H_276
                      refine V_reg hN hn [(7, ⟨14, 0, [.c (.imm (.opt (.pair (.slice (.pair (.int .i64) (.int .i64))) (.int .i64))) s_37), .c (.val (.int .i64 (List.getD l_2 (Int.toNat i_38) ((0 : Int), ((0 : Int), (0 : Int)))).1)), .c (.val (.int .i64 (List.getD l_2 (Int.toNat i_38) ((0 : Int), ((0 : Int), (0 : Int)))).2.1)), .c (.val (.int .i64 (List.getD l_2 (Int.toNat i_38) ((0 : Int), ((0 : Int), (0 : Int)))).2.2))], [], .tup [(false, [.imm (.opt (.pair (.slice (.pair (.int .i64) (.int .i64))) (.int .i64))) r_164.1]), (false, [.val (.int .i64 r_164.2)])], [], [], 5⟩)] [] (calls_cons (subset_Subset_With_spec K s_37 (List.getD l_2 (Int.toNat i_38) ((0 : Int), ((0 : Int), (0 : Int)))).1 (List.getD l_2 (Int.toNat i_38) ((0 : Int), ((0 : Int), (0 : Int)))).2.1 (List.getD l_2 (Int.toNat i_38) ((0 : Int), ((0 : Int), (0 : Int)))).2.2 r_164 h_165) (by kernel_rfl) calls_nil) 5 [1, 5, 7, 9, 11, 12, 14, 15] [] ⟨[(1, .c (.imm (.slice (.pair (.int .i64) (.pair (.int .i64) (.int .i64)))) l_2)), (5, .c (.imm (.opt (.pair (.slice (.pair (.int .i64) (.int .i64))) (.int .i64))) s_37)), (7, .c (.imm (.slice (.int .i64)) m_120)), (9, .c (.val (.int .i64 i_38))), (11, .c (.val (.int .i64 want_161))), (12, .c (.imm (.slice (.int .i64)) n_162)), (14, .c (.imm (.opt (.pair (.slice (.pair (.int .i64) (.int .i64))) (.int .i64))) r_164.1)), (15, .c (.val (.int .i64 r_164.2)))], [], 5⟩ [] (by kernel_rfl) rfl rfl ap0 (by kernel_rfl) (by kernel_rfl) ?_
                      refine V_run hN hn 2 5 [1, 5, 7, 9, 11, 12, 14, 15] [] ⟨[(1, .c (.imm (.slice (.pair (.int .i64) (.pair (.int .i64) (.int .i64)))) l_2)), (5, .c (.imm (.opt (.pair (.slice (.pair (.int .i64) (.int .i64))) (.int .i64))) s_37)), (7, .c (.imm (.slice (.int .i64)) m_120)), (9, .c (.val (.int .i64 i_38))), (11, .c (.val (.int .i64 want_161))), (12, .c (.imm (.slice (.int .i64)) n_162)), (14, .c (.imm (.opt (.pair (.slice (.pair (.int .i64) (.int .i64))) (.int .i64))) r_164.1)), (15, .c (.val (.int .i64 r_164.2)))], [], 5⟩ [] (by kernel_rfl) rfl rfl ap0 ?_
                      obtain ⟨q_316, H_317, H_318⟩ := of_bind H_315
                      refine V_cut (Y := Bool) (R := Bool) q_316 (fun y => y) (fun y => [(1, .c (.imm (.slice (.pair (.int .i64) (.pair (.int .i64) (.int .i64)))) l_2)), (5, .c (.imm (.opt (.pair (.slice (.pair (.int .i64) (.int .i64))) (.int .i64))) s_37)), (7, .c (.imm (.slice (.int .i64)) m_120)), (9, .c (.val (.int .i64 i_38))), (12, .c (.imm (.slice (.int .i64)) n_162)), (14, .c (.imm (.opt (.pair (.slice (.pair (.int .i64) (.int .i64))) (.int .i64))) r_164.1)), (15, .c (.val (.int .i64 r_164.2))), (131, .c (.val (.bool y)))]) (fun y => []) ?_ ?_
                      · skip
                        rcases Bool.eq_false_or_eq_true ((r_164.2 != want_161)) with b_168 | b_168
                        · have H_320 := of_t H_317 b_168
                          refine V_reg hN hn [] [(119, true)] calls_nil 5 [1, 5, 7, 9, 12, 14, 15, 131] [] ⟨[(1, .c (.imm (.slice (.pair (.int .i64) (.pair (.int .i64) (.int .i64)))) l_2)), (5, .c (.imm (.opt (.pair (.slice (.pair (.int .i64) (.int .i64))) (.int .i64))) s_37)), (7, .c (.imm (.slice (.int .i64)) m_120)), (9, .c (.val (.int .i64 i_38))), (12, .c (.imm (.slice (.int .i64)) n_162)), (14, .c (.imm (.opt (.pair (.slice (.pair (.int .i64) (.int .i64))) (.int .i64))) r_164.1)), (15, .c (.val (.int .i64 r_164.2))), (131, .c (.val (.bool true)))], [], 5⟩ [(r_164.2 != want_161) = true] (by kernel_rfl) rfl rfl (ap1 b_168) (by kernel_rfl) (by kernel_rfl) ?_
                          have H_322 := Option.some.inj (show some true = some q_316 from H_320); subst H_322
                          refine VL_nil ?_
                          exact QP_end true rfl [] hn (by kernel_rfl) (by kernel_rfl) rfl rfl rfl
                        · have H_321 := of_f H_317 b_168
                          rcases Bool.eq_false_or_eq_true ((!((Option.isNone r_164.1) == (r_164.2 != (0 : Int))))) with b_170 | b_170
                          · have H_323 := of_t H_321 b_170
                            refine V_reg hN hn [] [(119, false), (126, true)] calls_nil 5 [1, 5, 7, 9, 12, 14, 15, 131] [] ⟨[(1, .c (.imm (.slice (.pair (.int .i64) (.pair (.int .i64) (.int .i64)))) l_2)), (5, .c (.imm (.opt (.pair (.slice (.pair (.int .i64) (.int .i64))) (.int .i64))) s_37)), (7, .c (.imm (.slice (.int .i64)) m_120)), (9, .c (.val (.int .i64 i_38))), (12, .c (.imm (.slice (.int .i64)) n_162)), (14, .c (.imm (.opt (.pair (.slice (.pair (.int .i64) (.int .i64))) (.int .i64))) r_164.1)), (15, .c (.val (.int .i64 r_164.2))), (131, .c (.val (.bool true)))], [], 5⟩ [(r_164.2 != want_161) = false, (!((Option.isNone r_164.1) == (r_164.2 != (0 : Int)))) = true] (by kernel_rfl) rfl rfl (ap2 b_168 (ap1 b_170)) (by kernel_rfl) (by kernel_rfl) ?_
                            have H_325 := Option.some.inj (show some true = some q_316 from H_323); subst H_325
                            refine VL_nil ?_
                            exact QP_end true rfl [] hn (by kernel_rfl) (by kernel_rfl) rfl rfl rfl
                          · have H_324 := of_f H_321 b_170
                            obtain ⟨r_172, h_173, H_326⟩ := of_bind H_324
                            refine V_reg hN hn [(13, ⟨37, 0, [.c (.imm (.opt (.pair (.slice (.pair (.int .i64) (.int .i64))) (.int .i64))) s_37), .c (.imm (.slice (.int .i64)) m_120)], [], .c (.val (.bool r_172)), [], [], 5⟩)] [(119, false), (126, false)] (calls_cons (palinodelaw7_same_spec K s_37 m_120 r_172 h_173) (by kernel_rfl) calls_nil) 5 [1, 5, 7, 9, 12, 14, 15, 131] [] ⟨[(1, .c (.imm (.slice (.pair (.int .i64) (.pair (.int .i64) (.int .i64)))) l_2)), (5, .c (.imm (.opt (.pair (.slice (.pair (.int .i64) (.int .i64))) (.int .i64))) s_37)), (7, .c (.imm (.slice (.int .i64)) m_120)), (9, .c (.val (.int .i64 i_38))), (12, .c (.imm (.slice (.int .i64)) n_162)), (14, .c (.imm (.opt (.pair (.slice (.pair (.int .i64) (.int .i64))) (.int .i64))) r_164.1)), (15, .c (.val (.int .i64 r_164.2))), (131, .c (.val (.bool (!r_172))))], [], 5⟩ [(r_164.2 != want_161) = false, (!((Option.isNone r_164.1) == (r_164.2 != (0 : Int)))) = false] (by kernel_rfl) rfl rfl (ap2 b_168 (ap1 b_170)) (by kernel_rfl) (by kernel_rfl) ?_
                            have H_327 := Option.some.inj (show some (!r_172) = some q_316 from H_326); subst H_327
                            refine VL_nil ?_
                            exact QP_end (!r_172) rfl [] hn (by kernel_rfl) (by kernel_rfl) rfl rfl rfl
                      · intro y_319 hy; subst hy
                        skip
                        skip
                        refine VL_cond (y_319) (by kernel_rfl) ?_ ?_
                        · intro b_176; have H_328 := of_t H_318 b_176
                          refine V_run hN hn 2 5 [4] [] ⟨[(4, .c (.val (.bool false)))], [], 5⟩ [] (by kernel_rfl) rfl rfl ap0 ?_
                          have H_330 := Option.some.inj (show some (Sum.inl false) = some q_269 from H_328); subst H_330
                          have H_331 := Option.some.inj (show some (Sum.inl false) = some q_261 from H_271); subst H_331
                          have H_332 := Option.some.inj (show some false = some r from H_263); subst H_332
                          refine VL_ret ?_
                          refine QB_ret ?_
                          refine QP_ret ?_
                          refine QL_ret ?_
                          refine QB_ret ?_
                          refine QP_ret ?_
                          exact P_to [(4, .c (.val (.bool false)))] [] [] hn (by kernel_rfl) (by kernel_rfl) rfl rfl rfl (QF_retS (by kernel_rfl) (by kernel_rfl) rfl)
                        · intro b_176; have H_329 := of_f H_318 b_176
                          refine V_run hN hn 3 5 [1, 5, 7, 9, 12, 14, 133] [] ⟨[(1, .c (.imm (.slice (.pair (.int .i64) (.pair (.int .i64) (.int .i64)))) l_2)), (5, .c (.imm (.opt (.pair (.slice (.pair (.int .i64) (.int .i64))) (.int .i64))) s_37)), (7, .c (.imm (.slice (.int .i64)) m_120)), (9, .c (.val (.int .i64 i_38))), (12, .c (.imm (.slice (.int .i64)) n_162)), (14, .c (.imm (.opt (.pair (.slice (.pair (.int .i64) (.int .i64))) (.int .i64))) r_164.1)), (133, .c (.val (.bool (r_164.2 == (0 : Int)))))], [], 5⟩ [] (by kernel_rfl) rfl rfl ap0 ?_
                          refine VL_cond ((r_164.2 == (0 : Int))) (by kernel_rfl) ?_ ?_
                          · intro b_179; have H_333 := of_t H_329 b_179
                            refine V_run hN hn 2 5 [1, 5, 7, 9, 12, 14, 133] [] ⟨[(1, .c (.imm (.slice (.pair (.int .i64) (.pair (.int .i64) (.int .i64)))) l_2)), (5, .c (.imm (.opt (.pair (.slice (.pair (.int .i64) (.int .i64))) (.int .i64))) s_37)), (7, .c (.imm (.slice (.int .i64)) m_120)), (9, .c (.val (.int .i64 i_38))), (12, .c (.imm (.slice (.int .i64)) n_162)), (14, .c (.imm (.opt (.pair (.slice (.pair (.int .i64) (.int .i64))) (.int .i64))) r_164.1)), (133, .c (.val (.bool (r_164.2 == (0 : Int)))))], [], 5⟩ [] (by kernel_rfl) rfl rfl ap0 ?_
                            obtain ⟨q_335, H_336, H_337⟩ := of_bind H_333
                            refine V_cut (Y := Bool) (R := Bool) q_335 (fun y => y) (fun y => [(1, .c (.imm (.slice (.pair (.int .i64) (.pair (.int .i64) (.int .i64)))) l_2)), (9, .c (.val (.int .i64 i_38))), (12, .c (.imm (.slice (.int .i64)) n_162)), (14, .c (.imm (.opt (.pair (.slice (.pair (.int .i64) (.int .i64))) (.int .i64))) r_164.1)), (152, .c (.val (.bool y)))]) (fun y => []) ?_ ?_
                            · skip
                              obtain ⟨r_181, h_182, H_339⟩ := of_bind H_336
                              rcases Bool.eq_false_or_eq_true ((!r_181)) with b_183 | b_183
                              · have H_340 := of_t H_339 b_183
                                refine V_reg hN hn [(2, ⟨37, 0, [.c (.imm (.opt (.pair (.slice (.pair (.int .i64) (.int .i64))) (.int .i64))) r_164.1), .c (.imm (.slice (.int .i64)) n_162)], [], .c (.val (.bool r_181)), [], [], 5⟩)] [(138, true)] (calls_cons (palinodelaw7_same_spec K r_164.1 n_162 r_181 h_182) (by kernel_rfl) calls_nil) 5 [1, 9, 12, 14, 152] [] ⟨[(1, .c (.imm (.slice (.pair (.int .i64) (.pair (.int .i64) (.int .i64)))) l_2)), (9, .c (.val (.int .i64 i_38))), (12, .c (.imm (.slice (.int .i64)) n_162)), (14, .c (.imm (.opt (.pair (.slice (.pair (.int .i64) (.int .i64))) (.int .i64))) r_164.1)), (152, .c (.val (.bool true)))], [], 5⟩ [(!r_181) = true] (by kernel_rfl) rfl rfl (ap1 b_183) (by kernel_rfl) (by kernel_rfl) ?_
                                have H_342 := Option.some.inj (show some true = some q_335 from H_340); subst H_342
                                refine VL_nil ?_
                                exact QP_end true rfl [] hn (by kernel_rfl) (by kernel_rfl) rfl rfl rfl
                              · have H_341 := of_f H_339 b_183
                                obtain ⟨r_185, h_186, H_343⟩ := of_bind H_341
                                obtain ⟨r_187, h_188, H_344⟩ := of_bind H_343
                                rcases Bool.eq_false_or_eq_true ((!(r_185 == r_187))) with b_189 | b_189
                                · have H_345 := of_t H_344 b_189
                                  refine V_reg hN hn [(2, ⟨37, 0, [.c (.imm (.opt (.pair (.slice (.pair (.int .i64) (.int .i64))) (.int .i64))) r_164.1), .c (.imm (.slice (.int .i64)) n_162)], [], .c (.val (.bool r_181)), [], [], 5⟩), (7, ⟨19, 0, [.c (.imm (.opt (.pair (.slice (.pair (.int .i64) (.int .i64))) (.int .i64))) r_164.1), .c (.imm (.opt (.pair (.slice (.pair (.int .i64) (.int .i64))) (.int .i64))) s_37)], [], .c (.val (.bool r_185)), [], [], 5⟩), (10, ⟨38, 0, [.c (.imm (.slice (.int .i64)) n_162), .c (.imm (.slice (.int .i64)) m_120)], [], .c (.val (.bool r_187)), [], [], 5⟩)] [(138, false), (147, true)] (calls_cons (palinodelaw7_same_spec K r_164.1 n_162 r_181 h_182) (by kernel_rfl) (calls_cons (subset_Subset_Same_spec K r_164.1 s_37 r_185 h_186) (by kernel_rfl) (calls_cons (palinodelaw7_equal_spec K n_162 m_120 r_187 h_188) (by kernel_rfl) calls_nil))) 5 [1, 9, 12, 14, 152] [] ⟨[(1, .c (.imm (.slice (.pair (.int .i64) (.pair (.int .i64) (.int .i64)))) l_2)), (9, .c (.val (.int .i64 i_38))), (12, .c (.imm (.slice (.int .i64)) n_162)), (14, .c (.imm (.opt (.pair (.slice (.pair (.int .i64) (.int .i64))) (.int .i64))) r_164.1)), (152, .c (.val (.bool true)))], [], 5⟩ [(!r_181) = false, (!(r_185 == r_187)) = true] (by kernel_rfl) rfl rfl (ap2 b_183 (ap1 b_189)) (by kernel_rfl) (by kernel_rfl) ?_
                                  have H_347 := Option.some.inj (show some true = some q_335 from H_345); subst H_347
                                  refine VL_nil ?_
                                  exact QP_end true rfl [] hn (by kernel_rfl) (by kernel_rfl) rfl rfl rfl
                                · have H_346 := of_f H_344 b_189
                                  obtain ⟨r_191, h_192, H_348⟩ := of_bind H_346
                                  refine V_reg hN hn [(2, ⟨37, 0, [.c (.imm (.opt (.pair (.slice (.pair (.int .i64) (.int .i64))) (.int .i64))) r_164.1), .c (.imm (.slice (.int .i64)) n_162)], [], .c (.val (.bool r_181)), [], [], 5⟩), (7, ⟨19, 0, [.c (.imm (.opt (.pair (.slice (.pair (.int .i64) (.int .i64))) (.int .i64))) r_164.1), .c (.imm (.opt (.pair (.slice (.pair (.int .i64) (.int .i64))) (.int .i64))) s_37)], [], .c (.val (.bool r_185)), [], [], 5⟩), (10, ⟨38, 0, [.c (.imm (.slice (.int .i64)) n_162), .c (.imm (.slice (.int .i64)) m_120)], [], .c (.val (.bool r_187)), [], [], 5⟩), (16, ⟨19, 0, [.c (.imm (.opt (.pair (.slice (.pair (.int .i64) (.int .i64))) (.int .i64))) r_164.1), .c (.imm (.opt (.pair (.slice (.pair (.int .i64) (.int .i64))) (.int .i64))) r_164.1)], [], .c (.val (.bool r_191)), [], [], 5⟩)] [(138, false), (147, false)] (calls_cons (palinodelaw7_same_spec K r_164.1 n_162 r_181 h_182) (by kernel_rfl) (calls_cons (subset_Subset_Same_spec K r_164.1 s_37 r_185 h_186) (by kernel_rfl) (calls_cons (palinodelaw7_equal_spec K n_162 m_120 r_187 h_188) (by kernel_rfl) (calls_cons (subset_Subset_Same_spec K r_164.1 r_164.1 r_191 h_192) (by kernel_rfl) calls_nil)))) 5 [1, 9, 12, 14, 152] [] ⟨[(1, .c (.imm (.slice (.pair (.int .i64) (.pair (.int .i64) (.int .i64)))) l_2)), (9, .c (.val (.int .i64 i_38))), (12, .c (.imm (.slice (.int .i64)) n_162)), (14, .c (.imm (.opt (.pair (.slice (.pair (.int .i64) (.int .i64))) (.int .i64))) r_164.1)), (152, .c (.val (.bool (!r_191))))], [], 5⟩ [(!r_181) = false, (!(r_185 == r_187)) = false] (by kernel_rfl) rfl rfl (ap2 b_183 (ap1 b_189)) (by kernel_rfl) (by kernel_rfl) ?_
                                  have H_349 := Option.some.inj (show some (!r_191) = some q_335 from H_348); subst H_349
                                  refine VL_nil ?_
                                  exact QP_end (!r_191) rfl [] hn (by kernel_rfl) (by kernel_rfl) rfl rfl rfl
                            · intro y_338 hy; subst hy
                              skip
                              skip
                              refine VL_cond (y_338) (by kernel_rfl) ?_ ?_
                              · intro b_195; have H_350 := of_t H_337 b_195
                                refine V_run hN hn 2 5 [4] [] ⟨[(4, .c (.val (.bool false)))], [], 5⟩ [] (by kernel_rfl) rfl rfl ap0 ?_
                                have H_352 := Option.some.inj (show some (Sum.inl false) = some q_269 from H_350); subst H_352
                                have H_353 := Option.some.inj (show some (Sum.inl false) = some q_261 from H_271); subst H_353
                                have H_354 := Option.some.inj (show some false = some r from H_263); subst H_354
                                refine VL_ret ?_
                                refine QB_ret ?_
                                refine QP_ret ?_
                                refine QL_ret ?_
                                refine QB_ret ?_
                                refine QP_ret ?_
                                exact P_to [(4, .c (.val (.bool false)))] [] [] hn (by kernel_rfl) (by kernel_rfl) rfl rfl rfl (QF_retS (by kernel_rfl) (by kernel_rfl) rfl)
                              · intro b_195; have H_351 := of_f H_337 b_195
                                refine V_run hN hn 2 5 [1, 5, 7, 9] [] ⟨[(1, .c (.imm (.slice (.pair (.int .i64) (.pair (.int .i64) (.int .i64)))) l_2)), (5, .c (.imm (.opt (.pair (.slice (.pair (.int .i64) (.int .i64))) (.int .i64))) r_164.1)), (7, .c (.imm (.slice (.int .i64)) n_162)), (9, .c (.val (.int .i64 i_38)))], [], 5⟩ [] (by kernel_rfl) rfl rfl ap0 ?_
                                refine VL_nil (QB_end ?_)
                                have H_355 := Option.some.inj (show some (Sum.inr (r_164.1, n_162)) = some q_269 from H_351); subst H_355
                                refine VL_nil ?_
                                exact QP_end (r_164.1, n_162) rfl [] hn (by kernel_rfl) (by kernel_rfl) rfl rfl rfl
                          · intro b_179; have H_334 := of_f H_329 b_179
                            refine V_run hN hn 1 5 [1, 5, 7, 9, 12, 14, 133] [] ⟨[(1, .c (.imm (.slice (.pair (.int .i64) (.pair (.int .i64) (.int .i64)))) l_2)), (5, .c (.imm (.opt (.pair (.slice (.pair (.int .i64) (.int .i64))) (.int .i64))) s_37)), (7, .c (.imm (.slice (.int .i64)) m_120)), (9, .c (.val (.int .i64 i_38))), (12, .c (.imm (.slice (.int .i64)) n_162)), (14, .c (.imm (.opt (.pair (.slice (.pair (.int .i64) (.int .i64))) (.int .i64))) r_164.1)), (133, .c (.val (.bool (r_164.2 == (0 : Int)))))], [], 5⟩ [] (by kernel_rfl) rfl rfl ap0 ?_
                            refine VL_nil (QB_end ?_)
                            have H_356 := Option.some.inj (show some (Sum.inr (s_37, m_120)) = some q_269 from H_334); subst H_356
                            refine VL_nil ?_
                            exact QP_end (s_37, m_120) rfl [] hn (by kernel_rfl) (by kernel_rfl) rfl rfl rfl
                  · intro y_272 hy; subst hy
                    obtain ⟨s_199, m_200⟩ := y_272
                    refine V_run hN hn 1 5 [1, 5, 7, 9] [] ⟨[(1, .c (.imm (.slice (.pair (.int .i64) (.pair (.int .i64) (.int .i64)))) l_2)), (5, .c (.imm (.opt (.pair (.slice (.pair (.int .i64) (.int .i64))) (.int .i64))) s_199)), (7, .c (.imm (.slice (.int .i64)) m_200)), (9, .c (.val (.int .i64 (IntKind.wrap .i64 (i_38 + (1 : Int))))))], [], 5⟩ [] (by kernel_rfl) rfl rfl ap0 ?_
                    refine VL_nil ?_
                    exact V_roundEnd (s_199, m_200, (IntKind.wrap .i64 (i_38 + (1 : Int)))) H_271 [] hn (by kernel_rfl) (by kernel_rfl) rfl rfl rfl
                · intro b_123; have H_268 := of_f H_266 b_123
                  refine VL_exit ?_
                  refine QL_exit ?_
                  refine QB_here ?_
                  have H_357 := Option.some.inj (show some (Sum.inr (s_37, m_120)) = some q_261 from H_268); subst H_357
                  refine VL_nil ?_
                  exact QP_end (s_37, m_120) rfl [] hn (by kernel_rfl) (by kernel_rfl) rfl rfl rfl
              · intro y_264 hy; subst hy
                obtain ⟨s_202, m_203⟩ := y_264
                refine V_run hN hn 1 3 [5, 7] [] ⟨[(5, .c (.imm (.opt (.pair (.slice (.pair (.int .i64) (.int .i64))) (.int .i64))) s_202)), (7, .c (.imm (.slice (.int .i64)) m_203))], [], 3⟩ [] (by kernel_rfl) rfl rfl ap0 ?_
                obtain ⟨r_205, h_206, H_358⟩ := of_bind H_263
                refine V_reg hN hn [(2, ⟨37, 0, [.c (.imm (.opt (.pair (.slice (.pair (.int .i64) (.int .i64))) (.int .i64))) s_202), .c (.imm (.slice (.int .i64)) m_203)], [], .c (.val (.bool r_205)), [], [], 3⟩)] [] (calls_cons (palinodelaw7_same_spec K s_202 m_203 r_205 h_206) (by kernel_rfl) calls_nil) 3 [4] [] ⟨[(4, .c (.val (.bool r_205)))], [], 3⟩ [] (by kernel_rfl) rfl rfl ap0 (by kernel_rfl) (by kernel_rfl) ?_
                have H_359 := Option.some.inj (show some r_205 = some r from H_358); subst H_359
                refine VL_ret ?_
                exact P_to [(4, .c (.val (.bool r_205)))] [] [] hn (by kernel_rfl) (by kernel_rfl) rfl rfl rfl (QF_retS (by kernel_rfl) (by kernel_rfl) rfl)

end Go.Pal
