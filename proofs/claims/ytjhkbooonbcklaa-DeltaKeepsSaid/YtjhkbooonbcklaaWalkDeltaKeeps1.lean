/- The Go functions that DeltaKeeps reaches compute what the plain functions say: part 1, printed by a program of this workplace. -/
import Derived.Test.YtjhkbooonbcklaaChecked
import Derived.Test.YtjhkbooonbcklaaWalkDeltaKeeps0
namespace Go.Pal
open Go Go.Proofs
set_option maxRecDepth 100000
set_option linter.unusedVariables false

theorem palinoderef1_Size_spec (K : Nat) (s_1 : ByteArray) (at_2 : Int) (r : Int) (H : palinoderef1_Size K s_1 at_2 = some r) : Spec Try.prog 38 0 [.c (.val (.string s_1)), .c (.val (.int .i64 at_2))] [] (.c (.val (.int .i64 r))) [] := by
  refine Spec_mk (fn := Try.f38) (c := (Try.f38.body).get!) Try.func38 (by kernel_rfl) rfl ?_
  intro C hN hn
  replace hN : C.N = 94 := hN
  unfold palinoderef1_Size at H
  refine V_run hN hn 4 0 [0, 1] [] ⟨[(0, .c (.val (.string s_1))), (1, .c (.val (.int .i64 at_2)))], [], 0⟩ [] (by kernel_rfl) rfl rfl ap0 ?_
  obtain ⟨q_77, H_78, H_79⟩ := of_bind H
  refine V_cut (Y := Bool) (R := Bool) q_77 (fun y => y) (fun y => [(0, .c (.val (.string s_1))), (1, .c (.val (.int .i64 at_2))), (18, .c (.val (.bool y)))]) (fun y => []) ?_ ?_
  · skip
    rcases Bool.eq_false_or_eq_true ((decide (at_2 < (0 : Int)))) with b_4 | b_4
    · have H_81 := of_t H_78 b_4
      refine V_reg hN hn [] [(13, true)] calls_nil 0 [0, 1, 18] [] ⟨[(0, .c (.val (.string s_1))), (1, .c (.val (.int .i64 at_2))), (18, .c (.val (.bool true)))], [], 0⟩ [(decide (at_2 < (0 : Int))) = true] (by kernel_rfl) rfl rfl (ap1 b_4) (by kernel_rfl) (by kernel_rfl) ?_
      have H_83 := Option.some.inj (show some true = some q_77 from H_81); subst H_83
      refine VL_nil ?_
      exact QP_end true rfl [] hn (by kernel_rfl) (by kernel_rfl) rfl rfl rfl
    · have H_82 := of_f H_78 b_4
      refine V_reg hN hn [] [(13, false)] calls_nil 0 [0, 1, 18] [] ⟨[(0, .c (.val (.string s_1))), (1, .c (.val (.int .i64 at_2))), (18, .c (.val (.bool (decide (at_2 ≥ (((ByteArray.size s_1) : Nat) : Int))))))], [], 0⟩ [(decide (at_2 < (0 : Int))) = false] (by kernel_rfl) rfl rfl (ap1 b_4) (by kernel_rfl) (by kernel_rfl) ?_
      have H_84 := Option.some.inj (show some (decide (at_2 ≥ (((ByteArray.size s_1) : Nat) : Int))) = some q_77 from H_82); subst H_84
      refine VL_nil ?_
      exact QP_end (decide (at_2 ≥ (((ByteArray.size s_1) : Nat) : Int))) rfl [] hn (by kernel_rfl) (by kernel_rfl) rfl rfl rfl
  · intro y_80 hy; subst hy
    skip
    skip
    refine VL_cond (y_80) (by kernel_rfl) ?_ ?_
    · intro b_8; have H_85 := of_t H_79 b_8
      refine V_run hN hn 2 0 [4] [] ⟨[(4, .c (.val (.int .i64 (0 : Int))))], [], 0⟩ [] (by kernel_rfl) rfl rfl ap0 ?_
      have H_87 := Option.some.inj (show some (0 : Int) = some r from H_85); subst H_87
      refine VL_ret ?_
      exact P_to [(4, .c (.val (.int .i64 (0 : Int))))] [] [] hn (by kernel_rfl) (by kernel_rfl) rfl rfl rfl (QF_retS (by kernel_rfl) (by kernel_rfl) rfl)
    · intro b_8; have H_86 := of_f H_79 b_8
      obtain ⟨c_10, H_88⟩ := of_if H_86
      refine V_run hN hn 6 0 [0, 1, 5] [] ⟨[(0, .c (.val (.string s_1))), (1, .c (.val (.int .i64 at_2))), (5, .c (.val (.int .i64 (IntKind.wrap .i64 (bt s_1 at_2)))))], [], 0⟩ [0 ≤ at_2, at_2 < (((ByteArray.size s_1) : Nat) : Int)] (by kernel_rfl) rfl rfl (ap2 c_10.1 (ap1 c_10.2)) ?_
      refine VL_block ?_
      refine V_run hN hn 2 0 [0, 1, 5, 23] [] ⟨[(0, .c (.val (.string s_1))), (1, .c (.val (.int .i64 at_2))), (5, .c (.val (.int .i64 (IntKind.wrap .i64 (bt s_1 at_2))))), (23, .c (.val (.bool (decide ((IntKind.wrap .i64 (bt s_1 at_2)) < (128 : Int))))))], [], 0⟩ [] (by kernel_rfl) rfl rfl ap0 ?_
      refine VL_cond ((decide ((IntKind.wrap .i64 (bt s_1 at_2)) < (128 : Int)))) (by kernel_rfl) ?_ ?_
      · intro b_12; have H_89 := of_t H_88 b_12
        refine V_run hN hn 2 0 [4] [] ⟨[(4, .c (.val (.int .i64 (1 : Int))))], [], 0⟩ [] (by kernel_rfl) rfl rfl ap0 ?_
        have H_91 := Option.some.inj (show some (1 : Int) = some r from H_89); subst H_91
        refine VL_ret ?_
        refine QB_ret ?_
        exact P_to [(4, .c (.val (.int .i64 (1 : Int))))] [] [] hn (by kernel_rfl) (by kernel_rfl) rfl rfl rfl (QF_retS (by kernel_rfl) (by kernel_rfl) rfl)
      · intro b_12; have H_90 := of_f H_88 b_12
        refine V_run hN hn 1 0 [0, 1, 5, 23] [] ⟨[(0, .c (.val (.string s_1))), (1, .c (.val (.int .i64 at_2))), (5, .c (.val (.int .i64 (IntKind.wrap .i64 (bt s_1 at_2))))), (23, .c (.val (.bool (decide ((IntKind.wrap .i64 (bt s_1 at_2)) < (128 : Int))))))], [], 0⟩ [] (by kernel_rfl) rfl rfl ap0 ?_
        obtain ⟨q_92, H_93, H_94⟩ := of_bind H_90
        refine V_cut (Y := Bool) (R := Bool) q_92 (fun y => y) (fun y => [(0, .c (.val (.string s_1))), (1, .c (.val (.int .i64 at_2))), (5, .c (.val (.int .i64 (IntKind.wrap .i64 (bt s_1 at_2))))), (26, .c (.val (.bool y)))]) (fun y => []) ?_ ?_
        · skip
          rcases Bool.eq_false_or_eq_true ((decide ((IntKind.wrap .i64 (bt s_1 at_2)) ≥ (192 : Int)))) with b_15 | b_15
          · have H_96 := of_t H_93 b_15
            refine V_reg hN hn [] [(29, true)] calls_nil 0 [0, 1, 5, 26] [] ⟨[(0, .c (.val (.string s_1))), (1, .c (.val (.int .i64 at_2))), (5, .c (.val (.int .i64 (IntKind.wrap .i64 (bt s_1 at_2))))), (26, .c (.val (.bool (decide ((IntKind.wrap .i64 (bt s_1 at_2)) < (224 : Int))))))], [], 0⟩ [(decide ((IntKind.wrap .i64 (bt s_1 at_2)) ≥ (192 : Int))) = true] (by kernel_rfl) rfl rfl (ap1 b_15) (by kernel_rfl) (by kernel_rfl) ?_
            have H_98 := Option.some.inj (show some (decide ((IntKind.wrap .i64 (bt s_1 at_2)) < (224 : Int))) = some q_92 from H_96); subst H_98
            refine VL_nil ?_
            exact QP_end (decide ((IntKind.wrap .i64 (bt s_1 at_2)) < (224 : Int))) rfl [] hn (by kernel_rfl) (by kernel_rfl) rfl rfl rfl
          · have H_97 := of_f H_93 b_15
            refine V_reg hN hn [] [(29, false)] calls_nil 0 [0, 1, 5, 26] [] ⟨[(0, .c (.val (.string s_1))), (1, .c (.val (.int .i64 at_2))), (5, .c (.val (.int .i64 (IntKind.wrap .i64 (bt s_1 at_2))))), (26, .c (.val (.bool false)))], [], 0⟩ [(decide ((IntKind.wrap .i64 (bt s_1 at_2)) ≥ (192 : Int))) = false] (by kernel_rfl) rfl rfl (ap1 b_15) (by kernel_rfl) (by kernel_rfl) ?_
            have H_99 := Option.some.inj (show some false = some q_92 from H_97); subst H_99
            refine VL_nil ?_
            exact QP_end false rfl [] hn (by kernel_rfl) (by kernel_rfl) rfl rfl rfl
        · intro y_95 hy; subst hy
          skip
          skip
          obtain ⟨q_100, H_101, H_102⟩ := of_bind H_94
          refine V_cut (Y := (Int × Int × Int)) (R := (Int ⊕ (Int × Int × Int))) q_100 (fun y => (Sum.inr y)) (fun y => [(0, .c (.val (.string s_1))), (1, .c (.val (.int .i64 at_2))), (6, .c (.val (.int .i64 y.1))), (7, .c (.val (.int .i64 y.2.1))), (8, .c (.val (.int .i64 y.2.2)))]) (fun y => []) ?_ ?_
          · skip
            refine VL_cond (y_95) (by kernel_rfl) ?_ ?_
            · intro b_19; have H_104 := of_t H_101 b_19
              refine V_run hN hn 1 0 [0, 1, 6, 7, 8] [] ⟨[(0, .c (.val (.string s_1))), (1, .c (.val (.int .i64 at_2))), (6, .c (.val (.int .i64 (2 : Int)))), (7, .c (.val (.int .i64 (IntKind.wrap .i64 (BitVec.toNat (BitVec.ofInt (IntKind.bits .i64) (IntKind.wrap .i64 (bt s_1 at_2)) &&& BitVec.ofInt (IntKind.bits .i64) (31 : Int))))))), (8, .c (.val (.int .i64 (128 : Int))))], [], 0⟩ [] (by kernel_rfl) rfl rfl ap0 ?_
              have H_106 := Option.some.inj (show some (Sum.inr ((2 : Int), (IntKind.wrap .i64 (BitVec.toNat (BitVec.ofInt (IntKind.bits .i64) (IntKind.wrap .i64 (bt s_1 at_2)) &&& BitVec.ofInt (IntKind.bits .i64) (31 : Int)))), (128 : Int))) = some q_100 from H_104); subst H_106
              refine VL_nil ?_
              exact QP_end ((2 : Int), (IntKind.wrap .i64 (BitVec.toNat (BitVec.ofInt (IntKind.bits .i64) (IntKind.wrap .i64 (bt s_1 at_2)) &&& BitVec.ofInt (IntKind.bits .i64) (31 : Int)))), (128 : Int)) rfl [] hn (by kernel_rfl) (by kernel_rfl) rfl rfl rfl
            · intro b_19; have H_105 := of_f H_101 b_19
              refine V_run hN hn 1 0 [0, 1, 5, 26] [] ⟨[(0, .c (.val (.string s_1))), (1, .c (.val (.int .i64 at_2))), (5, .c (.val (.int .i64 (IntKind.wrap .i64 (bt s_1 at_2))))), (26, .c (.val (.bool y_95)))], [], 0⟩ [] (by kernel_rfl) rfl rfl ap0 ?_
              obtain ⟨q_107, H_108, H_109⟩ := of_bind H_105
              refine V_cut (Y := Bool) (R := Bool) q_107 (fun y => y) (fun y => [(0, .c (.val (.string s_1))), (1, .c (.val (.int .i64 at_2))), (5, .c (.val (.int .i64 (IntKind.wrap .i64 (bt s_1 at_2))))), (35, .c (.val (.bool y)))]) (fun y => []) ?_ ?_
              · skip
                rcases Bool.eq_false_or_eq_true ((decide ((IntKind.wrap .i64 (bt s_1 at_2)) ≥ (224 : Int)))) with b_22 | b_22
                · have H_111 := of_t H_108 b_22
                  refine V_reg hN hn [] [(38, true)] calls_nil 0 [0, 1, 5, 35] [] ⟨[(0, .c (.val (.string s_1))), (1, .c (.val (.int .i64 at_2))), (5, .c (.val (.int .i64 (IntKind.wrap .i64 (bt s_1 at_2))))), (35, .c (.val (.bool (decide ((IntKind.wrap .i64 (bt s_1 at_2)) < (240 : Int))))))], [], 0⟩ [(decide ((IntKind.wrap .i64 (bt s_1 at_2)) ≥ (224 : Int))) = true] (by kernel_rfl) rfl rfl (ap1 b_22) (by kernel_rfl) (by kernel_rfl) ?_
                  have H_113 := Option.some.inj (show some (decide ((IntKind.wrap .i64 (bt s_1 at_2)) < (240 : Int))) = some q_107 from H_111); subst H_113
                  refine VL_nil ?_
                  exact QP_end (decide ((IntKind.wrap .i64 (bt s_1 at_2)) < (240 : Int))) rfl [] hn (by kernel_rfl) (by kernel_rfl) rfl rfl rfl
                · have H_112 := of_f H_108 b_22
                  refine V_reg hN hn [] [(38, false)] calls_nil 0 [0, 1, 5, 35] [] ⟨[(0, .c (.val (.string s_1))), (1, .c (.val (.int .i64 at_2))), (5, .c (.val (.int .i64 (IntKind.wrap .i64 (bt s_1 at_2))))), (35, .c (.val (.bool false)))], [], 0⟩ [(decide ((IntKind.wrap .i64 (bt s_1 at_2)) ≥ (224 : Int))) = false] (by kernel_rfl) rfl rfl (ap1 b_22) (by kernel_rfl) (by kernel_rfl) ?_
                  have H_114 := Option.some.inj (show some false = some q_107 from H_112); subst H_114
                  refine VL_nil ?_
                  exact QP_end false rfl [] hn (by kernel_rfl) (by kernel_rfl) rfl rfl rfl
              · intro y_110 hy; subst hy
                skip
                skip
                refine VL_cond (y_110) (by kernel_rfl) ?_ ?_
                · intro b_26; have H_115 := of_t H_109 b_26
                  refine V_run hN hn 1 0 [0, 1, 6, 7, 8] [] ⟨[(0, .c (.val (.string s_1))), (1, .c (.val (.int .i64 at_2))), (6, .c (.val (.int .i64 (3 : Int)))), (7, .c (.val (.int .i64 (IntKind.wrap .i64 (BitVec.toNat (BitVec.ofInt (IntKind.bits .i64) (IntKind.wrap .i64 (bt s_1 at_2)) &&& BitVec.ofInt (IntKind.bits .i64) (15 : Int))))))), (8, .c (.val (.int .i64 (2048 : Int))))], [], 0⟩ [] (by kernel_rfl) rfl rfl ap0 ?_
                  have H_117 := Option.some.inj (show some (Sum.inr ((3 : Int), (IntKind.wrap .i64 (BitVec.toNat (BitVec.ofInt (IntKind.bits .i64) (IntKind.wrap .i64 (bt s_1 at_2)) &&& BitVec.ofInt (IntKind.bits .i64) (15 : Int)))), (2048 : Int))) = some q_100 from H_115); subst H_117
                  refine VL_nil ?_
                  exact QP_end ((3 : Int), (IntKind.wrap .i64 (BitVec.toNat (BitVec.ofInt (IntKind.bits .i64) (IntKind.wrap .i64 (bt s_1 at_2)) &&& BitVec.ofInt (IntKind.bits .i64) (15 : Int)))), (2048 : Int)) rfl [] hn (by kernel_rfl) (by kernel_rfl) rfl rfl rfl
                · intro b_26; have H_116 := of_f H_109 b_26
                  refine V_run hN hn 1 0 [0, 1, 5, 35] [] ⟨[(0, .c (.val (.string s_1))), (1, .c (.val (.int .i64 at_2))), (5, .c (.val (.int .i64 (IntKind.wrap .i64 (bt s_1 at_2))))), (35, .c (.val (.bool y_110)))], [], 0⟩ [] (by kernel_rfl) rfl rfl ap0 ?_
                  obtain ⟨q_118, H_119, H_120⟩ := of_bind H_116
                  refine V_cut (Y := Bool) (R := Bool) q_118 (fun y => y) (fun y => [(0, .c (.val (.string s_1))), (1, .c (.val (.int .i64 at_2))), (5, .c (.val (.int .i64 (IntKind.wrap .i64 (bt s_1 at_2))))), (44, .c (.val (.bool y)))]) (fun y => []) ?_ ?_
                  · skip
                    rcases Bool.eq_false_or_eq_true ((decide ((IntKind.wrap .i64 (bt s_1 at_2)) ≥ (240 : Int)))) with b_29 | b_29
                    · have H_122 := of_t H_119 b_29
                      refine V_reg hN hn [] [(47, true)] calls_nil 0 [0, 1, 5, 44] [] ⟨[(0, .c (.val (.string s_1))), (1, .c (.val (.int .i64 at_2))), (5, .c (.val (.int .i64 (IntKind.wrap .i64 (bt s_1 at_2))))), (44, .c (.val (.bool (decide ((IntKind.wrap .i64 (bt s_1 at_2)) < (248 : Int))))))], [], 0⟩ [(decide ((IntKind.wrap .i64 (bt s_1 at_2)) ≥ (240 : Int))) = true] (by kernel_rfl) rfl rfl (ap1 b_29) (by kernel_rfl) (by kernel_rfl) ?_
                      have H_124 := Option.some.inj (show some (decide ((IntKind.wrap .i64 (bt s_1 at_2)) < (248 : Int))) = some q_118 from H_122); subst H_124
                      refine VL_nil ?_
                      exact QP_end (decide ((IntKind.wrap .i64 (bt s_1 at_2)) < (248 : Int))) rfl [] hn (by kernel_rfl) (by kernel_rfl) rfl rfl rfl
                    · have H_123 := of_f H_119 b_29
                      refine V_reg hN hn [] [(47, false)] calls_nil 0 [0, 1, 5, 44] [] ⟨[(0, .c (.val (.string s_1))), (1, .c (.val (.int .i64 at_2))), (5, .c (.val (.int .i64 (IntKind.wrap .i64 (bt s_1 at_2))))), (44, .c (.val (.bool false)))], [], 0⟩ [(decide ((IntKind.wrap .i64 (bt s_1 at_2)) ≥ (240 : Int))) = false] (by kernel_rfl) rfl rfl (ap1 b_29) (by kernel_rfl) (by kernel_rfl) ?_
                      have H_125 := Option.some.inj (show some false = some q_118 from H_123); subst H_125
                      refine VL_nil ?_
                      exact QP_end false rfl [] hn (by kernel_rfl) (by kernel_rfl) rfl rfl rfl
                  · intro y_121 hy; subst hy
                    skip
                    skip
                    refine VL_cond (y_121) (by kernel_rfl) ?_ ?_
                    · intro b_33; have H_126 := of_t H_120 b_33
                      refine V_run hN hn 1 0 [0, 1, 6, 7, 8] [] ⟨[(0, .c (.val (.string s_1))), (1, .c (.val (.int .i64 at_2))), (6, .c (.val (.int .i64 (4 : Int)))), (7, .c (.val (.int .i64 (IntKind.wrap .i64 (BitVec.toNat (BitVec.ofInt (IntKind.bits .i64) (IntKind.wrap .i64 (bt s_1 at_2)) &&& BitVec.ofInt (IntKind.bits .i64) (7 : Int))))))), (8, .c (.val (.int .i64 (65536 : Int))))], [], 0⟩ [] (by kernel_rfl) rfl rfl ap0 ?_
                      have H_128 := Option.some.inj (show some (Sum.inr ((4 : Int), (IntKind.wrap .i64 (BitVec.toNat (BitVec.ofInt (IntKind.bits .i64) (IntKind.wrap .i64 (bt s_1 at_2)) &&& BitVec.ofInt (IntKind.bits .i64) (7 : Int)))), (65536 : Int))) = some q_100 from H_126); subst H_128
                      refine VL_nil ?_
                      exact QP_end ((4 : Int), (IntKind.wrap .i64 (BitVec.toNat (BitVec.ofInt (IntKind.bits .i64) (IntKind.wrap .i64 (bt s_1 at_2)) &&& BitVec.ofInt (IntKind.bits .i64) (7 : Int)))), (65536 : Int)) rfl [] hn (by kernel_rfl) (by kernel_rfl) rfl rfl rfl
                    · intro b_33; have H_127 := of_f H_120 b_33
                      refine V_run hN hn 2 0 [4] [] ⟨[(4, .c (.val (.int .i64 (0 : Int))))], [], 0⟩ [] (by kernel_rfl) rfl rfl ap0 ?_
                      have H_129 := Option.some.inj (show some (Sum.inl (0 : Int)) = some q_100 from H_127); subst H_129
                      have H_130 := Option.some.inj (show some (0 : Int) = some r from H_102); subst H_130
                      refine VL_ret ?_
                      refine QP_ret ?_
                      refine QB_ret ?_
                      exact P_to [(4, .c (.val (.int .i64 (0 : Int))))] [] [] hn (by kernel_rfl) (by kernel_rfl) rfl rfl rfl (QF_retS (by kernel_rfl) (by kernel_rfl) rfl)
          · intro y_103 hy; subst hy
            obtain ⟨n_36, v_37, least_38⟩ := y_103
            refine VL_nil (QB_end ?_)
            refine V_run hN hn 3 0 [0, 1, 6, 7, 8, 58] [] ⟨[(0, .c (.val (.string s_1))), (1, .c (.val (.int .i64 at_2))), (6, .c (.val (.int .i64 n_36))), (7, .c (.val (.int .i64 v_37))), (8, .c (.val (.int .i64 least_38))), (58, .c (.val (.bool (decide ((IntKind.wrap .i64 ((((ByteArray.size s_1) : Nat) : Int) - at_2)) < n_36)))))], [], 0⟩ [] (by kernel_rfl) rfl rfl ap0 ?_
            refine VL_cond ((decide ((IntKind.wrap .i64 ((((ByteArray.size s_1) : Nat) : Int) - at_2)) < n_36))) (by kernel_rfl) ?_ ?_
            · intro b_40; have H_131 := of_t H_102 b_40
              refine V_run hN hn 2 0 [4] [] ⟨[(4, .c (.val (.int .i64 (0 : Int))))], [], 0⟩ [] (by kernel_rfl) rfl rfl ap0 ?_
              have H_133 := Option.some.inj (show some (0 : Int) = some r from H_131); subst H_133
              refine VL_ret ?_
              exact P_to [(4, .c (.val (.int .i64 (0 : Int))))] [] [] hn (by kernel_rfl) (by kernel_rfl) rfl rfl rfl (QF_retS (by kernel_rfl) (by kernel_rfl) rfl)
            · intro b_40; have H_132 := of_f H_102 b_40
              refine V_run hN hn 4 0 [0, 1, 6, 7, 8, 9] [] ⟨[(0, .c (.val (.string s_1))), (1, .c (.val (.int .i64 at_2))), (6, .c (.val (.int .i64 n_36))), (7, .c (.val (.int .i64 v_37))), (8, .c (.val (.int .i64 least_38))), (9, .c (.val (.int .i64 (1 : Int))))], [], 0⟩ [] (by kernel_rfl) rfl rfl ap0 ?_
              obtain ⟨q_134, H_135, H_136⟩ := of_bind H_132
              refine V_cut (Y := Int) (R := (Int ⊕ Int)) q_134 (fun y => (Sum.inr y)) (fun y => [(6, .c (.val (.int .i64 n_36))), (7, .c (.val (.int .i64 y))), (8, .c (.val (.int .i64 least_38)))]) (fun y => []) ?_ ?_
              · skip
                refine VL_block ?_
                refine V_to [(0, .c (.val (.string s_1))), (1, .c (.val (.int .i64 at_2))), (6, .c (.val (.int .i64 n_36))), (7, .c (.val (.int .i64 v_37))), (8, .c (.val (.int .i64 least_38))), (9, .c (.val (.int .i64 (1 : Int))))] [] [] hn (by kernel_rfl) (by kernel_rfl) rfl rfl rfl ?_
                refine VL_loop (X := (Int × Int)) (fun x => [(0, .c (.val (.string s_1))), (1, .c (.val (.int .i64 at_2))), (6, .c (.val (.int .i64 n_36))), (7, .c (.val (.int .i64 x.1))), (8, .c (.val (.int .i64 least_38))), (9, .c (.val (.int .i64 x.2)))]) (fun x => []) (fun k x => palinoderef1_Size.l0 K n_36 at_2 s_1 k x.1 x.2 = some q_134) K (v_37, (1 : Int)) H_135 (fun _ h => no_none h) ?_
                intro k_45 x_45 H_138
                obtain ⟨v_43, i_44⟩ := x_45
                have H_139 : palinoderef1_Size.l0 K n_36 at_2 s_1 (k_45 + 1) v_43 i_44 = some q_134 := H_138
                rw [palinoderef1_Size.l0] at H_139
                refine V_run hN hn 3 0 [0, 1, 6, 7, 8, 9, 61] [] ⟨[(0, .c (.val (.string s_1))), (1, .c (.val (.int .i64 at_2))), (6, .c (.val (.int .i64 n_36))), (7, .c (.val (.int .i64 v_43))), (8, .c (.val (.int .i64 least_38))), (9, .c (.val (.int .i64 i_44))), (61, .c (.val (.bool (decide (i_44 < n_36)))))], [], 0⟩ [] (by kernel_rfl) rfl rfl ap0 ?_
                refine VL_cond ((decide (i_44 < n_36))) (by kernel_rfl) ?_ ?_
                · intro b_47; have H_140 := of_t H_139 b_47
                  refine V_run hN hn 2 0 [0, 1, 6, 7, 8, 9, 61] [] ⟨[(0, .c (.val (.string s_1))), (1, .c (.val (.int .i64 at_2))), (6, .c (.val (.int .i64 n_36))), (7, .c (.val (.int .i64 v_43))), (8, .c (.val (.int .i64 least_38))), (9, .c (.val (.int .i64 i_44))), (61, .c (.val (.bool (decide (i_44 < n_36)))))], [], 0⟩ [] (by kernel_rfl) rfl rfl ap0 ?_
                  refine VL_block ?_
                  obtain ⟨c_49, H_142⟩ := of_if H_140
                  refine V_run hN hn 5 0 [0, 1, 6, 7, 8, 9, 10, 72] [] ⟨[(0, .c (.val (.string s_1))), (1, .c (.val (.int .i64 at_2))), (6, .c (.val (.int .i64 n_36))), (7, .c (.val (.int .i64 v_43))), (8, .c (.val (.int .i64 least_38))), (9, .c (.val (.int .i64 i_44))), (10, .c (.val (.int .i64 (IntKind.wrap .i64 (bt s_1 (IntKind.wrap .i64 (at_2 + i_44))))))), (72, .c (.val (.bool ((Int.fdiv (IntKind.wrap .i64 (bt s_1 (IntKind.wrap .i64 (at_2 + i_44)))) (64 : Int)) != (2 : Int)))))], [], 0⟩ [0 ≤ (IntKind.wrap .i64 (at_2 + i_44)), (IntKind.wrap .i64 (at_2 + i_44)) < (((ByteArray.size s_1) : Nat) : Int), (0 : Int) ≤ (6 : Int)] (by kernel_rfl) rfl rfl (ap2 c_49.1 (ap2 c_49.2 (ap1 (by decide)))) ?_
                  refine VL_cond (((Int.fdiv (IntKind.wrap .i64 (bt s_1 (IntKind.wrap .i64 (at_2 + i_44)))) (64 : Int)) != (2 : Int))) (by kernel_rfl) ?_ ?_
                  · intro b_50; have H_143 := of_t H_142 b_50
                    refine V_run hN hn 2 0 [4] [] ⟨[(4, .c (.val (.int .i64 (0 : Int))))], [], 0⟩ [] (by kernel_rfl) rfl rfl ap0 ?_
                    have H_145 := Option.some.inj (show some (Sum.inl (0 : Int)) = some q_134 from H_143); subst H_145
                    have H_146 := Option.some.inj (show some (0 : Int) = some r from H_136); subst H_146
                    refine VL_ret ?_
                    refine QB_ret ?_
                    refine QL_ret ?_
                    refine QB_ret ?_
                    refine QP_ret ?_
                    exact P_to [(4, .c (.val (.int .i64 (0 : Int))))] [] [] hn (by kernel_rfl) (by kernel_rfl) rfl rfl rfl (QF_retS (by kernel_rfl) (by kernel_rfl) rfl)
                  · intro b_50; have H_144 := of_f H_142 b_50
                    refine V_run hN hn 2 0 [0, 1, 6, 7, 8, 9] [] ⟨[(0, .c (.val (.string s_1))), (1, .c (.val (.int .i64 at_2))), (6, .c (.val (.int .i64 n_36))), (7, .c (.val (.int .i64 (IntKind.wrap .i64 (BitVec.toNat (BitVec.ofInt (IntKind.bits .i64) (IntKind.wrap .i64 (v_43 * (64 : Int))) ||| BitVec.ofInt (IntKind.bits .i64) (IntKind.wrap .i64 (BitVec.toNat (BitVec.ofInt (IntKind.bits .i64) (IntKind.wrap .i64 (bt s_1 (IntKind.wrap .i64 (at_2 + i_44)))) &&& BitVec.ofInt (IntKind.bits .i64) (63 : Int)))))))))), (8, .c (.val (.int .i64 least_38))), (9, .c (.val (.int .i64 i_44)))], [], 0⟩ [(0 : Int) ≤ (6 : Int)] (by kernel_rfl) rfl rfl (ap1 (by decide)) ?_
                    refine VL_nil (QB_end ?_)
                    refine V_run hN hn 1 0 [0, 1, 6, 7, 8, 9] [] ⟨[(0, .c (.val (.string s_1))), (1, .c (.val (.int .i64 at_2))), (6, .c (.val (.int .i64 n_36))), (7, .c (.val (.int .i64 (IntKind.wrap .i64 (BitVec.toNat (BitVec.ofInt (IntKind.bits .i64) (IntKind.wrap .i64 (v_43 * (64 : Int))) ||| BitVec.ofInt (IntKind.bits .i64) (IntKind.wrap .i64 (BitVec.toNat (BitVec.ofInt (IntKind.bits .i64) (IntKind.wrap .i64 (bt s_1 (IntKind.wrap .i64 (at_2 + i_44)))) &&& BitVec.ofInt (IntKind.bits .i64) (63 : Int)))))))))), (8, .c (.val (.int .i64 least_38))), (9, .c (.val (.int .i64 (IntKind.wrap .i64 (i_44 + (1 : Int))))))], [], 0⟩ [] (by kernel_rfl) rfl rfl ap0 ?_
                    refine VL_nil ?_
                    exact V_roundEnd ((IntKind.wrap .i64 (BitVec.toNat (BitVec.ofInt (IntKind.bits .i64) (IntKind.wrap .i64 (v_43 * (64 : Int))) ||| BitVec.ofInt (IntKind.bits .i64) (IntKind.wrap .i64 (BitVec.toNat (BitVec.ofInt (IntKind.bits .i64) (IntKind.wrap .i64 (bt s_1 (IntKind.wrap .i64 (at_2 + i_44)))) &&& BitVec.ofInt (IntKind.bits .i64) (63 : Int))))))), (IntKind.wrap .i64 (i_44 + (1 : Int)))) H_144 [] hn (by kernel_rfl) (by kernel_rfl) rfl rfl rfl
                · intro b_47; have H_141 := of_f H_139 b_47
                  refine VL_exit ?_
                  refine QL_exit ?_
                  refine QB_here ?_
                  have H_147 := Option.some.inj (show some (Sum.inr v_43) = some q_134 from H_141); subst H_147
                  refine VL_nil ?_
                  exact QP_end v_43 rfl [] hn (by kernel_rfl) (by kernel_rfl) rfl rfl rfl
              · intro y_137 hy; subst hy
                skip
                skip
                refine V_run hN hn 2 0 [6, 7, 8] [] ⟨[(6, .c (.val (.int .i64 n_36))), (7, .c (.val (.int .i64 y_137))), (8, .c (.val (.int .i64 least_38)))], [], 0⟩ [] (by kernel_rfl) rfl rfl ap0 ?_
                obtain ⟨q_148, H_149, H_150⟩ := of_bind H_136
                refine V_cut (Y := Bool) (R := Bool) q_148 (fun y => y) (fun y => [(6, .c (.val (.int .i64 n_36))), (92, .c (.val (.bool y)))]) (fun y => []) ?_ ?_
                · skip
                  rcases Bool.eq_false_or_eq_true ((decide (y_137 < least_38))) with b_56 | b_56
                  · have H_152 := of_t H_149 b_56
                    refine V_reg hN hn [] [(81, true)] calls_nil 0 [6, 92] [] ⟨[(6, .c (.val (.int .i64 n_36))), (92, .c (.val (.bool true)))], [], 0⟩ [(decide (y_137 < least_38)) = true] (by kernel_rfl) rfl rfl (ap1 b_56) (by kernel_rfl) (by kernel_rfl) ?_
                    have H_154 := Option.some.inj (show some true = some q_148 from H_152); subst H_154
                    refine VL_nil ?_
                    exact QP_end true rfl [] hn (by kernel_rfl) (by kernel_rfl) rfl rfl rfl
                  · have H_153 := of_f H_149 b_56
                    rcases Bool.eq_false_or_eq_true ((decide (y_137 > (1114111 : Int)))) with b_58 | b_58
                    · have H_155 := of_t H_153 b_58
                      refine V_reg hN hn [] [(81, false), (85, true)] calls_nil 0 [6, 92] [] ⟨[(6, .c (.val (.int .i64 n_36))), (92, .c (.val (.bool true)))], [], 0⟩ [(decide (y_137 < least_38)) = false, (decide (y_137 > (1114111 : Int))) = true] (by kernel_rfl) rfl rfl (ap2 b_56 (ap1 b_58)) (by kernel_rfl) (by kernel_rfl) ?_
                      have H_157 := Option.some.inj (show some true = some q_148 from H_155); subst H_157
                      refine VL_nil ?_
                      exact QP_end true rfl [] hn (by kernel_rfl) (by kernel_rfl) rfl rfl rfl
                    · have H_156 := of_f H_153 b_58
                      rcases Bool.eq_false_or_eq_true ((decide (y_137 ≥ (55296 : Int)))) with b_60 | b_60
                      · have H_158 := of_t H_156 b_60
                        refine V_reg hN hn [] [(81, false), (85, false), (88, true)] calls_nil 0 [6, 92] [] ⟨[(6, .c (.val (.int .i64 n_36))), (92, .c (.val (.bool (decide (y_137 < (57344 : Int))))))], [], 0⟩ [(decide (y_137 < least_38)) = false, (decide (y_137 > (1114111 : Int))) = false, (decide (y_137 ≥ (55296 : Int))) = true] (by kernel_rfl) rfl rfl (ap2 b_56 (ap2 b_58 (ap1 b_60))) (by kernel_rfl) (by kernel_rfl) ?_
                        have H_160 := Option.some.inj (show some (decide (y_137 < (57344 : Int))) = some q_148 from H_158); subst H_160
                        refine VL_nil ?_
                        exact QP_end (decide (y_137 < (57344 : Int))) rfl [] hn (by kernel_rfl) (by kernel_rfl) rfl rfl rfl
                      · have H_159 := of_f H_156 b_60
                        refine V_reg hN hn [] [(81, false), (85, false), (88, false)] calls_nil 0 [6, 92] [] ⟨[(6, .c (.val (.int .i64 n_36))), (92, .c (.val (.bool false)))], [], 0⟩ [(decide (y_137 < least_38)) = false, (decide (y_137 > (1114111 : Int))) = false, (decide (y_137 ≥ (55296 : Int))) = false] (by kernel_rfl) rfl rfl (ap2 b_56 (ap2 b_58 (ap1 b_60))) (by kernel_rfl) (by kernel_rfl) ?_
                        have H_161 := Option.some.inj (show some false = some q_148 from H_159); subst H_161
                        refine VL_nil ?_
                        exact QP_end false rfl [] hn (by kernel_rfl) (by kernel_rfl) rfl rfl rfl
                · intro y_151 hy; subst hy
                  skip
                  skip
                  refine VL_cond (y_151) (by kernel_rfl) ?_ ?_
                  · intro b_64; have H_162 := of_t H_150 b_64
                    refine V_run hN hn 2 0 [4] [] ⟨[(4, .c (.val (.int .i64 (0 : Int))))], [], 0⟩ [] (by kernel_rfl) rfl rfl ap0 ?_
                    have H_164 := Option.some.inj (show some (0 : Int) = some r from H_162); subst H_164
                    refine VL_ret ?_
                    exact P_to [(4, .c (.val (.int .i64 (0 : Int))))] [] [] hn (by kernel_rfl) (by kernel_rfl) rfl rfl rfl (QF_retS (by kernel_rfl) (by kernel_rfl) rfl)
                  · intro b_64; have H_163 := of_f H_150 b_64
                    refine V_run hN hn 3 0 [4] [] ⟨[(4, .c (.val (.int .i64 n_36)))], [], 0⟩ [] (by kernel_rfl) rfl rfl ap0 ?_
                    have H_165 := Option.some.inj (show some n_36 = some r from H_163); subst H_165
                    refine VL_ret ?_
                    exact P_to [(4, .c (.val (.int .i64 n_36)))] [] [] hn (by kernel_rfl) (by kernel_rfl) rfl rfl rfl (QF_retS (by kernel_rfl) (by kernel_rfl) rfl)

theorem palinoderef1_Valid_spec (K : Nat) (s_1 : ByteArray) (r : Bool) (H : palinoderef1_Valid K s_1 = some r) : Spec Try.prog 25 0 [.c (.val (.string s_1))] [] (.c (.val (.bool r))) [] := by
  refine Spec_mk (fn := Try.f25) (c := (Try.f25.body).get!) Try.func25 (by kernel_rfl) rfl ?_
  intro C hN hn
  replace hN : C.N = 17 := hN
  unfold palinoderef1_Valid at H
  refine V_run hN hn 5 0 [0, 3] [] ⟨[(0, .c (.val (.string s_1))), (3, .c (.val (.int .i64 (0 : Int))))], [], 0⟩ [] (by kernel_rfl) rfl rfl ap0 ?_
  refine VL_block ?_
  refine V_to [(0, .c (.val (.string s_1))), (3, .c (.val (.int .i64 (0 : Int))))] [] [] hn (by kernel_rfl) (by kernel_rfl) rfl rfl rfl ?_
  refine VL_loop (X := Int) (fun x => [(0, .c (.val (.string s_1))), (3, .c (.val (.int .i64 x)))]) (fun x => []) (fun k x => palinoderef1_Valid.l0 K s_1 k x = some r) K (0 : Int) H (fun _ h => no_none h) ?_
  intro k_4 at_3 H_18
  have H_19 : palinoderef1_Valid.l0 K s_1 (k_4 + 1) at_3 = some r := H_18
  rw [palinoderef1_Valid.l0] at H_19
  refine V_run hN hn 3 0 [0, 3, 8] [] ⟨[(0, .c (.val (.string s_1))), (3, .c (.val (.int .i64 at_3))), (8, .c (.val (.bool (decide (at_3 < (((ByteArray.size s_1) : Nat) : Int))))))], [], 0⟩ [] (by kernel_rfl) rfl rfl ap0 ?_
  refine VL_cond ((decide (at_3 < (((ByteArray.size s_1) : Nat) : Int)))) (by kernel_rfl) ?_ ?_
  · intro b_6; have H_20 := of_t H_19 b_6
    refine V_run hN hn 1 0 [0, 3, 8] [] ⟨[(0, .c (.val (.string s_1))), (3, .c (.val (.int .i64 at_3))), (8, .c (.val (.bool (decide (at_3 < (((ByteArray.size s_1) : Nat) : Int))))))], [], 0⟩ [] (by kernel_rfl) rfl rfl ap0 ?_
    refine VL_block ?_
    refine V_run hN hn 1 0 [0, 3, 8] [] ⟨[(0, .c (.val (.string s_1))), (3, .c (.val (.int .i64 at_3))), (8, .c (.val (.bool (decide (at_3 < (((ByteArray.size s_1) : Nat) : Int))))))], [], 0⟩ [] (by kernel_rfl) rfl rfl ap0 ?_
    obtain ⟨r_9, h_10, H_22⟩ := of_bind H_20
    refine V_reg hN hn [(2, ⟨38, 0, [.c (.val (.string s_1)), .c (.val (.int .i64 at_3))], [], .c (.val (.int .i64 r_9)), [], [], 0⟩)] [] (calls_cons (palinoderef1_Size_spec K s_1 at_3 r_9 h_10) (by kernel_rfl) calls_nil) 0 [0, 3, 4] [] ⟨[(0, .c (.val (.string s_1))), (3, .c (.val (.int .i64 at_3))), (4, .c (.val (.int .i64 r_9)))], [], 0⟩ [] (by kernel_rfl) rfl rfl ap0 (by kernel_rfl) (by kernel_rfl) ?_
    refine V_run hN hn 3 0 [0, 3, 4, 13] [] ⟨[(0, .c (.val (.string s_1))), (3, .c (.val (.int .i64 at_3))), (4, .c (.val (.int .i64 r_9))), (13, .c (.val (.bool (r_9 == (0 : Int)))))], [], 0⟩ [] (by kernel_rfl) rfl rfl ap0 ?_
    refine VL_cond ((r_9 == (0 : Int))) (by kernel_rfl) ?_ ?_
    · intro b_13; have H_23 := of_t H_22 b_13
      refine V_run hN hn 2 0 [2] [] ⟨[(2, .c (.val (.bool false)))], [], 0⟩ [] (by kernel_rfl) rfl rfl ap0 ?_
      have H_25 := Option.some.inj (show some false = some r from H_23); subst H_25
      refine VL_ret ?_
      refine QB_ret ?_
      refine QL_ret ?_
      refine QB_ret ?_
      exact P_to [(2, .c (.val (.bool false)))] [] [] hn (by kernel_rfl) (by kernel_rfl) rfl rfl rfl (QF_retS (by kernel_rfl) (by kernel_rfl) rfl)
    · intro b_13; have H_24 := of_f H_22 b_13
      refine V_run hN hn 2 0 [0, 3] [] ⟨[(0, .c (.val (.string s_1))), (3, .c (.val (.int .i64 (IntKind.wrap .i64 (at_3 + r_9)))))], [], 0⟩ [] (by kernel_rfl) rfl rfl ap0 ?_
      refine VL_nil (QB_end ?_)
      refine VL_nil ?_
      exact V_roundEnd (IntKind.wrap .i64 (at_3 + r_9)) H_24 [] hn (by kernel_rfl) (by kernel_rfl) rfl rfl rfl
  · intro b_6; have H_21 := of_f H_19 b_6
    refine VL_exit ?_
    refine QL_exit ?_
    refine QB_here ?_
    refine V_run hN hn 2 0 [2] [] ⟨[(2, .c (.val (.bool true)))], [], 0⟩ [] (by kernel_rfl) rfl rfl ap0 ?_
    have H_26 := Option.some.inj (show some true = some r from H_21); subst H_26
    refine VL_ret ?_
    exact P_to [(2, .c (.val (.bool true)))] [] [] hn (by kernel_rfl) (by kernel_rfl) rfl rfl rfl (QF_retS (by kernel_rfl) (by kernel_rfl) rfl)

theorem delta_Is_sgr_spec (K : Nat) (d_1 : Int) (d_2 : (List (Int × (Int × ByteArray)))) (r : Bool) (H : delta_Is K d_1 d_2 = some r) : Spec Try.prog 13 1 [.agg [.val (.int .i64 d_1), .h 0]] [(0, .row (.pair (.int .i64) (.pair (.int .i64) .str)) d_2)] (.c (.val (.bool r))) [(0, .row (.pair (.int .i64) (.pair (.int .i64) .str)) d_2)] := by
  refine Spec_mk (fn := Try.f13) (c := (Try.f13.body).get!) Try.func13 (by kernel_rfl) rfl ?_
  intro C hN hn
  replace hN : C.N = 68 := hN
  unfold delta_Is at H
  refine V_run hN hn 4 1 [1] [0, 1] ⟨[(1, .c (.h 1))], [(0, .row (.pair (.int .i64) (.pair (.int .i64) .str)) d_2), (1, .box [.val (.int .i64 d_1), .h 0])], 2⟩ [] (by kernel_rfl) rfl rfl ap0 ?_
  obtain ⟨q_53, H_54, H_55⟩ := of_bind H
  refine V_cut (Y := Bool) (R := Bool) q_53 (fun y => y) (fun y => [(1, .c (.h 1)), (21, .c (.val (.bool y)))]) (fun y => [(0, .row (.pair (.int .i64) (.pair (.int .i64) .str)) d_2), (1, .box [.val (.int .i64 d_1), .h 0])]) ?_ ?_
  · skip
    rcases Bool.eq_false_or_eq_true ((decide (d_1 < (0 : Int)))) with b_4 | b_4
    · have H_57 := of_t H_54 b_4
      refine V_reg hN hn [] [(11, true)] calls_nil 2 [1, 21] [0, 1] ⟨[(1, .c (.h 1)), (21, .c (.val (.bool true)))], [(0, .row (.pair (.int .i64) (.pair (.int .i64) .str)) d_2), (1, .box [.val (.int .i64 d_1), .h 0])], 2⟩ [(decide (d_1 < (0 : Int))) = true] (by kernel_rfl) rfl rfl (ap1 b_4) (by kernel_rfl) (by kernel_rfl) ?_
      have H_59 := Option.some.inj (show some true = some q_53 from H_57); subst H_59
      refine VL_nil ?_
      exact QP_end true rfl [(1, 1)] hn (by kernel_rfl) (by kernel_rfl) rfl rfl rfl
    · have H_58 := of_f H_54 b_4
      rcases Bool.eq_false_or_eq_true ((decide (d_1 > (20000 : Int)))) with b_6 | b_6
      · have H_60 := of_t H_58 b_6
        refine V_reg hN hn [] [(11, false), (16, true)] calls_nil 2 [1, 21] [0, 1] ⟨[(1, .c (.h 1)), (21, .c (.val (.bool true)))], [(0, .row (.pair (.int .i64) (.pair (.int .i64) .str)) d_2), (1, .box [.val (.int .i64 d_1), .h 0])], 2⟩ [(decide (d_1 < (0 : Int))) = false, (decide (d_1 > (20000 : Int))) = true] (by kernel_rfl) rfl rfl (ap2 b_4 (ap1 b_6)) (by kernel_rfl) (by kernel_rfl) ?_
        have H_62 := Option.some.inj (show some true = some q_53 from H_60); subst H_62
        refine VL_nil ?_
        exact QP_end true rfl [(1, 1)] hn (by kernel_rfl) (by kernel_rfl) rfl rfl rfl
      · have H_61 := of_f H_58 b_6
        refine V_reg hN hn [] [(11, false), (16, false)] calls_nil 2 [1, 21] [0, 1] ⟨[(1, .c (.h 1)), (21, .c (.val (.bool (decide ((((List.length d_2) : Nat) : Int) > (60 : Int))))))], [(0, .row (.pair (.int .i64) (.pair (.int .i64) .str)) d_2), (1, .box [.val (.int .i64 d_1), .h 0])], 2⟩ [(decide (d_1 < (0 : Int))) = false, (decide (d_1 > (20000 : Int))) = false] (by kernel_rfl) rfl rfl (ap2 b_4 (ap1 b_6)) (by kernel_rfl) (by kernel_rfl) ?_
        have H_63 := Option.some.inj (show some (decide ((((List.length d_2) : Nat) : Int) > (60 : Int))) = some q_53 from H_61); subst H_63
        refine VL_nil ?_
        exact QP_end (decide ((((List.length d_2) : Nat) : Int) > (60 : Int))) rfl [(1, 1)] hn (by kernel_rfl) (by kernel_rfl) rfl rfl rfl
  · intro y_56 hy; subst hy
    skip
    skip
    refine VL_cond (y_56) (by kernel_rfl) ?_ ?_
    · intro b_10; have H_64 := of_t H_55 b_10
      refine V_run hN hn 2 2 [2] [0] ⟨[(2, .c (.val (.bool false)))], [(0, .row (.pair (.int .i64) (.pair (.int .i64) .str)) d_2)], 2⟩ [] (by kernel_rfl) rfl rfl ap0 ?_
      have H_66 := Option.some.inj (show some false = some r from H_64); subst H_66
      refine VL_ret ?_
      exact P_to [(2, .c (.val (.bool false)))] [(0, .row (.pair (.int .i64) (.pair (.int .i64) .str)) d_2)] [] hn (by kernel_rfl) (by kernel_rfl) rfl rfl rfl (QF_retS (by kernel_rfl) (by kernel_rfl) rfl)
    · intro b_10; have H_65 := of_f H_55 b_10
      refine V_run hN hn 6 2 [1, 3, 4, 23, 24, 25] [0, 1] ⟨[(1, .c (.h 1)), (3, .c (.val (.int .i64 (0 : Int)))), (4, .c (.val (.int .i64 (0 : Int)))), (23, .c (.h 0)), (24, .c (.val (.int .i64 (((List.length d_2) : Nat) : Int)))), (25, .c (.val (.int .i64 (0 : Int))))], [(0, .row (.pair (.int .i64) (.pair (.int .i64) .str)) d_2), (1, .box [.val (.int .i64 d_1), .h 0])], 2⟩ [] (by kernel_rfl) rfl rfl ap0 ?_
      refine VL_block ?_
      refine V_to [(1, .c (.h 1)), (3, .c (.val (.int .i64 (0 : Int)))), (4, .c (.val (.int .i64 (0 : Int)))), (23, .c (.h 0)), (24, .c (.val (.int .i64 (((List.length d_2) : Nat) : Int)))), (25, .c (.val (.int .i64 (0 : Int))))] [(0, .row (.pair (.int .i64) (.pair (.int .i64) .str)) d_2), (1, .box [.val (.int .i64 d_1), .h 0])] [(1, 1)] hn (by kernel_rfl) (by kernel_rfl) rfl rfl rfl ?_
      refine VL_loop (X := (Int × Int × Int)) (fun x => [(1, .c (.h 1)), (3, .c (.val (.int .i64 x.1))), (4, .c (.val (.int .i64 x.2.1))), (23, .c (.h 0)), (24, .c (.val (.int .i64 (((List.length d_2) : Nat) : Int)))), (25, .c (.val (.int .i64 x.2.2)))]) (fun x => [(0, .row (.pair (.int .i64) (.pair (.int .i64) .str)) d_2), (1, .box [.val (.int .i64 d_1), .h 0])]) (fun k x => delta_Is.l0 K d_2 d_1 k x.1 x.2.1 x.2.2 = some r) K ((0 : Int), (0 : Int), (0 : Int)) H_65 (fun _ h => no_none h) ?_
      intro k_16 x_16 H_67
      obtain ⟨size_13, to_14, t_15⟩ := x_16
      have H_68 : delta_Is.l0 K d_2 d_1 (k_16 + 1) size_13 to_14 t_15 = some r := H_67
      rw [delta_Is.l0] at H_68
      refine V_run hN hn 3 2 [1, 3, 4, 23, 24, 25, 26] [0, 1] ⟨[(1, .c (.h 1)), (3, .c (.val (.int .i64 size_13))), (4, .c (.val (.int .i64 to_14))), (23, .c (.h 0)), (24, .c (.val (.int .i64 (((List.length d_2) : Nat) : Int)))), (25, .c (.val (.int .i64 t_15))), (26, .c (.val (.bool (decide (t_15 < (((List.length d_2) : Nat) : Int))))))], [(0, .row (.pair (.int .i64) (.pair (.int .i64) .str)) d_2), (1, .box [.val (.int .i64 d_1), .h 0])], 2⟩ [] (by kernel_rfl) rfl rfl ap0 ?_
      refine VL_cond ((decide (t_15 < (((List.length d_2) : Nat) : Int)))) (by kernel_rfl) ?_ ?_
      · intro b_18; have H_69 := of_t H_68 b_18
        refine V_run hN hn 2 2 [1, 3, 4, 23, 24, 25, 26] [0, 1] ⟨[(1, .c (.h 1)), (3, .c (.val (.int .i64 size_13))), (4, .c (.val (.int .i64 to_14))), (23, .c (.h 0)), (24, .c (.val (.int .i64 (((List.length d_2) : Nat) : Int)))), (25, .c (.val (.int .i64 t_15))), (26, .c (.val (.bool (decide (t_15 < (((List.length d_2) : Nat) : Int))))))], [(0, .row (.pair (.int .i64) (.pair (.int .i64) .str)) d_2), (1, .box [.val (.int .i64 d_1), .h 0])], 2⟩ [] (by kernel_rfl) rfl rfl ap0 ?_
        refine VL_block ?_
        obtain ⟨c_20, H_71⟩ := of_if H_69
        refine V_run hN hn 3 2 [1, 3, 4, 5, 6, 23, 24, 25] [0, 1, 2] ⟨[(1, .c (.h 1)), (3, .c (.val (.int .i64 size_13))), (4, .c (.val (.int .i64 to_14))), (5, .c (.val (.int .i64 t_15))), (6, .c (.h 2)), (23, .c (.h 0)), (24, .c (.val (.int .i64 (((List.length d_2) : Nat) : Int)))), (25, .c (.val (.int .i64 t_15)))], [(0, .row (.pair (.int .i64) (.pair (.int .i64) .str)) d_2), (1, .box [.val (.int .i64 d_1), .h 0]), (2, .box [.val (.int .i64 (List.getD d_2 (Int.toNat t_15) ((0 : Int), ((0 : Int), ByteArray.empty))).1), .val (.int .i64 (List.getD d_2 (Int.toNat t_15) ((0 : Int), ((0 : Int), ByteArray.empty))).2.1), .val (.string (List.getD d_2 (Int.toNat t_15) ((0 : Int), ((0 : Int), ByteArray.empty))).2.2)])], 3⟩ [0 ≤ t_15, t_15 < (((List.length d_2) : Nat) : Int)] (by kernel_rfl) rfl rfl (ap2 c_20.1 (ap1 c_20.2)) ?_
        obtain ⟨q_72, H_73, H_74⟩ := of_bind H_71
        refine V_cut (Y := Bool) (R := Bool) q_72 (fun y => y) (fun y => [(1, .c (.h 1)), (3, .c (.val (.int .i64 size_13))), (4, .c (.val (.int .i64 to_14))), (5, .c (.val (.int .i64 t_15))), (6, .c (.h 2)), (7, .c (.val (.bool y))), (23, .c (.h 0)), (24, .c (.val (.int .i64 (((List.length d_2) : Nat) : Int)))), (25, .c (.val (.int .i64 t_15)))]) (fun y => [(0, .row (.pair (.int .i64) (.pair (.int .i64) .str)) d_2), (1, .box [.val (.int .i64 d_1), .h 0]), (2, .box [.val (.int .i64 (List.getD d_2 (Int.toNat t_15) ((0 : Int), ((0 : Int), ByteArray.empty))).1), .val (.int .i64 (List.getD d_2 (Int.toNat t_15) ((0 : Int), ((0 : Int), ByteArray.empty))).2.1), .val (.string (List.getD d_2 (Int.toNat t_15) ((0 : Int), ((0 : Int), ByteArray.empty))).2.2)])]) ?_ ?_
        · skip
          rcases Bool.eq_false_or_eq_true ((decide (t_15 > (0 : Int)))) with b_21 | b_21
          · have H_76 := of_t H_73 b_21
            obtain ⟨r_22, h_23, H_78⟩ := of_bind H_76
            obtain ⟨c_24, H_79⟩ := of_if H_78
            refine V_reg hN hn [(9, ⟨26, 0, [.agg [.val (.int .i64 (List.getD d_2 (Int.toNat (IntKind.wrap .i64 (t_15 - (1 : Int)))) ((0 : Int), ((0 : Int), ByteArray.empty))).1), .val (.int .i64 (List.getD d_2 (Int.toNat (IntKind.wrap .i64 (t_15 - (1 : Int)))) ((0 : Int), ((0 : Int), ByteArray.empty))).2.1), .val (.string (List.getD d_2 (Int.toNat (IntKind.wrap .i64 (t_15 - (1 : Int)))) ((0 : Int), ((0 : Int), ByteArray.empty))).2.2)]], [], .c (.val (.bool r_22)), [], [], 3⟩)] [(32, true)] (calls_cons (delta_IsCopy_spec K (List.getD d_2 (Int.toNat (IntKind.wrap .i64 (t_15 - (1 : Int)))) ((0 : Int), ((0 : Int), ByteArray.empty))).1 (List.getD d_2 (Int.toNat (IntKind.wrap .i64 (t_15 - (1 : Int)))) ((0 : Int), ((0 : Int), ByteArray.empty))).2.1 (List.getD d_2 (Int.toNat (IntKind.wrap .i64 (t_15 - (1 : Int)))) ((0 : Int), ((0 : Int), ByteArray.empty))).2.2 r_22 h_23) (by kernel_rfl) calls_nil) 3 [1, 3, 4, 5, 6, 7, 23, 24, 25] [0, 1, 2] ⟨[(1, .c (.h 1)), (3, .c (.val (.int .i64 size_13))), (4, .c (.val (.int .i64 to_14))), (5, .c (.val (.int .i64 t_15))), (6, .c (.h 2)), (7, .c (.val (.bool r_22))), (23, .c (.h 0)), (24, .c (.val (.int .i64 (((List.length d_2) : Nat) : Int)))), (25, .c (.val (.int .i64 t_15)))], [(0, .row (.pair (.int .i64) (.pair (.int .i64) .str)) d_2), (1, .box [.val (.int .i64 d_1), .h 0]), (2, .box [.val (.int .i64 (List.getD d_2 (Int.toNat t_15) ((0 : Int), ((0 : Int), ByteArray.empty))).1), .val (.int .i64 (List.getD d_2 (Int.toNat t_15) ((0 : Int), ((0 : Int), ByteArray.empty))).2.1), .val (.string (List.getD d_2 (Int.toNat t_15) ((0 : Int), ((0 : Int), ByteArray.empty))).2.2)])], 3⟩ [(decide (t_15 > (0 : Int))) = true, 0 ≤ (IntKind.wrap .i64 (t_15 - (1 : Int))), (IntKind.wrap .i64 (t_15 - (1 : Int))) < (((List.length d_2) : Nat) : Int)] (by kernel_rfl) rfl rfl (ap2 b_21 (ap2 c_24.1 (ap1 c_24.2))) (by kernel_rfl) (by kernel_rfl) ?_
            have H_80 := Option.some.inj (show some r_22 = some q_72 from H_79); subst H_80
            refine VL_nil ?_
            exact QP_end r_22 rfl [(1, 1), (2, 2)] hn (by kernel_rfl) (by kernel_rfl) rfl rfl rfl
          · have H_77 := of_f H_73 b_21
            refine V_reg hN hn [] [(32, false)] calls_nil 3 [1, 3, 4, 5, 6, 7, 23, 24, 25] [0, 1, 2] ⟨[(1, .c (.h 1)), (3, .c (.val (.int .i64 size_13))), (4, .c (.val (.int .i64 to_14))), (5, .c (.val (.int .i64 t_15))), (6, .c (.h 2)), (7, .c (.val (.bool false))), (23, .c (.h 0)), (24, .c (.val (.int .i64 (((List.length d_2) : Nat) : Int)))), (25, .c (.val (.int .i64 t_15)))], [(0, .row (.pair (.int .i64) (.pair (.int .i64) .str)) d_2), (1, .box [.val (.int .i64 d_1), .h 0]), (2, .box [.val (.int .i64 (List.getD d_2 (Int.toNat t_15) ((0 : Int), ((0 : Int), ByteArray.empty))).1), .val (.int .i64 (List.getD d_2 (Int.toNat t_15) ((0 : Int), ((0 : Int), ByteArray.empty))).2.1), .val (.string (List.getD d_2 (Int.toNat t_15) ((0 : Int), ((0 : Int), ByteArray.empty))).2.2)])], 3⟩ [(decide (t_15 > (0 : Int))) = false] (by kernel_rfl) rfl rfl (ap1 b_21) (by kernel_rfl) (by kernel_rfl) ?_
            have H_81 := Option.some.inj (show some false = some q_72 from H_77); subst H_81
            refine VL_nil ?_
            exact QP_end false rfl [(1, 1), (2, 2)] hn (by kernel_rfl) (by kernel_rfl) rfl rfl rfl
        · intro y_75 hy; subst hy
          skip
          skip
          refine V_run hN hn 2 3 [1, 3, 4, 5, 6, 7, 23, 24, 25] [0, 1, 2] ⟨[(1, .c (.h 1)), (3, .c (.val (.int .i64 size_13))), (4, .c (.val (.int .i64 to_14))), (5, .c (.val (.int .i64 t_15))), (6, .c (.h 2)), (7, .c (.val (.bool y_75))), (23, .c (.h 0)), (24, .c (.val (.int .i64 (((List.length d_2) : Nat) : Int)))), (25, .c (.val (.int .i64 t_15)))], [(0, .row (.pair (.int .i64) (.pair (.int .i64) .str)) d_2), (1, .box [.val (.int .i64 d_1), .h 0]), (2, .box [.val (.int .i64 (List.getD d_2 (Int.toNat t_15) ((0 : Int), ((0 : Int), ByteArray.empty))).1), .val (.int .i64 (List.getD d_2 (Int.toNat t_15) ((0 : Int), ((0 : Int), ByteArray.empty))).2.1), .val (.string (List.getD d_2 (Int.toNat t_15) ((0 : Int), ((0 : Int), ByteArray.empty))).2.2)])], 3⟩ [] (by kernel_rfl) rfl rfl ap0 ?_
          obtain ⟨r_28, h_29, H_82⟩ := of_bind H_74
          refine V_reg hN hn [(7, ⟨27, 0, [.agg [.val (.int .i64 (List.getD d_2 (Int.toNat t_15) ((0 : Int), ((0 : Int), ByteArray.empty))).1), .val (.int .i64 (List.getD d_2 (Int.toNat t_15) ((0 : Int), ((0 : Int), ByteArray.empty))).2.1), .val (.string (List.getD d_2 (Int.toNat t_15) ((0 : Int), ((0 : Int), ByteArray.empty))).2.2)], .c (.val (.int .i64 d_1)), .c (.val (.int .i64 to_14)), .c (.val (.bool (decide (t_15 > (0 : Int))))), .c (.val (.bool y_75))], [], .c (.val (.bool r_28)), [], [], 3⟩)] [] (calls_cons (delta_elem_spec K (List.getD d_2 (Int.toNat t_15) ((0 : Int), ((0 : Int), ByteArray.empty))).1 (List.getD d_2 (Int.toNat t_15) ((0 : Int), ((0 : Int), ByteArray.empty))).2.1 (List.getD d_2 (Int.toNat t_15) ((0 : Int), ((0 : Int), ByteArray.empty))).2.2 d_1 to_14 (decide (t_15 > (0 : Int))) y_75 r_28 h_29) (by kernel_rfl) calls_nil) 3 [1, 3, 4, 6, 23, 24, 25, 49] [0, 1, 2] ⟨[(1, .c (.h 1)), (3, .c (.val (.int .i64 size_13))), (4, .c (.val (.int .i64 to_14))), (6, .c (.h 2)), (23, .c (.h 0)), (24, .c (.val (.int .i64 (((List.length d_2) : Nat) : Int)))), (25, .c (.val (.int .i64 t_15))), (49, .c (.val (.bool (!r_28))))], [(0, .row (.pair (.int .i64) (.pair (.int .i64) .str)) d_2), (1, .box [.val (.int .i64 d_1), .h 0]), (2, .box [.val (.int .i64 (List.getD d_2 (Int.toNat t_15) ((0 : Int), ((0 : Int), ByteArray.empty))).1), .val (.int .i64 (List.getD d_2 (Int.toNat t_15) ((0 : Int), ((0 : Int), ByteArray.empty))).2.1), .val (.string (List.getD d_2 (Int.toNat t_15) ((0 : Int), ((0 : Int), ByteArray.empty))).2.2)])], 3⟩ [] (by kernel_rfl) rfl rfl ap0 (by kernel_rfl) (by kernel_rfl) ?_
          refine VL_cond ((!r_28)) (by kernel_rfl) ?_ ?_
          · intro b_31; have H_83 := of_t H_82 b_31
            refine V_run hN hn 2 3 [2] [0] ⟨[(2, .c (.val (.bool false)))], [(0, .row (.pair (.int .i64) (.pair (.int .i64) .str)) d_2)], 3⟩ [] (by kernel_rfl) rfl rfl ap0 ?_
            have H_85 := Option.some.inj (show some false = some r from H_83); subst H_85
            refine VL_ret ?_
            refine QB_ret ?_
            refine QL_ret ?_
            refine QB_ret ?_
            exact P_to [(2, .c (.val (.bool false)))] [(0, .row (.pair (.int .i64) (.pair (.int .i64) .str)) d_2)] [] hn (by kernel_rfl) (by kernel_rfl) rfl rfl rfl (QF_retS (by kernel_rfl) (by kernel_rfl) rfl)
          · intro b_31; have H_84 := of_f H_82 b_31
            refine V_run hN hn 3 3 [1, 3, 4, 6, 23, 24, 25, 49] [0, 1, 2] ⟨[(1, .c (.h 1)), (3, .c (.val (.int .i64 size_13))), (4, .c (.val (.int .i64 to_14))), (6, .c (.h 2)), (23, .c (.h 0)), (24, .c (.val (.int .i64 (((List.length d_2) : Nat) : Int)))), (25, .c (.val (.int .i64 t_15))), (49, .c (.val (.bool (!r_28))))], [(0, .row (.pair (.int .i64) (.pair (.int .i64) .str)) d_2), (1, .box [.val (.int .i64 d_1), .h 0]), (2, .box [.val (.int .i64 (List.getD d_2 (Int.toNat t_15) ((0 : Int), ((0 : Int), ByteArray.empty))).1), .val (.int .i64 (List.getD d_2 (Int.toNat t_15) ((0 : Int), ((0 : Int), ByteArray.empty))).2.1), .val (.string (List.getD d_2 (Int.toNat t_15) ((0 : Int), ((0 : Int), ByteArray.empty))).2.2)])], 3⟩ [] (by kernel_rfl) rfl rfl ap0 ?_
            obtain ⟨r_34, h_35, H_86⟩ := of_bind H_84
            refine V_reg hN hn [(1, ⟨26, 0, [.agg [.val (.int .i64 (List.getD d_2 (Int.toNat t_15) ((0 : Int), ((0 : Int), ByteArray.empty))).1), .val (.int .i64 (List.getD d_2 (Int.toNat t_15) ((0 : Int), ((0 : Int), ByteArray.empty))).2.1), .val (.string (List.getD d_2 (Int.toNat t_15) ((0 : Int), ((0 : Int), ByteArray.empty))).2.2)]], [], .c (.val (.bool r_34)), [], [], 3⟩)] [] (calls_cons (delta_IsCopy_spec K (List.getD d_2 (Int.toNat t_15) ((0 : Int), ((0 : Int), ByteArray.empty))).1 (List.getD d_2 (Int.toNat t_15) ((0 : Int), ((0 : Int), ByteArray.empty))).2.1 (List.getD d_2 (Int.toNat t_15) ((0 : Int), ((0 : Int), ByteArray.empty))).2.2 r_34 h_35) (by kernel_rfl) calls_nil) 3 [1, 3, 4, 6, 23, 24, 25, 51] [0, 1, 2] ⟨[(1, .c (.h 1)), (3, .c (.val (.int .i64 size_13))), (4, .c (.val (.int .i64 to_14))), (6, .c (.h 2)), (23, .c (.h 0)), (24, .c (.val (.int .i64 (((List.length d_2) : Nat) : Int)))), (25, .c (.val (.int .i64 t_15))), (51, .c (.val (.bool r_34)))], [(0, .row (.pair (.int .i64) (.pair (.int .i64) .str)) d_2), (1, .box [.val (.int .i64 d_1), .h 0]), (2, .box [.val (.int .i64 (List.getD d_2 (Int.toNat t_15) ((0 : Int), ((0 : Int), ByteArray.empty))).1), .val (.int .i64 (List.getD d_2 (Int.toNat t_15) ((0 : Int), ((0 : Int), ByteArray.empty))).2.1), .val (.string (List.getD d_2 (Int.toNat t_15) ((0 : Int), ((0 : Int), ByteArray.empty))).2.2)])], 3⟩ [] (by kernel_rfl) rfl rfl ap0 (by kernel_rfl) (by kernel_rfl) ?_
            obtain ⟨q_87, H_88, H_89⟩ := of_bind H_86
            refine V_cut (Y := Int) (R := Int) q_87 (fun y => y) (fun y => [(1, .c (.h 1)), (3, .c (.val (.int .i64 size_13))), (4, .c (.val (.int .i64 y))), (6, .c (.h 2)), (23, .c (.h 0)), (24, .c (.val (.int .i64 (((List.length d_2) : Nat) : Int)))), (25, .c (.val (.int .i64 t_15)))]) (fun y => [(0, .row (.pair (.int .i64) (.pair (.int .i64) .str)) d_2), (1, .box [.val (.int .i64 d_1), .h 0]), (2, .box [.val (.int .i64 (List.getD d_2 (Int.toNat t_15) ((0 : Int), ((0 : Int), ByteArray.empty))).1), .val (.int .i64 (List.getD d_2 (Int.toNat t_15) ((0 : Int), ((0 : Int), ByteArray.empty))).2.1), .val (.string (List.getD d_2 (Int.toNat t_15) ((0 : Int), ((0 : Int), ByteArray.empty))).2.2)])]) ?_ ?_
            · skip
              refine VL_cond (r_34) (by kernel_rfl) ?_ ?_
              · intro b_37; have H_91 := of_t H_88 b_37
                refine V_run hN hn 1 3 [1, 3, 4, 6, 23, 24, 25] [0, 1, 2] ⟨[(1, .c (.h 1)), (3, .c (.val (.int .i64 size_13))), (4, .c (.val (.int .i64 (List.getD d_2 (Int.toNat t_15) ((0 : Int), ((0 : Int), ByteArray.empty))).2.1))), (6, .c (.h 2)), (23, .c (.h 0)), (24, .c (.val (.int .i64 (((List.length d_2) : Nat) : Int)))), (25, .c (.val (.int .i64 t_15)))], [(0, .row (.pair (.int .i64) (.pair (.int .i64) .str)) d_2), (1, .box [.val (.int .i64 d_1), .h 0]), (2, .box [.val (.int .i64 (List.getD d_2 (Int.toNat t_15) ((0 : Int), ((0 : Int), ByteArray.empty))).1), .val (.int .i64 (List.getD d_2 (Int.toNat t_15) ((0 : Int), ((0 : Int), ByteArray.empty))).2.1), .val (.string (List.getD d_2 (Int.toNat t_15) ((0 : Int), ((0 : Int), ByteArray.empty))).2.2)])], 3⟩ [] (by kernel_rfl) rfl rfl ap0 ?_
                have H_93 := Option.some.inj (show some (List.getD d_2 (Int.toNat t_15) ((0 : Int), ((0 : Int), ByteArray.empty))).2.1 = some q_87 from H_91); subst H_93
                refine VL_nil ?_
                exact QP_end (List.getD d_2 (Int.toNat t_15) ((0 : Int), ((0 : Int), ByteArray.empty))).2.1 rfl [(1, 1), (2, 2)] hn (by kernel_rfl) (by kernel_rfl) rfl rfl rfl
              · intro b_37; have H_92 := of_f H_88 b_37
                refine V_run hN hn 1 3 [1, 3, 4, 6, 23, 24, 25, 51] [0, 1, 2] ⟨[(1, .c (.h 1)), (3, .c (.val (.int .i64 size_13))), (4, .c (.val (.int .i64 to_14))), (6, .c (.h 2)), (23, .c (.h 0)), (24, .c (.val (.int .i64 (((List.length d_2) : Nat) : Int)))), (25, .c (.val (.int .i64 t_15))), (51, .c (.val (.bool r_34)))], [(0, .row (.pair (.int .i64) (.pair (.int .i64) .str)) d_2), (1, .box [.val (.int .i64 d_1), .h 0]), (2, .box [.val (.int .i64 (List.getD d_2 (Int.toNat t_15) ((0 : Int), ((0 : Int), ByteArray.empty))).1), .val (.int .i64 (List.getD d_2 (Int.toNat t_15) ((0 : Int), ((0 : Int), ByteArray.empty))).2.1), .val (.string (List.getD d_2 (Int.toNat t_15) ((0 : Int), ((0 : Int), ByteArray.empty))).2.2)])], 3⟩ [] (by kernel_rfl) rfl rfl ap0 ?_
                have H_94 := Option.some.inj (show some to_14 = some q_87 from H_92); subst H_94
                refine VL_nil ?_
                exact QP_end to_14 rfl [(1, 1), (2, 2)] hn (by kernel_rfl) (by kernel_rfl) rfl rfl rfl
            · intro y_90 hy; subst hy
              skip
              skip
              refine V_run hN hn 4 3 [1, 3, 4, 23, 24, 25, 66] [0, 1] ⟨[(1, .c (.h 1)), (3, .c (.val (.int .i64 (IntKind.wrap .i64 (size_13 + (IntKind.wrap .i64 ((IntKind.wrap .i64 ((List.getD d_2 (Int.toNat t_15) ((0 : Int), ((0 : Int), ByteArray.empty))).2.1 - (List.getD d_2 (Int.toNat t_15) ((0 : Int), ((0 : Int), ByteArray.empty))).1)) + (((ByteArray.size (List.getD d_2 (Int.toNat t_15) ((0 : Int), ((0 : Int), ByteArray.empty))).2.2) : Nat) : Int)))))))), (4, .c (.val (.int .i64 y_90))), (23, .c (.h 0)), (24, .c (.val (.int .i64 (((List.length d_2) : Nat) : Int)))), (25, .c (.val (.int .i64 t_15))), (66, .c (.val (.bool (decide ((IntKind.wrap .i64 (size_13 + (IntKind.wrap .i64 ((IntKind.wrap .i64 ((List.getD d_2 (Int.toNat t_15) ((0 : Int), ((0 : Int), ByteArray.empty))).2.1 - (List.getD d_2 (Int.toNat t_15) ((0 : Int), ((0 : Int), ByteArray.empty))).1)) + (((ByteArray.size (List.getD d_2 (Int.toNat t_15) ((0 : Int), ((0 : Int), ByteArray.empty))).2.2) : Nat) : Int))))) > (20000 : Int))))))], [(0, .row (.pair (.int .i64) (.pair (.int .i64) .str)) d_2), (1, .box [.val (.int .i64 d_1), .h 0])], 3⟩ [] (by kernel_rfl) rfl rfl ap0 ?_
              refine VL_cond ((decide ((IntKind.wrap .i64 (size_13 + (IntKind.wrap .i64 ((IntKind.wrap .i64 ((List.getD d_2 (Int.toNat t_15) ((0 : Int), ((0 : Int), ByteArray.empty))).2.1 - (List.getD d_2 (Int.toNat t_15) ((0 : Int), ((0 : Int), ByteArray.empty))).1)) + (((ByteArray.size (List.getD d_2 (Int.toNat t_15) ((0 : Int), ((0 : Int), ByteArray.empty))).2.2) : Nat) : Int))))) > (20000 : Int)))) (by kernel_rfl) ?_ ?_
              · intro b_42; have H_95 := of_t H_89 b_42
                refine V_run hN hn 2 3 [2] [0] ⟨[(2, .c (.val (.bool false)))], [(0, .row (.pair (.int .i64) (.pair (.int .i64) .str)) d_2)], 3⟩ [] (by kernel_rfl) rfl rfl ap0 ?_
                have H_97 := Option.some.inj (show some false = some r from H_95); subst H_97
                refine VL_ret ?_
                refine QB_ret ?_
                refine QL_ret ?_
                refine QB_ret ?_
                exact P_to [(2, .c (.val (.bool false)))] [(0, .row (.pair (.int .i64) (.pair (.int .i64) .str)) d_2)] [] hn (by kernel_rfl) (by kernel_rfl) rfl rfl rfl (QF_retS (by kernel_rfl) (by kernel_rfl) rfl)
              · intro b_42; have H_96 := of_f H_89 b_42
                refine V_run hN hn 1 3 [1, 3, 4, 23, 24, 25, 66] [0, 1] ⟨[(1, .c (.h 1)), (3, .c (.val (.int .i64 (IntKind.wrap .i64 (size_13 + (IntKind.wrap .i64 ((IntKind.wrap .i64 ((List.getD d_2 (Int.toNat t_15) ((0 : Int), ((0 : Int), ByteArray.empty))).2.1 - (List.getD d_2 (Int.toNat t_15) ((0 : Int), ((0 : Int), ByteArray.empty))).1)) + (((ByteArray.size (List.getD d_2 (Int.toNat t_15) ((0 : Int), ((0 : Int), ByteArray.empty))).2.2) : Nat) : Int)))))))), (4, .c (.val (.int .i64 y_90))), (23, .c (.h 0)), (24, .c (.val (.int .i64 (((List.length d_2) : Nat) : Int)))), (25, .c (.val (.int .i64 t_15))), (66, .c (.val (.bool (decide ((IntKind.wrap .i64 (size_13 + (IntKind.wrap .i64 ((IntKind.wrap .i64 ((List.getD d_2 (Int.toNat t_15) ((0 : Int), ((0 : Int), ByteArray.empty))).2.1 - (List.getD d_2 (Int.toNat t_15) ((0 : Int), ((0 : Int), ByteArray.empty))).1)) + (((ByteArray.size (List.getD d_2 (Int.toNat t_15) ((0 : Int), ((0 : Int), ByteArray.empty))).2.2) : Nat) : Int))))) > (20000 : Int))))))], [(0, .row (.pair (.int .i64) (.pair (.int .i64) .str)) d_2), (1, .box [.val (.int .i64 d_1), .h 0])], 3⟩ [] (by kernel_rfl) rfl rfl ap0 ?_
                refine VL_nil (QB_end ?_)
                refine V_run hN hn 1 3 [1, 3, 4, 23, 24, 25] [0, 1] ⟨[(1, .c (.h 1)), (3, .c (.val (.int .i64 (IntKind.wrap .i64 (size_13 + (IntKind.wrap .i64 ((IntKind.wrap .i64 ((List.getD d_2 (Int.toNat t_15) ((0 : Int), ((0 : Int), ByteArray.empty))).2.1 - (List.getD d_2 (Int.toNat t_15) ((0 : Int), ((0 : Int), ByteArray.empty))).1)) + (((ByteArray.size (List.getD d_2 (Int.toNat t_15) ((0 : Int), ((0 : Int), ByteArray.empty))).2.2) : Nat) : Int)))))))), (4, .c (.val (.int .i64 y_90))), (23, .c (.h 0)), (24, .c (.val (.int .i64 (((List.length d_2) : Nat) : Int)))), (25, .c (.val (.int .i64 (IntKind.wrap .i64 (t_15 + (1 : Int))))))], [(0, .row (.pair (.int .i64) (.pair (.int .i64) .str)) d_2), (1, .box [.val (.int .i64 d_1), .h 0])], 3⟩ [] (by kernel_rfl) rfl rfl ap0 ?_
                refine VL_nil ?_
                exact V_roundEnd ((IntKind.wrap .i64 (size_13 + (IntKind.wrap .i64 ((IntKind.wrap .i64 ((List.getD d_2 (Int.toNat t_15) ((0 : Int), ((0 : Int), ByteArray.empty))).2.1 - (List.getD d_2 (Int.toNat t_15) ((0 : Int), ((0 : Int), ByteArray.empty))).1)) + (((ByteArray.size (List.getD d_2 (Int.toNat t_15) ((0 : Int), ((0 : Int), ByteArray.empty))).2.2) : Nat) : Int))))), y_90, (IntKind.wrap .i64 (t_15 + (1 : Int)))) H_96 [(1, 1)] hn (by kernel_rfl) (by kernel_rfl) rfl rfl rfl
      · intro b_18; have H_70 := of_f H_68 b_18
        refine VL_exit ?_
        refine QL_exit ?_
        refine QB_here ?_
        refine V_run hN hn 2 2 [2] [0] ⟨[(2, .c (.val (.bool true)))], [(0, .row (.pair (.int .i64) (.pair (.int .i64) .str)) d_2)], 2⟩ [] (by kernel_rfl) rfl rfl ap0 ?_
        have H_98 := Option.some.inj (show some true = some r from H_70); subst H_98
        refine VL_ret ?_
        exact P_to [(2, .c (.val (.bool true)))] [(0, .row (.pair (.int .i64) (.pair (.int .i64) .str)) d_2)] [] hn (by kernel_rfl) (by kernel_rfl) rfl rfl rfl (QF_retS (by kernel_rfl) (by kernel_rfl) rfl)

theorem delta_sums_sgr_spec (K : Nat) (d_1 : Int) (d_2 : (List (Int × (Int × ByteArray)))) (r : (Int × Int)) (H : delta_sums K d_1 d_2 = some r) : Spec Try.prog 29 1 [.agg [.val (.int .i64 d_1), .h 0]] [(0, .row (.pair (.int .i64) (.pair (.int .i64) .str)) d_2)] (.tup [(false, [.val (.int .i64 r.1)]), (false, [.val (.int .i64 r.2)])]) [(0, .row (.pair (.int .i64) (.pair (.int .i64) .str)) d_2)] := by
  refine Spec_mk (fn := Try.f29) (c := (Try.f29.body).get!) Try.func29 (by kernel_rfl) rfl ?_
  intro C hN hn
  replace hN : C.N = 33 := hN
  unfold delta_sums at H
  refine V_run hN hn 6 1 [1, 4, 5] [0, 1] ⟨[(1, .c (.h 1)), (4, .c (.val (.int .i64 (0 : Int)))), (5, .c (.val (.int .i64 (0 : Int))))], [(0, .row (.pair (.int .i64) (.pair (.int .i64) .str)) d_2), (1, .box [.val (.int .i64 d_1), .h 0])], 2⟩ [] (by kernel_rfl) rfl rfl ap0 ?_
  obtain ⟨r_4, h_5, H_22⟩ := of_bind H
  refine V_reg hN hn [(1, ⟨13, 1, [.agg [.val (.int .i64 d_1), .h 0]], [(0, .row (.pair (.int .i64) (.pair (.int .i64) .str)) d_2)], .c (.val (.bool r_4)), [(0, .row (.pair (.int .i64) (.pair (.int .i64) .str)) d_2)], [(0, 0)], 2⟩)] [] (calls_cons (delta_Is_sgr_spec K d_1 d_2 r_4 h_5) (by kernel_rfl) calls_nil) 2 [1, 4, 5, 10] [0, 1] ⟨[(1, .c (.h 1)), (4, .c (.val (.int .i64 (0 : Int)))), (5, .c (.val (.int .i64 (0 : Int)))), (10, .c (.val (.bool (!r_4))))], [(0, .row (.pair (.int .i64) (.pair (.int .i64) .str)) d_2), (1, .box [.val (.int .i64 d_1), .h 0])], 2⟩ [] (by kernel_rfl) rfl rfl ap0 (by kernel_rfl) (by kernel_rfl) ?_
  refine VL_cond ((!r_4)) (by kernel_rfl) ?_ ?_
  · intro b_7; have H_23 := of_t H_22 b_7
    refine V_run hN hn 2 2 [2, 3] [0] ⟨[(2, .c (.val (.int .i64 (0 : Int)))), (3, .c (.val (.int .i64 (0 : Int))))], [(0, .row (.pair (.int .i64) (.pair (.int .i64) .str)) d_2)], 2⟩ [] (by kernel_rfl) rfl rfl ap0 ?_
    have H_25 := Option.some.inj (show some ((0 : Int), (0 : Int)) = some r from H_23); subst H_25
    refine VL_ret ?_
    exact P_to [(2, .c (.val (.int .i64 (0 : Int)))), (3, .c (.val (.int .i64 (0 : Int))))] [(0, .row (.pair (.int .i64) (.pair (.int .i64) .str)) d_2)] [] hn (by kernel_rfl) (by kernel_rfl) rfl rfl rfl (QF_retS (by kernel_rfl) (by kernel_rfl) rfl)
  · intro b_7; have H_24 := of_f H_22 b_7
    refine V_run hN hn 4 2 [4, 5, 12, 13, 14] [0] ⟨[(4, .c (.val (.int .i64 (0 : Int)))), (5, .c (.val (.int .i64 (0 : Int)))), (12, .c (.h 0)), (13, .c (.val (.int .i64 (((List.length d_2) : Nat) : Int)))), (14, .c (.val (.int .i64 (0 : Int))))], [(0, .row (.pair (.int .i64) (.pair (.int .i64) .str)) d_2)], 2⟩ [] (by kernel_rfl) rfl rfl ap0 ?_
    refine VL_block ?_
    refine V_to [(4, .c (.val (.int .i64 (0 : Int)))), (5, .c (.val (.int .i64 (0 : Int)))), (12, .c (.h 0)), (13, .c (.val (.int .i64 (((List.length d_2) : Nat) : Int)))), (14, .c (.val (.int .i64 (0 : Int))))] [(0, .row (.pair (.int .i64) (.pair (.int .i64) .str)) d_2)] [] hn (by kernel_rfl) (by kernel_rfl) rfl rfl rfl ?_
    refine VL_loop (X := (Int × Int × Int)) (fun x => [(4, .c (.val (.int .i64 x.1))), (5, .c (.val (.int .i64 x.2.1))), (12, .c (.h 0)), (13, .c (.val (.int .i64 (((List.length d_2) : Nat) : Int)))), (14, .c (.val (.int .i64 x.2.2)))]) (fun x => [(0, .row (.pair (.int .i64) (.pair (.int .i64) .str)) d_2)]) (fun k x => delta_sums.l0 K d_2 k x.1 x.2.1 x.2.2 = some r) K ((0 : Int), (0 : Int), (0 : Int)) H_24 (fun _ h => no_none h) ?_
    intro k_13 x_13 H_26
    obtain ⟨kept_10, put_11, t_12⟩ := x_13
    have H_27 : delta_sums.l0 K d_2 (k_13 + 1) kept_10 put_11 t_12 = some r := H_26
    rw [delta_sums.l0] at H_27
    refine V_run hN hn 3 2 [4, 5, 12, 13, 14, 15] [0] ⟨[(4, .c (.val (.int .i64 kept_10))), (5, .c (.val (.int .i64 put_11))), (12, .c (.h 0)), (13, .c (.val (.int .i64 (((List.length d_2) : Nat) : Int)))), (14, .c (.val (.int .i64 t_12))), (15, .c (.val (.bool (decide (t_12 < (((List.length d_2) : Nat) : Int))))))], [(0, .row (.pair (.int .i64) (.pair (.int .i64) .str)) d_2)], 2⟩ [] (by kernel_rfl) rfl rfl ap0 ?_
    refine VL_cond ((decide (t_12 < (((List.length d_2) : Nat) : Int)))) (by kernel_rfl) ?_ ?_
    · intro b_15; have H_28 := of_t H_27 b_15
      refine V_run hN hn 2 2 [4, 5, 12, 13, 14, 15] [0] ⟨[(4, .c (.val (.int .i64 kept_10))), (5, .c (.val (.int .i64 put_11))), (12, .c (.h 0)), (13, .c (.val (.int .i64 (((List.length d_2) : Nat) : Int)))), (14, .c (.val (.int .i64 t_12))), (15, .c (.val (.bool (decide (t_12 < (((List.length d_2) : Nat) : Int))))))], [(0, .row (.pair (.int .i64) (.pair (.int .i64) .str)) d_2)], 2⟩ [] (by kernel_rfl) rfl rfl ap0 ?_
      refine VL_block ?_
      obtain ⟨c_17, H_30⟩ := of_if H_28
      refine V_run hN hn 5 2 [4, 5, 12, 13, 14] [0] ⟨[(4, .c (.val (.int .i64 (IntKind.wrap .i64 (kept_10 + (IntKind.wrap .i64 ((List.getD d_2 (Int.toNat t_12) ((0 : Int), ((0 : Int), ByteArray.empty))).2.1 - (List.getD d_2 (Int.toNat t_12) ((0 : Int), ((0 : Int), ByteArray.empty))).1))))))), (5, .c (.val (.int .i64 (IntKind.wrap .i64 (put_11 + (((ByteArray.size (List.getD d_2 (Int.toNat t_12) ((0 : Int), ((0 : Int), ByteArray.empty))).2.2) : Nat) : Int)))))), (12, .c (.h 0)), (13, .c (.val (.int .i64 (((List.length d_2) : Nat) : Int)))), (14, .c (.val (.int .i64 t_12)))], [(0, .row (.pair (.int .i64) (.pair (.int .i64) .str)) d_2)], 3⟩ [0 ≤ t_12, t_12 < (((List.length d_2) : Nat) : Int)] (by kernel_rfl) rfl rfl (ap2 c_17.1 (ap1 c_17.2)) ?_
      refine VL_nil (QB_end ?_)
      refine V_run hN hn 1 3 [4, 5, 12, 13, 14] [0] ⟨[(4, .c (.val (.int .i64 (IntKind.wrap .i64 (kept_10 + (IntKind.wrap .i64 ((List.getD d_2 (Int.toNat t_12) ((0 : Int), ((0 : Int), ByteArray.empty))).2.1 - (List.getD d_2 (Int.toNat t_12) ((0 : Int), ((0 : Int), ByteArray.empty))).1))))))), (5, .c (.val (.int .i64 (IntKind.wrap .i64 (put_11 + (((ByteArray.size (List.getD d_2 (Int.toNat t_12) ((0 : Int), ((0 : Int), ByteArray.empty))).2.2) : Nat) : Int)))))), (12, .c (.h 0)), (13, .c (.val (.int .i64 (((List.length d_2) : Nat) : Int)))), (14, .c (.val (.int .i64 (IntKind.wrap .i64 (t_12 + (1 : Int))))))], [(0, .row (.pair (.int .i64) (.pair (.int .i64) .str)) d_2)], 3⟩ [] (by kernel_rfl) rfl rfl ap0 ?_
      refine VL_nil ?_
      exact V_roundEnd ((IntKind.wrap .i64 (kept_10 + (IntKind.wrap .i64 ((List.getD d_2 (Int.toNat t_12) ((0 : Int), ((0 : Int), ByteArray.empty))).2.1 - (List.getD d_2 (Int.toNat t_12) ((0 : Int), ((0 : Int), ByteArray.empty))).1)))), (IntKind.wrap .i64 (put_11 + (((ByteArray.size (List.getD d_2 (Int.toNat t_12) ((0 : Int), ((0 : Int), ByteArray.empty))).2.2) : Nat) : Int))), (IntKind.wrap .i64 (t_12 + (1 : Int)))) H_30 [] hn (by kernel_rfl) (by kernel_rfl) rfl rfl rfl
    · intro b_15; have H_29 := of_f H_27 b_15
      refine VL_exit ?_
      refine QL_exit ?_
      refine QB_here ?_
      refine V_run hN hn 2 2 [2, 3] [0] ⟨[(2, .c (.val (.int .i64 kept_10))), (3, .c (.val (.int .i64 put_11)))], [(0, .row (.pair (.int .i64) (.pair (.int .i64) .str)) d_2)], 2⟩ [] (by kernel_rfl) rfl rfl ap0 ?_
      have H_31 := Option.some.inj (show some (kept_10, put_11) = some r from H_29); subst H_31
      refine VL_ret ?_
      exact P_to [(2, .c (.val (.int .i64 kept_10))), (3, .c (.val (.int .i64 put_11)))] [(0, .row (.pair (.int .i64) (.pair (.int .i64) .str)) d_2)] [] hn (by kernel_rfl) (by kernel_rfl) rfl rfl rfl (QF_retS (by kernel_rfl) (by kernel_rfl) rfl)

theorem delta_Size_sgr_spec (K : Nat) (d_1 : Int) (d_2 : (List (Int × (Int × ByteArray)))) (r : Int) (H : delta_Size K d_1 d_2 = some r) : Spec Try.prog 16 1 [.agg [.val (.int .i64 d_1), .h 0]] [(0, .row (.pair (.int .i64) (.pair (.int .i64) .str)) d_2)] (.c (.val (.int .i64 r))) [(0, .row (.pair (.int .i64) (.pair (.int .i64) .str)) d_2)] := by
  refine Spec_mk (fn := Try.f16) (c := (Try.f16.body).get!) Try.func16 (by kernel_rfl) rfl ?_
  intro C hN hn
  replace hN : C.N = 13 := hN
  unfold delta_Size at H
  refine V_run hN hn 3 1 [1] [0, 1] ⟨[(1, .c (.h 1))], [(0, .row (.pair (.int .i64) (.pair (.int .i64) .str)) d_2), (1, .box [.val (.int .i64 d_1), .h 0])], 2⟩ [] (by kernel_rfl) rfl rfl ap0 ?_
  obtain ⟨r_4, h_5, H_9⟩ := of_bind H
  refine V_reg hN hn [(1, ⟨29, 1, [.agg [.val (.int .i64 d_1), .h 0]], [(0, .row (.pair (.int .i64) (.pair (.int .i64) .str)) d_2)], .tup [(false, [.val (.int .i64 r_4.1)]), (false, [.val (.int .i64 r_4.2)])], [(0, .row (.pair (.int .i64) (.pair (.int .i64) .str)) d_2)], [(0, 0)], 2⟩)] [] (calls_cons (delta_sums_sgr_spec K d_1 d_2 r_4 h_5) (by kernel_rfl) calls_nil) 2 [3, 4] [0] ⟨[(3, .c (.val (.int .i64 r_4.1))), (4, .c (.val (.int .i64 r_4.2)))], [(0, .row (.pair (.int .i64) (.pair (.int .i64) .str)) d_2)], 2⟩ [] (by kernel_rfl) rfl rfl ap0 (by kernel_rfl) (by kernel_rfl) ?_
  refine V_run hN hn 2 2 [2] [0] ⟨[(2, .c (.val (.int .i64 (IntKind.wrap .i64 (r_4.1 + r_4.2)))))], [(0, .row (.pair (.int .i64) (.pair (.int .i64) .str)) d_2)], 2⟩ [] (by kernel_rfl) rfl rfl ap0 ?_
  have H_10 := Option.some.inj (show some (IntKind.wrap .i64 (r_4.1 + r_4.2)) = some r from H_9); subst H_10
  refine VL_ret ?_
  exact P_to [(2, .c (.val (.int .i64 (IntKind.wrap .i64 (r_4.1 + r_4.2)))))] [(0, .row (.pair (.int .i64) (.pair (.int .i64) .str)) d_2)] [] hn (by kernel_rfl) (by kernel_rfl) rfl rfl rfl (QF_retS (by kernel_rfl) (by kernel_rfl) rfl)

theorem delta_Apply_sgrg_spec (K : Nat) (d_1 : Int) (d_2 : (List (Int × (Int × ByteArray)))) (s_3 : ByteArray) (r : (ByteArray × Int)) (H : delta_Apply K d_1 d_2 s_3 = some r) : Spec Try.prog 12 1 [.agg [.val (.int .i64 d_1), .h 0], .c (.val (.string s_3))] [(0, .row (.pair (.int .i64) (.pair (.int .i64) .str)) d_2)] (.tup [(false, [.val (.string r.1)]), (false, [.val (.int .i64 r.2)])]) [(0, .row (.pair (.int .i64) (.pair (.int .i64) .str)) d_2)] := by
  refine Spec_mk (fn := Try.f12) (c := (Try.f12.body).get!) Try.func12 (by kernel_rfl) rfl ?_
  intro C hN hn
  replace hN : C.N = 53 := hN
  unfold delta_Apply at H
  refine V_run hN hn 3 1 [1, 2] [0, 1] ⟨[(1, .c (.val (.string s_3))), (2, .c (.h 1))], [(0, .row (.pair (.int .i64) (.pair (.int .i64) .str)) d_2), (1, .box [.val (.int .i64 d_1), .h 0])], 2⟩ [] (by kernel_rfl) rfl rfl ap0 ?_
  refine VL_block ?_
  refine V_run hN hn 1 2 [1, 2] [0, 1] ⟨[(1, .c (.val (.string s_3))), (2, .c (.h 1))], [(0, .row (.pair (.int .i64) (.pair (.int .i64) .str)) d_2), (1, .box [.val (.int .i64 d_1), .h 0])], 2⟩ [] (by kernel_rfl) rfl rfl ap0 ?_
  obtain ⟨r_6, h_7, H_43⟩ := of_bind H
  refine V_reg hN hn [(1, ⟨13, 1, [.agg [.val (.int .i64 d_1), .h 0]], [(0, .row (.pair (.int .i64) (.pair (.int .i64) .str)) d_2)], .c (.val (.bool r_6)), [(0, .row (.pair (.int .i64) (.pair (.int .i64) .str)) d_2)], [(0, 0)], 2⟩)] [] (calls_cons (delta_Is_sgr_spec K d_1 d_2 r_6 h_7) (by kernel_rfl) calls_nil) 2 [1, 2, 10] [0, 1] ⟨[(1, .c (.val (.string s_3))), (2, .c (.h 1)), (10, .c (.val (.bool (!r_6))))], [(0, .row (.pair (.int .i64) (.pair (.int .i64) .str)) d_2), (1, .box [.val (.int .i64 d_1), .h 0])], 2⟩ [] (by kernel_rfl) rfl rfl ap0 (by kernel_rfl) (by kernel_rfl) ?_
  refine VL_cond ((!r_6)) (by kernel_rfl) ?_ ?_
  · intro b_9; have H_44 := of_t H_43 b_9
    refine V_run hN hn 2 2 [4, 5] [0] ⟨[(4, .c (.val (.string (ByteArray.mk #[])))), (5, .c (.val (.int .i64 (12 : Int))))], [(0, .row (.pair (.int .i64) (.pair (.int .i64) .str)) d_2)], 2⟩ [] (by kernel_rfl) rfl rfl ap0 ?_
    have H_46 := Option.some.inj (show some ((ByteArray.mk #[]), (12 : Int)) = some r from H_44); subst H_46
    refine VL_ret ?_
    refine QB_ret ?_
    exact P_to [(4, .c (.val (.string (ByteArray.mk #[])))), (5, .c (.val (.int .i64 (12 : Int))))] [(0, .row (.pair (.int .i64) (.pair (.int .i64) .str)) d_2)] [] hn (by kernel_rfl) (by kernel_rfl) rfl rfl rfl (QF_retS (by kernel_rfl) (by kernel_rfl) rfl)
  · intro b_9; have H_45 := of_f H_43 b_9
    refine V_run hN hn 2 2 [1, 2, 14] [0, 1] ⟨[(1, .c (.val (.string s_3))), (2, .c (.h 1)), (14, .c (.val (.bool ((((ByteArray.size s_3) : Nat) : Int) != d_1))))], [(0, .row (.pair (.int .i64) (.pair (.int .i64) .str)) d_2), (1, .box [.val (.int .i64 d_1), .h 0])], 2⟩ [] (by kernel_rfl) rfl rfl ap0 ?_
    refine VL_cond (((((ByteArray.size s_3) : Nat) : Int) != d_1)) (by kernel_rfl) ?_ ?_
    · intro b_12; have H_47 := of_t H_45 b_12
      refine V_run hN hn 2 2 [4, 5] [0] ⟨[(4, .c (.val (.string (ByteArray.mk #[])))), (5, .c (.val (.int .i64 (80 : Int))))], [(0, .row (.pair (.int .i64) (.pair (.int .i64) .str)) d_2)], 2⟩ [] (by kernel_rfl) rfl rfl ap0 ?_
      have H_49 := Option.some.inj (show some ((ByteArray.mk #[]), (80 : Int)) = some r from H_47); subst H_49
      refine VL_ret ?_
      refine QB_ret ?_
      exact P_to [(4, .c (.val (.string (ByteArray.mk #[])))), (5, .c (.val (.int .i64 (80 : Int))))] [(0, .row (.pair (.int .i64) (.pair (.int .i64) .str)) d_2)] [] hn (by kernel_rfl) (by kernel_rfl) rfl rfl rfl (QF_retS (by kernel_rfl) (by kernel_rfl) rfl)
    · intro b_12; have H_48 := of_f H_45 b_12
      refine V_run hN hn 1 2 [1, 2, 14] [0, 1] ⟨[(1, .c (.val (.string s_3))), (2, .c (.h 1)), (14, .c (.val (.bool ((((ByteArray.size s_3) : Nat) : Int) != d_1))))], [(0, .row (.pair (.int .i64) (.pair (.int .i64) .str)) d_2), (1, .box [.val (.int .i64 d_1), .h 0])], 2⟩ [] (by kernel_rfl) rfl rfl ap0 ?_
      refine VL_nil (QB_end ?_)
      refine V_run hN hn 1 2 [1, 2, 14] [0, 1] ⟨[(1, .c (.val (.string s_3))), (2, .c (.h 1)), (14, .c (.val (.bool ((((ByteArray.size s_3) : Nat) : Int) != d_1))))], [(0, .row (.pair (.int .i64) (.pair (.int .i64) .str)) d_2), (1, .box [.val (.int .i64 d_1), .h 0])], 2⟩ [] (by kernel_rfl) rfl rfl ap0 ?_
      obtain ⟨r_16, h_17, H_50⟩ := of_bind H_48
      obtain ⟨c_18, H_51⟩ := of_if H_50
      refine V_reg hN hn [(1, ⟨16, 1, [.agg [.val (.int .i64 d_1), .h 0]], [(0, .row (.pair (.int .i64) (.pair (.int .i64) .str)) d_2)], .c (.val (.int .i64 r_16)), [(0, .row (.pair (.int .i64) (.pair (.int .i64) .str)) d_2)], [(0, 0)], 2⟩)] [] (calls_cons (delta_Size_sgr_spec K d_1 d_2 r_16 h_17) (by kernel_rfl) calls_nil) 2 [1, 2, 6] [0, 1, 2] ⟨[(1, .c (.val (.string s_3))), (2, .c (.h 1)), (6, .c (.h 2))], [(0, .row (.pair (.int .i64) (.pair (.int .i64) .str)) d_2), (1, .box [.val (.int .i64 d_1), .h 0]), (2, .row (.int .u8) (List.replicate (Int.toNat r_16) (0 : Int)))], 3⟩ [(0 : Int) ≤ r_16, r_16 ≤ r_16, r_16 * 1 ≤ (140737488355328 : Int), r_16 ≤ (9223372036854775807 : Int)] (by kernel_rfl) rfl rfl (ap2 c_18.1 (ap2 c_18.2.1 (ap2 c_18.2.2.1 (ap1 c_18.2.2.2)))) (by kernel_rfl) (by kernel_rfl) ?_
      refine V_run hN hn 5 3 [1, 6, 7, 24, 25, 26] [0, 2] ⟨[(1, .c (.val (.string s_3))), (6, .c (.h 2)), (7, .c (.val (.int .i64 (0 : Int)))), (24, .c (.h 0)), (25, .c (.val (.int .i64 (((List.length d_2) : Nat) : Int)))), (26, .c (.val (.int .i64 (0 : Int))))], [(0, .row (.pair (.int .i64) (.pair (.int .i64) .str)) d_2), (2, .row (.int .u8) (List.replicate (Int.toNat r_16) (0 : Int)))], 3⟩ [] (by kernel_rfl) rfl rfl ap0 ?_
      refine VL_block ?_
      refine V_to [(1, .c (.val (.string s_3))), (6, .c (.h 2)), (7, .c (.val (.int .i64 (0 : Int)))), (24, .c (.h 0)), (25, .c (.val (.int .i64 (((List.length d_2) : Nat) : Int)))), (26, .c (.val (.int .i64 (0 : Int))))] [(0, .row (.pair (.int .i64) (.pair (.int .i64) .str)) d_2), (2, .row (.int .u8) (List.replicate (Int.toNat r_16) (0 : Int)))] [(2, 2)] hn (by kernel_rfl) (by kernel_rfl) rfl rfl rfl ?_
      refine VL_loop (X := ((List Int) × Int × Int)) (fun x => [(1, .c (.val (.string s_3))), (6, .c (.h 2)), (7, .c (.val (.int .i64 x.2.1))), (24, .c (.h 0)), (25, .c (.val (.int .i64 (((List.length d_2) : Nat) : Int)))), (26, .c (.val (.int .i64 x.2.2)))]) (fun x => [(0, .row (.pair (.int .i64) (.pair (.int .i64) .str)) d_2), (2, .row (.int .u8) x.1)]) (fun k x => delta_Apply.l0 K d_2 s_3 k x.1 x.2.1 x.2.2 = some r) K ((List.replicate (Int.toNat r_16) (0 : Int)), (0 : Int), (0 : Int)) H_51 (fun _ h => no_none h) ?_
      intro k_32 x_32 H_52
      obtain ⟨out_31, n_20, t_21⟩ := x_32
      have H_53 : delta_Apply.l0 K d_2 s_3 (k_32 + 1) out_31 n_20 t_21 = some r := H_52
      rw [delta_Apply.l0] at H_53
      refine V_run hN hn 3 4 [1, 6, 7, 24, 25, 26, 27] [0, 2] ⟨[(1, .c (.val (.string s_3))), (6, .c (.h 2)), (7, .c (.val (.int .i64 n_20))), (24, .c (.h 0)), (25, .c (.val (.int .i64 (((List.length d_2) : Nat) : Int)))), (26, .c (.val (.int .i64 t_21))), (27, .c (.val (.bool (decide (t_21 < (((List.length d_2) : Nat) : Int))))))], [(0, .row (.pair (.int .i64) (.pair (.int .i64) .str)) d_2), (2, .row (.int .u8) out_31)], 4⟩ [] (by kernel_rfl) rfl rfl ap0 ?_
      refine VL_cond ((decide (t_21 < (((List.length d_2) : Nat) : Int)))) (by kernel_rfl) ?_ ?_
      · intro b_34; have H_54 := of_t H_53 b_34
        refine V_run hN hn 2 4 [1, 6, 7, 24, 25, 26, 27] [0, 2] ⟨[(1, .c (.val (.string s_3))), (6, .c (.h 2)), (7, .c (.val (.int .i64 n_20))), (24, .c (.h 0)), (25, .c (.val (.int .i64 (((List.length d_2) : Nat) : Int)))), (26, .c (.val (.int .i64 t_21))), (27, .c (.val (.bool (decide (t_21 < (((List.length d_2) : Nat) : Int))))))], [(0, .row (.pair (.int .i64) (.pair (.int .i64) .str)) d_2), (2, .row (.int .u8) out_31)], 4⟩ [] (by kernel_rfl) rfl rfl ap0 ?_
        refine VL_block ?_
        obtain ⟨c_36, H_56⟩ := of_if H_54
        refine V_run hN hn 3 4 [1, 6, 7, 9, 24, 25, 26] [0, 2, 4] ⟨[(1, .c (.val (.string s_3))), (6, .c (.h 2)), (7, .c (.val (.int .i64 n_20))), (9, .c (.h 4)), (24, .c (.h 0)), (25, .c (.val (.int .i64 (((List.length d_2) : Nat) : Int)))), (26, .c (.val (.int .i64 t_21)))], [(0, .row (.pair (.int .i64) (.pair (.int .i64) .str)) d_2), (2, .row (.int .u8) out_31), (4, .box [.val (.int .i64 (List.getD d_2 (Int.toNat t_21) ((0 : Int), ((0 : Int), ByteArray.empty))).1), .val (.int .i64 (List.getD d_2 (Int.toNat t_21) ((0 : Int), ((0 : Int), ByteArray.empty))).2.1), .val (.string (List.getD d_2 (Int.toNat t_21) ((0 : Int), ((0 : Int), ByteArray.empty))).2.2)])], 5⟩ [0 ≤ t_21, t_21 < (((List.length d_2) : Nat) : Int)] (by kernel_rfl) rfl rfl (ap2 c_36.1 (ap1 c_36.2)) ?_
        obtain ⟨c_37, H_57⟩ := of_if H_56
        refine V_draw hN hn (by kernel_rfl) [] [] calls_nil 5 [1, 6, 7, 9, 24, 25, 26] [0, 2, 4] ⟨[(1, .c (.val (.string s_3))), (6, .c (.h 2)), (7, .c (.val (.int .i64 (IntKind.wrap .i64 (n_20 + (((List.length (List.take ((List.length out_31) - (Int.toNat n_20)) (List.map (fun b => (UInt8.toNat b : Int)) (Array.toList (ByteArray.data (ByteArray.extract s_3 (Int.toNat (List.getD d_2 (Int.toNat t_21) ((0 : Int), ((0 : Int), ByteArray.empty))).1) (Int.toNat (List.getD d_2 (Int.toNat t_21) ((0 : Int), ((0 : Int), ByteArray.empty))).2.1))))))) : Nat) : Int)))))), (9, .c (.h 4)), (24, .c (.h 0)), (25, .c (.val (.int .i64 (((List.length d_2) : Nat) : Int)))), (26, .c (.val (.int .i64 t_21)))], [(0, .row (.pair (.int .i64) (.pair (.int .i64) .str)) d_2), (2, .row (.int .u8) (putAt out_31 (List.take ((List.length out_31) - (Int.toNat n_20)) (List.map (fun b => (UInt8.toNat b : Int)) (Array.toList (ByteArray.data (ByteArray.extract s_3 (Int.toNat (List.getD d_2 (Int.toNat t_21) ((0 : Int), ((0 : Int), ByteArray.empty))).1) (Int.toNat (List.getD d_2 (Int.toNat t_21) ((0 : Int), ((0 : Int), ByteArray.empty))).2.1)))))) (Int.toNat n_20))), (4, .box [.val (.int .i64 (List.getD d_2 (Int.toNat t_21) ((0 : Int), ((0 : Int), ByteArray.empty))).1), .val (.int .i64 (List.getD d_2 (Int.toNat t_21) ((0 : Int), ((0 : Int), ByteArray.empty))).2.1), .val (.string (List.getD d_2 (Int.toNat t_21) ((0 : Int), ((0 : Int), ByteArray.empty))).2.2)])], 5⟩ [(0 : Int) ≤ n_20, n_20 ≤ (((List.length out_31) : Nat) : Int), (0 : Int) ≤ (List.getD d_2 (Int.toNat t_21) ((0 : Int), ((0 : Int), ByteArray.empty))).1, (List.getD d_2 (Int.toNat t_21) ((0 : Int), ((0 : Int), ByteArray.empty))).1 ≤ (List.getD d_2 (Int.toNat t_21) ((0 : Int), ((0 : Int), ByteArray.empty))).2.1, (List.getD d_2 (Int.toNat t_21) ((0 : Int), ((0 : Int), ByteArray.empty))).2.1 ≤ (((ByteArray.size s_3) : Nat) : Int)] (by kernel_rfl) rfl rfl (ap2 c_37.1 (ap2 c_37.2.1 (ap2 c_37.2.2.1 (ap2 c_37.2.2.2.1 (ap1 c_37.2.2.2.2))))) (by kernel_rfl) (by kernel_rfl) ?_
        obtain ⟨c_38, H_58⟩ := of_if H_57
        refine V_draw hN hn (by kernel_rfl) [] [] calls_nil 5 [1, 6, 7, 24, 25, 26] [0, 2] ⟨[(1, .c (.val (.string s_3))), (6, .c (.h 2)), (7, .c (.val (.int .i64 (IntKind.wrap .i64 ((IntKind.wrap .i64 (n_20 + (((List.length (List.take ((List.length out_31) - (Int.toNat n_20)) (List.map (fun b => (UInt8.toNat b : Int)) (Array.toList (ByteArray.data (ByteArray.extract s_3 (Int.toNat (List.getD d_2 (Int.toNat t_21) ((0 : Int), ((0 : Int), ByteArray.empty))).1) (Int.toNat (List.getD d_2 (Int.toNat t_21) ((0 : Int), ((0 : Int), ByteArray.empty))).2.1))))))) : Nat) : Int))) + (((List.length (List.take ((List.length (putAt out_31 (List.take ((List.length out_31) - (Int.toNat n_20)) (List.map (fun b => (UInt8.toNat b : Int)) (Array.toList (ByteArray.data (ByteArray.extract s_3 (Int.toNat (List.getD d_2 (Int.toNat t_21) ((0 : Int), ((0 : Int), ByteArray.empty))).1) (Int.toNat (List.getD d_2 (Int.toNat t_21) ((0 : Int), ((0 : Int), ByteArray.empty))).2.1)))))) (Int.toNat n_20))) - (Int.toNat (IntKind.wrap .i64 (n_20 + (((List.length (List.take ((List.length out_31) - (Int.toNat n_20)) (List.map (fun b => (UInt8.toNat b : Int)) (Array.toList (ByteArray.data (ByteArray.extract s_3 (Int.toNat (List.getD d_2 (Int.toNat t_21) ((0 : Int), ((0 : Int), ByteArray.empty))).1) (Int.toNat (List.getD d_2 (Int.toNat t_21) ((0 : Int), ((0 : Int), ByteArray.empty))).2.1))))))) : Nat) : Int))))) (List.map (fun b => (UInt8.toNat b : Int)) (Array.toList (ByteArray.data (List.getD d_2 (Int.toNat t_21) ((0 : Int), ((0 : Int), ByteArray.empty))).2.2))))) : Nat) : Int)))))), (24, .c (.h 0)), (25, .c (.val (.int .i64 (((List.length d_2) : Nat) : Int)))), (26, .c (.val (.int .i64 t_21)))], [(0, .row (.pair (.int .i64) (.pair (.int .i64) .str)) d_2), (2, .row (.int .u8) (putAt (putAt out_31 (List.take ((List.length out_31) - (Int.toNat n_20)) (List.map (fun b => (UInt8.toNat b : Int)) (Array.toList (ByteArray.data (ByteArray.extract s_3 (Int.toNat (List.getD d_2 (Int.toNat t_21) ((0 : Int), ((0 : Int), ByteArray.empty))).1) (Int.toNat (List.getD d_2 (Int.toNat t_21) ((0 : Int), ((0 : Int), ByteArray.empty))).2.1)))))) (Int.toNat n_20)) (List.take ((List.length (putAt out_31 (List.take ((List.length out_31) - (Int.toNat n_20)) (List.map (fun b => (UInt8.toNat b : Int)) (Array.toList (ByteArray.data (ByteArray.extract s_3 (Int.toNat (List.getD d_2 (Int.toNat t_21) ((0 : Int), ((0 : Int), ByteArray.empty))).1) (Int.toNat (List.getD d_2 (Int.toNat t_21) ((0 : Int), ((0 : Int), ByteArray.empty))).2.1)))))) (Int.toNat n_20))) - (Int.toNat (IntKind.wrap .i64 (n_20 + (((List.length (List.take ((List.length out_31) - (Int.toNat n_20)) (List.map (fun b => (UInt8.toNat b : Int)) (Array.toList (ByteArray.data (ByteArray.extract s_3 (Int.toNat (List.getD d_2 (Int.toNat t_21) ((0 : Int), ((0 : Int), ByteArray.empty))).1) (Int.toNat (List.getD d_2 (Int.toNat t_21) ((0 : Int), ((0 : Int), ByteArray.empty))).2.1))))))) : Nat) : Int))))) (List.map (fun b => (UInt8.toNat b : Int)) (Array.toList (ByteArray.data (List.getD d_2 (Int.toNat t_21) ((0 : Int), ((0 : Int), ByteArray.empty))).2.2)))) (Int.toNat (IntKind.wrap .i64 (n_20 + (((List.length (List.take ((List.length out_31) - (Int.toNat n_20)) (List.map (fun b => (UInt8.toNat b : Int)) (Array.toList (ByteArray.data (ByteArray.extract s_3 (Int.toNat (List.getD d_2 (Int.toNat t_21) ((0 : Int), ((0 : Int), ByteArray.empty))).1) (Int.toNat (List.getD d_2 (Int.toNat t_21) ((0 : Int), ((0 : Int), ByteArray.empty))).2.1))))))) : Nat) : Int))))))], 5⟩ [(0 : Int) ≤ (IntKind.wrap .i64 (n_20 + (((List.length (List.take ((List.length out_31) - (Int.toNat n_20)) (List.map (fun b => (UInt8.toNat b : Int)) (Array.toList (ByteArray.data (ByteArray.extract s_3 (Int.toNat (List.getD d_2 (Int.toNat t_21) ((0 : Int), ((0 : Int), ByteArray.empty))).1) (Int.toNat (List.getD d_2 (Int.toNat t_21) ((0 : Int), ((0 : Int), ByteArray.empty))).2.1))))))) : Nat) : Int))), (IntKind.wrap .i64 (n_20 + (((List.length (List.take ((List.length out_31) - (Int.toNat n_20)) (List.map (fun b => (UInt8.toNat b : Int)) (Array.toList (ByteArray.data (ByteArray.extract s_3 (Int.toNat (List.getD d_2 (Int.toNat t_21) ((0 : Int), ((0 : Int), ByteArray.empty))).1) (Int.toNat (List.getD d_2 (Int.toNat t_21) ((0 : Int), ((0 : Int), ByteArray.empty))).2.1))))))) : Nat) : Int))) ≤ (((List.length (putAt out_31 (List.take ((List.length out_31) - (Int.toNat n_20)) (List.map (fun b => (UInt8.toNat b : Int)) (Array.toList (ByteArray.data (ByteArray.extract s_3 (Int.toNat (List.getD d_2 (Int.toNat t_21) ((0 : Int), ((0 : Int), ByteArray.empty))).1) (Int.toNat (List.getD d_2 (Int.toNat t_21) ((0 : Int), ((0 : Int), ByteArray.empty))).2.1)))))) (Int.toNat n_20))) : Nat) : Int)] (by kernel_rfl) rfl rfl (ap2 c_38.1 (ap1 c_38.2)) (by kernel_rfl) (by kernel_rfl) ?_
        refine VL_nil (QB_end ?_)
        refine V_run hN hn 1 5 [1, 6, 7, 24, 25, 26] [0, 2] ⟨[(1, .c (.val (.string s_3))), (6, .c (.h 2)), (7, .c (.val (.int .i64 (IntKind.wrap .i64 ((IntKind.wrap .i64 (n_20 + (((List.length (List.take ((List.length out_31) - (Int.toNat n_20)) (List.map (fun b => (UInt8.toNat b : Int)) (Array.toList (ByteArray.data (ByteArray.extract s_3 (Int.toNat (List.getD d_2 (Int.toNat t_21) ((0 : Int), ((0 : Int), ByteArray.empty))).1) (Int.toNat (List.getD d_2 (Int.toNat t_21) ((0 : Int), ((0 : Int), ByteArray.empty))).2.1))))))) : Nat) : Int))) + (((List.length (List.take ((List.length (putAt out_31 (List.take ((List.length out_31) - (Int.toNat n_20)) (List.map (fun b => (UInt8.toNat b : Int)) (Array.toList (ByteArray.data (ByteArray.extract s_3 (Int.toNat (List.getD d_2 (Int.toNat t_21) ((0 : Int), ((0 : Int), ByteArray.empty))).1) (Int.toNat (List.getD d_2 (Int.toNat t_21) ((0 : Int), ((0 : Int), ByteArray.empty))).2.1)))))) (Int.toNat n_20))) - (Int.toNat (IntKind.wrap .i64 (n_20 + (((List.length (List.take ((List.length out_31) - (Int.toNat n_20)) (List.map (fun b => (UInt8.toNat b : Int)) (Array.toList (ByteArray.data (ByteArray.extract s_3 (Int.toNat (List.getD d_2 (Int.toNat t_21) ((0 : Int), ((0 : Int), ByteArray.empty))).1) (Int.toNat (List.getD d_2 (Int.toNat t_21) ((0 : Int), ((0 : Int), ByteArray.empty))).2.1))))))) : Nat) : Int))))) (List.map (fun b => (UInt8.toNat b : Int)) (Array.toList (ByteArray.data (List.getD d_2 (Int.toNat t_21) ((0 : Int), ((0 : Int), ByteArray.empty))).2.2))))) : Nat) : Int)))))), (24, .c (.h 0)), (25, .c (.val (.int .i64 (((List.length d_2) : Nat) : Int)))), (26, .c (.val (.int .i64 (IntKind.wrap .i64 (t_21 + (1 : Int))))))], [(0, .row (.pair (.int .i64) (.pair (.int .i64) .str)) d_2), (2, .row (.int .u8) (putAt (putAt out_31 (List.take ((List.length out_31) - (Int.toNat n_20)) (List.map (fun b => (UInt8.toNat b : Int)) (Array.toList (ByteArray.data (ByteArray.extract s_3 (Int.toNat (List.getD d_2 (Int.toNat t_21) ((0 : Int), ((0 : Int), ByteArray.empty))).1) (Int.toNat (List.getD d_2 (Int.toNat t_21) ((0 : Int), ((0 : Int), ByteArray.empty))).2.1)))))) (Int.toNat n_20)) (List.take ((List.length (putAt out_31 (List.take ((List.length out_31) - (Int.toNat n_20)) (List.map (fun b => (UInt8.toNat b : Int)) (Array.toList (ByteArray.data (ByteArray.extract s_3 (Int.toNat (List.getD d_2 (Int.toNat t_21) ((0 : Int), ((0 : Int), ByteArray.empty))).1) (Int.toNat (List.getD d_2 (Int.toNat t_21) ((0 : Int), ((0 : Int), ByteArray.empty))).2.1)))))) (Int.toNat n_20))) - (Int.toNat (IntKind.wrap .i64 (n_20 + (((List.length (List.take ((List.length out_31) - (Int.toNat n_20)) (List.map (fun b => (UInt8.toNat b : Int)) (Array.toList (ByteArray.data (ByteArray.extract s_3 (Int.toNat (List.getD d_2 (Int.toNat t_21) ((0 : Int), ((0 : Int), ByteArray.empty))).1) (Int.toNat (List.getD d_2 (Int.toNat t_21) ((0 : Int), ((0 : Int), ByteArray.empty))).2.1))))))) : Nat) : Int))))) (List.map (fun b => (UInt8.toNat b : Int)) (Array.toList (ByteArray.data (List.getD d_2 (Int.toNat t_21) ((0 : Int), ((0 : Int), ByteArray.empty))).2.2)))) (Int.toNat (IntKind.wrap .i64 (n_20 + (((List.length (List.take ((List.length out_31) - (Int.toNat n_20)) (List.map (fun b => (UInt8.toNat b : Int)) (Array.toList (ByteArray.data (ByteArray.extract s_3 (Int.toNat (List.getD d_2 (Int.toNat t_21) ((0 : Int), ((0 : Int), ByteArray.empty))).1) (Int.toNat (List.getD d_2 (Int.toNat t_21) ((0 : Int), ((0 : Int), ByteArray.empty))).2.1))))))) : Nat) : Int))))))], 5⟩ [] (by kernel_rfl) rfl rfl ap0 ?_
        refine VL_nil ?_
        exact V_roundEnd ((putAt (putAt out_31 (List.take ((List.length out_31) - (Int.toNat n_20)) (List.map (fun b => (UInt8.toNat b : Int)) (Array.toList (ByteArray.data (ByteArray.extract s_3 (Int.toNat (List.getD d_2 (Int.toNat t_21) ((0 : Int), ((0 : Int), ByteArray.empty))).1) (Int.toNat (List.getD d_2 (Int.toNat t_21) ((0 : Int), ((0 : Int), ByteArray.empty))).2.1)))))) (Int.toNat n_20)) (List.take ((List.length (putAt out_31 (List.take ((List.length out_31) - (Int.toNat n_20)) (List.map (fun b => (UInt8.toNat b : Int)) (Array.toList (ByteArray.data (ByteArray.extract s_3 (Int.toNat (List.getD d_2 (Int.toNat t_21) ((0 : Int), ((0 : Int), ByteArray.empty))).1) (Int.toNat (List.getD d_2 (Int.toNat t_21) ((0 : Int), ((0 : Int), ByteArray.empty))).2.1)))))) (Int.toNat n_20))) - (Int.toNat (IntKind.wrap .i64 (n_20 + (((List.length (List.take ((List.length out_31) - (Int.toNat n_20)) (List.map (fun b => (UInt8.toNat b : Int)) (Array.toList (ByteArray.data (ByteArray.extract s_3 (Int.toNat (List.getD d_2 (Int.toNat t_21) ((0 : Int), ((0 : Int), ByteArray.empty))).1) (Int.toNat (List.getD d_2 (Int.toNat t_21) ((0 : Int), ((0 : Int), ByteArray.empty))).2.1))))))) : Nat) : Int))))) (List.map (fun b => (UInt8.toNat b : Int)) (Array.toList (ByteArray.data (List.getD d_2 (Int.toNat t_21) ((0 : Int), ((0 : Int), ByteArray.empty))).2.2)))) (Int.toNat (IntKind.wrap .i64 (n_20 + (((List.length (List.take ((List.length out_31) - (Int.toNat n_20)) (List.map (fun b => (UInt8.toNat b : Int)) (Array.toList (ByteArray.data (ByteArray.extract s_3 (Int.toNat (List.getD d_2 (Int.toNat t_21) ((0 : Int), ((0 : Int), ByteArray.empty))).1) (Int.toNat (List.getD d_2 (Int.toNat t_21) ((0 : Int), ((0 : Int), ByteArray.empty))).2.1))))))) : Nat) : Int))))), (IntKind.wrap .i64 ((IntKind.wrap .i64 (n_20 + (((List.length (List.take ((List.length out_31) - (Int.toNat n_20)) (List.map (fun b => (UInt8.toNat b : Int)) (Array.toList (ByteArray.data (ByteArray.extract s_3 (Int.toNat (List.getD d_2 (Int.toNat t_21) ((0 : Int), ((0 : Int), ByteArray.empty))).1) (Int.toNat (List.getD d_2 (Int.toNat t_21) ((0 : Int), ((0 : Int), ByteArray.empty))).2.1))))))) : Nat) : Int))) + (((List.length (List.take ((List.length (putAt out_31 (List.take ((List.length out_31) - (Int.toNat n_20)) (List.map (fun b => (UInt8.toNat b : Int)) (Array.toList (ByteArray.data (ByteArray.extract s_3 (Int.toNat (List.getD d_2 (Int.toNat t_21) ((0 : Int), ((0 : Int), ByteArray.empty))).1) (Int.toNat (List.getD d_2 (Int.toNat t_21) ((0 : Int), ((0 : Int), ByteArray.empty))).2.1)))))) (Int.toNat n_20))) - (Int.toNat (IntKind.wrap .i64 (n_20 + (((List.length (List.take ((List.length out_31) - (Int.toNat n_20)) (List.map (fun b => (UInt8.toNat b : Int)) (Array.toList (ByteArray.data (ByteArray.extract s_3 (Int.toNat (List.getD d_2 (Int.toNat t_21) ((0 : Int), ((0 : Int), ByteArray.empty))).1) (Int.toNat (List.getD d_2 (Int.toNat t_21) ((0 : Int), ((0 : Int), ByteArray.empty))).2.1))))))) : Nat) : Int))))) (List.map (fun b => (UInt8.toNat b : Int)) (Array.toList (ByteArray.data (List.getD d_2 (Int.toNat t_21) ((0 : Int), ((0 : Int), ByteArray.empty))).2.2))))) : Nat) : Int))), (IntKind.wrap .i64 (t_21 + (1 : Int)))) H_58 [(2, 2)] hn (by kernel_rfl) (by kernel_rfl) rfl rfl rfl
      · intro b_34; have H_55 := of_f H_53 b_34
        refine VL_exit ?_
        refine QL_exit ?_
        refine QB_here ?_
        refine V_run hN hn 2 4 [4, 5] [0] ⟨[(4, .c (.val (.string (ofBytes out_31)))), (5, .c (.val (.int .i64 (0 : Int))))], [(0, .row (.pair (.int .i64) (.pair (.int .i64) .str)) d_2)], 4⟩ [] (by kernel_rfl) rfl rfl ap0 ?_
        have H_59 := Option.some.inj (show some ((ofBytes out_31), (0 : Int)) = some r from H_55); subst H_59
        refine VL_ret ?_
        exact P_to [(4, .c (.val (.string (ofBytes out_31)))), (5, .c (.val (.int .i64 (0 : Int))))] [(0, .row (.pair (.int .i64) (.pair (.int .i64) .str)) d_2)] [] hn (by kernel_rfl) (by kernel_rfl) rfl rfl rfl (QF_retS (by kernel_rfl) (by kernel_rfl) rfl)

theorem slices_Equal_gr_spec (K : Nat) (s1_1 : (List (Int × (Int × ByteArray)))) (s2_2 : (List (Int × (Int × ByteArray)))) (r : Bool) (H : slices_Equal K s1_1 s2_2 = some r) : Spec Try.prog 28 1 [.c (.imm (.slice (.pair (.int .i64) (.pair (.int .i64) .str))) s1_1), .c (.h 0)] [(0, .row (.pair (.int .i64) (.pair (.int .i64) .str)) s2_2)] (.c (.val (.bool r))) [(0, .row (.pair (.int .i64) (.pair (.int .i64) .str)) s2_2)] := by
  refine Spec_mk (fn := Try.f28) (c := (Try.f28.body).get!) Try.func28 (by kernel_rfl) rfl ?_
  intro C hN hn
  replace hN : C.N = 26 := hN
  unfold slices_Equal at H
  refine V_run hN hn 5 1 [0, 1, 10] [0] ⟨[(0, .c (.imm (.slice (.pair (.int .i64) (.pair (.int .i64) .str))) s1_1)), (1, .c (.h 0)), (10, .c (.val (.bool ((((List.length s1_1) : Nat) : Int) != (((List.length s2_2) : Nat) : Int)))))], [(0, .row (.pair (.int .i64) (.pair (.int .i64) .str)) s2_2)], 1⟩ [] (by kernel_rfl) rfl rfl ap0 ?_
  refine VL_cond (((((List.length s1_1) : Nat) : Int) != (((List.length s2_2) : Nat) : Int))) (by kernel_rfl) ?_ ?_
  · intro b_4; have H_20 := of_t H b_4
    refine V_run hN hn 2 1 [4] [0] ⟨[(4, .c (.val (.bool false)))], [(0, .row (.pair (.int .i64) (.pair (.int .i64) .str)) s2_2)], 1⟩ [] (by kernel_rfl) rfl rfl ap0 ?_
    have H_22 := Option.some.inj (show some false = some r from H_20); subst H_22
    refine VL_ret ?_
    exact P_to [(4, .c (.val (.bool false)))] [(0, .row (.pair (.int .i64) (.pair (.int .i64) .str)) s2_2)] [] hn (by kernel_rfl) (by kernel_rfl) rfl rfl rfl (QF_retS (by kernel_rfl) (by kernel_rfl) rfl)
  · intro b_4; have H_21 := of_f H b_4
    refine V_run hN hn 4 1 [0, 1, 12, 13] [0] ⟨[(0, .c (.imm (.slice (.pair (.int .i64) (.pair (.int .i64) .str))) s1_1)), (1, .c (.h 0)), (12, .c (.val (.int .i64 (((List.length s1_1) : Nat) : Int)))), (13, .c (.val (.int .i64 (0 : Int))))], [(0, .row (.pair (.int .i64) (.pair (.int .i64) .str)) s2_2)], 1⟩ [] (by kernel_rfl) rfl rfl ap0 ?_
    refine VL_block ?_
    refine V_to [(0, .c (.imm (.slice (.pair (.int .i64) (.pair (.int .i64) .str))) s1_1)), (1, .c (.h 0)), (12, .c (.val (.int .i64 (((List.length s1_1) : Nat) : Int)))), (13, .c (.val (.int .i64 (0 : Int))))] [(0, .row (.pair (.int .i64) (.pair (.int .i64) .str)) s2_2)] [] hn (by kernel_rfl) (by kernel_rfl) rfl rfl rfl ?_
    refine VL_loop (X := Int) (fun x => [(0, .c (.imm (.slice (.pair (.int .i64) (.pair (.int .i64) .str))) s1_1)), (1, .c (.h 0)), (12, .c (.val (.int .i64 (((List.length s1_1) : Nat) : Int)))), (13, .c (.val (.int .i64 x)))]) (fun x => [(0, .row (.pair (.int .i64) (.pair (.int .i64) .str)) s2_2)]) (fun k x => slices_Equal.l0 K s1_1 s2_2 k x = some r) K (0 : Int) H_21 (fun _ h => no_none h) ?_
    intro k_8 t_7 H_23
    have H_24 : slices_Equal.l0 K s1_1 s2_2 (k_8 + 1) t_7 = some r := H_23
    rw [slices_Equal.l0] at H_24
    refine V_run hN hn 3 1 [0, 1, 12, 13, 14] [0] ⟨[(0, .c (.imm (.slice (.pair (.int .i64) (.pair (.int .i64) .str))) s1_1)), (1, .c (.h 0)), (12, .c (.val (.int .i64 (((List.length s1_1) : Nat) : Int)))), (13, .c (.val (.int .i64 t_7))), (14, .c (.val (.bool (decide (t_7 < (((List.length s1_1) : Nat) : Int))))))], [(0, .row (.pair (.int .i64) (.pair (.int .i64) .str)) s2_2)], 1⟩ [] (by kernel_rfl) rfl rfl ap0 ?_
    refine VL_cond ((decide (t_7 < (((List.length s1_1) : Nat) : Int)))) (by kernel_rfl) ?_ ?_
    · intro b_10; have H_25 := of_t H_24 b_10
      refine V_run hN hn 2 1 [0, 1, 12, 13, 14] [0] ⟨[(0, .c (.imm (.slice (.pair (.int .i64) (.pair (.int .i64) .str))) s1_1)), (1, .c (.h 0)), (12, .c (.val (.int .i64 (((List.length s1_1) : Nat) : Int)))), (13, .c (.val (.int .i64 t_7))), (14, .c (.val (.bool (decide (t_7 < (((List.length s1_1) : Nat) : Int))))))], [(0, .row (.pair (.int .i64) (.pair (.int .i64) .str)) s2_2)], 1⟩ [] (by kernel_rfl) rfl rfl ap0 ?_
      refine VL_block ?_
      refine V_run hN hn 3 1 [0, 1, 5, 12, 13] [0] ⟨[(0, .c (.imm (.slice (.pair (.int .i64) (.pair (.int .i64) .str))) s1_1)), (1, .c (.h 0)), (5, .c (.val (.int .i64 t_7))), (12, .c (.val (.int .i64 (((List.length s1_1) : Nat) : Int)))), (13, .c (.val (.int .i64 t_7)))], [(0, .row (.pair (.int .i64) (.pair (.int .i64) .str)) s2_2)], 1⟩ [] (by kernel_rfl) rfl rfl ap0 ?_
      obtain ⟨c_13, H_27⟩ := of_if H_25
      refine V_draw hN hn (by kernel_rfl) [] [] calls_nil 1 [0, 1, 12, 13, 24] [0] ⟨[(0, .c (.imm (.slice (.pair (.int .i64) (.pair (.int .i64) .str))) s1_1)), (1, .c (.h 0)), (12, .c (.val (.int .i64 (((List.length s1_1) : Nat) : Int)))), (13, .c (.val (.int .i64 t_7))), (24, .c (.val (.bool (!(((List.getD s1_1 (Int.toNat t_7) ((0 : Int), ((0 : Int), ByteArray.empty))).1 == (List.getD s2_2 (Int.toNat t_7) ((0 : Int), ((0 : Int), ByteArray.empty))).1) && (((List.getD s1_1 (Int.toNat t_7) ((0 : Int), ((0 : Int), ByteArray.empty))).2.1 == (List.getD s2_2 (Int.toNat t_7) ((0 : Int), ((0 : Int), ByteArray.empty))).2.1) && (ByteArray.toList (List.getD s1_1 (Int.toNat t_7) ((0 : Int), ((0 : Int), ByteArray.empty))).2.2 == ByteArray.toList (List.getD s2_2 (Int.toNat t_7) ((0 : Int), ((0 : Int), ByteArray.empty))).2.2)))))))], [(0, .row (.pair (.int .i64) (.pair (.int .i64) .str)) s2_2)], 1⟩ [0 ≤ t_7, t_7 < (((List.length s1_1) : Nat) : Int), 0 ≤ t_7, t_7 < (((List.length s2_2) : Nat) : Int)] (by kernel_rfl) rfl rfl (ap2 c_13.1 (ap2 c_13.2.1 (ap2 c_13.1 (ap1 c_13.2.2)))) (by kernel_rfl) (by kernel_rfl) ?_
      refine VL_cond ((!(((List.getD s1_1 (Int.toNat t_7) ((0 : Int), ((0 : Int), ByteArray.empty))).1 == (List.getD s2_2 (Int.toNat t_7) ((0 : Int), ((0 : Int), ByteArray.empty))).1) && (((List.getD s1_1 (Int.toNat t_7) ((0 : Int), ((0 : Int), ByteArray.empty))).2.1 == (List.getD s2_2 (Int.toNat t_7) ((0 : Int), ((0 : Int), ByteArray.empty))).2.1) && (ByteArray.toList (List.getD s1_1 (Int.toNat t_7) ((0 : Int), ((0 : Int), ByteArray.empty))).2.2 == ByteArray.toList (List.getD s2_2 (Int.toNat t_7) ((0 : Int), ((0 : Int), ByteArray.empty))).2.2))))) (by kernel_rfl) ?_ ?_
      · intro b_14; have H_28 := of_t H_27 b_14
        refine V_run hN hn 2 1 [4] [0] ⟨[(4, .c (.val (.bool false)))], [(0, .row (.pair (.int .i64) (.pair (.int .i64) .str)) s2_2)], 1⟩ [] (by kernel_rfl) rfl rfl ap0 ?_
        have H_30 := Option.some.inj (show some false = some r from H_28); subst H_30
        refine VL_ret ?_
        refine QB_ret ?_
        refine QL_ret ?_
        refine QB_ret ?_
        exact P_to [(4, .c (.val (.bool false)))] [(0, .row (.pair (.int .i64) (.pair (.int .i64) .str)) s2_2)] [] hn (by kernel_rfl) (by kernel_rfl) rfl rfl rfl (QF_retS (by kernel_rfl) (by kernel_rfl) rfl)
      · intro b_14; have H_29 := of_f H_27 b_14
        refine V_run hN hn 1 1 [0, 1, 12, 13, 24] [0] ⟨[(0, .c (.imm (.slice (.pair (.int .i64) (.pair (.int .i64) .str))) s1_1)), (1, .c (.h 0)), (12, .c (.val (.int .i64 (((List.length s1_1) : Nat) : Int)))), (13, .c (.val (.int .i64 t_7))), (24, .c (.val (.bool (!(((List.getD s1_1 (Int.toNat t_7) ((0 : Int), ((0 : Int), ByteArray.empty))).1 == (List.getD s2_2 (Int.toNat t_7) ((0 : Int), ((0 : Int), ByteArray.empty))).1) && (((List.getD s1_1 (Int.toNat t_7) ((0 : Int), ((0 : Int), ByteArray.empty))).2.1 == (List.getD s2_2 (Int.toNat t_7) ((0 : Int), ((0 : Int), ByteArray.empty))).2.1) && (ByteArray.toList (List.getD s1_1 (Int.toNat t_7) ((0 : Int), ((0 : Int), ByteArray.empty))).2.2 == ByteArray.toList (List.getD s2_2 (Int.toNat t_7) ((0 : Int), ((0 : Int), ByteArray.empty))).2.2)))))))], [(0, .row (.pair (.int .i64) (.pair (.int .i64) .str)) s2_2)], 1⟩ [] (by kernel_rfl) rfl rfl ap0 ?_
        refine VL_nil (QB_end ?_)
        refine V_run hN hn 1 1 [0, 1, 12, 13] [0] ⟨[(0, .c (.imm (.slice (.pair (.int .i64) (.pair (.int .i64) .str))) s1_1)), (1, .c (.h 0)), (12, .c (.val (.int .i64 (((List.length s1_1) : Nat) : Int)))), (13, .c (.val (.int .i64 (IntKind.wrap .i64 (t_7 + (1 : Int))))))], [(0, .row (.pair (.int .i64) (.pair (.int .i64) .str)) s2_2)], 1⟩ [] (by kernel_rfl) rfl rfl ap0 ?_
        refine VL_nil ?_
        exact V_roundEnd (IntKind.wrap .i64 (t_7 + (1 : Int))) H_29 [] hn (by kernel_rfl) (by kernel_rfl) rfl rfl rfl
    · intro b_10; have H_26 := of_f H_24 b_10
      refine VL_exit ?_
      refine QL_exit ?_
      refine QB_here ?_
      refine V_run hN hn 2 1 [4] [0] ⟨[(4, .c (.val (.bool true)))], [(0, .row (.pair (.int .i64) (.pair (.int .i64) .str)) s2_2)], 1⟩ [] (by kernel_rfl) rfl rfl ap0 ?_
      have H_31 := Option.some.inj (show some true = some r from H_26); subst H_31
      refine VL_ret ?_
      exact P_to [(4, .c (.val (.bool true)))] [(0, .row (.pair (.int .i64) (.pair (.int .i64) .str)) s2_2)] [] hn (by kernel_rfl) (by kernel_rfl) rfl rfl rfl (QF_retS (by kernel_rfl) (by kernel_rfl) rfl)

theorem delta_Same_sggsgr_spec (K : Nat) (a_1 : Int) (a_2 : (List (Int × (Int × ByteArray)))) (b_3 : Int) (b_4 : (List (Int × (Int × ByteArray)))) (r : Bool) (H : delta_Same K a_1 a_2 b_3 b_4 = some r) : Spec Try.prog 14 1 [.agg [.val (.int .i64 a_1), .imm (.slice (.pair (.int .i64) (.pair (.int .i64) .str))) a_2], .agg [.val (.int .i64 b_3), .h 0]] [(0, .row (.pair (.int .i64) (.pair (.int .i64) .str)) b_4)] (.c (.val (.bool r))) [(0, .row (.pair (.int .i64) (.pair (.int .i64) .str)) b_4)] := by
  refine Spec_mk (fn := Try.f14) (c := (Try.f14.body).get!) Try.func14 (by kernel_rfl) rfl ?_
  intro C hN hn
  replace hN : C.N = 17 := hN
  unfold delta_Same at H
  refine V_run hN hn 3 1 [2, 3] [0, 1, 2] ⟨[(2, .c (.h 1)), (3, .c (.h 2))], [(0, .row (.pair (.int .i64) (.pair (.int .i64) .str)) b_4), (1, .box [.val (.int .i64 a_1), .imm (.slice (.pair (.int .i64) (.pair (.int .i64) .str))) a_2]), (2, .box [.val (.int .i64 b_3), .h 0])], 3⟩ [] (by kernel_rfl) rfl rfl ap0 ?_
  rcases Bool.eq_false_or_eq_true ((a_1 == b_3)) with b_6 | b_6
  · have H_12 := of_t H b_6
    obtain ⟨r_7, h_8, H_14⟩ := of_bind H_12
    refine V_reg hN hn [(10, ⟨28, 1, [.c (.imm (.slice (.pair (.int .i64) (.pair (.int .i64) .str))) a_2), .c (.h 0)], [(0, .row (.pair (.int .i64) (.pair (.int .i64) .str)) b_4)], .c (.val (.bool r_7)), [(0, .row (.pair (.int .i64) (.pair (.int .i64) .str)) b_4)], [(0, 0)], 3⟩)] [(10, true)] (calls_cons (slices_Equal_gr_spec K a_2 b_4 r_7 h_8) (by kernel_rfl) calls_nil) 3 [4] [0] ⟨[(4, .c (.val (.bool r_7)))], [(0, .row (.pair (.int .i64) (.pair (.int .i64) .str)) b_4)], 3⟩ [(a_1 == b_3) = true] (by kernel_rfl) rfl rfl (ap1 b_6) (by kernel_rfl) (by kernel_rfl) ?_
    have H_15 := Option.some.inj (show some r_7 = some r from H_14); subst H_15
    refine VL_ret ?_
    exact P_to [(4, .c (.val (.bool r_7)))] [(0, .row (.pair (.int .i64) (.pair (.int .i64) .str)) b_4)] [] hn (by kernel_rfl) (by kernel_rfl) rfl rfl rfl (QF_retS (by kernel_rfl) (by kernel_rfl) rfl)
  · have H_13 := of_f H b_6
    refine V_reg hN hn [] [(10, false)] calls_nil 3 [4] [0] ⟨[(4, .c (.val (.bool false)))], [(0, .row (.pair (.int .i64) (.pair (.int .i64) .str)) b_4)], 3⟩ [(a_1 == b_3) = false] (by kernel_rfl) rfl rfl (ap1 b_6) (by kernel_rfl) (by kernel_rfl) ?_
    have H_16 := Option.some.inj (show some false = some r from H_13); subst H_16
    refine VL_ret ?_
    exact P_to [(4, .c (.val (.bool false)))] [(0, .row (.pair (.int .i64) (.pair (.int .i64) .str)) b_4)] [] hn (by kernel_rfl) (by kernel_rfl) rfl rfl rfl (QF_retS (by kernel_rfl) (by kernel_rfl) rfl)

theorem palinodelaw11_DeltaKeeps_spec (K : Nat) (s_1 : ByteArray) (from_2 : Int) (to_3 : Int) (r : Bool) (H : palinodelaw11_DeltaKeeps K s_1 from_2 to_3 = some r) : Spec Try.prog 7 0 [.c (.val (.string s_1)), .c (.val (.int .u8 from_2)), .c (.val (.int .u8 to_3))] [] (.c (.val (.bool r))) [] := by
  refine Spec_mk (fn := Try.f7) (c := (Try.f7.body).get!) Try.func7 (by kernel_rfl) rfl ?_
  intro C hN hn
  replace hN : C.N = 124 := hN
  unfold palinodelaw11_DeltaKeeps at H
  refine V_run hN hn 4 0 [0, 1, 2] [] ⟨[(0, .c (.val (.string s_1))), (1, .c (.val (.int .u8 from_2))), (2, .c (.val (.int .u8 to_3)))], [], 0⟩ [] (by kernel_rfl) rfl rfl ap0 ?_
  obtain ⟨r_5, h_6, H_68⟩ := of_bind H
  refine V_reg hN hn [(0, ⟨9, 0, [], [], .c (.val (.bool r_5)), [], [], 0⟩)] [] (calls_cons (palinodelaw11_known_spec K  r_5 h_6) (by kernel_rfl) calls_nil) 0 [0, 1, 2, 16] [] ⟨[(0, .c (.val (.string s_1))), (1, .c (.val (.int .u8 from_2))), (2, .c (.val (.int .u8 to_3))), (16, .c (.val (.bool (!r_5))))], [], 0⟩ [] (by kernel_rfl) rfl rfl ap0 (by kernel_rfl) (by kernel_rfl) ?_
  refine VL_cond ((!r_5)) (by kernel_rfl) ?_ ?_
  · intro b_8; have H_69 := of_t H_68 b_8
    refine V_run hN hn 2 0 [6] [] ⟨[(6, .c (.val (.bool false)))], [], 0⟩ [] (by kernel_rfl) rfl rfl ap0 ?_
    have H_71 := Option.some.inj (show some false = some r from H_69); subst H_71
    refine VL_ret ?_
    exact P_to [(6, .c (.val (.bool false)))] [] [] hn (by kernel_rfl) (by kernel_rfl) rfl rfl rfl (QF_retS (by kernel_rfl) (by kernel_rfl) rfl)
  · intro b_8; have H_70 := of_f H_68 b_8
    refine V_run hN hn 4 0 [0, 1, 2, 19] [] ⟨[(0, .c (.val (.string s_1))), (1, .c (.val (.int .u8 from_2))), (2, .c (.val (.int .u8 to_3))), (19, .c (.val (.bool (decide ((((ByteArray.size s_1) : Nat) : Int) > (200 : Int))))))], [], 0⟩ [] (by kernel_rfl) rfl rfl ap0 ?_
    refine VL_cond ((decide ((((ByteArray.size s_1) : Nat) : Int) > (200 : Int)))) (by kernel_rfl) ?_ ?_
    · intro b_11; have H_72 := of_t H_70 b_11
      refine V_run hN hn 2 0 [6] [] ⟨[(6, .c (.val (.bool true)))], [], 0⟩ [] (by kernel_rfl) rfl rfl ap0 ?_
      have H_74 := Option.some.inj (show some true = some r from H_72); subst H_74
      refine VL_ret ?_
      exact P_to [(6, .c (.val (.bool true)))] [] [] hn (by kernel_rfl) (by kernel_rfl) rfl rfl rfl (QF_retS (by kernel_rfl) (by kernel_rfl) rfl)
    · intro b_11; have H_73 := of_f H_70 b_11
      refine V_run hN hn 2 0 [0, 1, 2, 19] [] ⟨[(0, .c (.val (.string s_1))), (1, .c (.val (.int .u8 from_2))), (2, .c (.val (.int .u8 to_3))), (19, .c (.val (.bool (decide ((((ByteArray.size s_1) : Nat) : Int) > (200 : Int))))))], [], 0⟩ [] (by kernel_rfl) rfl rfl ap0 ?_
      obtain ⟨c_14, H_75⟩ := of_if H_73
      refine V_draw hN hn (by kernel_rfl) [] [] calls_nil 0 [0, 7, 8] [] ⟨[(0, .c (.val (.string s_1))), (7, .c (.val (.int .i64 (Int.tmod (IntKind.wrap .i64 from_2) (IntKind.wrap .i64 ((((ByteArray.size s_1) : Nat) : Int) + (1 : Int))))))), (8, .c (.val (.int .i64 (Int.tmod (IntKind.wrap .i64 to_3) (IntKind.wrap .i64 ((((ByteArray.size s_1) : Nat) : Int) + (1 : Int)))))))], [], 0⟩ [(IntKind.wrap .i64 ((((ByteArray.size s_1) : Nat) : Int) + (1 : Int))) ≠ 0, (IntKind.wrap .i64 ((((ByteArray.size s_1) : Nat) : Int) + (1 : Int))) ≠ 0] (by kernel_rfl) rfl rfl (ap2 c_14 (ap1 c_14)) (by kernel_rfl) (by kernel_rfl) ?_
      refine V_run hN hn 3 0 [0, 7, 8] [] ⟨[(0, .c (.val (.string s_1))), (7, .c (.val (.int .i64 (mn2 (Int.tmod (IntKind.wrap .i64 from_2) (IntKind.wrap .i64 ((((ByteArray.size s_1) : Nat) : Int) + (1 : Int)))) (Int.tmod (IntKind.wrap .i64 to_3) (IntKind.wrap .i64 ((((ByteArray.size s_1) : Nat) : Int) + (1 : Int)))))))), (8, .c (.val (.int .i64 (mx2 (Int.tmod (IntKind.wrap .i64 from_2) (IntKind.wrap .i64 ((((ByteArray.size s_1) : Nat) : Int) + (1 : Int)))) (Int.tmod (IntKind.wrap .i64 to_3) (IntKind.wrap .i64 ((((ByteArray.size s_1) : Nat) : Int) + (1 : Int))))))))], [], 0⟩ [] (by kernel_rfl) rfl rfl ap0 ?_
      obtain ⟨r_16, h_17, H_76⟩ := of_bind H_75
      obtain ⟨r_18, h_19, H_77⟩ := of_bind H_76
      refine V_reg hN hn [(2, ⟨24, 0, [.c (.val (.int .i64 (((ByteArray.size s_1) : Nat) : Int)))], [], .agg [.val (.int .i64 r_16.1), .h 2], [(2, .row (.pair (.int .i64) (.pair (.int .i64) .str)) r_16.2)], [(2, 0)], 1⟩), (4, ⟨12, 1, [.agg [.val (.int .i64 r_16.1), .h 0], .c (.val (.string s_1))], [(0, .row (.pair (.int .i64) (.pair (.int .i64) .str)) r_16.2)], .tup [(false, [.val (.string r_18.1)]), (false, [.val (.int .i64 r_18.2)])], [(0, .row (.pair (.int .i64) (.pair (.int .i64) .str)) r_16.2)], [(0, 0)], 1⟩)] [] (calls_cons (delta_Keep_spec K (((ByteArray.size s_1) : Nat) : Int) r_16 h_17) (by kernel_rfl) (calls_cons (delta_Apply_sgrg_spec K r_16.1 r_16.2 s_1 r_18 h_19) (by kernel_rfl) calls_nil)) 0 [0, 7, 8, 9, 10] [] ⟨[(0, .c (.val (.string s_1))), (7, .c (.val (.int .i64 (mn2 (Int.tmod (IntKind.wrap .i64 from_2) (IntKind.wrap .i64 ((((ByteArray.size s_1) : Nat) : Int) + (1 : Int)))) (Int.tmod (IntKind.wrap .i64 to_3) (IntKind.wrap .i64 ((((ByteArray.size s_1) : Nat) : Int) + (1 : Int)))))))), (8, .c (.val (.int .i64 (mx2 (Int.tmod (IntKind.wrap .i64 from_2) (IntKind.wrap .i64 ((((ByteArray.size s_1) : Nat) : Int) + (1 : Int)))) (Int.tmod (IntKind.wrap .i64 to_3) (IntKind.wrap .i64 ((((ByteArray.size s_1) : Nat) : Int) + (1 : Int)))))))), (9, .c (.val (.string r_18.1))), (10, .c (.val (.int .i64 r_18.2)))], [], 1⟩ [] (by kernel_rfl) rfl rfl ap0 (by kernel_rfl) (by kernel_rfl) ?_
      refine V_run hN hn 2 1 [0, 7, 8, 9, 10] [] ⟨[(0, .c (.val (.string s_1))), (7, .c (.val (.int .i64 (mn2 (Int.tmod (IntKind.wrap .i64 from_2) (IntKind.wrap .i64 ((((ByteArray.size s_1) : Nat) : Int) + (1 : Int)))) (Int.tmod (IntKind.wrap .i64 to_3) (IntKind.wrap .i64 ((((ByteArray.size s_1) : Nat) : Int) + (1 : Int)))))))), (8, .c (.val (.int .i64 (mx2 (Int.tmod (IntKind.wrap .i64 from_2) (IntKind.wrap .i64 ((((ByteArray.size s_1) : Nat) : Int) + (1 : Int)))) (Int.tmod (IntKind.wrap .i64 to_3) (IntKind.wrap .i64 ((((ByteArray.size s_1) : Nat) : Int) + (1 : Int)))))))), (9, .c (.val (.string r_18.1))), (10, .c (.val (.int .i64 r_18.2)))], [], 1⟩ [] (by kernel_rfl) rfl rfl ap0 ?_
      obtain ⟨q_78, H_79, H_80⟩ := of_bind H_77
      refine V_cut (Y := Bool) (R := Bool) q_78 (fun y => y) (fun y => [(0, .c (.val (.string s_1))), (7, .c (.val (.int .i64 (mn2 (Int.tmod (IntKind.wrap .i64 from_2) (IntKind.wrap .i64 ((((ByteArray.size s_1) : Nat) : Int) + (1 : Int)))) (Int.tmod (IntKind.wrap .i64 to_3) (IntKind.wrap .i64 ((((ByteArray.size s_1) : Nat) : Int) + (1 : Int)))))))), (8, .c (.val (.int .i64 (mx2 (Int.tmod (IntKind.wrap .i64 from_2) (IntKind.wrap .i64 ((((ByteArray.size s_1) : Nat) : Int) + (1 : Int)))) (Int.tmod (IntKind.wrap .i64 to_3) (IntKind.wrap .i64 ((((ByteArray.size s_1) : Nat) : Int) + (1 : Int)))))))), (52, .c (.val (.bool y)))]) (fun y => []) ?_ ?_
      · skip
        rcases Bool.eq_false_or_eq_true ((r_18.2 != (0 : Int))) with b_22 | b_22
        · have H_82 := of_t H_79 b_22
          refine V_reg hN hn [] [(48, true)] calls_nil 1 [0, 7, 8, 52] [] ⟨[(0, .c (.val (.string s_1))), (7, .c (.val (.int .i64 (mn2 (Int.tmod (IntKind.wrap .i64 from_2) (IntKind.wrap .i64 ((((ByteArray.size s_1) : Nat) : Int) + (1 : Int)))) (Int.tmod (IntKind.wrap .i64 to_3) (IntKind.wrap .i64 ((((ByteArray.size s_1) : Nat) : Int) + (1 : Int)))))))), (8, .c (.val (.int .i64 (mx2 (Int.tmod (IntKind.wrap .i64 from_2) (IntKind.wrap .i64 ((((ByteArray.size s_1) : Nat) : Int) + (1 : Int)))) (Int.tmod (IntKind.wrap .i64 to_3) (IntKind.wrap .i64 ((((ByteArray.size s_1) : Nat) : Int) + (1 : Int)))))))), (52, .c (.val (.bool true)))], [], 1⟩ [(r_18.2 != (0 : Int)) = true] (by kernel_rfl) rfl rfl (ap1 b_22) (by kernel_rfl) (by kernel_rfl) ?_
          have H_84 := Option.some.inj (show some true = some q_78 from H_82); subst H_84
          refine VL_nil ?_
          exact QP_end true rfl [] hn (by kernel_rfl) (by kernel_rfl) rfl rfl rfl
        · have H_83 := of_f H_79 b_22
          refine V_reg hN hn [] [(48, false)] calls_nil 1 [0, 7, 8, 52] [] ⟨[(0, .c (.val (.string s_1))), (7, .c (.val (.int .i64 (mn2 (Int.tmod (IntKind.wrap .i64 from_2) (IntKind.wrap .i64 ((((ByteArray.size s_1) : Nat) : Int) + (1 : Int)))) (Int.tmod (IntKind.wrap .i64 to_3) (IntKind.wrap .i64 ((((ByteArray.size s_1) : Nat) : Int) + (1 : Int)))))))), (8, .c (.val (.int .i64 (mx2 (Int.tmod (IntKind.wrap .i64 from_2) (IntKind.wrap .i64 ((((ByteArray.size s_1) : Nat) : Int) + (1 : Int)))) (Int.tmod (IntKind.wrap .i64 to_3) (IntKind.wrap .i64 ((((ByteArray.size s_1) : Nat) : Int) + (1 : Int)))))))), (52, .c (.val (.bool (!(ByteArray.toList r_18.1 == ByteArray.toList s_1)))))], [], 1⟩ [(r_18.2 != (0 : Int)) = false] (by kernel_rfl) rfl rfl (ap1 b_22) (by kernel_rfl) (by kernel_rfl) ?_
          have H_85 := Option.some.inj (show some (!(ByteArray.toList r_18.1 == ByteArray.toList s_1)) = some q_78 from H_83); subst H_85
          refine VL_nil ?_
          exact QP_end (!(ByteArray.toList r_18.1 == ByteArray.toList s_1)) rfl [] hn (by kernel_rfl) (by kernel_rfl) rfl rfl rfl
      · intro y_81 hy; subst hy
        skip
        skip
        refine VL_cond (y_81) (by kernel_rfl) ?_ ?_
        · intro b_26; have H_86 := of_t H_80 b_26
          refine V_run hN hn 2 1 [6] [] ⟨[(6, .c (.val (.bool false)))], [], 1⟩ [] (by kernel_rfl) rfl rfl ap0 ?_
          have H_88 := Option.some.inj (show some false = some r from H_86); subst H_88
          refine VL_ret ?_
          exact P_to [(6, .c (.val (.bool false)))] [] [] hn (by kernel_rfl) (by kernel_rfl) rfl rfl rfl (QF_retS (by kernel_rfl) (by kernel_rfl) rfl)
        · intro b_26; have H_87 := of_f H_80 b_26
          refine V_run hN hn 3 1 [0, 7, 8, 52] [] ⟨[(0, .c (.val (.string s_1))), (7, .c (.val (.int .i64 (mn2 (Int.tmod (IntKind.wrap .i64 from_2) (IntKind.wrap .i64 ((((ByteArray.size s_1) : Nat) : Int) + (1 : Int)))) (Int.tmod (IntKind.wrap .i64 to_3) (IntKind.wrap .i64 ((((ByteArray.size s_1) : Nat) : Int) + (1 : Int)))))))), (8, .c (.val (.int .i64 (mx2 (Int.tmod (IntKind.wrap .i64 from_2) (IntKind.wrap .i64 ((((ByteArray.size s_1) : Nat) : Int) + (1 : Int)))) (Int.tmod (IntKind.wrap .i64 to_3) (IntKind.wrap .i64 ((((ByteArray.size s_1) : Nat) : Int) + (1 : Int)))))))), (52, .c (.val (.bool y_81)))], [], 1⟩ [] (by kernel_rfl) rfl rfl ap0 ?_
          obtain ⟨r_29, h_30, H_89⟩ := of_bind H_87
          obtain ⟨c_31, H_90⟩ := of_if H_89
          refine V_reg hN hn [(4, ⟨25, 0, [.c (.val (.string (ByteArray.extract s_1 (Int.toNat (mn2 (Int.tmod (IntKind.wrap .i64 from_2) (IntKind.wrap .i64 ((((ByteArray.size s_1) : Nat) : Int) + (1 : Int)))) (Int.tmod (IntKind.wrap .i64 to_3) (IntKind.wrap .i64 ((((ByteArray.size s_1) : Nat) : Int) + (1 : Int)))))) (Int.toNat (mx2 (Int.tmod (IntKind.wrap .i64 from_2) (IntKind.wrap .i64 ((((ByteArray.size s_1) : Nat) : Int) + (1 : Int)))) (Int.tmod (IntKind.wrap .i64 to_3) (IntKind.wrap .i64 ((((ByteArray.size s_1) : Nat) : Int) + (1 : Int)))))))))], [], .c (.val (.bool r_29)), [], [], 1⟩)] [] (calls_cons (palinoderef1_Valid_spec K (ByteArray.extract s_1 (Int.toNat (mn2 (Int.tmod (IntKind.wrap .i64 from_2) (IntKind.wrap .i64 ((((ByteArray.size s_1) : Nat) : Int) + (1 : Int)))) (Int.tmod (IntKind.wrap .i64 to_3) (IntKind.wrap .i64 ((((ByteArray.size s_1) : Nat) : Int) + (1 : Int)))))) (Int.toNat (mx2 (Int.tmod (IntKind.wrap .i64 from_2) (IntKind.wrap .i64 ((((ByteArray.size s_1) : Nat) : Int) + (1 : Int)))) (Int.tmod (IntKind.wrap .i64 to_3) (IntKind.wrap .i64 ((((ByteArray.size s_1) : Nat) : Int) + (1 : Int))))))) r_29 h_30) (by kernel_rfl) calls_nil) 1 [0, 7, 8, 58] [] ⟨[(0, .c (.val (.string s_1))), (7, .c (.val (.int .i64 (mn2 (Int.tmod (IntKind.wrap .i64 from_2) (IntKind.wrap .i64 ((((ByteArray.size s_1) : Nat) : Int) + (1 : Int)))) (Int.tmod (IntKind.wrap .i64 to_3) (IntKind.wrap .i64 ((((ByteArray.size s_1) : Nat) : Int) + (1 : Int)))))))), (8, .c (.val (.int .i64 (mx2 (Int.tmod (IntKind.wrap .i64 from_2) (IntKind.wrap .i64 ((((ByteArray.size s_1) : Nat) : Int) + (1 : Int)))) (Int.tmod (IntKind.wrap .i64 to_3) (IntKind.wrap .i64 ((((ByteArray.size s_1) : Nat) : Int) + (1 : Int)))))))), (58, .c (.val (.bool (!r_29))))], [], 1⟩ [(0 : Int) ≤ (mn2 (Int.tmod (IntKind.wrap .i64 from_2) (IntKind.wrap .i64 ((((ByteArray.size s_1) : Nat) : Int) + (1 : Int)))) (Int.tmod (IntKind.wrap .i64 to_3) (IntKind.wrap .i64 ((((ByteArray.size s_1) : Nat) : Int) + (1 : Int))))), (mn2 (Int.tmod (IntKind.wrap .i64 from_2) (IntKind.wrap .i64 ((((ByteArray.size s_1) : Nat) : Int) + (1 : Int)))) (Int.tmod (IntKind.wrap .i64 to_3) (IntKind.wrap .i64 ((((ByteArray.size s_1) : Nat) : Int) + (1 : Int))))) ≤ (mx2 (Int.tmod (IntKind.wrap .i64 from_2) (IntKind.wrap .i64 ((((ByteArray.size s_1) : Nat) : Int) + (1 : Int)))) (Int.tmod (IntKind.wrap .i64 to_3) (IntKind.wrap .i64 ((((ByteArray.size s_1) : Nat) : Int) + (1 : Int))))), (mx2 (Int.tmod (IntKind.wrap .i64 from_2) (IntKind.wrap .i64 ((((ByteArray.size s_1) : Nat) : Int) + (1 : Int)))) (Int.tmod (IntKind.wrap .i64 to_3) (IntKind.wrap .i64 ((((ByteArray.size s_1) : Nat) : Int) + (1 : Int))))) ≤ (((ByteArray.size s_1) : Nat) : Int)] (by kernel_rfl) rfl rfl (ap2 c_31.1 (ap2 c_31.2.1 (ap1 c_31.2.2))) (by kernel_rfl) (by kernel_rfl) ?_
          refine VL_cond ((!r_29)) (by kernel_rfl) ?_ ?_
          · intro b_32; have H_91 := of_t H_90 b_32
            refine V_run hN hn 2 1 [6] [] ⟨[(6, .c (.val (.bool true)))], [], 1⟩ [] (by kernel_rfl) rfl rfl ap0 ?_
            have H_93 := Option.some.inj (show some true = some r from H_91); subst H_93
            refine VL_ret ?_
            exact P_to [(6, .c (.val (.bool true)))] [] [] hn (by kernel_rfl) (by kernel_rfl) rfl rfl rfl (QF_retS (by kernel_rfl) (by kernel_rfl) rfl)
          · intro b_32; have H_92 := of_f H_90 b_32
            refine V_run hN hn 2 1 [0, 7, 8, 58] [] ⟨[(0, .c (.val (.string s_1))), (7, .c (.val (.int .i64 (mn2 (Int.tmod (IntKind.wrap .i64 from_2) (IntKind.wrap .i64 ((((ByteArray.size s_1) : Nat) : Int) + (1 : Int)))) (Int.tmod (IntKind.wrap .i64 to_3) (IntKind.wrap .i64 ((((ByteArray.size s_1) : Nat) : Int) + (1 : Int)))))))), (8, .c (.val (.int .i64 (mx2 (Int.tmod (IntKind.wrap .i64 from_2) (IntKind.wrap .i64 ((((ByteArray.size s_1) : Nat) : Int) + (1 : Int)))) (Int.tmod (IntKind.wrap .i64 to_3) (IntKind.wrap .i64 ((((ByteArray.size s_1) : Nat) : Int) + (1 : Int)))))))), (58, .c (.val (.bool (!r_29))))], [], 1⟩ [] (by kernel_rfl) rfl rfl ap0 ?_
            obtain ⟨r_35, h_36, H_94⟩ := of_bind H_92
            refine V_reg hN hn [(10, ⟨22, 1, [.c (.val (.int .i64 (((ByteArray.size s_1) : Nat) : Int))), .c (.h 0)], [(0, .row (.pair (.int .i64) (.pair (.int .i64) .str)) ([((mn2 (Int.tmod (IntKind.wrap .i64 from_2) (IntKind.wrap .i64 ((((ByteArray.size s_1) : Nat) : Int) + (1 : Int)))) (Int.tmod (IntKind.wrap .i64 to_3) (IntKind.wrap .i64 ((((ByteArray.size s_1) : Nat) : Int) + (1 : Int))))), ((mx2 (Int.tmod (IntKind.wrap .i64 from_2) (IntKind.wrap .i64 ((((ByteArray.size s_1) : Nat) : Int) + (1 : Int)))) (Int.tmod (IntKind.wrap .i64 to_3) (IntKind.wrap .i64 ((((ByteArray.size s_1) : Nat) : Int) + (1 : Int))))), (ByteArray.extract s_1 (Int.toNat (mn2 (Int.tmod (IntKind.wrap .i64 from_2) (IntKind.wrap .i64 ((((ByteArray.size s_1) : Nat) : Int) + (1 : Int)))) (Int.tmod (IntKind.wrap .i64 to_3) (IntKind.wrap .i64 ((((ByteArray.size s_1) : Nat) : Int) + (1 : Int)))))) (Int.toNat (mx2 (Int.tmod (IntKind.wrap .i64 from_2) (IntKind.wrap .i64 ((((ByteArray.size s_1) : Nat) : Int) + (1 : Int)))) (Int.tmod (IntKind.wrap .i64 to_3) (IntKind.wrap .i64 ((((ByteArray.size s_1) : Nat) : Int) + (1 : Int)))))))))] : List (Int × (Int × ByteArray))))], .tup [(true, [.val (.int .i64 r_35.1), .imm (.slice (.pair (.int .i64) (.pair (.int .i64) .str))) r_35.2.1]), (false, [.val (.int .i64 r_35.2.2)])], [(0, .row (.pair (.int .i64) (.pair (.int .i64) .str)) ([((mn2 (Int.tmod (IntKind.wrap .i64 from_2) (IntKind.wrap .i64 ((((ByteArray.size s_1) : Nat) : Int) + (1 : Int)))) (Int.tmod (IntKind.wrap .i64 to_3) (IntKind.wrap .i64 ((((ByteArray.size s_1) : Nat) : Int) + (1 : Int))))), ((mx2 (Int.tmod (IntKind.wrap .i64 from_2) (IntKind.wrap .i64 ((((ByteArray.size s_1) : Nat) : Int) + (1 : Int)))) (Int.tmod (IntKind.wrap .i64 to_3) (IntKind.wrap .i64 ((((ByteArray.size s_1) : Nat) : Int) + (1 : Int))))), (ByteArray.extract s_1 (Int.toNat (mn2 (Int.tmod (IntKind.wrap .i64 from_2) (IntKind.wrap .i64 ((((ByteArray.size s_1) : Nat) : Int) + (1 : Int)))) (Int.tmod (IntKind.wrap .i64 to_3) (IntKind.wrap .i64 ((((ByteArray.size s_1) : Nat) : Int) + (1 : Int)))))) (Int.toNat (mx2 (Int.tmod (IntKind.wrap .i64 from_2) (IntKind.wrap .i64 ((((ByteArray.size s_1) : Nat) : Int) + (1 : Int)))) (Int.tmod (IntKind.wrap .i64 to_3) (IntKind.wrap .i64 ((((ByteArray.size s_1) : Nat) : Int) + (1 : Int)))))))))] : List (Int × (Int × ByteArray))))], [(0, 1)], 2⟩)] [] (calls_cons (delta_Build_gr_spec K (((ByteArray.size s_1) : Nat) : Int) ([((mn2 (Int.tmod (IntKind.wrap .i64 from_2) (IntKind.wrap .i64 ((((ByteArray.size s_1) : Nat) : Int) + (1 : Int)))) (Int.tmod (IntKind.wrap .i64 to_3) (IntKind.wrap .i64 ((((ByteArray.size s_1) : Nat) : Int) + (1 : Int))))), ((mx2 (Int.tmod (IntKind.wrap .i64 from_2) (IntKind.wrap .i64 ((((ByteArray.size s_1) : Nat) : Int) + (1 : Int)))) (Int.tmod (IntKind.wrap .i64 to_3) (IntKind.wrap .i64 ((((ByteArray.size s_1) : Nat) : Int) + (1 : Int))))), (ByteArray.extract s_1 (Int.toNat (mn2 (Int.tmod (IntKind.wrap .i64 from_2) (IntKind.wrap .i64 ((((ByteArray.size s_1) : Nat) : Int) + (1 : Int)))) (Int.tmod (IntKind.wrap .i64 to_3) (IntKind.wrap .i64 ((((ByteArray.size s_1) : Nat) : Int) + (1 : Int)))))) (Int.toNat (mx2 (Int.tmod (IntKind.wrap .i64 from_2) (IntKind.wrap .i64 ((((ByteArray.size s_1) : Nat) : Int) + (1 : Int)))) (Int.tmod (IntKind.wrap .i64 to_3) (IntKind.wrap .i64 ((((ByteArray.size s_1) : Nat) : Int) + (1 : Int)))))))))] : List (Int × (Int × ByteArray))) r_35 h_36) (by kernel_rfl) calls_nil) 1 [0, 7, 8, 11, 12] [2] ⟨[(0, .c (.val (.string s_1))), (7, .c (.val (.int .i64 (mn2 (Int.tmod (IntKind.wrap .i64 from_2) (IntKind.wrap .i64 ((((ByteArray.size s_1) : Nat) : Int) + (1 : Int)))) (Int.tmod (IntKind.wrap .i64 to_3) (IntKind.wrap .i64 ((((ByteArray.size s_1) : Nat) : Int) + (1 : Int)))))))), (8, .c (.val (.int .i64 (mx2 (Int.tmod (IntKind.wrap .i64 from_2) (IntKind.wrap .i64 ((((ByteArray.size s_1) : Nat) : Int) + (1 : Int)))) (Int.tmod (IntKind.wrap .i64 to_3) (IntKind.wrap .i64 ((((ByteArray.size s_1) : Nat) : Int) + (1 : Int)))))))), (11, .c (.h 2)), (12, .c (.val (.int .i64 r_35.2.2)))], [(2, .box [.val (.int .i64 r_35.1), .imm (.slice (.pair (.int .i64) (.pair (.int .i64) .str))) r_35.2.1])], 3⟩ [(0 : Int) ≤ (mn2 (Int.tmod (IntKind.wrap .i64 from_2) (IntKind.wrap .i64 ((((ByteArray.size s_1) : Nat) : Int) + (1 : Int)))) (Int.tmod (IntKind.wrap .i64 to_3) (IntKind.wrap .i64 ((((ByteArray.size s_1) : Nat) : Int) + (1 : Int))))), (mn2 (Int.tmod (IntKind.wrap .i64 from_2) (IntKind.wrap .i64 ((((ByteArray.size s_1) : Nat) : Int) + (1 : Int)))) (Int.tmod (IntKind.wrap .i64 to_3) (IntKind.wrap .i64 ((((ByteArray.size s_1) : Nat) : Int) + (1 : Int))))) ≤ (mx2 (Int.tmod (IntKind.wrap .i64 from_2) (IntKind.wrap .i64 ((((ByteArray.size s_1) : Nat) : Int) + (1 : Int)))) (Int.tmod (IntKind.wrap .i64 to_3) (IntKind.wrap .i64 ((((ByteArray.size s_1) : Nat) : Int) + (1 : Int))))), (mx2 (Int.tmod (IntKind.wrap .i64 from_2) (IntKind.wrap .i64 ((((ByteArray.size s_1) : Nat) : Int) + (1 : Int)))) (Int.tmod (IntKind.wrap .i64 to_3) (IntKind.wrap .i64 ((((ByteArray.size s_1) : Nat) : Int) + (1 : Int))))) ≤ (((ByteArray.size s_1) : Nat) : Int)] (by kernel_rfl) rfl rfl (ap2 c_31.1 (ap2 c_31.2.1 (ap1 c_31.2.2))) (by kernel_rfl) (by kernel_rfl) ?_
            refine V_run hN hn 1 3 [0, 7, 8, 11, 12] [2] ⟨[(0, .c (.val (.string s_1))), (7, .c (.val (.int .i64 (mn2 (Int.tmod (IntKind.wrap .i64 from_2) (IntKind.wrap .i64 ((((ByteArray.size s_1) : Nat) : Int) + (1 : Int)))) (Int.tmod (IntKind.wrap .i64 to_3) (IntKind.wrap .i64 ((((ByteArray.size s_1) : Nat) : Int) + (1 : Int)))))))), (8, .c (.val (.int .i64 (mx2 (Int.tmod (IntKind.wrap .i64 from_2) (IntKind.wrap .i64 ((((ByteArray.size s_1) : Nat) : Int) + (1 : Int)))) (Int.tmod (IntKind.wrap .i64 to_3) (IntKind.wrap .i64 ((((ByteArray.size s_1) : Nat) : Int) + (1 : Int)))))))), (11, .c (.h 2)), (12, .c (.val (.int .i64 r_35.2.2)))], [(2, .box [.val (.int .i64 r_35.1), .imm (.slice (.pair (.int .i64) (.pair (.int .i64) .str))) r_35.2.1])], 3⟩ [] (by kernel_rfl) rfl rfl ap0 ?_
            obtain ⟨r_39, h_40, H_95⟩ := of_bind H_94
            refine V_reg hN hn [(2, ⟨12, 0, [.agg [.val (.int .i64 r_35.1), .imm (.slice (.pair (.int .i64) (.pair (.int .i64) .str))) r_35.2.1], .c (.val (.string s_1))], [], .tup [(false, [.val (.string r_39.1)]), (false, [.val (.int .i64 r_39.2)])], [], [], 3⟩)] [] (calls_cons (delta_Apply_spec K r_35.1 r_35.2.1 s_1 r_39 h_40) (by kernel_rfl) calls_nil) 3 [0, 7, 8, 11, 12, 13, 14] [2] ⟨[(0, .c (.val (.string s_1))), (7, .c (.val (.int .i64 (mn2 (Int.tmod (IntKind.wrap .i64 from_2) (IntKind.wrap .i64 ((((ByteArray.size s_1) : Nat) : Int) + (1 : Int)))) (Int.tmod (IntKind.wrap .i64 to_3) (IntKind.wrap .i64 ((((ByteArray.size s_1) : Nat) : Int) + (1 : Int)))))))), (8, .c (.val (.int .i64 (mx2 (Int.tmod (IntKind.wrap .i64 from_2) (IntKind.wrap .i64 ((((ByteArray.size s_1) : Nat) : Int) + (1 : Int)))) (Int.tmod (IntKind.wrap .i64 to_3) (IntKind.wrap .i64 ((((ByteArray.size s_1) : Nat) : Int) + (1 : Int)))))))), (11, .c (.h 2)), (12, .c (.val (.int .i64 r_35.2.2))), (13, .c (.val (.string r_39.1))), (14, .c (.val (.int .i64 r_39.2)))], [(2, .box [.val (.int .i64 r_35.1), .imm (.slice (.pair (.int .i64) (.pair (.int .i64) .str))) r_35.2.1])], 3⟩ [] (by kernel_rfl) rfl rfl ap0 (by kernel_rfl) (by kernel_rfl) ?_
            refine V_run hN hn 1 3 [0, 7, 8, 11, 12, 13, 14] [2] ⟨[(0, .c (.val (.string s_1))), (7, .c (.val (.int .i64 (mn2 (Int.tmod (IntKind.wrap .i64 from_2) (IntKind.wrap .i64 ((((ByteArray.size s_1) : Nat) : Int) + (1 : Int)))) (Int.tmod (IntKind.wrap .i64 to_3) (IntKind.wrap .i64 ((((ByteArray.size s_1) : Nat) : Int) + (1 : Int)))))))), (8, .c (.val (.int .i64 (mx2 (Int.tmod (IntKind.wrap .i64 from_2) (IntKind.wrap .i64 ((((ByteArray.size s_1) : Nat) : Int) + (1 : Int)))) (Int.tmod (IntKind.wrap .i64 to_3) (IntKind.wrap .i64 ((((ByteArray.size s_1) : Nat) : Int) + (1 : Int)))))))), (11, .c (.h 2)), (12, .c (.val (.int .i64 r_35.2.2))), (13, .c (.val (.string r_39.1))), (14, .c (.val (.int .i64 r_39.2)))], [(2, .box [.val (.int .i64 r_35.1), .imm (.slice (.pair (.int .i64) (.pair (.int .i64) .str))) r_35.2.1])], 3⟩ [] (by kernel_rfl) rfl rfl ap0 ?_
            rcases Bool.eq_false_or_eq_true ((r_35.2.2 == (0 : Int))) with b_43 | b_43
            · have H_96 := of_t H_95 b_43
              rcases Bool.eq_false_or_eq_true ((r_39.2 == (0 : Int))) with b_44 | b_44
              · have H_98 := of_t H_96 b_44
                rcases Bool.eq_false_or_eq_true ((ByteArray.toList r_39.1 == ByteArray.toList s_1)) with b_45 | b_45
                · have H_100 := of_t H_98 b_45
                  obtain ⟨r_46, h_47, H_102⟩ := of_bind H_100
                  rcases Bool.eq_false_or_eq_true ((r_46 == (((ByteArray.size s_1) : Nat) : Int))) with b_48 | b_48
                  · have H_103 := of_t H_102 b_48
                    obtain ⟨r_49, h_50, H_105⟩ := of_bind H_103
                    rcases Bool.eq_false_or_eq_true ((r_49 == (IntKind.wrap .i64 ((mx2 (Int.tmod (IntKind.wrap .i64 from_2) (IntKind.wrap .i64 ((((ByteArray.size s_1) : Nat) : Int) + (1 : Int)))) (Int.tmod (IntKind.wrap .i64 to_3) (IntKind.wrap .i64 ((((ByteArray.size s_1) : Nat) : Int) + (1 : Int))))) - (mn2 (Int.tmod (IntKind.wrap .i64 from_2) (IntKind.wrap .i64 ((((ByteArray.size s_1) : Nat) : Int) + (1 : Int)))) (Int.tmod (IntKind.wrap .i64 to_3) (IntKind.wrap .i64 ((((ByteArray.size s_1) : Nat) : Int) + (1 : Int))))))))) with b_51 | b_51
                    · have H_106 := of_t H_105 b_51
                      obtain ⟨r_52, h_53, H_108⟩ := of_bind H_106
                      rcases Bool.eq_false_or_eq_true ((r_52 == (IntKind.wrap .i64 ((mx2 (Int.tmod (IntKind.wrap .i64 from_2) (IntKind.wrap .i64 ((((ByteArray.size s_1) : Nat) : Int) + (1 : Int)))) (Int.tmod (IntKind.wrap .i64 to_3) (IntKind.wrap .i64 ((((ByteArray.size s_1) : Nat) : Int) + (1 : Int))))) - (mn2 (Int.tmod (IntKind.wrap .i64 from_2) (IntKind.wrap .i64 ((((ByteArray.size s_1) : Nat) : Int) + (1 : Int)))) (Int.tmod (IntKind.wrap .i64 to_3) (IntKind.wrap .i64 ((((ByteArray.size s_1) : Nat) : Int) + (1 : Int))))))))) with b_54 | b_54
                      · have H_109 := of_t H_108 b_54
                        obtain ⟨r_55, h_56, H_111⟩ := of_bind H_109
                        obtain ⟨r_57, h_58, H_112⟩ := of_bind H_111
                        refine V_draw hN hn (by kernel_rfl) [(13, ⟨16, 0, [.agg [.val (.int .i64 r_35.1), .imm (.slice (.pair (.int .i64) (.pair (.int .i64) .str))) r_35.2.1]], [], .c (.val (.int .i64 r_46)), [], [], 3⟩), (20, ⟨17, 0, [.agg [.val (.int .i64 r_35.1), .imm (.slice (.pair (.int .i64) (.pair (.int .i64) .str))) r_35.2.1]], [], .c (.val (.int .i64 r_49)), [], [], 3⟩), (28, ⟨18, 0, [.agg [.val (.int .i64 r_35.1), .imm (.slice (.pair (.int .i64) (.pair (.int .i64) .str))) r_35.2.1]], [], .c (.val (.int .i64 r_52)), [], [], 3⟩), (38, ⟨24, 0, [.c (.val (.int .i64 (((ByteArray.size s_1) : Nat) : Int)))], [], .agg [.val (.int .i64 r_55.1), .h 2], [(2, .row (.pair (.int .i64) (.pair (.int .i64) .str)) r_55.2)], [(2, 3)], 4⟩), (39, ⟨14, 1, [.agg [.val (.int .i64 r_35.1), .imm (.slice (.pair (.int .i64) (.pair (.int .i64) .str))) r_35.2.1], .agg [.val (.int .i64 r_55.1), .h 0]], [(0, .row (.pair (.int .i64) (.pair (.int .i64) .str)) r_55.2)], .c (.val (.bool r_57)), [(0, .row (.pair (.int .i64) (.pair (.int .i64) .str)) r_55.2)], [(0, 3)], 4⟩)] [(81, true), (85, true), (90, true), (97, true), (105, true), (113, true)] (calls_cons (delta_Size_spec K r_35.1 r_35.2.1 r_46 h_47) (by kernel_rfl) (calls_cons (delta_Adds_spec K r_35.1 r_35.2.1 r_49 h_50) (by kernel_rfl) (calls_cons (delta_Drops_spec K r_35.1 r_35.2.1 r_52 h_53) (by kernel_rfl) (calls_cons (delta_Keep_spec K (((ByteArray.size s_1) : Nat) : Int) r_55 h_56) (by kernel_rfl) (calls_cons (delta_Same_sggsgr_spec K r_35.1 r_35.2.1 r_55.1 r_55.2 r_57 h_58) (by kernel_rfl) calls_nil))))) 3 [6] [] ⟨[(6, .c (.val (.bool (r_57 == ((mn2 (Int.tmod (IntKind.wrap .i64 from_2) (IntKind.wrap .i64 ((((ByteArray.size s_1) : Nat) : Int) + (1 : Int)))) (Int.tmod (IntKind.wrap .i64 to_3) (IntKind.wrap .i64 ((((ByteArray.size s_1) : Nat) : Int) + (1 : Int))))) == (mx2 (Int.tmod (IntKind.wrap .i64 from_2) (IntKind.wrap .i64 ((((ByteArray.size s_1) : Nat) : Int) + (1 : Int)))) (Int.tmod (IntKind.wrap .i64 to_3) (IntKind.wrap .i64 ((((ByteArray.size s_1) : Nat) : Int) + (1 : Int))))))))))], [], 4⟩ [(r_35.2.2 == (0 : Int)) = true, (r_39.2 == (0 : Int)) = true, (ByteArray.toList r_39.1 == ByteArray.toList s_1) = true, (r_46 == (((ByteArray.size s_1) : Nat) : Int)) = true, (r_49 == (IntKind.wrap .i64 ((mx2 (Int.tmod (IntKind.wrap .i64 from_2) (IntKind.wrap .i64 ((((ByteArray.size s_1) : Nat) : Int) + (1 : Int)))) (Int.tmod (IntKind.wrap .i64 to_3) (IntKind.wrap .i64 ((((ByteArray.size s_1) : Nat) : Int) + (1 : Int))))) - (mn2 (Int.tmod (IntKind.wrap .i64 from_2) (IntKind.wrap .i64 ((((ByteArray.size s_1) : Nat) : Int) + (1 : Int)))) (Int.tmod (IntKind.wrap .i64 to_3) (IntKind.wrap .i64 ((((ByteArray.size s_1) : Nat) : Int) + (1 : Int)))))))) = true, (r_52 == (IntKind.wrap .i64 ((mx2 (Int.tmod (IntKind.wrap .i64 from_2) (IntKind.wrap .i64 ((((ByteArray.size s_1) : Nat) : Int) + (1 : Int)))) (Int.tmod (IntKind.wrap .i64 to_3) (IntKind.wrap .i64 ((((ByteArray.size s_1) : Nat) : Int) + (1 : Int))))) - (mn2 (Int.tmod (IntKind.wrap .i64 from_2) (IntKind.wrap .i64 ((((ByteArray.size s_1) : Nat) : Int) + (1 : Int)))) (Int.tmod (IntKind.wrap .i64 to_3) (IntKind.wrap .i64 ((((ByteArray.size s_1) : Nat) : Int) + (1 : Int)))))))) = true] (by kernel_rfl) rfl rfl (ap2 b_43 (ap2 b_44 (ap2 b_45 (ap2 b_48 (ap2 b_51 (ap1 b_54)))))) (by kernel_rfl) (by kernel_rfl) ?_
                        have H_113 := Option.some.inj (show some (r_57 == ((mn2 (Int.tmod (IntKind.wrap .i64 from_2) (IntKind.wrap .i64 ((((ByteArray.size s_1) : Nat) : Int) + (1 : Int)))) (Int.tmod (IntKind.wrap .i64 to_3) (IntKind.wrap .i64 ((((ByteArray.size s_1) : Nat) : Int) + (1 : Int))))) == (mx2 (Int.tmod (IntKind.wrap .i64 from_2) (IntKind.wrap .i64 ((((ByteArray.size s_1) : Nat) : Int) + (1 : Int)))) (Int.tmod (IntKind.wrap .i64 to_3) (IntKind.wrap .i64 ((((ByteArray.size s_1) : Nat) : Int) + (1 : Int))))))) = some r from H_112); subst H_113
                        refine VL_ret ?_
                        exact P_to [(6, .c (.val (.bool (r_57 == ((mn2 (Int.tmod (IntKind.wrap .i64 from_2) (IntKind.wrap .i64 ((((ByteArray.size s_1) : Nat) : Int) + (1 : Int)))) (Int.tmod (IntKind.wrap .i64 to_3) (IntKind.wrap .i64 ((((ByteArray.size s_1) : Nat) : Int) + (1 : Int))))) == (mx2 (Int.tmod (IntKind.wrap .i64 from_2) (IntKind.wrap .i64 ((((ByteArray.size s_1) : Nat) : Int) + (1 : Int)))) (Int.tmod (IntKind.wrap .i64 to_3) (IntKind.wrap .i64 ((((ByteArray.size s_1) : Nat) : Int) + (1 : Int))))))))))] [] [] hn (by kernel_rfl) (by kernel_rfl) rfl rfl rfl (QF_retS (by kernel_rfl) (by kernel_rfl) rfl)
                      · have H_110 := of_f H_108 b_54
                        refine V_draw hN hn (by kernel_rfl) [(13, ⟨16, 0, [.agg [.val (.int .i64 r_35.1), .imm (.slice (.pair (.int .i64) (.pair (.int .i64) .str))) r_35.2.1]], [], .c (.val (.int .i64 r_46)), [], [], 3⟩), (20, ⟨17, 0, [.agg [.val (.int .i64 r_35.1), .imm (.slice (.pair (.int .i64) (.pair (.int .i64) .str))) r_35.2.1]], [], .c (.val (.int .i64 r_49)), [], [], 3⟩), (28, ⟨18, 0, [.agg [.val (.int .i64 r_35.1), .imm (.slice (.pair (.int .i64) (.pair (.int .i64) .str))) r_35.2.1]], [], .c (.val (.int .i64 r_52)), [], [], 3⟩)] [(81, true), (85, true), (90, true), (97, true), (105, true), (113, false)] (calls_cons (delta_Size_spec K r_35.1 r_35.2.1 r_46 h_47) (by kernel_rfl) (calls_cons (delta_Adds_spec K r_35.1 r_35.2.1 r_49 h_50) (by kernel_rfl) (calls_cons (delta_Drops_spec K r_35.1 r_35.2.1 r_52 h_53) (by kernel_rfl) calls_nil))) 3 [6] [] ⟨[(6, .c (.val (.bool false)))], [], 3⟩ [(r_35.2.2 == (0 : Int)) = true, (r_39.2 == (0 : Int)) = true, (ByteArray.toList r_39.1 == ByteArray.toList s_1) = true, (r_46 == (((ByteArray.size s_1) : Nat) : Int)) = true, (r_49 == (IntKind.wrap .i64 ((mx2 (Int.tmod (IntKind.wrap .i64 from_2) (IntKind.wrap .i64 ((((ByteArray.size s_1) : Nat) : Int) + (1 : Int)))) (Int.tmod (IntKind.wrap .i64 to_3) (IntKind.wrap .i64 ((((ByteArray.size s_1) : Nat) : Int) + (1 : Int))))) - (mn2 (Int.tmod (IntKind.wrap .i64 from_2) (IntKind.wrap .i64 ((((ByteArray.size s_1) : Nat) : Int) + (1 : Int)))) (Int.tmod (IntKind.wrap .i64 to_3) (IntKind.wrap .i64 ((((ByteArray.size s_1) : Nat) : Int) + (1 : Int)))))))) = true, (r_52 == (IntKind.wrap .i64 ((mx2 (Int.tmod (IntKind.wrap .i64 from_2) (IntKind.wrap .i64 ((((ByteArray.size s_1) : Nat) : Int) + (1 : Int)))) (Int.tmod (IntKind.wrap .i64 to_3) (IntKind.wrap .i64 ((((ByteArray.size s_1) : Nat) : Int) + (1 : Int))))) - (mn2 (Int.tmod (IntKind.wrap .i64 from_2) (IntKind.wrap .i64 ((((ByteArray.size s_1) : Nat) : Int) + (1 : Int)))) (Int.tmod (IntKind.wrap .i64 to_3) (IntKind.wrap .i64 ((((ByteArray.size s_1) : Nat) : Int) + (1 : Int)))))))) = false] (by kernel_rfl) rfl rfl (ap2 b_43 (ap2 b_44 (ap2 b_45 (ap2 b_48 (ap2 b_51 (ap1 b_54)))))) (by kernel_rfl) (by kernel_rfl) ?_
                        have H_114 := Option.some.inj (show some false = some r from H_110); subst H_114
                        refine VL_ret ?_
                        exact P_to [(6, .c (.val (.bool false)))] [] [] hn (by kernel_rfl) (by kernel_rfl) rfl rfl rfl (QF_retS (by kernel_rfl) (by kernel_rfl) rfl)
                    · have H_107 := of_f H_105 b_51
                      refine V_draw hN hn (by kernel_rfl) [(13, ⟨16, 0, [.agg [.val (.int .i64 r_35.1), .imm (.slice (.pair (.int .i64) (.pair (.int .i64) .str))) r_35.2.1]], [], .c (.val (.int .i64 r_46)), [], [], 3⟩), (20, ⟨17, 0, [.agg [.val (.int .i64 r_35.1), .imm (.slice (.pair (.int .i64) (.pair (.int .i64) .str))) r_35.2.1]], [], .c (.val (.int .i64 r_49)), [], [], 3⟩)] [(81, true), (85, true), (90, true), (97, true), (105, false)] (calls_cons (delta_Size_spec K r_35.1 r_35.2.1 r_46 h_47) (by kernel_rfl) (calls_cons (delta_Adds_spec K r_35.1 r_35.2.1 r_49 h_50) (by kernel_rfl) calls_nil)) 3 [6] [] ⟨[(6, .c (.val (.bool false)))], [], 3⟩ [(r_35.2.2 == (0 : Int)) = true, (r_39.2 == (0 : Int)) = true, (ByteArray.toList r_39.1 == ByteArray.toList s_1) = true, (r_46 == (((ByteArray.size s_1) : Nat) : Int)) = true, (r_49 == (IntKind.wrap .i64 ((mx2 (Int.tmod (IntKind.wrap .i64 from_2) (IntKind.wrap .i64 ((((ByteArray.size s_1) : Nat) : Int) + (1 : Int)))) (Int.tmod (IntKind.wrap .i64 to_3) (IntKind.wrap .i64 ((((ByteArray.size s_1) : Nat) : Int) + (1 : Int))))) - (mn2 (Int.tmod (IntKind.wrap .i64 from_2) (IntKind.wrap .i64 ((((ByteArray.size s_1) : Nat) : Int) + (1 : Int)))) (Int.tmod (IntKind.wrap .i64 to_3) (IntKind.wrap .i64 ((((ByteArray.size s_1) : Nat) : Int) + (1 : Int)))))))) = false] (by kernel_rfl) rfl rfl (ap2 b_43 (ap2 b_44 (ap2 b_45 (ap2 b_48 (ap1 b_51))))) (by kernel_rfl) (by kernel_rfl) ?_
                      have H_115 := Option.some.inj (show some false = some r from H_107); subst H_115
                      refine VL_ret ?_
                      exact P_to [(6, .c (.val (.bool false)))] [] [] hn (by kernel_rfl) (by kernel_rfl) rfl rfl rfl (QF_retS (by kernel_rfl) (by kernel_rfl) rfl)
                  · have H_104 := of_f H_102 b_48
                    refine V_draw hN hn (by kernel_rfl) [(13, ⟨16, 0, [.agg [.val (.int .i64 r_35.1), .imm (.slice (.pair (.int .i64) (.pair (.int .i64) .str))) r_35.2.1]], [], .c (.val (.int .i64 r_46)), [], [], 3⟩)] [(81, true), (85, true), (90, true), (97, false)] (calls_cons (delta_Size_spec K r_35.1 r_35.2.1 r_46 h_47) (by kernel_rfl) calls_nil) 3 [6] [] ⟨[(6, .c (.val (.bool false)))], [], 3⟩ [(r_35.2.2 == (0 : Int)) = true, (r_39.2 == (0 : Int)) = true, (ByteArray.toList r_39.1 == ByteArray.toList s_1) = true, (r_46 == (((ByteArray.size s_1) : Nat) : Int)) = false] (by kernel_rfl) rfl rfl (ap2 b_43 (ap2 b_44 (ap2 b_45 (ap1 b_48)))) (by kernel_rfl) (by kernel_rfl) ?_
                    have H_116 := Option.some.inj (show some false = some r from H_104); subst H_116
                    refine VL_ret ?_
                    exact P_to [(6, .c (.val (.bool false)))] [] [] hn (by kernel_rfl) (by kernel_rfl) rfl rfl rfl (QF_retS (by kernel_rfl) (by kernel_rfl) rfl)
                · have H_101 := of_f H_98 b_45
                  refine V_draw hN hn (by kernel_rfl) [] [(81, true), (85, true), (90, false)] calls_nil 3 [6] [] ⟨[(6, .c (.val (.bool false)))], [], 3⟩ [(r_35.2.2 == (0 : Int)) = true, (r_39.2 == (0 : Int)) = true, (ByteArray.toList r_39.1 == ByteArray.toList s_1) = false] (by kernel_rfl) rfl rfl (ap2 b_43 (ap2 b_44 (ap1 b_45))) (by kernel_rfl) (by kernel_rfl) ?_
                  have H_117 := Option.some.inj (show some false = some r from H_101); subst H_117
                  refine VL_ret ?_
                  exact P_to [(6, .c (.val (.bool false)))] [] [] hn (by kernel_rfl) (by kernel_rfl) rfl rfl rfl (QF_retS (by kernel_rfl) (by kernel_rfl) rfl)
              · have H_99 := of_f H_96 b_44
                refine V_draw hN hn (by kernel_rfl) [] [(81, true), (85, false)] calls_nil 3 [6] [] ⟨[(6, .c (.val (.bool false)))], [], 3⟩ [(r_35.2.2 == (0 : Int)) = true, (r_39.2 == (0 : Int)) = false] (by kernel_rfl) rfl rfl (ap2 b_43 (ap1 b_44)) (by kernel_rfl) (by kernel_rfl) ?_
                have H_118 := Option.some.inj (show some false = some r from H_99); subst H_118
                refine VL_ret ?_
                exact P_to [(6, .c (.val (.bool false)))] [] [] hn (by kernel_rfl) (by kernel_rfl) rfl rfl rfl (QF_retS (by kernel_rfl) (by kernel_rfl) rfl)
            · have H_97 := of_f H_95 b_43
              refine V_draw hN hn (by kernel_rfl) [] [(81, false)] calls_nil 3 [6] [] ⟨[(6, .c (.val (.bool false)))], [], 3⟩ [(r_35.2.2 == (0 : Int)) = false] (by kernel_rfl) rfl rfl (ap1 b_43) (by kernel_rfl) (by kernel_rfl) ?_
              have H_119 := Option.some.inj (show some false = some r from H_97); subst H_119
              refine VL_ret ?_
              exact P_to [(6, .c (.val (.bool false)))] [] [] hn (by kernel_rfl) (by kernel_rfl) rfl rfl rfl (QF_retS (by kernel_rfl) (by kernel_rfl) rfl)

end Go.Pal
