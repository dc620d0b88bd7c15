/- The Go functions that DeltaBuilds reaches compute what the plain functions say: part 1, printed by a program of this workplace. -/
import Derived.Test.YtjhkbooonbcklaaChecked
import Derived.Test.YtjhkbooonbcklaaWalkDeltaBuilds0
namespace Go.Pal
open Go Go.Proofs
set_option maxRecDepth 100000
set_option linter.unusedVariables false

theorem palinoderef1_Size_spec (K : Nat) (s_1 : ByteArray) (at_2 : Int) (r : Int) (H : palinoderef1_Size K s_1 at_2 = some r) : Spec Try.prog 38 0 [.c (.val (.string s_1)), .c (.val (.int .i64 at_2))] [] (.c (.val (.int .i64 r))) [] := by
  refine Spec_mk (fn := Try.f38) (c := (Try.f38.body).get!) Try.func38 (by kernel_rfl) rfl ?_
  intro C hN hn
  replace hN : C.N = 94 := hN
  unfold palinoderef1_Size at H
  refine V_run hN hn 4 0 [0, 1] [] ⟨[(0, .c (.val (.string s_1))), (1, .c (.val (.int .i64 at_2)))], [], 0⟩ [] (by kernel_rfl) rfl rfl ap0 ?_
  obtain ⟨q_77, H_78, H_79⟩ := of_bind H
  refine V_cut (Y := Bool) (R := Bool) q_77 (fun y => y) (fun y => [(0, .c (.val (.string s_1))), (1, .c (.val (.int .i64 at_2))), (18, .c (.val (.bool y)))]) (fun y => []) ?_ ?_
  · skip
    rcases Bool.eq_false_or_eq_true ((decide (at_2 < (0 : Int)))) with b_4 | b_4
    · have H_81 := of_t H_78 b_4
      refine V_reg hN hn [] [(13, true)] calls_nil 0 [0, 1, 18] [] ⟨[(0, .c (.val (.string s_1))), (1, .c (.val (.int .i64 at_2))), (18, .c (.val (.bool true)))], [], 0⟩ [(decide (at_2 < (0 : Int))) = true] (by kernel_rfl) rfl rfl (ap1 b_4) (by kernel_rfl) (by kernel_rfl) ?_
      have H_83 := Option.some.inj (show some true = some q_77 from H_81); subst H_83
      refine VL_nil ?_
      exact QP_end true rfl [] hn (by kernel_rfl) (by kernel_rfl) rfl rfl rfl
    · have H_82 := of_f H_78 b_4
      refine V_reg hN hn [] [(13, false)] calls_nil 0 [0, 1, 18] [] ⟨[(0, .c (.val (.string s_1))), (1, .c (.val (.int .i64 at_2))), (18, .c (.val (.bool (decide (at_2 ≥ (((ByteArray.size s_1) : Nat) : Int))))))], [], 0⟩ [(decide (at_2 < (0 : Int))) = false] (by kernel_rfl) rfl rfl (ap1 b_4) (by kernel_rfl) (by kernel_rfl) ?_
      have H_84 := Option.some.inj (show some (decide (at_2 ≥ (((ByteArray.size s_1) : Nat) : Int))) = some q_77 from H_82); subst H_84
      refine VL_nil ?_
      exact QP_end (decide (at_2 ≥ (((ByteArray.size s_1) : Nat) : Int))) rfl [] hn (by kernel_rfl) (by kernel_rfl) rfl rfl rfl
  · intro y_80 hy; subst hy
    skip
    skip
    refine VL_cond (y_80) (by kernel_rfl) ?_ ?_
    · intro b_8; have H_85 := of_t H_79 b_8
      refine V_run hN hn 2 0 [4] [] ⟨[(4, .c (.val (.int .i64 (0 : Int))))], [], 0⟩ [] (by kernel_rfl) rfl rfl ap0 ?_
      have H_87 := Option.some.inj (show some (0 : Int) = some r from H_85); subst H_87
      refine VL_ret ?_
      exact P_to [(4, .c (.val (.int .i64 (0 : Int))))] [] [] hn (by kernel_rfl) (by kernel_rfl) rfl rfl rfl (QF_retS (by kernel_rfl) (by kernel_rfl) rfl)
    · intro b_8; have H_86 := of_f H_79 b_8
      obtain ⟨c_10, H_88⟩ := of_if H_86
      refine V_run hN hn 6 0 [0, 1, 5] [] ⟨[(0, .c (.val (.string s_1))), (1, .c (.val (.int .i64 at_2))), (5, .c (.val (.int .i64 (IntKind.wrap .i64 (bt s_1 at_2)))))], [], 0⟩ [0 ≤ at_2, at_2 < (((ByteArray.size s_1) : Nat) : Int)] (by kernel_rfl) rfl rfl (ap2 c_10.1 (ap1 c_10.2)) ?_
      refine VL_block ?_
      refine V_run hN hn 2 0 [0, 1, 5, 23] [] ⟨[(0, .c (.val (.string s_1))), (1, .c (.val (.int .i64 at_2))), (5, .c (.val (.int .i64 (IntKind.wrap .i64 (bt s_1 at_2))))), (23, .c (.val (.bool (decide ((IntKind.wrap .i64 (bt s_1 at_2)) < (128 : Int))))))], [], 0⟩ [] (by kernel_rfl) rfl rfl ap0 ?_
      refine VL_cond ((decide ((IntKind.wrap .i64 (bt s_1 at_2)) < (128 : Int)))) (by kernel_rfl) ?_ ?_
      · intro b_12; have H_89 := of_t H_88 b_12
        refine V_run hN hn 2 0 [4] [] ⟨[(4, .c (.val (.int .i64 (1 : Int))))], [], 0⟩ [] (by kernel_rfl) rfl rfl ap0 ?_
        have H_91 := Option.some.inj (show some (1 : Int) = some r from H_89); subst H_91
        refine VL_ret ?_
        refine QB_ret ?_
        exact P_to [(4, .c (.val (.int .i64 (1 : Int))))] [] [] hn (by kernel_rfl) (by kernel_rfl) rfl rfl rfl (QF_retS (by kernel_rfl) (by kernel_rfl) rfl)
      · intro b_12; have H_90 := of_f H_88 b_12
        refine V_run hN hn 1 0 [0, 1, 5, 23] [] ⟨[(0, .c (.val (.string s_1))), (1, .c (.val (.int .i64 at_2))), (5, .c (.val (.int .i64 (IntKind.wrap .i64 (bt s_1 at_2))))), (23, .c (.val (.bool (decide ((IntKind.wrap .i64 (bt s_1 at_2)) < (128 : Int))))))], [], 0⟩ [] (by kernel_rfl) rfl rfl ap0 ?_
        obtain ⟨q_92, H_93, H_94⟩ := of_bind H_90
        refine V_cut (Y := Bool) (R := Bool) q_92 (fun y => y) (fun y => [(0, .c (.val (.string s_1))), (1, .c (.val (.int .i64 at_2))), (5, .c (.val (.int .i64 (IntKind.wrap .i64 (bt s_1 at_2))))), (26, .c (.val (.bool y)))]) (fun y => []) ?_ ?_
        · skip
          rcases Bool.eq_false_or_eq_true ((decide ((IntKind.wrap .i64 (bt s_1 at_2)) ≥ (192 : Int)))) with b_15 | b_15
          · have H_96 := of_t H_93 b_15
            refine V_reg hN hn [] [(29, true)] calls_nil 0 [0, 1, 5, 26] [] ⟨[(0, .c (.val (.string s_1))), (1, .c (.val (.int .i64 at_2))), (5, .c (.val (.int .i64 (IntKind.wrap .i64 (bt s_1 at_2))))), (26, .c (.val (.bool (decide ((IntKind.wrap .i64 (bt s_1 at_2)) < (224 : Int))))))], [], 0⟩ [(decide ((IntKind.wrap .i64 (bt s_1 at_2)) ≥ (192 : Int))) = true] (by kernel_rfl) rfl rfl (ap1 b_15) (by kernel_rfl) (by kernel_rfl) ?_
            have H_98 := Option.some.inj (show some (decide ((IntKind.wrap .i64 (bt s_1 at_2)) < (224 : Int))) = some q_92 from H_96); subst H_98
            refine VL_nil ?_
            exact QP_end (decide ((IntKind.wrap .i64 (bt s_1 at_2)) < (224 : Int))) rfl [] hn (by kernel_rfl) (by kernel_rfl) rfl rfl rfl
          · have H_97 := of_f H_93 b_15
            refine V_reg hN hn [] [(29, false)] calls_nil 0 [0, 1, 5, 26] [] ⟨[(0, .c (.val (.string s_1))), (1, .c (.val (.int .i64 at_2))), (5, .c (.val (.int .i64 (IntKind.wrap .i64 (bt s_1 at_2))))), (26, .c (.val (.bool false)))], [], 0⟩ [(decide ((IntKind.wrap .i64 (bt s_1 at_2)) ≥ (192 : Int))) = false] (by kernel_rfl) rfl rfl (ap1 b_15) (by kernel_rfl) (by kernel_rfl) ?_
            have H_99 := Option.some.inj (show some false = some q_92 from H_97); subst H_99
            refine VL_nil ?_
            exact QP_end false rfl [] hn (by kernel_rfl) (by kernel_rfl) rfl rfl rfl
        · intro y_95 hy; subst hy
          skip
          skip
          obtain ⟨q_100, H_101, H_102⟩ := of_bind H_94
          refine V_cut (Y := (Int × Int × Int)) (R := (Int ⊕ (Int × Int × Int))) q_100 (fun y => (Sum.inr y)) (fun y => [(0, .c (.val (.string s_1))), (1, .c (.val (.int .i64 at_2))), (6, .c (.val (.int .i64 y.1))), (7, .c (.val (.int .i64 y.2.1))), (8, .c (.val (.int .i64 y.2.2)))]) (fun y => []) ?_ ?_
          · skip
            refine VL_cond (y_95) (by kernel_rfl) ?_ ?_
            · intro b_19; have H_104 := of_t H_101 b_19
              refine V_run hN hn 1 0 [0, 1, 6, 7, 8] [] ⟨[(0, .c (.val (.string s_1))), (1, .c (.val (.int .i64 at_2))), (6, .c (.val (.int .i64 (2 : Int)))), (7, .c (.val (.int .i64 (IntKind.wrap .i64 (BitVec.toNat (BitVec.ofInt (IntKind.bits .i64) (IntKind.wrap .i64 (bt s_1 at_2)) &&& BitVec.ofInt (IntKind.bits .i64) (31 : Int))))))), (8, .c (.val (.int .i64 (128 : Int))))], [], 0⟩ [] (by kernel_rfl) rfl rfl ap0 ?_
              have H_106 := Option.some.inj (show some (Sum.inr ((2 : Int), (IntKind.wrap .i64 (BitVec.toNat (BitVec.ofInt (IntKind.bits .i64) (IntKind.wrap .i64 (bt s_1 at_2)) &&& BitVec.ofInt (IntKind.bits .i64) (31 : Int)))), (128 : Int))) = some q_100 from H_104); subst H_106
              refine VL_nil ?_
              exact QP_end ((2 : Int), (IntKind.wrap .i64 (BitVec.toNat (BitVec.ofInt (IntKind.bits .i64) (IntKind.wrap .i64 (bt s_1 at_2)) &&& BitVec.ofInt (IntKind.bits .i64) (31 : Int)))), (128 : Int)) rfl [] hn (by kernel_rfl) (by kernel_rfl) rfl rfl rfl
            · intro b_19; have H_105 := of_f H_101 b_19
              refine V_run hN hn 1 0 [0, 1, 5, 26] [] ⟨[(0, .c (.val (.string s_1))), (1, .c (.val (.int .i64 at_2))), (5, .c (.val (.int .i64 (IntKind.wrap .i64 (bt s_1 at_2))))), (26, .c (.val (.bool y_95)))], [], 0⟩ [] (by kernel_rfl) rfl rfl ap0 ?_
              obtain ⟨q_107, H_108, H_109⟩ := of_bind H_105
              refine V_cut (Y := Bool) (R := Bool) q_107 (fun y => y) (fun y => [(0, .c (.val (.string s_1))), (1, .c (.val (.int .i64 at_2))), (5, .c (.val (.int .i64 (IntKind.wrap .i64 (bt s_1 at_2))))), (35, .c (.val (.bool y)))]) (fun y => []) ?_ ?_
              · skip
                rcases Bool.eq_false_or_eq_true ((decide ((IntKind.wrap .i64 (bt s_1 at_2)) ≥ (224 : Int)))) with b_22 | b_22
                · have H_111 := of_t H_108 b_22
                  refine V_reg hN hn [] [(38, true)] calls_nil 0 [0, 1, 5, 35] [] ⟨[(0, .c (.val (.string s_1))), (1, .c (.val (.int .i64 at_2))), (5, .c (.val (.int .i64 (IntKind.wrap .i64 (bt s_1 at_2))))), (35, .c (.val (.bool (decide ((IntKind.wrap .i64 (bt s_1 at_2)) < (240 : Int))))))], [], 0⟩ [(decide ((IntKind.wrap .i64 (bt s_1 at_2)) ≥ (224 : Int))) = true] (by kernel_rfl) rfl rfl (ap1 b_22) (by kernel_rfl) (by kernel_rfl) ?_
                  have H_113 := Option.some.inj (show some (decide ((IntKind.wrap .i64 (bt s_1 at_2)) < (240 : Int))) = some q_107 from H_111); subst H_113
                  refine VL_nil ?_
                  exact QP_end (decide ((IntKind.wrap .i64 (bt s_1 at_2)) < (240 : Int))) rfl [] hn (by kernel_rfl) (by kernel_rfl) rfl rfl rfl
                · have H_112 := of_f H_108 b_22
                  refine V_reg hN hn [] [(38, false)] calls_nil 0 [0, 1, 5, 35] [] ⟨[(0, .c (.val (.string s_1))), (1, .c (.val (.int .i64 at_2))), (5, .c (.val (.int .i64 (IntKind.wrap .i64 (bt s_1 at_2))))), (35, .c (.val (.bool false)))], [], 0⟩ [(decide ((IntKind.wrap .i64 (bt s_1 at_2)) ≥ (224 : Int))) = false] (by kernel_rfl) rfl rfl (ap1 b_22) (by kernel_rfl) (by kernel_rfl) ?_
                  have H_114 := Option.some.inj (show some false = some q_107 from H_112); subst H_114
                  refine VL_nil ?_
                  exact QP_end false rfl [] hn (by kernel_rfl) (by kernel_rfl) rfl rfl rfl
              · intro y_110 hy; subst hy
                skip
                skip
                refine VL_cond (y_110) (by kernel_rfl) ?_ ?_
                · intro b_26; have H_115 := of_t H_109 b_26
                  refine V_run hN hn 1 0 [0, 1, 6, 7, 8] [] ⟨[(0, .c (.val (.string s_1))), (1, .c (.val (.int .i64 at_2))), (6, .c (.val (.int .i64 (3 : Int)))), (7, .c (.val (.int .i64 (IntKind.wrap .i64 (BitVec.toNat (BitVec.ofInt (IntKind.bits .i64) (IntKind.wrap .i64 (bt s_1 at_2)) &&& BitVec.ofInt (IntKind.bits .i64) (15 : Int))))))), (8, .c (.val (.int .i64 (2048 : Int))))], [], 0⟩ [] (by kernel_rfl) rfl rfl ap0 ?_
                  have H_117 := Option.some.inj (show some (Sum.inr ((3 : Int), (IntKind.wrap .i64 (BitVec.toNat (BitVec.ofInt (IntKind.bits .i64) (IntKind.wrap .i64 (bt s_1 at_2)) &&& BitVec.ofInt (IntKind.bits .i64) (15 : Int)))), (2048 : Int))) = some q_100 from H_115); subst H_117
                  refine VL_nil ?_
                  exact QP_end ((3 : Int), (IntKind.wrap .i64 (BitVec.toNat (BitVec.ofInt (IntKind.bits .i64) (IntKind.wrap .i64 (bt s_1 at_2)) &&& BitVec.ofInt (IntKind.bits .i64) (15 : Int)))), (2048 : Int)) rfl [] hn (by kernel_rfl) (by kernel_rfl) rfl rfl rfl
                · intro b_26; have H_116 := of_f H_109 b_26
                  refine V_run hN hn 1 0 [0, 1, 5, 35] [] ⟨[(0, .c (.val (.string s_1))), (1, .c (.val (.int .i64 at_2))), (5, .c (.val (.int .i64 (IntKind.wrap .i64 (bt s_1 at_2))))), (35, .c (.val (.bool y_110)))], [], 0⟩ [] (by kernel_rfl) rfl rfl ap0 ?_
                  obtain ⟨q_118, H_119, H_120⟩ := of_bind H_116
                  refine V_cut (Y := Bool) (R := Bool) q_118 (fun y => y) (fun y => [(0, .c (.val (.string s_1))), (1, .c (.val (.int .i64 at_2))), (5, .c (.val (.int .i64 (IntKind.wrap .i64 (bt s_1 at_2))))), (44, .c (.val (.bool y)))]) (fun y => []) ?_ ?_
                  · skip
                    rcases Bool.eq_false_or_eq_true ((decide ((IntKind.wrap .i64 (bt s_1 at_2)) ≥ (240 : Int)))) with b_29 | b_29
                    · have H_122 := of_t H_119 b_29
                      refine V_reg hN hn [] [(47, true)] calls_nil 0 [0, 1, 5, 44] [] ⟨[(0, .c (.val (.string s_1))), (1, .c (.val (.int .i64 at_2))), (5, .c (.val (.int .i64 (IntKind.wrap .i64 (bt s_1 at_2))))), (44, .c (.val (.bool (decide ((IntKind.wrap .i64 (bt s_1 at_2)) < (248 : Int))))))], [], 0⟩ [(decide ((IntKind.wrap .i64 (bt s_1 at_2)) ≥ (240 : Int))) = true] (by kernel_rfl) rfl rfl (ap1 b_29) (by kernel_rfl) (by kernel_rfl) ?_
                      have H_124 := Option.some.inj (show some (decide ((IntKind.wrap .i64 (bt s_1 at_2)) < (248 : Int))) = some q_118 from H_122); subst H_124
                      refine VL_nil ?_
                      exact QP_end (decide ((IntKind.wrap .i64 (bt s_1 at_2)) < (248 : Int))) rfl [] hn (by kernel_rfl) (by kernel_rfl) rfl rfl rfl
                    · have H_123 := of_f H_119 b_29
                      refine V_reg hN hn [] [(47, false)] calls_nil 0 [0, 1, 5, 44] [] ⟨[(0, .c (.val (.string s_1))), (1, .c (.val (.int .i64 at_2))), (5, .c (.val (.int .i64 (IntKind.wrap .i64 (bt s_1 at_2))))), (44, .c (.val (.bool false)))], [], 0⟩ [(decide ((IntKind.wrap .i64 (bt s_1 at_2)) ≥ (240 : Int))) = false] (by kernel_rfl) rfl rfl (ap1 b_29) (by kernel_rfl) (by kernel_rfl) ?_
                      have H_125 := Option.some.inj (show some false = some q_118 from H_123); subst H_125
                      refine VL_nil ?_
                      exact QP_end false rfl [] hn (by kernel_rfl) (by kernel_rfl) rfl rfl rfl
                  · intro y_121 hy; subst hy
                    skip
                    skip
                    refine VL_cond (y_121) (by kernel_rfl) ?_ ?_
                    · intro b_33; have H_126 := of_t H_120 b_33
                      refine V_run hN hn 1 0 [0, 1, 6, 7, 8] [] ⟨[(0, .c (.val (.string s_1))), (1, .c (.val (.int .i64 at_2))), (6, .c (.val (.int .i64 (4 : Int)))), (7, .c (.val (.int .i64 (IntKind.wrap .i64 (BitVec.toNat (BitVec.ofInt (IntKind.bits .i64) (IntKind.wrap .i64 (bt s_1 at_2)) &&& BitVec.ofInt (IntKind.bits .i64) (7 : Int))))))), (8, .c (.val (.int .i64 (65536 : Int))))], [], 0⟩ [] (by kernel_rfl) rfl rfl ap0 ?_
                      have H_128 := Option.some.inj (show some (Sum.inr ((4 : Int), (IntKind.wrap .i64 (BitVec.toNat (BitVec.ofInt (IntKind.bits .i64) (IntKind.wrap .i64 (bt s_1 at_2)) &&& BitVec.ofInt (IntKind.bits .i64) (7 : Int)))), (65536 : Int))) = some q_100 from H_126); subst H_128
                      refine VL_nil ?_
                      exact QP_end ((4 : Int), (IntKind.wrap .i64 (BitVec.toNat (BitVec.ofInt (IntKind.bits .i64) (IntKind.wrap .i64 (bt s_1 at_2)) &&& BitVec.ofInt (IntKind.bits .i64) (7 : Int)))), (65536 : Int)) rfl [] hn (by kernel_rfl) (by kernel_rfl) rfl rfl rfl
                    · intro b_33; have H_127 := of_f H_120 b_33
                      refine V_run hN hn 2 0 [4] [] ⟨[(4, .c (.val (.int .i64 (0 : Int))))], [], 0⟩ [] (by kernel_rfl) rfl rfl ap0 ?_
                      have H_129 := Option.some.inj (show some (Sum.inl (0 : Int)) = some q_100 from H_127); subst H_129
                      have H_130 := Option.some.inj (show some (0 : Int) = some r from H_102); subst H_130
                      refine VL_ret ?_
                      refine QP_ret ?_
                      refine QB_ret ?_
                      exact P_to [(4, .c (.val (.int .i64 (0 : Int))))] [] [] hn (by kernel_rfl) (by kernel_rfl) rfl rfl rfl (QF_retS (by kernel_rfl) (by kernel_rfl) rfl)
          · intro y_103 hy; subst hy
            obtain ⟨n_36, v_37, least_38⟩ := y_103
            refine VL_nil (QB_end ?_)
            refine V_run hN hn 3 0 [0, 1, 6, 7, 8, 58] [] ⟨[(0, .c (.val (.string s_1))), (1, .c (.val (.int .i64 at_2))), (6, .c (.val (.int .i64 n_36))), (7, .c (.val (.int .i64 v_37))), (8, .c (.val (.int .i64 least_38))), (58, .c (.val (.bool (decide ((IntKind.wrap .i64 ((((ByteArray.size s_1) : Nat) : Int) - at_2)) < n_36)))))], [], 0⟩ [] (by kernel_rfl) rfl rfl ap0 ?_
            refine VL_cond ((decide ((IntKind.wrap .i64 ((((ByteArray.size s_1) : Nat) : Int) - at_2)) < n_36))) (by kernel_rfl) ?_ ?_
            · intro b_40; have H_131 := of_t H_102 b_40
              refine V_run hN hn 2 0 [4] [] ⟨[(4, .c (.val (.int .i64 (0 : Int))))], [], 0⟩ [] (by kernel_rfl) rfl rfl ap0 ?_
              have H_133 := Option.some.inj (show some (0 : Int) = some r from H_131); subst H_133
              refine VL_ret ?_
              exact P_to [(4, .c (.val (.int .i64 (0 : Int))))] [] [] hn (by kernel_rfl) (by kernel_rfl) rfl rfl rfl (QF_retS (by kernel_rfl) (by kernel_rfl) rfl)
            · intro b_40; have H_132 := of_f H_102 b_40
              refine V_run hN hn 4 0 [0, 1, 6, 7, 8, 9] [] ⟨[(0, .c (.val (.string s_1))), (1, .c (.val (.int .i64 at_2))), (6, .c (.val (.int .i64 n_36))), (7, .c (.val (.int .i64 v_37))), (8, .c (.val (.int .i64 least_38))), (9, .c (.val (.int .i64 (1 : Int))))], [], 0⟩ [] (by kernel_rfl) rfl rfl ap0 ?_
              obtain ⟨q_134, H_135, H_136⟩ := of_bind H_132
              refine V_cut (Y := Int) (R := (Int ⊕ Int)) q_134 (fun y => (Sum.inr y)) (fun y => [(6, .c (.val (.int .i64 n_36))), (7, .c (.val (.int .i64 y))), (8, .c (.val (.int .i64 least_38)))]) (fun y => []) ?_ ?_
              · skip
                refine VL_block ?_
                refine V_to [(0, .c (.val (.string s_1))), (1, .c (.val (.int .i64 at_2))), (6, .c (.val (.int .i64 n_36))), (7, .c (.val (.int .i64 v_37))), (8, .c (.val (.int .i64 least_38))), (9, .c (.val (.int .i64 (1 : Int))))] [] [] hn (by kernel_rfl) (by kernel_rfl) rfl rfl rfl ?_
                refine VL_loop (X := (Int × Int)) (fun x => [(0, .c (.val (.string s_1))), (1, .c (.val (.int .i64 at_2))), (6, .c (.val (.int .i64 n_36))), (7, .c (.val (.int .i64 x.1))), (8, .c (.val (.int .i64 least_38))), (9, .c (.val (.int .i64 x.2)))]) (fun x => []) (fun k x => palinoderef1_Size.l0 K n_36 at_2 s_1 k x.1 x.2 = some q_134) K (v_37, (1 : Int)) H_135 (fun _ h => no_none h) ?_
                intro k_45 x_45 H_138
                obtain ⟨v_43, i_44⟩ := x_45
                have H_139 : palinoderef1_Size.l0 K n_36 at_2 s_1 (k_45 + 1) v_43 i_44 = some q_134 := H_138
                rw [palinoderef1_Size.l0] at H_139
                refine V_run hN hn 3 0 [0, 1, 6, 7, 8, 9, 61] [] ⟨[(0, .c (.val (.string s_1))), (1, .c (.val (.int .i64 at_2))), (6, .c (.val (.int .i64 n_36))), (7, .c (.val (.int .i64 v_43))), (8, .c (.val (.int .i64 least_38))), (9, .c (.val (.int .i64 i_44))), (61, .c (.val (.bool (decide (i_44 < n_36)))))], [], 0⟩ [] (by kernel_rfl) rfl rfl ap0 ?_
                refine VL_cond ((decide (i_44 < n_36))) (by kernel_rfl) ?_ ?_
                · intro b_47; have H_140 := of_t H_139 b_47
                  refine V_run hN hn 2 0 [0, 1, 6, 7, 8, 9, 61] [] ⟨[(0, .c (.val (.string s_1))), (1, .c (.val (.int .i64 at_2))), (6, .c (.val (.int .i64 n_36))), (7, .c (.val (.int .i64 v_43))), (8, .c (.val (.int .i64 least_38))), (9, .c (.val (.int .i64 i_44))), (61, .c (.val (.bool (decide (i_44 < n_36)))))], [], 0⟩ [] (by kernel_rfl) rfl rfl ap0 ?_
                  refine VL_block ?_
                  obtain ⟨c_49, H_142⟩ := of_if H_140
                  refine V_run hN hn 5 0 [0, 1, 6, 7, 8, 9, 10, 72] [] ⟨[(0, .c (.val (.string s_1))), (1, .c (.val (.int .i64 at_2))), (6, .c (.val (.int .i64 n_36))), (7, .c (.val (.int .i64 v_43))), (8, .c (.val (.int .i64 least_38))), (9, .c (.val (.int .i64 i_44))), (10, .c (.val (.int .i64 (IntKind.wrap .i64 (bt s_1 (IntKind.wrap .i64 (at_2 + i_44))))))), (72, .c (.val (.bool ((Int.fdiv (IntKind.wrap .i64 (bt s_1 (IntKind.wrap .i64 (at_2 + i_44)))) (64 : Int)) != (2 : Int)))))], [], 0⟩ [0 ≤ (IntKind.wrap .i64 (at_2 + i_44)), (IntKind.wrap .i64 (at_2 + i_44)) < (((ByteArray.size s_1) : Nat) : Int), (0 : Int) ≤ (6 : Int)] (by kernel_rfl) rfl rfl (ap2 c_49.1 (ap2 c_49.2 (ap1 (by decide)))) ?_
                  refine VL_cond (((Int.fdiv (IntKind.wrap .i64 (bt s_1 (IntKind.wrap .i64 (at_2 + i_44)))) (64 : Int)) != (2 : Int))) (by kernel_rfl) ?_ ?_
                  · intro b_50; have H_143 := of_t H_142 b_50
                    refine V_run hN hn 2 0 [4] [] ⟨[(4, .c (.val (.int .i64 (0 : Int))))], [], 0⟩ [] (by kernel_rfl) rfl rfl ap0 ?_
                    have H_145 := Option.some.inj (show some (Sum.inl (0 : Int)) = some q_134 from H_143); subst H_145
                    have H_146 := Option.some.inj (show some (0 : Int) = some r from H_136); subst H_146
                    refine VL_ret ?_
                    refine QB_ret ?_
                    refine QL_ret ?_
                    refine QB_ret ?_
                    refine QP_ret ?_
                    exact P_to [(4, .c (.val (.int .i64 (0 : Int))))] [] [] hn (by kernel_rfl) (by kernel_rfl) rfl rfl rfl (QF_retS (by kernel_rfl) (by kernel_rfl) rfl)
                  · intro b_50; have H_144 := of_f H_142 b_50
                    refine V_run hN hn 2 0 [0, 1, 6, 7, 8, 9] [] ⟨[(0, .c (.val (.string s_1))), (1, .c (.val (.int .i64 at_2))), (6, .c (.val (.int .i64 n_36))), (7, .c (.val (.int .i64 (IntKind.wrap .i64 (BitVec.toNat (BitVec.ofInt (IntKind.bits .i64) (IntKind.wrap .i64 (v_43 * (64 : Int))) ||| BitVec.ofInt (IntKind.bits .i64) (IntKind.wrap .i64 (BitVec.toNat (BitVec.ofInt (IntKind.bits .i64) (IntKind.wrap .i64 (bt s_1 (IntKind.wrap .i64 (at_2 + i_44)))) &&& BitVec.ofInt (IntKind.bits .i64) (63 : Int)))))))))), (8, .c (.val (.int .i64 least_38))), (9, .c (.val (.int .i64 i_44)))], [], 0⟩ [(0 : Int) ≤ (6 : Int)] (by kernel_rfl) rfl rfl (ap1 (by decide)) ?_
                    refine VL_nil (QB_end ?_)
                    refine V_run hN hn 1 0 [0, 1, 6, 7, 8, 9] [] ⟨[(0, .c (.val (.string s_1))), (1, .c (.val (.int .i64 at_2))), (6, .c (.val (.int .i64 n_36))), (7, .c (.val (.int .i64 (IntKind.wrap .i64 (BitVec.toNat (BitVec.ofInt (IntKind.bits .i64) (IntKind.wrap .i64 (v_43 * (64 : Int))) ||| BitVec.ofInt (IntKind.bits .i64) (IntKind.wrap .i64 (BitVec.toNat (BitVec.ofInt (IntKind.bits .i64) (IntKind.wrap .i64 (bt s_1 (IntKind.wrap .i64 (at_2 + i_44)))) &&& BitVec.ofInt (IntKind.bits .i64) (63 : Int)))))))))), (8, .c (.val (.int .i64 least_38))), (9, .c (.val (.int .i64 (IntKind.wrap .i64 (i_44 + (1 : Int))))))], [], 0⟩ [] (by kernel_rfl) rfl rfl ap0 ?_
                    refine VL_nil ?_
                    exact V_roundEnd ((IntKind.wrap .i64 (BitVec.toNat (BitVec.ofInt (IntKind.bits .i64) (IntKind.wrap .i64 (v_43 * (64 : Int))) ||| BitVec.ofInt (IntKind.bits .i64) (IntKind.wrap .i64 (BitVec.toNat (BitVec.ofInt (IntKind.bits .i64) (IntKind.wrap .i64 (bt s_1 (IntKind.wrap .i64 (at_2 + i_44)))) &&& BitVec.ofInt (IntKind.bits .i64) (63 : Int))))))), (IntKind.wrap .i64 (i_44 + (1 : Int)))) H_144 [] hn (by kernel_rfl) (by kernel_rfl) rfl rfl rfl
                · intro b_47; have H_141 := of_f H_139 b_47
                  refine VL_exit ?_
                  refine QL_exit ?_
                  refine QB_here ?_
                  have H_147 := Option.some.inj (show some (Sum.inr v_43) = some q_134 from H_141); subst H_147
                  refine VL_nil ?_
                  exact QP_end v_43 rfl [] hn (by kernel_rfl) (by kernel_rfl) rfl rfl rfl
              · intro y_137 hy; subst hy
                skip
                skip
                refine V_run hN hn 2 0 [6, 7, 8] [] ⟨[(6, .c (.val (.int .i64 n_36))), (7, .c (.val (.int .i64 y_137))), (8, .c (.val (.int .i64 least_38)))], [], 0⟩ [] (by kernel_rfl) rfl rfl ap0 ?_
                obtain ⟨q_148, H_149, H_150⟩ := of_bind H_136
                refine V_cut (Y := Bool) (R := Bool) q_148 (fun y => y) (fun y => [(6, .c (.val (.int .i64 n_36))), (92, .c (.val (.bool y)))]) (fun y => []) ?_ ?_
                · skip
                  rcases Bool.eq_false_or_eq_true ((decide (y_137 < least_38))) with b_56 | b_56
                  · have H_152 := of_t H_149 b_56
                    refine V_reg hN hn [] [(81, true)] calls_nil 0 [6, 92] [] ⟨[(6, .c (.val (.int .i64 n_36))), (92, .c (.val (.bool true)))], [], 0⟩ [(decide (y_137 < least_38)) = true] (by kernel_rfl) rfl rfl (ap1 b_56) (by kernel_rfl) (by kernel_rfl) ?_
                    have H_154 := Option.some.inj (show some true = some q_148 from H_152); subst H_154
                    refine VL_nil ?_
                    exact QP_end true rfl [] hn (by kernel_rfl) (by kernel_rfl) rfl rfl rfl
                  · have H_153 := of_f H_149 b_56
                    rcases Bool.eq_false_or_eq_true ((decide (y_137 > (1114111 : Int)))) with b_58 | b_58
                    · have H_155 := of_t H_153 b_58
                      refine V_reg hN hn [] [(81, false), (85, true)] calls_nil 0 [6, 92] [] ⟨[(6, .c (.val (.int .i64 n_36))), (92, .c (.val (.bool true)))], [], 0⟩ [(decide (y_137 < least_38)) = false, (decide (y_137 > (1114111 : Int))) = true] (by kernel_rfl) rfl rfl (ap2 b_56 (ap1 b_58)) (by kernel_rfl) (by kernel_rfl) ?_
                      have H_157 := Option.some.inj (show some true = some q_148 from H_155); subst H_157
                      refine VL_nil ?_
                      exact QP_end true rfl [] hn (by kernel_rfl) (by kernel_rfl) rfl rfl rfl
                    · have H_156 := of_f H_153 b_58
                      rcases Bool.eq_false_or_eq_true ((decide (y_137 ≥ (55296 : Int)))) with b_60 | b_60
                      · have H_158 := of_t H_156 b_60
                        refine V_reg hN hn [] [(81, false), (85, false), (88, true)] calls_nil 0 [6, 92] [] ⟨[(6, .c (.val (.int .i64 n_36))), (92, .c (.val (.bool (decide (y_137 < (57344 : Int))))))], [], 0⟩ [(decide (y_137 < least_38)) = false, (decide (y_137 > (1114111 : Int))) = false, (decide (y_137 ≥ (55296 : Int))) = true] (by kernel_rfl) rfl rfl (ap2 b_56 (ap2 b_58 (ap1 b_60))) (by kernel_rfl) (by kernel_rfl) ?_
                        have H_160 := Option.some.inj (show some (decide (y_137 < (57344 : Int))) = some q_148 from H_158); subst H_160
                        refine VL_nil ?_
                        exact QP_end (decide (y_137 < (57344 : Int))) rfl [] hn (by kernel_rfl) (by kernel_rfl) rfl rfl rfl
                      · have H_159 := of_f H_156 b_60
                        refine V_reg hN hn [] [(81, false), (85, false), (88, false)] calls_nil 0 [6, 92] [] ⟨[(6, .c (.val (.int .i64 n_36))), (92, .c (.val (.bool false)))], [], 0⟩ [(decide (y_137 < least_38)) = false, (decide (y_137 > (1114111 : Int))) = false, (decide (y_137 ≥ (55296 : Int))) = false] (by kernel_rfl) rfl rfl (ap2 b_56 (ap2 b_58 (ap1 b_60))) (by kernel_rfl) (by kernel_rfl) ?_
                        have H_161 := Option.some.inj (show some false = some q_148 from H_159); subst H_161
                        refine VL_nil ?_
                        exact QP_end false rfl [] hn (by kernel_rfl) (by kernel_rfl) rfl rfl rfl
                · intro y_151 hy; subst hy
                  skip
                  skip
                  refine VL_cond (y_151) (by kernel_rfl) ?_ ?_
                  · intro b_64; have H_162 := of_t H_150 b_64
                    refine V_run hN hn 2 0 [4] [] ⟨[(4, .c (.val (.int .i64 (0 : Int))))], [], 0⟩ [] (by kernel_rfl) rfl rfl ap0 ?_
                    have H_164 := Option.some.inj (show some (0 : Int) = some r from H_162); subst H_164
                    refine VL_ret ?_
                    exact P_to [(4, .c (.val (.int .i64 (0 : Int))))] [] [] hn (by kernel_rfl) (by kernel_rfl) rfl rfl rfl (QF_retS (by kernel_rfl) (by kernel_rfl) rfl)
                  · intro b_64; have H_163 := of_f H_150 b_64
                    refine V_run hN hn 3 0 [4] [] ⟨[(4, .c (.val (.int .i64 n_36)))], [], 0⟩ [] (by kernel_rfl) rfl rfl ap0 ?_
                    have H_165 := Option.some.inj (show some n_36 = some r from H_163); subst H_165
                    refine VL_ret ?_
                    exact P_to [(4, .c (.val (.int .i64 n_36)))] [] [] hn (by kernel_rfl) (by kernel_rfl) rfl rfl rfl (QF_retS (by kernel_rfl) (by kernel_rfl) rfl)

theorem palinoderef1_Valid_spec (K : Nat) (s_1 : ByteArray) (r : Bool) (H : palinoderef1_Valid K s_1 = some r) : Spec Try.prog 25 0 [.c (.val (.string s_1))] [] (.c (.val (.bool r))) [] := by
  refine Spec_mk (fn := Try.f25) (c := (Try.f25.body).get!) Try.func25 (by kernel_rfl) rfl ?_
  intro C hN hn
  replace hN : C.N = 17 := hN
  unfold palinoderef1_Valid at H
  refine V_run hN hn 5 0 [0, 3] [] ⟨[(0, .c (.val (.string s_1))), (3, .c (.val (.int .i64 (0 : Int))))], [], 0⟩ [] (by kernel_rfl) rfl rfl ap0 ?_
  refine VL_block ?_
  refine V_to [(0, .c (.val (.string s_1))), (3, .c (.val (.int .i64 (0 : Int))))] [] [] hn (by kernel_rfl) (by kernel_rfl) rfl rfl rfl ?_
  refine VL_loop (X := Int) (fun x => [(0, .c (.val (.string s_1))), (3, .c (.val (.int .i64 x)))]) (fun x => []) (fun k x => palinoderef1_Valid.l0 K s_1 k x = some r) K (0 : Int) H (fun _ h => no_none h) ?_
  intro k_4 at_3 H_18
  have H_19 : palinoderef1_Valid.l0 K s_1 (k_4 + 1) at_3 = some r := H_18
  rw [palinoderef1_Valid.l0] at H_19
  refine V_run hN hn 3 0 [0, 3, 8] [] ⟨[(0, .c (.val (.string s_1))), (3, .c (.val (.int .i64 at_3))), (8, .c (.val (.bool (decide (at_3 < (((ByteArray.size s_1) : Nat) : Int))))))], [], 0⟩ [] (by kernel_rfl) rfl rfl ap0 ?_
  refine VL_cond ((decide (at_3 < (((ByteArray.size s_1) : Nat) : Int)))) (by kernel_rfl) ?_ ?_
  · intro b_6; have H_20 := of_t H_19 b_6
    refine V_run hN hn 1 0 [0, 3, 8] [] ⟨[(0, .c (.val (.string s_1))), (3, .c (.val (.int .i64 at_3))), (8, .c (.val (.bool (decide (at_3 < (((ByteArray.size s_1) : Nat) : Int))))))], [], 0⟩ [] (by kernel_rfl) rfl rfl ap0 ?_
    refine VL_block ?_
    refine V_run hN hn 1 0 [0, 3, 8] [] ⟨[(0, .c (.val (.string s_1))), (3, .c (.val (.int .i64 at_3))), (8, .c (.val (.bool (decide (at_3 < (((ByteArray.size s_1) : Nat) : Int))))))], [], 0⟩ [] (by kernel_rfl) rfl rfl ap0 ?_
    obtain ⟨r_9, h_10, H_22⟩ := of_bind H_20
    refine V_reg hN hn [(2, ⟨38, 0, [.c (.val (.string s_1)), .c (.val (.int .i64 at_3))], [], .c (.val (.int .i64 r_9)), [], [], 0⟩)] [] (calls_cons (palinoderef1_Size_spec K s_1 at_3 r_9 h_10) (by kernel_rfl) calls_nil) 0 [0, 3, 4] [] ⟨[(0, .c (.val (.string s_1))), (3, .c (.val (.int .i64 at_3))), (4, .c (.val (.int .i64 r_9)))], [], 0⟩ [] (by kernel_rfl) rfl rfl ap0 (by kernel_rfl) (by kernel_rfl) ?_
    refine V_run hN hn 3 0 [0, 3, 4, 13] [] ⟨[(0, .c (.val (.string s_1))), (3, .c (.val (.int .i64 at_3))), (4, .c (.val (.int .i64 r_9))), (13, .c (.val (.bool (r_9 == (0 : Int)))))], [], 0⟩ [] (by kernel_rfl) rfl rfl ap0 ?_
    refine VL_cond ((r_9 == (0 : Int))) (by kernel_rfl) ?_ ?_
    · intro b_13; have H_23 := of_t H_22 b_13
      refine V_run hN hn 2 0 [2] [] ⟨[(2, .c (.val (.bool false)))], [], 0⟩ [] (by kernel_rfl) rfl rfl ap0 ?_
      have H_25 := Option.some.inj (show some false = some r from H_23); subst H_25
      refine VL_ret ?_
      refine QB_ret ?_
      refine QL_ret ?_
      refine QB_ret ?_
      exact P_to [(2, .c (.val (.bool false)))] [] [] hn (by kernel_rfl) (by kernel_rfl) rfl rfl rfl (QF_retS (by kernel_rfl) (by kernel_rfl) rfl)
    · intro b_13; have H_24 := of_f H_22 b_13
      refine V_run hN hn 2 0 [0, 3] [] ⟨[(0, .c (.val (.string s_1))), (3, .c (.val (.int .i64 (IntKind.wrap .i64 (at_3 + r_9)))))], [], 0⟩ [] (by kernel_rfl) rfl rfl ap0 ?_
      refine VL_nil (QB_end ?_)
      refine VL_nil ?_
      exact V_roundEnd (IntKind.wrap .i64 (at_3 + r_9)) H_24 [] hn (by kernel_rfl) (by kernel_rfl) rfl rfl rfl
  · intro b_6; have H_21 := of_f H_19 b_6
    refine VL_exit ?_
    refine QL_exit ?_
    refine QB_here ?_
    refine V_run hN hn 2 0 [2] [] ⟨[(2, .c (.val (.bool true)))], [], 0⟩ [] (by kernel_rfl) rfl rfl ap0 ?_
    have H_26 := Option.some.inj (show some true = some r from H_21); subst H_26
    refine VL_ret ?_
    exact P_to [(2, .c (.val (.bool true)))] [] [] hn (by kernel_rfl) (by kernel_rfl) rfl rfl rfl (QF_retS (by kernel_rfl) (by kernel_rfl) rfl)

theorem palinoderef11_Is_spec (K : Nat) (d_1 : Int) (d_2 : (List (Int × (Int × ByteArray)))) (r : Bool) (H : palinoderef11_Is K d_1 d_2 = some r) : Spec Try.prog 11 0 [.agg [.val (.int .i64 d_1), .imm (.slice (.pair (.int .i64) (.pair (.int .i64) .str))) d_2]] [] (.c (.val (.bool r))) [] := by
  refine Spec_mk (fn := Try.f11) (c := (Try.f11.body).get!) Try.func11 (by kernel_rfl) rfl ?_
  intro C hN hn
  replace hN : C.N = 122 := hN
  unfold palinoderef11_Is at H
  refine V_run hN hn 4 0 [1] [0] ⟨[(1, .c (.h 0))], [(0, .box [.val (.int .i64 d_1), .imm (.slice (.pair (.int .i64) (.pair (.int .i64) .str))) d_2])], 1⟩ [] (by kernel_rfl) rfl rfl ap0 ?_
  obtain ⟨q_80, H_81, H_82⟩ := of_bind H
  refine V_cut (Y := Bool) (R := Bool) q_80 (fun y => y) (fun y => [(1, .c (.h 0)), (21, .c (.val (.bool y)))]) (fun y => [(0, .box [.val (.int .i64 d_1), .imm (.slice (.pair (.int .i64) (.pair (.int .i64) .str))) d_2])]) ?_ ?_
  · skip
    rcases Bool.eq_false_or_eq_true ((decide (d_1 < (0 : Int)))) with b_4 | b_4
    · have H_84 := of_t H_81 b_4
      refine V_reg hN hn [] [(11, true)] calls_nil 1 [1, 21] [0] ⟨[(1, .c (.h 0)), (21, .c (.val (.bool true)))], [(0, .box [.val (.int .i64 d_1), .imm (.slice (.pair (.int .i64) (.pair (.int .i64) .str))) d_2])], 1⟩ [(decide (d_1 < (0 : Int))) = true] (by kernel_rfl) rfl rfl (ap1 b_4) (by kernel_rfl) (by kernel_rfl) ?_
      have H_86 := Option.some.inj (show some true = some q_80 from H_84); subst H_86
      refine VL_nil ?_
      exact QP_end true rfl [(0, 0)] hn (by kernel_rfl) (by kernel_rfl) rfl rfl rfl
    · have H_85 := of_f H_81 b_4
      rcases Bool.eq_false_or_eq_true ((decide (d_1 > (20000 : Int)))) with b_6 | b_6
      · have H_87 := of_t H_85 b_6
        refine V_reg hN hn [] [(11, false), (16, true)] calls_nil 1 [1, 21] [0] ⟨[(1, .c (.h 0)), (21, .c (.val (.bool true)))], [(0, .box [.val (.int .i64 d_1), .imm (.slice (.pair (.int .i64) (.pair (.int .i64) .str))) d_2])], 1⟩ [(decide (d_1 < (0 : Int))) = false, (decide (d_1 > (20000 : Int))) = true] (by kernel_rfl) rfl rfl (ap2 b_4 (ap1 b_6)) (by kernel_rfl) (by kernel_rfl) ?_
        have H_89 := Option.some.inj (show some true = some q_80 from H_87); subst H_89
        refine VL_nil ?_
        exact QP_end true rfl [(0, 0)] hn (by kernel_rfl) (by kernel_rfl) rfl rfl rfl
      · have H_88 := of_f H_85 b_6
        refine V_reg hN hn [] [(11, false), (16, false)] calls_nil 1 [1, 21] [0] ⟨[(1, .c (.h 0)), (21, .c (.val (.bool (decide ((((List.length d_2) : Nat) : Int) > (60 : Int))))))], [(0, .box [.val (.int .i64 d_1), .imm (.slice (.pair (.int .i64) (.pair (.int .i64) .str))) d_2])], 1⟩ [(decide (d_1 < (0 : Int))) = false, (decide (d_1 > (20000 : Int))) = false] (by kernel_rfl) rfl rfl (ap2 b_4 (ap1 b_6)) (by kernel_rfl) (by kernel_rfl) ?_
        have H_90 := Option.some.inj (show some (decide ((((List.length d_2) : Nat) : Int) > (60 : Int))) = some q_80 from H_88); subst H_90
        refine VL_nil ?_
        exact QP_end (decide ((((List.length d_2) : Nat) : Int) > (60 : Int))) rfl [(0, 0)] hn (by kernel_rfl) (by kernel_rfl) rfl rfl rfl
  · intro y_83 hy; subst hy
    skip
    skip
    refine VL_cond (y_83) (by kernel_rfl) ?_ ?_
    · intro b_10; have H_91 := of_t H_82 b_10
      refine V_run hN hn 2 1 [2] [] ⟨[(2, .c (.val (.bool false)))], [], 1⟩ [] (by kernel_rfl) rfl rfl ap0 ?_
      have H_93 := Option.some.inj (show some false = some r from H_91); subst H_93
      refine VL_ret ?_
      exact P_to [(2, .c (.val (.bool false)))] [] [] hn (by kernel_rfl) (by kernel_rfl) rfl rfl rfl (QF_retS (by kernel_rfl) (by kernel_rfl) rfl)
    · intro b_10; have H_92 := of_f H_82 b_10
      refine V_run hN hn 6 1 [1, 3, 4, 5, 6] [0] ⟨[(1, .c (.h 0)), (3, .c (.val (.int .i64 (0 : Int)))), (4, .c (.val (.bool true))), (5, .c (.val (.int .i64 (0 : Int)))), (6, .c (.val (.int .i64 (0 : Int))))], [(0, .box [.val (.int .i64 d_1), .imm (.slice (.pair (.int .i64) (.pair (.int .i64) .str))) d_2])], 1⟩ [] (by kernel_rfl) rfl rfl ap0 ?_
      refine VL_block ?_
      refine V_to [(1, .c (.h 0)), (3, .c (.val (.int .i64 (0 : Int)))), (4, .c (.val (.bool true))), (5, .c (.val (.int .i64 (0 : Int)))), (6, .c (.val (.int .i64 (0 : Int))))] [(0, .box [.val (.int .i64 d_1), .imm (.slice (.pair (.int .i64) (.pair (.int .i64) .str))) d_2])] [(0, 0)] hn (by kernel_rfl) (by kernel_rfl) rfl rfl rfl ?_
      refine VL_loop (X := (Int × Bool × Int × Int)) (fun x => [(1, .c (.h 0)), (3, .c (.val (.int .i64 x.1))), (4, .c (.val (.bool x.2.1))), (5, .c (.val (.int .i64 x.2.2.1))), (6, .c (.val (.int .i64 x.2.2.2)))]) (fun x => [(0, .box [.val (.int .i64 d_1), .imm (.slice (.pair (.int .i64) (.pair (.int .i64) .str))) d_2])]) (fun k x => palinoderef11_Is.l0 K d_2 d_1 k x.1 x.2.1 x.2.2.1 x.2.2.2 = some r) K ((0 : Int), true, (0 : Int), (0 : Int)) H_92 (fun _ h => no_none h) ?_
      intro k_17 x_17 H_94
      obtain ⟨last_13, text_14, size_15, i_16⟩ := x_17
      have H_95 : palinoderef11_Is.l0 K d_2 d_1 (k_17 + 1) last_13 text_14 size_15 i_16 = some r := H_94
      rw [palinoderef11_Is.l0] at H_95
      refine V_run hN hn 3 1 [1, 3, 4, 5, 6, 26] [0] ⟨[(1, .c (.h 0)), (3, .c (.val (.int .i64 last_13))), (4, .c (.val (.bool text_14))), (5, .c (.val (.int .i64 size_15))), (6, .c (.val (.int .i64 i_16))), (26, .c (.val (.bool (decide (i_16 < (((List.length d_2) : Nat) : Int))))))], [(0, .box [.val (.int .i64 d_1), .imm (.slice (.pair (.int .i64) (.pair (.int .i64) .str))) d_2])], 1⟩ [] (by kernel_rfl) rfl rfl ap0 ?_
      refine VL_cond ((decide (i_16 < (((List.length d_2) : Nat) : Int)))) (by kernel_rfl) ?_ ?_
      · intro b_19; have H_96 := of_t H_95 b_19
        refine V_run hN hn 2 1 [1, 3, 4, 5, 6, 26] [0] ⟨[(1, .c (.h 0)), (3, .c (.val (.int .i64 last_13))), (4, .c (.val (.bool text_14))), (5, .c (.val (.int .i64 size_15))), (6, .c (.val (.int .i64 i_16))), (26, .c (.val (.bool (decide (i_16 < (((List.length d_2) : Nat) : Int))))))], [(0, .box [.val (.int .i64 d_1), .imm (.slice (.pair (.int .i64) (.pair (.int .i64) .str))) d_2])], 1⟩ [] (by kernel_rfl) rfl rfl ap0 ?_
        refine VL_block ?_
        obtain ⟨c_21, H_98⟩ := of_if H_96
        refine V_run hN hn 5 1 [1, 3, 4, 5, 6, 7, 36] [0, 1] ⟨[(1, .c (.h 0)), (3, .c (.val (.int .i64 last_13))), (4, .c (.val (.bool text_14))), (5, .c (.val (.int .i64 size_15))), (6, .c (.val (.int .i64 i_16))), (7, .c (.h 1)), (36, .c (.val (.bool (!(ByteArray.toList (List.getD d_2 (Int.toNat i_16) ((0 : Int), ((0 : Int), ByteArray.empty))).2.2 == ByteArray.toList (ByteArray.mk #[]))))))], [(0, .box [.val (.int .i64 d_1), .imm (.slice (.pair (.int .i64) (.pair (.int .i64) .str))) d_2]), (1, .box [.val (.int .i64 (List.getD d_2 (Int.toNat i_16) ((0 : Int), ((0 : Int), ByteArray.empty))).1), .val (.int .i64 (List.getD d_2 (Int.toNat i_16) ((0 : Int), ((0 : Int), ByteArray.empty))).2.1), .val (.string (List.getD d_2 (Int.toNat i_16) ((0 : Int), ((0 : Int), ByteArray.empty))).2.2)])], 2⟩ [0 ≤ i_16, i_16 < (((List.length d_2) : Nat) : Int)] (by kernel_rfl) rfl rfl (ap2 c_21.1 (ap1 c_21.2)) ?_
        refine VL_cond ((!(ByteArray.toList (List.getD d_2 (Int.toNat i_16) ((0 : Int), ((0 : Int), ByteArray.empty))).2.2 == ByteArray.toList (ByteArray.mk #[])))) (by kernel_rfl) ?_ ?_
        · intro b_22; have H_99 := of_t H_98 b_22
          refine V_run hN hn 2 2 [1, 3, 4, 5, 6, 7, 36] [0, 1] ⟨[(1, .c (.h 0)), (3, .c (.val (.int .i64 last_13))), (4, .c (.val (.bool text_14))), (5, .c (.val (.int .i64 size_15))), (6, .c (.val (.int .i64 i_16))), (7, .c (.h 1)), (36, .c (.val (.bool (!(ByteArray.toList (List.getD d_2 (Int.toNat i_16) ((0 : Int), ((0 : Int), ByteArray.empty))).2.2 == ByteArray.toList (ByteArray.mk #[]))))))], [(0, .box [.val (.int .i64 d_1), .imm (.slice (.pair (.int .i64) (.pair (.int .i64) .str))) d_2]), (1, .box [.val (.int .i64 (List.getD d_2 (Int.toNat i_16) ((0 : Int), ((0 : Int), ByteArray.empty))).1), .val (.int .i64 (List.getD d_2 (Int.toNat i_16) ((0 : Int), ((0 : Int), ByteArray.empty))).2.1), .val (.string (List.getD d_2 (Int.toNat i_16) ((0 : Int), ((0 : Int), ByteArray.empty))).2.2)])], 2⟩ [] (by kernel_rfl) rfl rfl ap0 ?_
          obtain ⟨q_101, H_102, H_103⟩ := of_bind H_99
          refine V_cut (Y := Bool) (R := Bool) q_101 (fun y => y) (fun y => [(1, .c (.h 0)), (3, .c (.val (.int .i64 last_13))), (5, .c (.val (.int .i64 size_15))), (6, .c (.val (.int .i64 i_16))), (7, .c (.h 1)), (65, .c (.val (.bool y)))]) (fun y => [(0, .box [.val (.int .i64 d_1), .imm (.slice (.pair (.int .i64) (.pair (.int .i64) .str))) d_2]), (1, .box [.val (.int .i64 (List.getD d_2 (Int.toNat i_16) ((0 : Int), ((0 : Int), ByteArray.empty))).1), .val (.int .i64 (List.getD d_2 (Int.toNat i_16) ((0 : Int), ((0 : Int), ByteArray.empty))).2.1), .val (.string (List.getD d_2 (Int.toNat i_16) ((0 : Int), ((0 : Int), ByteArray.empty))).2.2)])]) ?_ ?_
          · skip
            rcases Bool.eq_false_or_eq_true (((List.getD d_2 (Int.toNat i_16) ((0 : Int), ((0 : Int), ByteArray.empty))).1 != (0 : Int))) with b_24 | b_24
            · have H_105 := of_t H_102 b_24
              refine V_reg hN hn [] [(40, true)] calls_nil 2 [1, 3, 5, 6, 7, 65] [0, 1] ⟨[(1, .c (.h 0)), (3, .c (.val (.int .i64 last_13))), (5, .c (.val (.int .i64 size_15))), (6, .c (.val (.int .i64 i_16))), (7, .c (.h 1)), (65, .c (.val (.bool true)))], [(0, .box [.val (.int .i64 d_1), .imm (.slice (.pair (.int .i64) (.pair (.int .i64) .str))) d_2]), (1, .box [.val (.int .i64 (List.getD d_2 (Int.toNat i_16) ((0 : Int), ((0 : Int), ByteArray.empty))).1), .val (.int .i64 (List.getD d_2 (Int.toNat i_16) ((0 : Int), ((0 : Int), ByteArray.empty))).2.1), .val (.string (List.getD d_2 (Int.toNat i_16) ((0 : Int), ((0 : Int), ByteArray.empty))).2.2)])], 2⟩ [((List.getD d_2 (Int.toNat i_16) ((0 : Int), ((0 : Int), ByteArray.empty))).1 != (0 : Int)) = true] (by kernel_rfl) rfl rfl (ap1 b_24) (by kernel_rfl) (by kernel_rfl) ?_
              have H_107 := Option.some.inj (show some true = some q_101 from H_105); subst H_107
              refine VL_nil ?_
              exact QP_end true rfl [(0, 0), (1, 1)] hn (by kernel_rfl) (by kernel_rfl) rfl rfl rfl
            · have H_106 := of_f H_102 b_24
              rcases Bool.eq_false_or_eq_true (((List.getD d_2 (Int.toNat i_16) ((0 : Int), ((0 : Int), ByteArray.empty))).2.1 != (0 : Int))) with b_26 | b_26
              · have H_108 := of_t H_106 b_26
                refine V_reg hN hn [] [(40, false), (45, true)] calls_nil 2 [1, 3, 5, 6, 7, 65] [0, 1] ⟨[(1, .c (.h 0)), (3, .c (.val (.int .i64 last_13))), (5, .c (.val (.int .i64 size_15))), (6, .c (.val (.int .i64 i_16))), (7, .c (.h 1)), (65, .c (.val (.bool true)))], [(0, .box [.val (.int .i64 d_1), .imm (.slice (.pair (.int .i64) (.pair (.int .i64) .str))) d_2]), (1, .box [.val (.int .i64 (List.getD d_2 (Int.toNat i_16) ((0 : Int), ((0 : Int), ByteArray.empty))).1), .val (.int .i64 (List.getD d_2 (Int.toNat i_16) ((0 : Int), ((0 : Int), ByteArray.empty))).2.1), .val (.string (List.getD d_2 (Int.toNat i_16) ((0 : Int), ((0 : Int), ByteArray.empty))).2.2)])], 2⟩ [((List.getD d_2 (Int.toNat i_16) ((0 : Int), ((0 : Int), ByteArray.empty))).1 != (0 : Int)) = false, ((List.getD d_2 (Int.toNat i_16) ((0 : Int), ((0 : Int), ByteArray.empty))).2.1 != (0 : Int)) = true] (by kernel_rfl) rfl rfl (ap2 b_24 (ap1 b_26)) (by kernel_rfl) (by kernel_rfl) ?_
                have H_110 := Option.some.inj (show some true = some q_101 from H_108); subst H_110
                refine VL_nil ?_
                exact QP_end true rfl [(0, 0), (1, 1)] hn (by kernel_rfl) (by kernel_rfl) rfl rfl rfl
              · have H_109 := of_f H_106 b_26
                rcases Bool.eq_false_or_eq_true ((decide (i_16 > (0 : Int)))) with b_28 | b_28
                · have H_111 := of_t H_109 b_28
                  rcases Bool.eq_false_or_eq_true (text_14) with b_29 | b_29
                  · have H_113 := of_t H_111 b_29
                    refine V_reg hN hn [] [(40, false), (45, false), (48, true), (52, true)] calls_nil 2 [1, 3, 5, 6, 7, 65] [0, 1] ⟨[(1, .c (.h 0)), (3, .c (.val (.int .i64 last_13))), (5, .c (.val (.int .i64 size_15))), (6, .c (.val (.int .i64 i_16))), (7, .c (.h 1)), (65, .c (.val (.bool true)))], [(0, .box [.val (.int .i64 d_1), .imm (.slice (.pair (.int .i64) (.pair (.int .i64) .str))) d_2]), (1, .box [.val (.int .i64 (List.getD d_2 (Int.toNat i_16) ((0 : Int), ((0 : Int), ByteArray.empty))).1), .val (.int .i64 (List.getD d_2 (Int.toNat i_16) ((0 : Int), ((0 : Int), ByteArray.empty))).2.1), .val (.string (List.getD d_2 (Int.toNat i_16) ((0 : Int), ((0 : Int), ByteArray.empty))).2.2)])], 2⟩ [((List.getD d_2 (Int.toNat i_16) ((0 : Int), ((0 : Int), ByteArray.empty))).1 != (0 : Int)) = false, ((List.getD d_2 (Int.toNat i_16) ((0 : Int), ((0 : Int), ByteArray.empty))).2.1 != (0 : Int)) = false, (decide (i_16 > (0 : Int))) = true, text_14 = true] (by kernel_rfl) rfl rfl (ap2 b_24 (ap2 b_26 (ap2 b_28 (ap1 b_29)))) (by kernel_rfl) (by kernel_rfl) ?_
                    have H_115 := Option.some.inj (show some true = some q_101 from H_113); subst H_115
                    refine VL_nil ?_
                    exact QP_end true rfl [(0, 0), (1, 1)] hn (by kernel_rfl) (by kernel_rfl) rfl rfl rfl
                  · have H_114 := of_f H_111 b_29
                    rcases Bool.eq_false_or_eq_true ((decide ((((ByteArray.size (List.getD d_2 (Int.toNat i_16) ((0 : Int), ((0 : Int), ByteArray.empty))).2.2) : Nat) : Int) > (IntKind.wrap .i64 ((20000 : Int) - size_15))))) with b_31 | b_31
                    · have H_116 := of_t H_114 b_31
                      refine V_reg hN hn [] [(40, false), (45, false), (48, true), (52, false), (60, true)] calls_nil 2 [1, 3, 5, 6, 7, 65] [0, 1] ⟨[(1, .c (.h 0)), (3, .c (.val (.int .i64 last_13))), (5, .c (.val (.int .i64 size_15))), (6, .c (.val (.int .i64 i_16))), (7, .c (.h 1)), (65, .c (.val (.bool true)))], [(0, .box [.val (.int .i64 d_1), .imm (.slice (.pair (.int .i64) (.pair (.int .i64) .str))) d_2]), (1, .box [.val (.int .i64 (List.getD d_2 (Int.toNat i_16) ((0 : Int), ((0 : Int), ByteArray.empty))).1), .val (.int .i64 (List.getD d_2 (Int.toNat i_16) ((0 : Int), ((0 : Int), ByteArray.empty))).2.1), .val (.string (List.getD d_2 (Int.toNat i_16) ((0 : Int), ((0 : Int), ByteArray.empty))).2.2)])], 2⟩ [((List.getD d_2 (Int.toNat i_16) ((0 : Int), ((0 : Int), ByteArray.empty))).1 != (0 : Int)) = false, ((List.getD d_2 (Int.toNat i_16) ((0 : Int), ((0 : Int), ByteArray.empty))).2.1 != (0 : Int)) = false, (decide (i_16 > (0 : Int))) = true, text_14 = false, (decide ((((ByteArray.size (List.getD d_2 (Int.toNat i_16) ((0 : Int), ((0 : Int), ByteArray.empty))).2.2) : Nat) : Int) > (IntKind.wrap .i64 ((20000 : Int) - size_15)))) = true] (by kernel_rfl) rfl rfl (ap2 b_24 (ap2 b_26 (ap2 b_28 (ap2 b_29 (ap1 b_31))))) (by kernel_rfl) (by kernel_rfl) ?_
                      have H_118 := Option.some.inj (show some true = some q_101 from H_116); subst H_118
                      refine VL_nil ?_
                      exact QP_end true rfl [(0, 0), (1, 1)] hn (by kernel_rfl) (by kernel_rfl) rfl rfl rfl
                    · have H_117 := of_f H_114 b_31
                      obtain ⟨r_33, h_34, H_119⟩ := of_bind H_117
                      refine V_reg hN hn [(26, ⟨25, 0, [.c (.val (.string (List.getD d_2 (Int.toNat i_16) ((0 : Int), ((0 : Int), ByteArray.empty))).2.2))], [], .c (.val (.bool r_33)), [], [], 2⟩)] [(40, false), (45, false), (48, true), (52, false), (60, false)] (calls_cons (palinoderef1_Valid_spec K (List.getD d_2 (Int.toNat i_16) ((0 : Int), ((0 : Int), ByteArray.empty))).2.2 r_33 h_34) (by kernel_rfl) calls_nil) 2 [1, 3, 5, 6, 7, 65] [0, 1] ⟨[(1, .c (.h 0)), (3, .c (.val (.int .i64 last_13))), (5, .c (.val (.int .i64 size_15))), (6, .c (.val (.int .i64 i_16))), (7, .c (.h 1)), (65, .c (.val (.bool (!r_33))))], [(0, .box [.val (.int .i64 d_1), .imm (.slice (.pair (.int .i64) (.pair (.int .i64) .str))) d_2]), (1, .box [.val (.int .i64 (List.getD d_2 (Int.toNat i_16) ((0 : Int), ((0 : Int), ByteArray.empty))).1), .val (.int .i64 (List.getD d_2 (Int.toNat i_16) ((0 : Int), ((0 : Int), ByteArray.empty))).2.1), .val (.string (List.getD d_2 (Int.toNat i_16) ((0 : Int), ((0 : Int), ByteArray.empty))).2.2)])], 2⟩ [((List.getD d_2 (Int.toNat i_16) ((0 : Int), ((0 : Int), ByteArray.empty))).1 != (0 : Int)) = false, ((List.getD d_2 (Int.toNat i_16) ((0 : Int), ((0 : Int), ByteArray.empty))).2.1 != (0 : Int)) = false, (decide (i_16 > (0 : Int))) = true, text_14 = false, (decide ((((ByteArray.size (List.getD d_2 (Int.toNat i_16) ((0 : Int), ((0 : Int), ByteArray.empty))).2.2) : Nat) : Int) > (IntKind.wrap .i64 ((20000 : Int) - size_15)))) = false] (by kernel_rfl) rfl rfl (ap2 b_24 (ap2 b_26 (ap2 b_28 (ap2 b_29 (ap1 b_31))))) (by kernel_rfl) (by kernel_rfl) ?_
                      have H_120 := Option.some.inj (show some (!r_33) = some q_101 from H_119); subst H_120
                      refine VL_nil ?_
                      exact QP_end (!r_33) rfl [(0, 0), (1, 1)] hn (by kernel_rfl) (by kernel_rfl) rfl rfl rfl
                · have H_112 := of_f H_109 b_28
                  rcases Bool.eq_false_or_eq_true ((decide ((((ByteArray.size (List.getD d_2 (Int.toNat i_16) ((0 : Int), ((0 : Int), ByteArray.empty))).2.2) : Nat) : Int) > (IntKind.wrap .i64 ((20000 : Int) - size_15))))) with b_36 | b_36
                  · have H_121 := of_t H_112 b_36
                    refine V_reg hN hn [] [(40, false), (45, false), (48, false), (60, true)] calls_nil 2 [1, 3, 5, 6, 7, 65] [0, 1] ⟨[(1, .c (.h 0)), (3, .c (.val (.int .i64 last_13))), (5, .c (.val (.int .i64 size_15))), (6, .c (.val (.int .i64 i_16))), (7, .c (.h 1)), (65, .c (.val (.bool true)))], [(0, .box [.val (.int .i64 d_1), .imm (.slice (.pair (.int .i64) (.pair (.int .i64) .str))) d_2]), (1, .box [.val (.int .i64 (List.getD d_2 (Int.toNat i_16) ((0 : Int), ((0 : Int), ByteArray.empty))).1), .val (.int .i64 (List.getD d_2 (Int.toNat i_16) ((0 : Int), ((0 : Int), ByteArray.empty))).2.1), .val (.string (List.getD d_2 (Int.toNat i_16) ((0 : Int), ((0 : Int), ByteArray.empty))).2.2)])], 2⟩ [((List.getD d_2 (Int.toNat i_16) ((0 : Int), ((0 : Int), ByteArray.empty))).1 != (0 : Int)) = false, ((List.getD d_2 (Int.toNat i_16) ((0 : Int), ((0 : Int), ByteArray.empty))).2.1 != (0 : Int)) = false, (decide (i_16 > (0 : Int))) = false, (decide ((((ByteArray.size (List.getD d_2 (Int.toNat i_16) ((0 : Int), ((0 : Int), ByteArray.empty))).2.2) : Nat) : Int) > (IntKind.wrap .i64 ((20000 : Int) - size_15)))) = true] (by kernel_rfl) rfl rfl (ap2 b_24 (ap2 b_26 (ap2 b_28 (ap1 b_36)))) (by kernel_rfl) (by kernel_rfl) ?_
                    have H_123 := Option.some.inj (show some true = some q_101 from H_121); subst H_123
                    refine VL_nil ?_
                    exact QP_end true rfl [(0, 0), (1, 1)] hn (by kernel_rfl) (by kernel_rfl) rfl rfl rfl
                  · have H_122 := of_f H_112 b_36
                    obtain ⟨r_38, h_39, H_124⟩ := of_bind H_122
                    refine V_reg hN hn [(26, ⟨25, 0, [.c (.val (.string (List.getD d_2 (Int.toNat i_16) ((0 : Int), ((0 : Int), ByteArray.empty))).2.2))], [], .c (.val (.bool r_38)), [], [], 2⟩)] [(40, false), (45, false), (48, false), (60, false)] (calls_cons (palinoderef1_Valid_spec K (List.getD d_2 (Int.toNat i_16) ((0 : Int), ((0 : Int), ByteArray.empty))).2.2 r_38 h_39) (by kernel_rfl) calls_nil) 2 [1, 3, 5, 6, 7, 65] [0, 1] ⟨[(1, .c (.h 0)), (3, .c (.val (.int .i64 last_13))), (5, .c (.val (.int .i64 size_15))), (6, .c (.val (.int .i64 i_16))), (7, .c (.h 1)), (65, .c (.val (.bool (!r_38))))], [(0, .box [.val (.int .i64 d_1), .imm (.slice (.pair (.int .i64) (.pair (.int .i64) .str))) d_2]), (1, .box [.val (.int .i64 (List.getD d_2 (Int.toNat i_16) ((0 : Int), ((0 : Int), ByteArray.empty))).1), .val (.int .i64 (List.getD d_2 (Int.toNat i_16) ((0 : Int), ((0 : Int), ByteArray.empty))).2.1), .val (.string (List.getD d_2 (Int.toNat i_16) ((0 : Int), ((0 : Int), ByteArray.empty))).2.2)])], 2⟩ [((List.getD d_2 (Int.toNat i_16) ((0 : Int), ((0 : Int), ByteArray.empty))).1 != (0 : Int)) = false, ((List.getD d_2 (Int.toNat i_16) ((0 : Int), ((0 : Int), ByteArray.empty))).2.1 != (0 : Int)) = false, (decide (i_16 > (0 : Int))) = false, (decide ((((ByteArray.size (List.getD d_2 (Int.toNat i_16) ((0 : Int), ((0 : Int), ByteArray.empty))).2.2) : Nat) : Int) > (IntKind.wrap .i64 ((20000 : Int) - size_15)))) = false] (by kernel_rfl) rfl rfl (ap2 b_24 (ap2 b_26 (ap2 b_28 (ap1 b_36)))) (by kernel_rfl) (by kernel_rfl) ?_
                    have H_125 := Option.some.inj (show some (!r_38) = some q_101 from H_124); subst H_125
                    refine VL_nil ?_
                    exact QP_end (!r_38) rfl [(0, 0), (1, 1)] hn (by kernel_rfl) (by kernel_rfl) rfl rfl rfl
          · intro y_104 hy; subst hy
            skip
            skip
            refine VL_cond (y_104) (by kernel_rfl) ?_ ?_
            · intro b_42; have H_126 := of_t H_103 b_42
              refine V_run hN hn 2 2 [2] [] ⟨[(2, .c (.val (.bool false)))], [], 2⟩ [] (by kernel_rfl) rfl rfl ap0 ?_
              have H_128 := Option.some.inj (show some false = some r from H_126); subst H_128
              refine VL_ret ?_
              refine QB_ret ?_
              refine QL_ret ?_
              refine QB_ret ?_
              exact P_to [(2, .c (.val (.bool false)))] [] [] hn (by kernel_rfl) (by kernel_rfl) rfl rfl rfl (QF_retS (by kernel_rfl) (by kernel_rfl) rfl)
            · intro b_42; have H_127 := of_f H_103 b_42
              refine V_run hN hn 5 2 [1, 3, 4, 5, 6] [0] ⟨[(1, .c (.h 0)), (3, .c (.val (.int .i64 last_13))), (4, .c (.val (.bool true))), (5, .c (.val (.int .i64 (IntKind.wrap .i64 (size_15 + (((ByteArray.size (List.getD d_2 (Int.toNat i_16) ((0 : Int), ((0 : Int), ByteArray.empty))).2.2) : Nat) : Int)))))), (6, .c (.val (.int .i64 i_16)))], [(0, .box [.val (.int .i64 d_1), .imm (.slice (.pair (.int .i64) (.pair (.int .i64) .str))) d_2])], 2⟩ [] (by kernel_rfl) rfl rfl ap0 ?_
              refine VL_exit ?_
              refine QB_here ?_
              refine V_run hN hn 1 2 [1, 3, 4, 5, 6] [0] ⟨[(1, .c (.h 0)), (3, .c (.val (.int .i64 last_13))), (4, .c (.val (.bool true))), (5, .c (.val (.int .i64 (IntKind.wrap .i64 (size_15 + (((ByteArray.size (List.getD d_2 (Int.toNat i_16) ((0 : Int), ((0 : Int), ByteArray.empty))).2.2) : Nat) : Int)))))), (6, .c (.val (.int .i64 (IntKind.wrap .i64 (i_16 + (1 : Int))))))], [(0, .box [.val (.int .i64 d_1), .imm (.slice (.pair (.int .i64) (.pair (.int .i64) .str))) d_2])], 2⟩ [] (by kernel_rfl) rfl rfl ap0 ?_
              refine VL_nil ?_
              exact V_roundEnd (last_13, true, (IntKind.wrap .i64 (size_15 + (((ByteArray.size (List.getD d_2 (Int.toNat i_16) ((0 : Int), ((0 : Int), ByteArray.empty))).2.2) : Nat) : Int))), (IntKind.wrap .i64 (i_16 + (1 : Int)))) H_127 [(0, 0)] hn (by kernel_rfl) (by kernel_rfl) rfl rfl rfl
        · intro b_22; have H_100 := of_f H_98 b_22
          refine V_run hN hn 3 2 [1, 3, 4, 5, 6, 7, 36] [0, 1] ⟨[(1, .c (.h 0)), (3, .c (.val (.int .i64 last_13))), (4, .c (.val (.bool text_14))), (5, .c (.val (.int .i64 size_15))), (6, .c (.val (.int .i64 i_16))), (7, .c (.h 1)), (36, .c (.val (.bool (!(ByteArray.toList (List.getD d_2 (Int.toNat i_16) ((0 : Int), ((0 : Int), ByteArray.empty))).2.2 == ByteArray.toList (ByteArray.mk #[]))))))], [(0, .box [.val (.int .i64 d_1), .imm (.slice (.pair (.int .i64) (.pair (.int .i64) .str))) d_2]), (1, .box [.val (.int .i64 (List.getD d_2 (Int.toNat i_16) ((0 : Int), ((0 : Int), ByteArray.empty))).1), .val (.int .i64 (List.getD d_2 (Int.toNat i_16) ((0 : Int), ((0 : Int), ByteArray.empty))).2.1), .val (.string (List.getD d_2 (Int.toNat i_16) ((0 : Int), ((0 : Int), ByteArray.empty))).2.2)])], 2⟩ [] (by kernel_rfl) rfl rfl ap0 ?_
          obtain ⟨q_129, H_130, H_131⟩ := of_bind H_100
          refine V_cut (Y := Bool) (R := Bool) q_129 (fun y => y) (fun y => [(1, .c (.h 0)), (5, .c (.val (.int .i64 size_15))), (6, .c (.val (.int .i64 i_16))), (7, .c (.h 1)), (112, .c (.val (.bool y)))]) (fun y => [(0, .box [.val (.int .i64 d_1), .imm (.slice (.pair (.int .i64) (.pair (.int .i64) .str))) d_2]), (1, .box [.val (.int .i64 (List.getD d_2 (Int.toNat i_16) ((0 : Int), ((0 : Int), ByteArray.empty))).1), .val (.int .i64 (List.getD d_2 (Int.toNat i_16) ((0 : Int), ((0 : Int), ByteArray.empty))).2.1), .val (.string (List.getD d_2 (Int.toNat i_16) ((0 : Int), ((0 : Int), ByteArray.empty))).2.2)])]) ?_ ?_
          · skip
            rcases Bool.eq_false_or_eq_true ((decide ((List.getD d_2 (Int.toNat i_16) ((0 : Int), ((0 : Int), ByteArray.empty))).1 < last_13))) with b_47 | b_47
            · have H_133 := of_t H_130 b_47
              refine V_reg hN hn [] [(75, true)] calls_nil 2 [1, 5, 6, 7, 112] [0, 1] ⟨[(1, .c (.h 0)), (5, .c (.val (.int .i64 size_15))), (6, .c (.val (.int .i64 i_16))), (7, .c (.h 1)), (112, .c (.val (.bool true)))], [(0, .box [.val (.int .i64 d_1), .imm (.slice (.pair (.int .i64) (.pair (.int .i64) .str))) d_2]), (1, .box [.val (.int .i64 (List.getD d_2 (Int.toNat i_16) ((0 : Int), ((0 : Int), ByteArray.empty))).1), .val (.int .i64 (List.getD d_2 (Int.toNat i_16) ((0 : Int), ((0 : Int), ByteArray.empty))).2.1), .val (.string (List.getD d_2 (Int.toNat i_16) ((0 : Int), ((0 : Int), ByteArray.empty))).2.2)])], 2⟩ [(decide ((List.getD d_2 (Int.toNat i_16) ((0 : Int), ((0 : Int), ByteArray.empty))).1 < last_13)) = true] (by kernel_rfl) rfl rfl (ap1 b_47) (by kernel_rfl) (by kernel_rfl) ?_
              have H_135 := Option.some.inj (show some true = some q_129 from H_133); subst H_135
              refine VL_nil ?_
              exact QP_end true rfl [(0, 0), (1, 1)] hn (by kernel_rfl) (by kernel_rfl) rfl rfl rfl
            · have H_134 := of_f H_130 b_47
              rcases Bool.eq_false_or_eq_true ((decide (i_16 > (0 : Int)))) with b_49 | b_49
              · have H_136 := of_t H_134 b_49
                rcases Bool.eq_false_or_eq_true ((!text_14)) with b_50 | b_50
                · have H_138 := of_t H_136 b_50
                  rcases Bool.eq_false_or_eq_true (((List.getD d_2 (Int.toNat i_16) ((0 : Int), ((0 : Int), ByteArray.empty))).1 == last_13)) with b_51 | b_51
                  · have H_140 := of_t H_138 b_51
                    refine V_reg hN hn [] [(75, false), (78, true), (82, true), (89, true)] calls_nil 2 [1, 5, 6, 7, 112] [0, 1] ⟨[(1, .c (.h 0)), (5, .c (.val (.int .i64 size_15))), (6, .c (.val (.int .i64 i_16))), (7, .c (.h 1)), (112, .c (.val (.bool true)))], [(0, .box [.val (.int .i64 d_1), .imm (.slice (.pair (.int .i64) (.pair (.int .i64) .str))) d_2]), (1, .box [.val (.int .i64 (List.getD d_2 (Int.toNat i_16) ((0 : Int), ((0 : Int), ByteArray.empty))).1), .val (.int .i64 (List.getD d_2 (Int.toNat i_16) ((0 : Int), ((0 : Int), ByteArray.empty))).2.1), .val (.string (List.getD d_2 (Int.toNat i_16) ((0 : Int), ((0 : Int), ByteArray.empty))).2.2)])], 2⟩ [(decide ((List.getD d_2 (Int.toNat i_16) ((0 : Int), ((0 : Int), ByteArray.empty))).1 < last_13)) = false, (decide (i_16 > (0 : Int))) = true, (!text_14) = true, ((List.getD d_2 (Int.toNat i_16) ((0 : Int), ((0 : Int), ByteArray.empty))).1 == last_13) = true] (by kernel_rfl) rfl rfl (ap2 b_47 (ap2 b_49 (ap2 b_50 (ap1 b_51)))) (by kernel_rfl) (by kernel_rfl) ?_
                    have H_142 := Option.some.inj (show some true = some q_129 from H_140); subst H_142
                    refine VL_nil ?_
                    exact QP_end true rfl [(0, 0), (1, 1)] hn (by kernel_rfl) (by kernel_rfl) rfl rfl rfl
                  · have H_141 := of_f H_138 b_51
                    rcases Bool.eq_false_or_eq_true ((decide ((List.getD d_2 (Int.toNat i_16) ((0 : Int), ((0 : Int), ByteArray.empty))).2.1 ≤ (List.getD d_2 (Int.toNat i_16) ((0 : Int), ((0 : Int), ByteArray.empty))).1))) with b_53 | b_53
                    · have H_143 := of_t H_141 b_53
                      refine V_reg hN hn [] [(75, false), (78, true), (82, true), (89, false), (96, true)] calls_nil 2 [1, 5, 6, 7, 112] [0, 1] ⟨[(1, .c (.h 0)), (5, .c (.val (.int .i64 size_15))), (6, .c (.val (.int .i64 i_16))), (7, .c (.h 1)), (112, .c (.val (.bool true)))], [(0, .box [.val (.int .i64 d_1), .imm (.slice (.pair (.int .i64) (.pair (.int .i64) .str))) d_2]), (1, .box [.val (.int .i64 (List.getD d_2 (Int.toNat i_16) ((0 : Int), ((0 : Int), ByteArray.empty))).1), .val (.int .i64 (List.getD d_2 (Int.toNat i_16) ((0 : Int), ((0 : Int), ByteArray.empty))).2.1), .val (.string (List.getD d_2 (Int.toNat i_16) ((0 : Int), ((0 : Int), ByteArray.empty))).2.2)])], 2⟩ [(decide ((List.getD d_2 (Int.toNat i_16) ((0 : Int), ((0 : Int), ByteArray.empty))).1 < last_13)) = false, (decide (i_16 > (0 : Int))) = true, (!text_14) = true, ((List.getD d_2 (Int.toNat i_16) ((0 : Int), ((0 : Int), ByteArray.empty))).1 == last_13) = false, (decide ((List.getD d_2 (Int.toNat i_16) ((0 : Int), ((0 : Int), ByteArray.empty))).2.1 ≤ (List.getD d_2 (Int.toNat i_16) ((0 : Int), ((0 : Int), ByteArray.empty))).1)) = true] (by kernel_rfl) rfl rfl (ap2 b_47 (ap2 b_49 (ap2 b_50 (ap2 b_51 (ap1 b_53))))) (by kernel_rfl) (by kernel_rfl) ?_
                      have H_145 := Option.some.inj (show some true = some q_129 from H_143); subst H_145
                      refine VL_nil ?_
                      exact QP_end true rfl [(0, 0), (1, 1)] hn (by kernel_rfl) (by kernel_rfl) rfl rfl rfl
                    · have H_144 := of_f H_141 b_53
                      rcases Bool.eq_false_or_eq_true ((decide ((List.getD d_2 (Int.toNat i_16) ((0 : Int), ((0 : Int), ByteArray.empty))).2.1 > d_1))) with b_55 | b_55
                      · have H_146 := of_t H_144 b_55
                        refine V_reg hN hn [] [(75, false), (78, true), (82, true), (89, false), (96, false), (103, true)] calls_nil 2 [1, 5, 6, 7, 112] [0, 1] ⟨[(1, .c (.h 0)), (5, .c (.val (.int .i64 size_15))), (6, .c (.val (.int .i64 i_16))), (7, .c (.h 1)), (112, .c (.val (.bool true)))], [(0, .box [.val (.int .i64 d_1), .imm (.slice (.pair (.int .i64) (.pair (.int .i64) .str))) d_2]), (1, .box [.val (.int .i64 (List.getD d_2 (Int.toNat i_16) ((0 : Int), ((0 : Int), ByteArray.empty))).1), .val (.int .i64 (List.getD d_2 (Int.toNat i_16) ((0 : Int), ((0 : Int), ByteArray.empty))).2.1), .val (.string (List.getD d_2 (Int.toNat i_16) ((0 : Int), ((0 : Int), ByteArray.empty))).2.2)])], 2⟩ [(decide ((List.getD d_2 (Int.toNat i_16) ((0 : Int), ((0 : Int), ByteArray.empty))).1 < last_13)) = false, (decide (i_16 > (0 : Int))) = true, (!text_14) = true, ((List.getD d_2 (Int.toNat i_16) ((0 : Int), ((0 : Int), ByteArray.empty))).1 == last_13) = false, (decide ((List.getD d_2 (Int.toNat i_16) ((0 : Int), ((0 : Int), ByteArray.empty))).2.1 ≤ (List.getD d_2 (Int.toNat i_16) ((0 : Int), ((0 : Int), ByteArray.empty))).1)) = false, (decide ((List.getD d_2 (Int.toNat i_16) ((0 : Int), ((0 : Int), ByteArray.empty))).2.1 > d_1)) = true] (by kernel_rfl) rfl rfl (ap2 b_47 (ap2 b_49 (ap2 b_50 (ap2 b_51 (ap2 b_53 (ap1 b_55)))))) (by kernel_rfl) (by kernel_rfl) ?_
                        have H_148 := Option.some.inj (show some true = some q_129 from H_146); subst H_148
                        refine VL_nil ?_
                        exact QP_end true rfl [(0, 0), (1, 1)] hn (by kernel_rfl) (by kernel_rfl) rfl rfl rfl
                      · have H_147 := of_f H_144 b_55
                        refine V_reg hN hn [] [(75, false), (78, true), (82, true), (89, false), (96, false), (103, false)] calls_nil 2 [1, 5, 6, 7, 112] [0, 1] ⟨[(1, .c (.h 0)), (5, .c (.val (.int .i64 size_15))), (6, .c (.val (.int .i64 i_16))), (7, .c (.h 1)), (112, .c (.val (.bool (decide ((IntKind.wrap .i64 ((List.getD d_2 (Int.toNat i_16) ((0 : Int), ((0 : Int), ByteArray.empty))).2.1 - (List.getD d_2 (Int.toNat i_16) ((0 : Int), ((0 : Int), ByteArray.empty))).1)) > (IntKind.wrap .i64 ((20000 : Int) - size_15)))))))], [(0, .box [.val (.int .i64 d_1), .imm (.slice (.pair (.int .i64) (.pair (.int .i64) .str))) d_2]), (1, .box [.val (.int .i64 (List.getD d_2 (Int.toNat i_16) ((0 : Int), ((0 : Int), ByteArray.empty))).1), .val (.int .i64 (List.getD d_2 (Int.toNat i_16) ((0 : Int), ((0 : Int), ByteArray.empty))).2.1), .val (.string (List.getD d_2 (Int.toNat i_16) ((0 : Int), ((0 : Int), ByteArray.empty))).2.2)])], 2⟩ [(decide ((List.getD d_2 (Int.toNat i_16) ((0 : Int), ((0 : Int), ByteArray.empty))).1 < last_13)) = false, (decide (i_16 > (0 : Int))) = true, (!text_14) = true, ((List.getD d_2 (Int.toNat i_16) ((0 : Int), ((0 : Int), ByteArray.empty))).1 == last_13) = false, (decide ((List.getD d_2 (Int.toNat i_16) ((0 : Int), ((0 : Int), ByteArray.empty))).2.1 ≤ (List.getD d_2 (Int.toNat i_16) ((0 : Int), ((0 : Int), ByteArray.empty))).1)) = false, (decide ((List.getD d_2 (Int.toNat i_16) ((0 : Int), ((0 : Int), ByteArray.empty))).2.1 > d_1)) = false] (by kernel_rfl) rfl rfl (ap2 b_47 (ap2 b_49 (ap2 b_50 (ap2 b_51 (ap2 b_53 (ap1 b_55)))))) (by kernel_rfl) (by kernel_rfl) ?_
                        have H_149 := Option.some.inj (show some (decide ((IntKind.wrap .i64 ((List.getD d_2 (Int.toNat i_16) ((0 : Int), ((0 : Int), ByteArray.empty))).2.1 - (List.getD d_2 (Int.toNat i_16) ((0 : Int), ((0 : Int), ByteArray.empty))).1)) > (IntKind.wrap .i64 ((20000 : Int) - size_15)))) = some q_129 from H_147); subst H_149
                        refine VL_nil ?_
                        exact QP_end (decide ((IntKind.wrap .i64 ((List.getD d_2 (Int.toNat i_16) ((0 : Int), ((0 : Int), ByteArray.empty))).2.1 - (List.getD d_2 (Int.toNat i_16) ((0 : Int), ((0 : Int), ByteArray.empty))).1)) > (IntKind.wrap .i64 ((20000 : Int) - size_15)))) rfl [(0, 0), (1, 1)] hn (by kernel_rfl) (by kernel_rfl) rfl rfl rfl
                · have H_139 := of_f H_136 b_50
                  rcases Bool.eq_false_or_eq_true ((decide ((List.getD d_2 (Int.toNat i_16) ((0 : Int), ((0 : Int), ByteArray.empty))).2.1 ≤ (List.getD d_2 (Int.toNat i_16) ((0 : Int), ((0 : Int), ByteArray.empty))).1))) with b_58 | b_58
                  · have H_150 := of_t H_139 b_58
                    refine V_reg hN hn [] [(75, false), (78, true), (82, false), (96, true)] calls_nil 2 [1, 5, 6, 7, 112] [0, 1] ⟨[(1, .c (.h 0)), (5, .c (.val (.int .i64 size_15))), (6, .c (.val (.int .i64 i_16))), (7, .c (.h 1)), (112, .c (.val (.bool true)))], [(0, .box [.val (.int .i64 d_1), .imm (.slice (.pair (.int .i64) (.pair (.int .i64) .str))) d_2]), (1, .box [.val (.int .i64 (List.getD d_2 (Int.toNat i_16) ((0 : Int), ((0 : Int), ByteArray.empty))).1), .val (.int .i64 (List.getD d_2 (Int.toNat i_16) ((0 : Int), ((0 : Int), ByteArray.empty))).2.1), .val (.string (List.getD d_2 (Int.toNat i_16) ((0 : Int), ((0 : Int), ByteArray.empty))).2.2)])], 2⟩ [(decide ((List.getD d_2 (Int.toNat i_16) ((0 : Int), ((0 : Int), ByteArray.empty))).1 < last_13)) = false, (decide (i_16 > (0 : Int))) = true, (!text_14) = false, (decide ((List.getD d_2 (Int.toNat i_16) ((0 : Int), ((0 : Int), ByteArray.empty))).2.1 ≤ (List.getD d_2 (Int.toNat i_16) ((0 : Int), ((0 : Int), ByteArray.empty))).1)) = true] (by kernel_rfl) rfl rfl (ap2 b_47 (ap2 b_49 (ap2 b_50 (ap1 b_58)))) (by kernel_rfl) (by kernel_rfl) ?_
                    have H_152 := Option.some.inj (show some true = some q_129 from H_150); subst H_152
                    refine VL_nil ?_
                    exact QP_end true rfl [(0, 0), (1, 1)] hn (by kernel_rfl) (by kernel_rfl) rfl rfl rfl
                  · have H_151 := of_f H_139 b_58
                    rcases Bool.eq_false_or_eq_true ((decide ((List.getD d_2 (Int.toNat i_16) ((0 : Int), ((0 : Int), ByteArray.empty))).2.1 > d_1))) with b_60 | b_60
                    · have H_153 := of_t H_151 b_60
                      refine V_reg hN hn [] [(75, false), (78, true), (82, false), (96, false), (103, true)] calls_nil 2 [1, 5, 6, 7, 112] [0, 1] ⟨[(1, .c (.h 0)), (5, .c (.val (.int .i64 size_15))), (6, .c (.val (.int .i64 i_16))), (7, .c (.h 1)), (112, .c (.val (.bool true)))], [(0, .box [.val (.int .i64 d_1), .imm (.slice (.pair (.int .i64) (.pair (.int .i64) .str))) d_2]), (1, .box [.val (.int .i64 (List.getD d_2 (Int.toNat i_16) ((0 : Int), ((0 : Int), ByteArray.empty))).1), .val (.int .i64 (List.getD d_2 (Int.toNat i_16) ((0 : Int), ((0 : Int), ByteArray.empty))).2.1), .val (.string (List.getD d_2 (Int.toNat i_16) ((0 : Int), ((0 : Int), ByteArray.empty))).2.2)])], 2⟩ [(decide ((List.getD d_2 (Int.toNat i_16) ((0 : Int), ((0 : Int), ByteArray.empty))).1 < last_13)) = false, (decide (i_16 > (0 : Int))) = true, (!text_14) = false, (decide ((List.getD d_2 (Int.toNat i_16) ((0 : Int), ((0 : Int), ByteArray.empty))).2.1 ≤ (List.getD d_2 (Int.toNat i_16) ((0 : Int), ((0 : Int), ByteArray.empty))).1)) = false, (decide ((List.getD d_2 (Int.toNat i_16) ((0 : Int), ((0 : Int), ByteArray.empty))).2.1 > d_1)) = true] (by kernel_rfl) rfl rfl (ap2 b_47 (ap2 b_49 (ap2 b_50 (ap2 b_58 (ap1 b_60))))) (by kernel_rfl) (by kernel_rfl) ?_
                      have H_155 := Option.some.inj (show some true = some q_129 from H_153); subst H_155
                      refine VL_nil ?_
                      exact QP_end true rfl [(0, 0), (1, 1)] hn (by kernel_rfl) (by kernel_rfl) rfl rfl rfl
                    · have H_154 := of_f H_151 b_60
                      refine V_reg hN hn [] [(75, false), (78, true), (82, false), (96, false), (103, false)] calls_nil 2 [1, 5, 6, 7, 112] [0, 1] ⟨[(1, .c (.h 0)), (5, .c (.val (.int .i64 size_15))), (6, .c (.val (.int .i64 i_16))), (7, .c (.h 1)), (112, .c (.val (.bool (decide ((IntKind.wrap .i64 ((List.getD d_2 (Int.toNat i_16) ((0 : Int), ((0 : Int), ByteArray.empty))).2.1 - (List.getD d_2 (Int.toNat i_16) ((0 : Int), ((0 : Int), ByteArray.empty))).1)) > (IntKind.wrap .i64 ((20000 : Int) - size_15)))))))], [(0, .box [.val (.int .i64 d_1), .imm (.slice (.pair (.int .i64) (.pair (.int .i64) .str))) d_2]), (1, .box [.val (.int .i64 (List.getD d_2 (Int.toNat i_16) ((0 : Int), ((0 : Int), ByteArray.empty))).1), .val (.int .i64 (List.getD d_2 (Int.toNat i_16) ((0 : Int), ((0 : Int), ByteArray.empty))).2.1), .val (.string (List.getD d_2 (Int.toNat i_16) ((0 : Int), ((0 : Int), ByteArray.empty))).2.2)])], 2⟩ [(decide ((List.getD d_2 (Int.toNat i_16) ((0 : Int), ((0 : Int), ByteArray.empty))).1 < last_13)) = false, (decide (i_16 > (0 : Int))) = true, (!text_14) = false, (decide ((List.getD d_2 (Int.toNat i_16) ((0 : Int), ((0 : Int), ByteArray.empty))).2.1 ≤ (List.getD d_2 (Int.toNat i_16) ((0 : Int), ((0 : Int), ByteArray.empty))).1)) = false, (decide ((List.getD d_2 (Int.toNat i_16) ((0 : Int), ((0 : Int), ByteArray.empty))).2.1 > d_1)) = false] (by kernel_rfl) rfl rfl (ap2 b_47 (ap2 b_49 (ap2 b_50 (ap2 b_58 (ap1 b_60))))) (by kernel_rfl) (by kernel_rfl) ?_
                      have H_156 := Option.some.inj (show some (decide ((IntKind.wrap .i64 ((List.getD d_2 (Int.toNat i_16) ((0 : Int), ((0 : Int), ByteArray.empty))).2.1 - (List.getD d_2 (Int.toNat i_16) ((0 : Int), ((0 : Int), ByteArray.empty))).1)) > (IntKind.wrap .i64 ((20000 : Int) - size_15)))) = some q_129 from H_154); subst H_156
                      refine VL_nil ?_
                      exact QP_end (decide ((IntKind.wrap .i64 ((List.getD d_2 (Int.toNat i_16) ((0 : Int), ((0 : Int), ByteArray.empty))).2.1 - (List.getD d_2 (Int.toNat i_16) ((0 : Int), ((0 : Int), ByteArray.empty))).1)) > (IntKind.wrap .i64 ((20000 : Int) - size_15)))) rfl [(0, 0), (1, 1)] hn (by kernel_rfl) (by kernel_rfl) rfl rfl rfl
              · have H_137 := of_f H_134 b_49
                rcases Bool.eq_false_or_eq_true ((decide ((List.getD d_2 (Int.toNat i_16) ((0 : Int), ((0 : Int), ByteArray.empty))).2.1 ≤ (List.getD d_2 (Int.toNat i_16) ((0 : Int), ((0 : Int), ByteArray.empty))).1))) with b_63 | b_63
                · have H_157 := of_t H_137 b_63
                  refine V_reg hN hn [] [(75, false), (78, false), (96, true)] calls_nil 2 [1, 5, 6, 7, 112] [0, 1] ⟨[(1, .c (.h 0)), (5, .c (.val (.int .i64 size_15))), (6, .c (.val (.int .i64 i_16))), (7, .c (.h 1)), (112, .c (.val (.bool true)))], [(0, .box [.val (.int .i64 d_1), .imm (.slice (.pair (.int .i64) (.pair (.int .i64) .str))) d_2]), (1, .box [.val (.int .i64 (List.getD d_2 (Int.toNat i_16) ((0 : Int), ((0 : Int), ByteArray.empty))).1), .val (.int .i64 (List.getD d_2 (Int.toNat i_16) ((0 : Int), ((0 : Int), ByteArray.empty))).2.1), .val (.string (List.getD d_2 (Int.toNat i_16) ((0 : Int), ((0 : Int), ByteArray.empty))).2.2)])], 2⟩ [(decide ((List.getD d_2 (Int.toNat i_16) ((0 : Int), ((0 : Int), ByteArray.empty))).1 < last_13)) = false, (decide (i_16 > (0 : Int))) = false, (decide ((List.getD d_2 (Int.toNat i_16) ((0 : Int), ((0 : Int), ByteArray.empty))).2.1 ≤ (List.getD d_2 (Int.toNat i_16) ((0 : Int), ((0 : Int), ByteArray.empty))).1)) = true] (by kernel_rfl) rfl rfl (ap2 b_47 (ap2 b_49 (ap1 b_63))) (by kernel_rfl) (by kernel_rfl) ?_
                  have H_159 := Option.some.inj (show some true = some q_129 from H_157); subst H_159
                  refine VL_nil ?_
                  exact QP_end true rfl [(0, 0), (1, 1)] hn (by kernel_rfl) (by kernel_rfl) rfl rfl rfl
                · have H_158 := of_f H_137 b_63
                  rcases Bool.eq_false_or_eq_true ((decide ((List.getD d_2 (Int.toNat i_16) ((0 : Int), ((0 : Int), ByteArray.empty))).2.1 > d_1))) with b_65 | b_65
                  · have H_160 := of_t H_158 b_65
                    refine V_reg hN hn [] [(75, false), (78, false), (96, false), (103, true)] calls_nil 2 [1, 5, 6, 7, 112] [0, 1] ⟨[(1, .c (.h 0)), (5, .c (.val (.int .i64 size_15))), (6, .c (.val (.int .i64 i_16))), (7, .c (.h 1)), (112, .c (.val (.bool true)))], [(0, .box [.val (.int .i64 d_1), .imm (.slice (.pair (.int .i64) (.pair (.int .i64) .str))) d_2]), (1, .box [.val (.int .i64 (List.getD d_2 (Int.toNat i_16) ((0 : Int), ((0 : Int), ByteArray.empty))).1), .val (.int .i64 (List.getD d_2 (Int.toNat i_16) ((0 : Int), ((0 : Int), ByteArray.empty))).2.1), .val (.string (List.getD d_2 (Int.toNat i_16) ((0 : Int), ((0 : Int), ByteArray.empty))).2.2)])], 2⟩ [(decide ((List.getD d_2 (Int.toNat i_16) ((0 : Int), ((0 : Int), ByteArray.empty))).1 < last_13)) = false, (decide (i_16 > (0 : Int))) = false, (decide ((List.getD d_2 (Int.toNat i_16) ((0 : Int), ((0 : Int), ByteArray.empty))).2.1 ≤ (List.getD d_2 (Int.toNat i_16) ((0 : Int), ((0 : Int), ByteArray.empty))).1)) = false, (decide ((List.getD d_2 (Int.toNat i_16) ((0 : Int), ((0 : Int), ByteArray.empty))).2.1 > d_1)) = true] (by kernel_rfl) rfl rfl (ap2 b_47 (ap2 b_49 (ap2 b_63 (ap1 b_65)))) (by kernel_rfl) (by kernel_rfl) ?_
                    have H_162 := Option.some.inj (show some true = some q_129 from H_160); subst H_162
                    refine VL_nil ?_
                    exact QP_end true rfl [(0, 0), (1, 1)] hn (by kernel_rfl) (by kernel_rfl) rfl rfl rfl
                  · have H_161 := of_f H_158 b_65
                    refine V_reg hN hn [] [(75, false), (78, false), (96, false), (103, false)] calls_nil 2 [1, 5, 6, 7, 112] [0, 1] ⟨[(1, .c (.h 0)), (5, .c (.val (.int .i64 size_15))), (6, .c (.val (.int .i64 i_16))), (7, .c (.h 1)), (112, .c (.val (.bool (decide ((IntKind.wrap .i64 ((List.getD d_2 (Int.toNat i_16) ((0 : Int), ((0 : Int), ByteArray.empty))).2.1 - (List.getD d_2 (Int.toNat i_16) ((0 : Int), ((0 : Int), ByteArray.empty))).1)) > (IntKind.wrap .i64 ((20000 : Int) - size_15)))))))], [(0, .box [.val (.int .i64 d_1), .imm (.slice (.pair (.int .i64) (.pair (.int .i64) .str))) d_2]), (1, .box [.val (.int .i64 (List.getD d_2 (Int.toNat i_16) ((0 : Int), ((0 : Int), ByteArray.empty))).1), .val (.int .i64 (List.getD d_2 (Int.toNat i_16) ((0 : Int), ((0 : Int), ByteArray.empty))).2.1), .val (.string (List.getD d_2 (Int.toNat i_16) ((0 : Int), ((0 : Int), ByteArray.empty))).2.2)])], 2⟩ [(decide ((List.getD d_2 (Int.toNat i_16) ((0 : Int), ((0 : Int), ByteArray.empty))).1 < last_13)) = false, (decide (i_16 > (0 : Int))) = false, (decide ((List.getD d_2 (Int.toNat i_16) ((0 : Int), ((0 : Int), ByteArray.empty))).2.1 ≤ (List.getD d_2 (Int.toNat i_16) ((0 : Int), ((0 : Int), ByteArray.empty))).1)) = false, (decide ((List.getD d_2 (Int.toNat i_16) ((0 : Int), ((0 : Int), ByteArray.empty))).2.1 > d_1)) = false] (by kernel_rfl) rfl rfl (ap2 b_47 (ap2 b_49 (ap2 b_63 (ap1 b_65)))) (by kernel_rfl) (by kernel_rfl) ?_
                    have H_163 := Option.some.inj (show some (decide ((IntKind.wrap .i64 ((List.getD d_2 (Int.toNat i_16) ((0 : Int), ((0 : Int), ByteArray.empty))).2.1 - (List.getD d_2 (Int.toNat i_16) ((0 : Int), ((0 : Int), ByteArray.empty))).1)) > (IntKind.wrap .i64 ((20000 : Int) - size_15)))) = some q_129 from H_161); subst H_163
                    refine VL_nil ?_
                    exact QP_end (decide ((IntKind.wrap .i64 ((List.getD d_2 (Int.toNat i_16) ((0 : Int), ((0 : Int), ByteArray.empty))).2.1 - (List.getD d_2 (Int.toNat i_16) ((0 : Int), ((0 : Int), ByteArray.empty))).1)) > (IntKind.wrap .i64 ((20000 : Int) - size_15)))) rfl [(0, 0), (1, 1)] hn (by kernel_rfl) (by kernel_rfl) rfl rfl rfl
          · intro y_132 hy; subst hy
            skip
            skip
            refine VL_cond (y_132) (by kernel_rfl) ?_ ?_
            · intro b_69; have H_164 := of_t H_131 b_69
              refine V_run hN hn 2 2 [2] [] ⟨[(2, .c (.val (.bool false)))], [], 2⟩ [] (by kernel_rfl) rfl rfl ap0 ?_
              have H_166 := Option.some.inj (show some false = some r from H_164); subst H_166
              refine VL_ret ?_
              refine QB_ret ?_
              refine QL_ret ?_
              refine QB_ret ?_
              exact P_to [(2, .c (.val (.bool false)))] [] [] hn (by kernel_rfl) (by kernel_rfl) rfl rfl rfl (QF_retS (by kernel_rfl) (by kernel_rfl) rfl)
            · intro b_69; have H_165 := of_f H_131 b_69
              refine V_run hN hn 4 2 [1, 3, 4, 5, 6] [0] ⟨[(1, .c (.h 0)), (3, .c (.val (.int .i64 (List.getD d_2 (Int.toNat i_16) ((0 : Int), ((0 : Int), ByteArray.empty))).2.1))), (4, .c (.val (.bool false))), (5, .c (.val (.int .i64 (IntKind.wrap .i64 ((IntKind.wrap .i64 (size_15 + (List.getD d_2 (Int.toNat i_16) ((0 : Int), ((0 : Int), ByteArray.empty))).2.1)) - (List.getD d_2 (Int.toNat i_16) ((0 : Int), ((0 : Int), ByteArray.empty))).1))))), (6, .c (.val (.int .i64 i_16)))], [(0, .box [.val (.int .i64 d_1), .imm (.slice (.pair (.int .i64) (.pair (.int .i64) .str))) d_2])], 2⟩ [] (by kernel_rfl) rfl rfl ap0 ?_
              refine VL_nil (QB_end ?_)
              refine V_run hN hn 1 2 [1, 3, 4, 5, 6] [0] ⟨[(1, .c (.h 0)), (3, .c (.val (.int .i64 (List.getD d_2 (Int.toNat i_16) ((0 : Int), ((0 : Int), ByteArray.empty))).2.1))), (4, .c (.val (.bool false))), (5, .c (.val (.int .i64 (IntKind.wrap .i64 ((IntKind.wrap .i64 (size_15 + (List.getD d_2 (Int.toNat i_16) ((0 : Int), ((0 : Int), ByteArray.empty))).2.1)) - (List.getD d_2 (Int.toNat i_16) ((0 : Int), ((0 : Int), ByteArray.empty))).1))))), (6, .c (.val (.int .i64 (IntKind.wrap .i64 (i_16 + (1 : Int))))))], [(0, .box [.val (.int .i64 d_1), .imm (.slice (.pair (.int .i64) (.pair (.int .i64) .str))) d_2])], 2⟩ [] (by kernel_rfl) rfl rfl ap0 ?_
              refine VL_nil ?_
              exact V_roundEnd ((List.getD d_2 (Int.toNat i_16) ((0 : Int), ((0 : Int), ByteArray.empty))).2.1, false, (IntKind.wrap .i64 ((IntKind.wrap .i64 (size_15 + (List.getD d_2 (Int.toNat i_16) ((0 : Int), ((0 : Int), ByteArray.empty))).2.1)) - (List.getD d_2 (Int.toNat i_16) ((0 : Int), ((0 : Int), ByteArray.empty))).1)), (IntKind.wrap .i64 (i_16 + (1 : Int)))) H_165 [(0, 0)] hn (by kernel_rfl) (by kernel_rfl) rfl rfl rfl
      · intro b_19; have H_97 := of_f H_95 b_19
        refine VL_exit ?_
        refine QL_exit ?_
        refine QB_here ?_
        refine V_run hN hn 2 1 [2] [] ⟨[(2, .c (.val (.bool true)))], [], 1⟩ [] (by kernel_rfl) rfl rfl ap0 ?_
        have H_167 := Option.some.inj (show some true = some r from H_97); subst H_167
        refine VL_ret ?_
        exact P_to [(2, .c (.val (.bool true)))] [] [] hn (by kernel_rfl) (by kernel_rfl) rfl rfl rfl (QF_retS (by kernel_rfl) (by kernel_rfl) rfl)

theorem palinodelaw11_fewChanges_spec (K : Nat) (l_1 : (List (Int × (Int × ByteArray)))) (r : Bool) (H : palinodelaw11_fewChanges K l_1 = some r) : Spec Try.prog 21 0 [.c (.imm (.slice (.pair (.int .i64) (.pair (.int .i64) .str))) l_1)] [] (.c (.val (.bool r))) [] := by
  refine Spec_mk (fn := Try.f21) (c := (Try.f21.body).get!) Try.func21 (by kernel_rfl) rfl ?_
  intro C hN hn
  replace hN : C.N = 20 := hN
  unfold palinodelaw11_fewChanges at H
  refine V_run hN hn 5 0 [0, 3] [] ⟨[(0, .c (.imm (.slice (.pair (.int .i64) (.pair (.int .i64) .str))) l_1)), (3, .c (.val (.int .i64 (0 : Int))))], [], 0⟩ [] (by kernel_rfl) rfl rfl ap0 ?_
  refine VL_block ?_
  refine V_to [(0, .c (.imm (.slice (.pair (.int .i64) (.pair (.int .i64) .str))) l_1)), (3, .c (.val (.int .i64 (0 : Int))))] [] [] hn (by kernel_rfl) (by kernel_rfl) rfl rfl rfl ?_
  refine VL_loop (X := Int) (fun x => [(0, .c (.imm (.slice (.pair (.int .i64) (.pair (.int .i64) .str))) l_1)), (3, .c (.val (.int .i64 x)))]) (fun x => []) (fun k x => palinodelaw11_fewChanges.l0 K l_1 k x = some r) K (0 : Int) H (fun _ h => no_none h) ?_
  intro k_4 i_3 H_15
  have H_16 : palinodelaw11_fewChanges.l0 K l_1 (k_4 + 1) i_3 = some r := H_15
  rw [palinodelaw11_fewChanges.l0] at H_16
  refine V_run hN hn 3 0 [0, 3, 7] [] ⟨[(0, .c (.imm (.slice (.pair (.int .i64) (.pair (.int .i64) .str))) l_1)), (3, .c (.val (.int .i64 i_3))), (7, .c (.val (.bool (decide (i_3 < (((List.length l_1) : Nat) : Int))))))], [], 0⟩ [] (by kernel_rfl) rfl rfl ap0 ?_
  refine VL_cond ((decide (i_3 < (((List.length l_1) : Nat) : Int)))) (by kernel_rfl) ?_ ?_
  · intro b_6; have H_17 := of_t H_16 b_6
    refine V_run hN hn 2 0 [0, 3, 7] [] ⟨[(0, .c (.imm (.slice (.pair (.int .i64) (.pair (.int .i64) .str))) l_1)), (3, .c (.val (.int .i64 i_3))), (7, .c (.val (.bool (decide (i_3 < (((List.length l_1) : Nat) : Int))))))], [], 0⟩ [] (by kernel_rfl) rfl rfl ap0 ?_
    refine VL_block ?_
    obtain ⟨c_8, H_19⟩ := of_if H_17
    refine V_run hN hn 2 0 [0, 3, 16] [] ⟨[(0, .c (.imm (.slice (.pair (.int .i64) (.pair (.int .i64) .str))) l_1)), (3, .c (.val (.int .i64 i_3))), (16, .c (.val (.bool (decide ((((ByteArray.size (List.getD l_1 (Int.toNat i_3) ((0 : Int), ((0 : Int), ByteArray.empty))).2.2) : Nat) : Int) > (100 : Int))))))], [], 0⟩ [0 ≤ i_3, i_3 < (((List.length l_1) : Nat) : Int)] (by kernel_rfl) rfl rfl (ap2 c_8.1 (ap1 c_8.2)) ?_
    refine VL_cond ((decide ((((ByteArray.size (List.getD l_1 (Int.toNat i_3) ((0 : Int), ((0 : Int), ByteArray.empty))).2.2) : Nat) : Int) > (100 : Int)))) (by kernel_rfl) ?_ ?_
    · intro b_9; have H_20 := of_t H_19 b_9
      refine V_run hN hn 2 0 [2] [] ⟨[(2, .c (.val (.bool false)))], [], 0⟩ [] (by kernel_rfl) rfl rfl ap0 ?_
      have H_22 := Option.some.inj (show some false = some r from H_20); subst H_22
      refine VL_ret ?_
      refine QB_ret ?_
      refine QL_ret ?_
      refine QB_ret ?_
      exact P_to [(2, .c (.val (.bool false)))] [] [] hn (by kernel_rfl) (by kernel_rfl) rfl rfl rfl (QF_retS (by kernel_rfl) (by kernel_rfl) rfl)
    · intro b_9; have H_21 := of_f H_19 b_9
      refine V_run hN hn 1 0 [0, 3, 16] [] ⟨[(0, .c (.imm (.slice (.pair (.int .i64) (.pair (.int .i64) .str))) l_1)), (3, .c (.val (.int .i64 i_3))), (16, .c (.val (.bool (decide ((((ByteArray.size (List.getD l_1 (Int.toNat i_3) ((0 : Int), ((0 : Int), ByteArray.empty))).2.2) : Nat) : Int) > (100 : Int))))))], [], 0⟩ [] (by kernel_rfl) rfl rfl ap0 ?_
      refine VL_nil (QB_end ?_)
      refine V_run hN hn 1 0 [0, 3] [] ⟨[(0, .c (.imm (.slice (.pair (.int .i64) (.pair (.int .i64) .str))) l_1)), (3, .c (.val (.int .i64 (IntKind.wrap .i64 (i_3 + (1 : Int))))))], [], 0⟩ [] (by kernel_rfl) rfl rfl ap0 ?_
      refine VL_nil ?_
      exact V_roundEnd (IntKind.wrap .i64 (i_3 + (1 : Int))) H_21 [] hn (by kernel_rfl) (by kernel_rfl) rfl rfl rfl
  · intro b_6; have H_18 := of_f H_16 b_6
    refine VL_exit ?_
    refine QL_exit ?_
    refine QB_here ?_
    refine V_run hN hn 2 0 [2] [] ⟨[(2, .c (.val (.bool (decide ((((List.length l_1) : Nat) : Int) ≤ (50 : Int))))))], [], 0⟩ [] (by kernel_rfl) rfl rfl ap0 ?_
    have H_23 := Option.some.inj (show some (decide ((((List.length l_1) : Nat) : Int) ≤ (50 : Int))) = some r from H_18); subst H_23
    refine VL_ret ?_
    exact P_to [(2, .c (.val (.bool (decide ((((List.length l_1) : Nat) : Int) ≤ (50 : Int))))))] [] [] hn (by kernel_rfl) (by kernel_rfl) rfl rfl rfl (QF_retS (by kernel_rfl) (by kernel_rfl) rfl)

theorem delta_Ordered_spec (K : Nat) (l_1 : (List (Int × (Int × ByteArray)))) (r : Bool) (H : delta_Ordered_r K l_1 = some r) : Spec Try.prog 40 0 [.c (.imm (.slice (.pair (.int .i64) (.pair (.int .i64) .str))) l_1)] [] (.c (.val (.bool r))) [] := by
  refine Spec_mk (fn := Try.f40) (c := (Try.f40.body).get!) Try.func40 (by kernel_rfl) rfl ?_
  intro C hN hn
  replace hN : C.N = 40 := hN
  unfold delta_Ordered_r at H
  refine V_run hN hn 5 0 [0, 3] [] ⟨[(0, .c (.imm (.slice (.pair (.int .i64) (.pair (.int .i64) .str))) l_1)), (3, .c (.val (.int .i64 (1 : Int))))], [], 0⟩ [] (by kernel_rfl) rfl rfl ap0 ?_
  refine VL_block ?_
  refine V_to [(0, .c (.imm (.slice (.pair (.int .i64) (.pair (.int .i64) .str))) l_1)), (3, .c (.val (.int .i64 (1 : Int))))] [] [] hn (by kernel_rfl) (by kernel_rfl) rfl rfl rfl ?_
  refine VL_loop (X := Int) (fun x => [(0, .c (.imm (.slice (.pair (.int .i64) (.pair (.int .i64) .str))) l_1)), (3, .c (.val (.int .i64 x)))]) (fun x => []) (fun k x => delta_Ordered_r.l0 K l_1 k x = some r) K (1 : Int) H (fun _ h => no_none h) ?_
  intro k_4 i_3 H_25
  have H_26 : delta_Ordered_r.l0 K l_1 (k_4 + 1) i_3 = some r := H_25
  rw [delta_Ordered_r.l0] at H_26
  refine V_run hN hn 3 0 [0, 3, 9] [] ⟨[(0, .c (.imm (.slice (.pair (.int .i64) (.pair (.int .i64) .str))) l_1)), (3, .c (.val (.int .i64 i_3))), (9, .c (.val (.bool (decide (i_3 < (((List.length l_1) : Nat) : Int))))))], [], 0⟩ [] (by kernel_rfl) rfl rfl ap0 ?_
  refine VL_cond ((decide (i_3 < (((List.length l_1) : Nat) : Int)))) (by kernel_rfl) ?_ ?_
  · intro b_6; have H_27 := of_t H_26 b_6
    refine V_run hN hn 2 0 [0, 3, 9] [] ⟨[(0, .c (.imm (.slice (.pair (.int .i64) (.pair (.int .i64) .str))) l_1)), (3, .c (.val (.int .i64 i_3))), (9, .c (.val (.bool (decide (i_3 < (((List.length l_1) : Nat) : Int))))))], [], 0⟩ [] (by kernel_rfl) rfl rfl ap0 ?_
    refine VL_block ?_
    refine V_run hN hn 1 0 [0, 3, 9] [] ⟨[(0, .c (.imm (.slice (.pair (.int .i64) (.pair (.int .i64) .str))) l_1)), (3, .c (.val (.int .i64 i_3))), (9, .c (.val (.bool (decide (i_3 < (((List.length l_1) : Nat) : Int))))))], [], 0⟩ [] (by kernel_rfl) rfl rfl ap0 ?_
    obtain ⟨c_9, H_29⟩ := of_if H_27
    refine V_draw hN hn (by kernel_rfl) [] [] calls_nil 0 [0, 3, 4, 5] [0, 1] ⟨[(0, .c (.imm (.slice (.pair (.int .i64) (.pair (.int .i64) .str))) l_1)), (3, .c (.val (.int .i64 i_3))), (4, .c (.h 0)), (5, .c (.h 1))], [(0, .box [.val (.int .i64 (List.getD l_1 (Int.toNat (IntKind.wrap .i64 (i_3 - (1 : Int)))) ((0 : Int), ((0 : Int), ByteArray.empty))).1), .val (.int .i64 (List.getD l_1 (Int.toNat (IntKind.wrap .i64 (i_3 - (1 : Int)))) ((0 : Int), ((0 : Int), ByteArray.empty))).2.1), .val (.string (List.getD l_1 (Int.toNat (IntKind.wrap .i64 (i_3 - (1 : Int)))) ((0 : Int), ((0 : Int), ByteArray.empty))).2.2)]), (1, .box [.val (.int .i64 (List.getD l_1 (Int.toNat i_3) ((0 : Int), ((0 : Int), ByteArray.empty))).1), .val (.int .i64 (List.getD l_1 (Int.toNat i_3) ((0 : Int), ((0 : Int), ByteArray.empty))).2.1), .val (.string (List.getD l_1 (Int.toNat i_3) ((0 : Int), ((0 : Int), ByteArray.empty))).2.2)])], 2⟩ [0 ≤ (IntKind.wrap .i64 (i_3 - (1 : Int))), (IntKind.wrap .i64 (i_3 - (1 : Int))) < (((List.length l_1) : Nat) : Int), 0 ≤ (IntKind.wrap .i64 (i_3 - (1 : Int))), (IntKind.wrap .i64 (i_3 - (1 : Int))) < (((List.length l_1) : Nat) : Int), 0 ≤ (IntKind.wrap .i64 (i_3 - (1 : Int))), (IntKind.wrap .i64 (i_3 - (1 : Int))) < (((List.length l_1) : Nat) : Int), 0 ≤ (IntKind.wrap .i64 (i_3 - (1 : Int))), (IntKind.wrap .i64 (i_3 - (1 : Int))) < (((List.length l_1) : Nat) : Int), 0 ≤ i_3, i_3 < (((List.length l_1) : Nat) : Int), 0 ≤ i_3, i_3 < (((List.length l_1) : Nat) : Int), 0 ≤ i_3, i_3 < (((List.length l_1) : Nat) : Int), 0 ≤ i_3, i_3 < (((List.length l_1) : Nat) : Int), 0 ≤ i_3, i_3 < (((List.length l_1) : Nat) : Int)] (by kernel_rfl) rfl rfl (ap2 c_9.1 (ap2 c_9.2.1 (ap2 c_9.1 (ap2 c_9.2.1 (ap2 c_9.1 (ap2 c_9.2.1 (ap2 c_9.1 (ap2 c_9.2.1 (ap2 c_9.2.2.1 (ap2 c_9.2.2.2 (ap2 c_9.2.2.1 (ap2 c_9.2.2.2 (ap2 c_9.2.2.1 (ap2 c_9.2.2.2 (ap2 c_9.2.2.1 (ap2 c_9.2.2.2 (ap2 c_9.2.2.1 (ap1 c_9.2.2.2)))))))))))))))))) (by kernel_rfl) (by kernel_rfl) ?_
    refine V_run hN hn 1 2 [0, 3, 4, 5] [0, 1] ⟨[(0, .c (.imm (.slice (.pair (.int .i64) (.pair (.int .i64) .str))) l_1)), (3, .c (.val (.int .i64 i_3))), (4, .c (.h 0)), (5, .c (.h 1))], [(0, .box [.val (.int .i64 (List.getD l_1 (Int.toNat (IntKind.wrap .i64 (i_3 - (1 : Int)))) ((0 : Int), ((0 : Int), ByteArray.empty))).1), .val (.int .i64 (List.getD l_1 (Int.toNat (IntKind.wrap .i64 (i_3 - (1 : Int)))) ((0 : Int), ((0 : Int), ByteArray.empty))).2.1), .val (.string (List.getD l_1 (Int.toNat (IntKind.wrap .i64 (i_3 - (1 : Int)))) ((0 : Int), ((0 : Int), ByteArray.empty))).2.2)]), (1, .box [.val (.int .i64 (List.getD l_1 (Int.toNat i_3) ((0 : Int), ((0 : Int), ByteArray.empty))).1), .val (.int .i64 (List.getD l_1 (Int.toNat i_3) ((0 : Int), ((0 : Int), ByteArray.empty))).2.1), .val (.string (List.getD l_1 (Int.toNat i_3) ((0 : Int), ((0 : Int), ByteArray.empty))).2.2)])], 2⟩ [] (by kernel_rfl) rfl rfl ap0 ?_
    obtain ⟨q_30, H_31, H_32⟩ := of_bind H_29
    refine V_cut (Y := Bool) (R := Bool) q_30 (fun y => y) (fun y => [(0, .c (.imm (.slice (.pair (.int .i64) (.pair (.int .i64) .str))) l_1)), (3, .c (.val (.int .i64 i_3))), (39, .c (.val (.bool y)))]) (fun y => []) ?_ ?_
    · skip
      rcases Bool.eq_false_or_eq_true ((decide ((List.getD l_1 (Int.toNat i_3) ((0 : Int), ((0 : Int), ByteArray.empty))).1 < (List.getD l_1 (Int.toNat (IntKind.wrap .i64 (i_3 - (1 : Int)))) ((0 : Int), ((0 : Int), ByteArray.empty))).2.1))) with b_11 | b_11
      · have H_34 := of_t H_31 b_11
        refine V_reg hN hn [] [(26, true)] calls_nil 2 [0, 3, 39] [] ⟨[(0, .c (.imm (.slice (.pair (.int .i64) (.pair (.int .i64) .str))) l_1)), (3, .c (.val (.int .i64 i_3))), (39, .c (.val (.bool true)))], [], 2⟩ [(decide ((List.getD l_1 (Int.toNat i_3) ((0 : Int), ((0 : Int), ByteArray.empty))).1 < (List.getD l_1 (Int.toNat (IntKind.wrap .i64 (i_3 - (1 : Int)))) ((0 : Int), ((0 : Int), ByteArray.empty))).2.1)) = true] (by kernel_rfl) rfl rfl (ap1 b_11) (by kernel_rfl) (by kernel_rfl) ?_
        have H_36 := Option.some.inj (show some true = some q_30 from H_34); subst H_36
        refine VL_nil ?_
        exact QP_end true rfl [] hn (by kernel_rfl) (by kernel_rfl) rfl rfl rfl
      · have H_35 := of_f H_31 b_11
        rcases Bool.eq_false_or_eq_true (((List.getD l_1 (Int.toNat (IntKind.wrap .i64 (i_3 - (1 : Int)))) ((0 : Int), ((0 : Int), ByteArray.empty))).1 == (List.getD l_1 (Int.toNat i_3) ((0 : Int), ((0 : Int), ByteArray.empty))).1)) with b_13 | b_13
        · have H_37 := of_t H_35 b_13
          refine V_reg hN hn [] [(26, false), (32, true)] calls_nil 2 [0, 3, 39] [] ⟨[(0, .c (.imm (.slice (.pair (.int .i64) (.pair (.int .i64) .str))) l_1)), (3, .c (.val (.int .i64 i_3))), (39, .c (.val (.bool ((List.getD l_1 (Int.toNat (IntKind.wrap .i64 (i_3 - (1 : Int)))) ((0 : Int), ((0 : Int), ByteArray.empty))).2.1 == (List.getD l_1 (Int.toNat i_3) ((0 : Int), ((0 : Int), ByteArray.empty))).1))))], [], 2⟩ [(decide ((List.getD l_1 (Int.toNat i_3) ((0 : Int), ((0 : Int), ByteArray.empty))).1 < (List.getD l_1 (Int.toNat (IntKind.wrap .i64 (i_3 - (1 : Int)))) ((0 : Int), ((0 : Int), ByteArray.empty))).2.1)) = false, ((List.getD l_1 (Int.toNat (IntKind.wrap .i64 (i_3 - (1 : Int)))) ((0 : Int), ((0 : Int), ByteArray.empty))).1 == (List.getD l_1 (Int.toNat i_3) ((0 : Int), ((0 : Int), ByteArray.empty))).1) = true] (by kernel_rfl) rfl rfl (ap2 b_11 (ap1 b_13)) (by kernel_rfl) (by kernel_rfl) ?_
          have H_39 := Option.some.inj (show some ((List.getD l_1 (Int.toNat (IntKind.wrap .i64 (i_3 - (1 : Int)))) ((0 : Int), ((0 : Int), ByteArray.empty))).2.1 == (List.getD l_1 (Int.toNat i_3) ((0 : Int), ((0 : Int), ByteArray.empty))).1) = some q_30 from H_37); subst H_39
          refine VL_nil ?_
          exact QP_end ((List.getD l_1 (Int.toNat (IntKind.wrap .i64 (i_3 - (1 : Int)))) ((0 : Int), ((0 : Int), ByteArray.empty))).2.1 == (List.getD l_1 (Int.toNat i_3) ((0 : Int), ((0 : Int), ByteArray.empty))).1) rfl [] hn (by kernel_rfl) (by kernel_rfl) rfl rfl rfl
        · have H_38 := of_f H_35 b_13
          refine V_reg hN hn [] [(26, false), (32, false)] calls_nil 2 [0, 3, 39] [] ⟨[(0, .c (.imm (.slice (.pair (.int .i64) (.pair (.int .i64) .str))) l_1)), (3, .c (.val (.int .i64 i_3))), (39, .c (.val (.bool false)))], [], 2⟩ [(decide ((List.getD l_1 (Int.toNat i_3) ((0 : Int), ((0 : Int), ByteArray.empty))).1 < (List.getD l_1 (Int.toNat (IntKind.wrap .i64 (i_3 - (1 : Int)))) ((0 : Int), ((0 : Int), ByteArray.empty))).2.1)) = false, ((List.getD l_1 (Int.toNat (IntKind.wrap .i64 (i_3 - (1 : Int)))) ((0 : Int), ((0 : Int), ByteArray.empty))).1 == (List.getD l_1 (Int.toNat i_3) ((0 : Int), ((0 : Int), ByteArray.empty))).1) = false] (by kernel_rfl) rfl rfl (ap2 b_11 (ap1 b_13)) (by kernel_rfl) (by kernel_rfl) ?_
          have H_40 := Option.some.inj (show some false = some q_30 from H_38); subst H_40
          refine VL_nil ?_
          exact QP_end false rfl [] hn (by kernel_rfl) (by kernel_rfl) rfl rfl rfl
    · intro y_33 hy; subst hy
      skip
      skip
      refine VL_cond (y_33) (by kernel_rfl) ?_ ?_
      · intro b_17; have H_41 := of_t H_32 b_17
        refine V_run hN hn 2 2 [2] [] ⟨[(2, .c (.val (.bool false)))], [], 2⟩ [] (by kernel_rfl) rfl rfl ap0 ?_
        have H_43 := Option.some.inj (show some false = some r from H_41); subst H_43
        refine VL_ret ?_
        refine QB_ret ?_
        refine QL_ret ?_
        refine QB_ret ?_
        exact P_to [(2, .c (.val (.bool false)))] [] [] hn (by kernel_rfl) (by kernel_rfl) rfl rfl rfl (QF_retS (by kernel_rfl) (by kernel_rfl) rfl)
      · intro b_17; have H_42 := of_f H_32 b_17
        refine V_run hN hn 1 2 [0, 3, 39] [] ⟨[(0, .c (.imm (.slice (.pair (.int .i64) (.pair (.int .i64) .str))) l_1)), (3, .c (.val (.int .i64 i_3))), (39, .c (.val (.bool y_33)))], [], 2⟩ [] (by kernel_rfl) rfl rfl ap0 ?_
        refine VL_nil (QB_end ?_)
        refine V_run hN hn 1 2 [0, 3] [] ⟨[(0, .c (.imm (.slice (.pair (.int .i64) (.pair (.int .i64) .str))) l_1)), (3, .c (.val (.int .i64 (IntKind.wrap .i64 (i_3 + (1 : Int))))))], [], 2⟩ [] (by kernel_rfl) rfl rfl ap0 ?_
        refine VL_nil ?_
        exact V_roundEnd (IntKind.wrap .i64 (i_3 + (1 : Int))) H_42 [] hn (by kernel_rfl) (by kernel_rfl) rfl rfl rfl
  · intro b_6; have H_28 := of_f H_26 b_6
    refine VL_exit ?_
    refine QL_exit ?_
    refine QB_here ?_
    refine V_run hN hn 2 0 [2] [] ⟨[(2, .c (.val (.bool true)))], [], 0⟩ [] (by kernel_rfl) rfl rfl ap0 ?_
    have H_44 := Option.some.inj (show some true = some r from H_28); subst H_44
    refine VL_ret ?_
    exact P_to [(2, .c (.val (.bool true)))] [] [] hn (by kernel_rfl) (by kernel_rfl) rfl rfl rfl (QF_retS (by kernel_rfl) (by kernel_rfl) rfl)

theorem delta_long_spec (K : Nat) (base_1 : Int) (l_2 : (List (Int × (Int × ByteArray)))) (r : Int) (H : delta_long_gr K base_1 l_2 = some r) : Spec Try.prog 41 0 [.c (.val (.int .i64 base_1)), .c (.imm (.slice (.pair (.int .i64) (.pair (.int .i64) .str))) l_2)] [] (.c (.val (.int .i64 r))) [] := by
  refine Spec_mk (fn := Try.f41) (c := (Try.f41.body).get!) Try.func41 (by kernel_rfl) rfl ?_
  intro C hN hn
  replace hN : C.N = 43 := hN
  unfold delta_long_gr at H
  refine V_run hN hn 7 0 [1, 5, 12, 13, 14] [] ⟨[(1, .c (.imm (.slice (.pair (.int .i64) (.pair (.int .i64) .str))) l_2)), (5, .c (.val (.int .i64 (IntKind.wrap .i64 ((20000 : Int) - base_1))))), (12, .c (.imm (.slice (.pair (.int .i64) (.pair (.int .i64) .str))) l_2)), (13, .c (.val (.int .i64 (((List.length l_2) : Nat) : Int)))), (14, .c (.val (.int .i64 (0 : Int))))], [], 0⟩ [] (by kernel_rfl) rfl rfl ap0 ?_
  obtain ⟨q_28, H_29, H_30⟩ := of_bind H
  refine V_cut (Y := Int) (R := Int) q_28 (fun y => y) (fun y => [(1, .c (.imm (.slice (.pair (.int .i64) (.pair (.int .i64) .str))) l_2)), (5, .c (.val (.int .i64 y)))]) (fun y => []) ?_ ?_
  · skip
    refine VL_block ?_
    refine V_to [(1, .c (.imm (.slice (.pair (.int .i64) (.pair (.int .i64) .str))) l_2)), (5, .c (.val (.int .i64 (IntKind.wrap .i64 ((20000 : Int) - base_1))))), (12, .c (.imm (.slice (.pair (.int .i64) (.pair (.int .i64) .str))) l_2)), (13, .c (.val (.int .i64 (((List.length l_2) : Nat) : Int)))), (14, .c (.val (.int .i64 (0 : Int))))] [] [] hn (by kernel_rfl) (by kernel_rfl) rfl rfl rfl ?_
    refine VL_loop (X := (Int × Int)) (fun x => [(1, .c (.imm (.slice (.pair (.int .i64) (.pair (.int .i64) .str))) l_2)), (5, .c (.val (.int .i64 x.1))), (12, .c (.imm (.slice (.pair (.int .i64) (.pair (.int .i64) .str))) l_2)), (13, .c (.val (.int .i64 (((List.length l_2) : Nat) : Int)))), (14, .c (.val (.int .i64 x.2)))]) (fun x => []) (fun k x => delta_long_gr.l0 K l_2 k x.1 x.2 = some q_28) K ((IntKind.wrap .i64 ((20000 : Int) - base_1)), (0 : Int)) H_29 (fun _ h => no_none h) ?_
    intro k_6 x_6 H_32
    obtain ⟨left_4, t_5⟩ := x_6
    have H_33 : delta_long_gr.l0 K l_2 (k_6 + 1) left_4 t_5 = some q_28 := H_32
    rw [delta_long_gr.l0] at H_33
    refine V_run hN hn 3 0 [1, 5, 12, 13, 14, 15] [] ⟨[(1, .c (.imm (.slice (.pair (.int .i64) (.pair (.int .i64) .str))) l_2)), (5, .c (.val (.int .i64 left_4))), (12, .c (.imm (.slice (.pair (.int .i64) (.pair (.int .i64) .str))) l_2)), (13, .c (.val (.int .i64 (((List.length l_2) : Nat) : Int)))), (14, .c (.val (.int .i64 t_5))), (15, .c (.val (.bool (decide (t_5 < (((List.length l_2) : Nat) : Int))))))], [], 0⟩ [] (by kernel_rfl) rfl rfl ap0 ?_
    refine VL_cond ((decide (t_5 < (((List.length l_2) : Nat) : Int)))) (by kernel_rfl) ?_ ?_
    · intro b_8; have H_34 := of_t H_33 b_8
      refine V_run hN hn 2 0 [1, 5, 12, 13, 14, 15] [] ⟨[(1, .c (.imm (.slice (.pair (.int .i64) (.pair (.int .i64) .str))) l_2)), (5, .c (.val (.int .i64 left_4))), (12, .c (.imm (.slice (.pair (.int .i64) (.pair (.int .i64) .str))) l_2)), (13, .c (.val (.int .i64 (((List.length l_2) : Nat) : Int)))), (14, .c (.val (.int .i64 t_5))), (15, .c (.val (.bool (decide (t_5 < (((List.length l_2) : Nat) : Int))))))], [], 0⟩ [] (by kernel_rfl) rfl rfl ap0 ?_
      refine VL_block ?_
      obtain ⟨c_10, H_36⟩ := of_if H_34
      refine V_run hN hn 3 0 [1, 5, 12, 13, 14] [] ⟨[(1, .c (.imm (.slice (.pair (.int .i64) (.pair (.int .i64) .str))) l_2)), (5, .c (.val (.int .i64 (IntKind.wrap .i64 (left_4 + (IntKind.wrap .i64 ((List.getD l_2 (Int.toNat t_5) ((0 : Int), ((0 : Int), ByteArray.empty))).2.1 - (List.getD l_2 (Int.toNat t_5) ((0 : Int), ((0 : Int), ByteArray.empty))).1))))))), (12, .c (.imm (.slice (.pair (.int .i64) (.pair (.int .i64) .str))) l_2)), (13, .c (.val (.int .i64 (((List.length l_2) : Nat) : Int)))), (14, .c (.val (.int .i64 t_5)))], [], 1⟩ [0 ≤ t_5, t_5 < (((List.length l_2) : Nat) : Int)] (by kernel_rfl) rfl rfl (ap2 c_10.1 (ap1 c_10.2)) ?_
      refine VL_nil (QB_end ?_)
      refine V_run hN hn 1 1 [1, 5, 12, 13, 14] [] ⟨[(1, .c (.imm (.slice (.pair (.int .i64) (.pair (.int .i64) .str))) l_2)), (5, .c (.val (.int .i64 (IntKind.wrap .i64 (left_4 + (IntKind.wrap .i64 ((List.getD l_2 (Int.toNat t_5) ((0 : Int), ((0 : Int), ByteArray.empty))).2.1 - (List.getD l_2 (Int.toNat t_5) ((0 : Int), ((0 : Int), ByteArray.empty))).1))))))), (12, .c (.imm (.slice (.pair (.int .i64) (.pair (.int .i64) .str))) l_2)), (13, .c (.val (.int .i64 (((List.length l_2) : Nat) : Int)))), (14, .c (.val (.int .i64 (IntKind.wrap .i64 (t_5 + (1 : Int))))))], [], 1⟩ [] (by kernel_rfl) rfl rfl ap0 ?_
      refine VL_nil ?_
      exact V_roundEnd ((IntKind.wrap .i64 (left_4 + (IntKind.wrap .i64 ((List.getD l_2 (Int.toNat t_5) ((0 : Int), ((0 : Int), ByteArray.empty))).2.1 - (List.getD l_2 (Int.toNat t_5) ((0 : Int), ((0 : Int), ByteArray.empty))).1)))), (IntKind.wrap .i64 (t_5 + (1 : Int)))) H_36 [] hn (by kernel_rfl) (by kernel_rfl) rfl rfl rfl
    · intro b_8; have H_35 := of_f H_33 b_8
      refine VL_exit ?_
      refine QL_exit ?_
      refine QB_here ?_
      have H_37 := Option.some.inj (show some left_4 = some q_28 from H_35); subst H_37
      refine VL_nil ?_
      exact QP_end left_4 rfl [] hn (by kernel_rfl) (by kernel_rfl) rfl rfl rfl
  · intro y_31 hy; subst hy
    skip
    skip
    refine V_run hN hn 3 0 [5, 26, 27, 28] [] ⟨[(5, .c (.val (.int .i64 y_31))), (26, .c (.imm (.slice (.pair (.int .i64) (.pair (.int .i64) .str))) l_2)), (27, .c (.val (.int .i64 (((List.length l_2) : Nat) : Int)))), (28, .c (.val (.int .i64 (0 : Int))))], [], 0⟩ [] (by kernel_rfl) rfl rfl ap0 ?_
    refine VL_block ?_
    refine V_to [(5, .c (.val (.int .i64 y_31))), (26, .c (.imm (.slice (.pair (.int .i64) (.pair (.int .i64) .str))) l_2)), (27, .c (.val (.int .i64 (((List.length l_2) : Nat) : Int)))), (28, .c (.val (.int .i64 (0 : Int))))] [] [] hn (by kernel_rfl) (by kernel_rfl) rfl rfl rfl ?_
    refine VL_loop (X := (Int × Int)) (fun x => [(5, .c (.val (.int .i64 x.1))), (26, .c (.imm (.slice (.pair (.int .i64) (.pair (.int .i64) .str))) l_2)), (27, .c (.val (.int .i64 (((List.length l_2) : Nat) : Int)))), (28, .c (.val (.int .i64 x.2)))]) (fun x => []) (fun k x => delta_long_gr.l1 K l_2 k x.1 x.2 = some r) K (y_31, (0 : Int)) H_30 (fun _ h => no_none h) ?_
    intro k_16 x_16 H_38
    obtain ⟨left_14, t_15⟩ := x_16
    have H_39 : delta_long_gr.l1 K l_2 (k_16 + 1) left_14 t_15 = some r := H_38
    rw [delta_long_gr.l1] at H_39
    refine V_run hN hn 3 0 [5, 26, 27, 28, 29] [] ⟨[(5, .c (.val (.int .i64 left_14))), (26, .c (.imm (.slice (.pair (.int .i64) (.pair (.int .i64) .str))) l_2)), (27, .c (.val (.int .i64 (((List.length l_2) : Nat) : Int)))), (28, .c (.val (.int .i64 t_15))), (29, .c (.val (.bool (decide (t_15 < (((List.length l_2) : Nat) : Int))))))], [], 0⟩ [] (by kernel_rfl) rfl rfl ap0 ?_
    refine VL_cond ((decide (t_15 < (((List.length l_2) : Nat) : Int)))) (by kernel_rfl) ?_ ?_
    · intro b_18; have H_40 := of_t H_39 b_18
      refine V_run hN hn 2 0 [5, 26, 27, 28, 29] [] ⟨[(5, .c (.val (.int .i64 left_14))), (26, .c (.imm (.slice (.pair (.int .i64) (.pair (.int .i64) .str))) l_2)), (27, .c (.val (.int .i64 (((List.length l_2) : Nat) : Int)))), (28, .c (.val (.int .i64 t_15))), (29, .c (.val (.bool (decide (t_15 < (((List.length l_2) : Nat) : Int))))))], [], 0⟩ [] (by kernel_rfl) rfl rfl ap0 ?_
      refine VL_block ?_
      obtain ⟨c_20, H_42⟩ := of_if H_40
      refine V_run hN hn 5 0 [5, 9, 26, 27, 28, 36] [0] ⟨[(5, .c (.val (.int .i64 left_14))), (9, .c (.h 0)), (26, .c (.imm (.slice (.pair (.int .i64) (.pair (.int .i64) .str))) l_2)), (27, .c (.val (.int .i64 (((List.length l_2) : Nat) : Int)))), (28, .c (.val (.int .i64 t_15))), (36, .c (.val (.bool (decide ((((ByteArray.size (List.getD l_2 (Int.toNat t_15) ((0 : Int), ((0 : Int), ByteArray.empty))).2.2) : Nat) : Int) > left_14)))))], [(0, .box [.val (.int .i64 (List.getD l_2 (Int.toNat t_15) ((0 : Int), ((0 : Int), ByteArray.empty))).1), .val (.int .i64 (List.getD l_2 (Int.toNat t_15) ((0 : Int), ((0 : Int), ByteArray.empty))).2.1), .val (.string (List.getD l_2 (Int.toNat t_15) ((0 : Int), ((0 : Int), ByteArray.empty))).2.2)])], 1⟩ [0 ≤ t_15, t_15 < (((List.length l_2) : Nat) : Int)] (by kernel_rfl) rfl rfl (ap2 c_20.1 (ap1 c_20.2)) ?_
      refine VL_cond ((decide ((((ByteArray.size (List.getD l_2 (Int.toNat t_15) ((0 : Int), ((0 : Int), ByteArray.empty))).2.2) : Nat) : Int) > left_14))) (by kernel_rfl) ?_ ?_
      · intro b_21; have H_43 := of_t H_42 b_21
        refine V_run hN hn 2 1 [4] [] ⟨[(4, .c (.val (.int .i64 (13 : Int))))], [], 1⟩ [] (by kernel_rfl) rfl rfl ap0 ?_
        have H_45 := Option.some.inj (show some (13 : Int) = some r from H_43); subst H_45
        refine VL_ret ?_
        refine QB_ret ?_
        refine QL_ret ?_
        refine QB_ret ?_
        exact P_to [(4, .c (.val (.int .i64 (13 : Int))))] [] [] hn (by kernel_rfl) (by kernel_rfl) rfl rfl rfl (QF_retS (by kernel_rfl) (by kernel_rfl) rfl)
      · intro b_21; have H_44 := of_f H_42 b_21
        refine V_run hN hn 2 1 [5, 26, 27, 28] [] ⟨[(5, .c (.val (.int .i64 (IntKind.wrap .i64 (left_14 - (((ByteArray.size (List.getD l_2 (Int.toNat t_15) ((0 : Int), ((0 : Int), ByteArray.empty))).2.2) : Nat) : Int)))))), (26, .c (.imm (.slice (.pair (.int .i64) (.pair (.int .i64) .str))) l_2)), (27, .c (.val (.int .i64 (((List.length l_2) : Nat) : Int)))), (28, .c (.val (.int .i64 t_15)))], [], 1⟩ [] (by kernel_rfl) rfl rfl ap0 ?_
        refine VL_nil (QB_end ?_)
        refine V_run hN hn 1 1 [5, 26, 27, 28] [] ⟨[(5, .c (.val (.int .i64 (IntKind.wrap .i64 (left_14 - (((ByteArray.size (List.getD l_2 (Int.toNat t_15) ((0 : Int), ((0 : Int), ByteArray.empty))).2.2) : Nat) : Int)))))), (26, .c (.imm (.slice (.pair (.int .i64) (.pair (.int .i64) .str))) l_2)), (27, .c (.val (.int .i64 (((List.length l_2) : Nat) : Int)))), (28, .c (.val (.int .i64 (IntKind.wrap .i64 (t_15 + (1 : Int))))))], [], 1⟩ [] (by kernel_rfl) rfl rfl ap0 ?_
        refine VL_nil ?_
        exact V_roundEnd ((IntKind.wrap .i64 (left_14 - (((ByteArray.size (List.getD l_2 (Int.toNat t_15) ((0 : Int), ((0 : Int), ByteArray.empty))).2.2) : Nat) : Int))), (IntKind.wrap .i64 (t_15 + (1 : Int)))) H_44 [] hn (by kernel_rfl) (by kernel_rfl) rfl rfl rfl
    · intro b_18; have H_41 := of_f H_39 b_18
      refine VL_exit ?_
      refine QL_exit ?_
      refine QB_here ?_
      refine V_run hN hn 2 0 [4] [] ⟨[(4, .c (.val (.int .i64 (0 : Int))))], [], 0⟩ [] (by kernel_rfl) rfl rfl ap0 ?_
      have H_46 := Option.some.inj (show some (0 : Int) = some r from H_41); subst H_46
      refine VL_ret ?_
      exact P_to [(4, .c (.val (.int .i64 (0 : Int))))] [] [] hn (by kernel_rfl) (by kernel_rfl) rfl rfl rfl (QF_retS (by kernel_rfl) (by kernel_rfl) rfl)

theorem delta_check_spec (K : Nat) (base_1 : Int) (l_2 : (List (Int × (Int × ByteArray)))) (r : Int) (H : delta_check_gr K base_1 l_2 = some r) : Spec Try.prog 30 0 [.c (.val (.int .i64 base_1)), .c (.imm (.slice (.pair (.int .i64) (.pair (.int .i64) .str))) l_2)] [] (.c (.val (.int .i64 r))) [] := by
  refine Spec_mk (fn := Try.f30) (c := (Try.f30.body).get!) Try.func30 (by kernel_rfl) rfl ?_
  intro C hN hn
  replace hN : C.N = 55 := hN
  unfold delta_check_gr at H
  refine V_run hN hn 4 0 [0, 1] [] ⟨[(0, .c (.val (.int .i64 base_1))), (1, .c (.imm (.slice (.pair (.int .i64) (.pair (.int .i64) .str))) l_2))], [], 0⟩ [] (by kernel_rfl) rfl rfl ap0 ?_
  obtain ⟨q_59, H_60, H_61⟩ := of_bind H
  refine V_cut (Y := Bool) (R := Bool) q_59 (fun y => y) (fun y => [(0, .c (.val (.int .i64 base_1))), (1, .c (.imm (.slice (.pair (.int .i64) (.pair (.int .i64) .str))) l_2)), (14, .c (.val (.bool y)))]) (fun y => []) ?_ ?_
  · skip
    rcases Bool.eq_false_or_eq_true ((decide (base_1 < (0 : Int)))) with b_4 | b_4
    · have H_63 := of_t H_60 b_4
      refine V_reg hN hn [] [(11, true)] calls_nil 0 [0, 1, 14] [] ⟨[(0, .c (.val (.int .i64 base_1))), (1, .c (.imm (.slice (.pair (.int .i64) (.pair (.int .i64) .str))) l_2)), (14, .c (.val (.bool true)))], [], 0⟩ [(decide (base_1 < (0 : Int))) = true] (by kernel_rfl) rfl rfl (ap1 b_4) (by kernel_rfl) (by kernel_rfl) ?_
      have H_65 := Option.some.inj (show some true = some q_59 from H_63); subst H_65
      refine VL_nil ?_
      exact QP_end true rfl [] hn (by kernel_rfl) (by kernel_rfl) rfl rfl rfl
    · have H_64 := of_f H_60 b_4
      refine V_reg hN hn [] [(11, false)] calls_nil 0 [0, 1, 14] [] ⟨[(0, .c (.val (.int .i64 base_1))), (1, .c (.imm (.slice (.pair (.int .i64) (.pair (.int .i64) .str))) l_2)), (14, .c (.val (.bool (decide (base_1 > (20000 : Int))))))], [], 0⟩ [(decide (base_1 < (0 : Int))) = false] (by kernel_rfl) rfl rfl (ap1 b_4) (by kernel_rfl) (by kernel_rfl) ?_
      have H_66 := Option.some.inj (show some (decide (base_1 > (20000 : Int))) = some q_59 from H_64); subst H_66
      refine VL_nil ?_
      exact QP_end (decide (base_1 > (20000 : Int))) rfl [] hn (by kernel_rfl) (by kernel_rfl) rfl rfl rfl
  · intro y_62 hy; subst hy
    skip
    skip
    refine VL_cond (y_62) (by kernel_rfl) ?_ ?_
    · intro b_8; have H_67 := of_t H_61 b_8
      refine V_run hN hn 2 0 [4] [] ⟨[(4, .c (.val (.int .i64 (10 : Int))))], [], 0⟩ [] (by kernel_rfl) rfl rfl ap0 ?_
      have H_69 := Option.some.inj (show some (10 : Int) = some r from H_67); subst H_69
      refine VL_ret ?_
      exact P_to [(4, .c (.val (.int .i64 (10 : Int))))] [] [] hn (by kernel_rfl) (by kernel_rfl) rfl rfl rfl (QF_retS (by kernel_rfl) (by kernel_rfl) rfl)
    · intro b_8; have H_68 := of_f H_61 b_8
      refine V_run hN hn 4 0 [0, 1, 15, 16, 17] [] ⟨[(0, .c (.val (.int .i64 base_1))), (1, .c (.imm (.slice (.pair (.int .i64) (.pair (.int .i64) .str))) l_2)), (15, .c (.imm (.slice (.pair (.int .i64) (.pair (.int .i64) .str))) l_2)), (16, .c (.val (.int .i64 (((List.length l_2) : Nat) : Int)))), (17, .c (.val (.int .i64 (0 : Int))))], [], 0⟩ [] (by kernel_rfl) rfl rfl ap0 ?_
      obtain ⟨q_70, H_71, H_72⟩ := of_bind H_68
      refine V_cut (Y := Unit) (R := (Int ⊕ Unit)) q_70 (fun y => (Sum.inr y)) (fun y => [(0, .c (.val (.int .i64 base_1))), (1, .c (.imm (.slice (.pair (.int .i64) (.pair (.int .i64) .str))) l_2))]) (fun y => []) ?_ ?_
      · skip
        refine VL_block ?_
        refine V_to [(0, .c (.val (.int .i64 base_1))), (1, .c (.imm (.slice (.pair (.int .i64) (.pair (.int .i64) .str))) l_2)), (15, .c (.imm (.slice (.pair (.int .i64) (.pair (.int .i64) .str))) l_2)), (16, .c (.val (.int .i64 (((List.length l_2) : Nat) : Int)))), (17, .c (.val (.int .i64 (0 : Int))))] [] [] hn (by kernel_rfl) (by kernel_rfl) rfl rfl rfl ?_
        refine VL_loop (X := Int) (fun x => [(0, .c (.val (.int .i64 base_1))), (1, .c (.imm (.slice (.pair (.int .i64) (.pair (.int .i64) .str))) l_2)), (15, .c (.imm (.slice (.pair (.int .i64) (.pair (.int .i64) .str))) l_2)), (16, .c (.val (.int .i64 (((List.length l_2) : Nat) : Int)))), (17, .c (.val (.int .i64 x)))]) (fun x => []) (fun k x => delta_check_gr.l0 K l_2 base_1 k x = some q_70) K (0 : Int) H_71 (fun _ h => no_none h) ?_
        intro k_12 t_11 H_74
        have H_75 : delta_check_gr.l0 K l_2 base_1 (k_12 + 1) t_11 = some q_70 := H_74
        rw [delta_check_gr.l0] at H_75
        refine V_run hN hn 3 0 [0, 1, 15, 16, 17, 18] [] ⟨[(0, .c (.val (.int .i64 base_1))), (1, .c (.imm (.slice (.pair (.int .i64) (.pair (.int .i64) .str))) l_2)), (15, .c (.imm (.slice (.pair (.int .i64) (.pair (.int .i64) .str))) l_2)), (16, .c (.val (.int .i64 (((List.length l_2) : Nat) : Int)))), (17, .c (.val (.int .i64 t_11))), (18, .c (.val (.bool (decide (t_11 < (((List.length l_2) : Nat) : Int))))))], [], 0⟩ [] (by kernel_rfl) rfl rfl ap0 ?_
        refine VL_cond ((decide (t_11 < (((List.length l_2) : Nat) : Int)))) (by kernel_rfl) ?_ ?_
        · intro b_14; have H_76 := of_t H_75 b_14
          refine V_run hN hn 2 0 [0, 1, 15, 16, 17, 18] [] ⟨[(0, .c (.val (.int .i64 base_1))), (1, .c (.imm (.slice (.pair (.int .i64) (.pair (.int .i64) .str))) l_2)), (15, .c (.imm (.slice (.pair (.int .i64) (.pair (.int .i64) .str))) l_2)), (16, .c (.val (.int .i64 (((List.length l_2) : Nat) : Int)))), (17, .c (.val (.int .i64 t_11))), (18, .c (.val (.bool (decide (t_11 < (((List.length l_2) : Nat) : Int))))))], [], 0⟩ [] (by kernel_rfl) rfl rfl ap0 ?_
          refine VL_block ?_
          obtain ⟨c_16, H_78⟩ := of_if H_76
          refine V_run hN hn 3 0 [0, 1, 6, 15, 16, 17] [0] ⟨[(0, .c (.val (.int .i64 base_1))), (1, .c (.imm (.slice (.pair (.int .i64) (.pair (.int .i64) .str))) l_2)), (6, .c (.h 0)), (15, .c (.imm (.slice (.pair (.int .i64) (.pair (.int .i64) .str))) l_2)), (16, .c (.val (.int .i64 (((List.length l_2) : Nat) : Int)))), (17, .c (.val (.int .i64 t_11)))], [(0, .box [.val (.int .i64 (List.getD l_2 (Int.toNat t_11) ((0 : Int), ((0 : Int), ByteArray.empty))).1), .val (.int .i64 (List.getD l_2 (Int.toNat t_11) ((0 : Int), ((0 : Int), ByteArray.empty))).2.1), .val (.string (List.getD l_2 (Int.toNat t_11) ((0 : Int), ((0 : Int), ByteArray.empty))).2.2)])], 1⟩ [0 ≤ t_11, t_11 < (((List.length l_2) : Nat) : Int)] (by kernel_rfl) rfl rfl (ap2 c_16.1 (ap1 c_16.2)) ?_
          obtain ⟨q_79, H_80, H_81⟩ := of_bind H_78
          refine V_cut (Y := Bool) (R := Bool) q_79 (fun y => y) (fun y => [(0, .c (.val (.int .i64 base_1))), (1, .c (.imm (.slice (.pair (.int .i64) (.pair (.int .i64) .str))) l_2)), (15, .c (.imm (.slice (.pair (.int .i64) (.pair (.int .i64) .str))) l_2)), (16, .c (.val (.int .i64 (((List.length l_2) : Nat) : Int)))), (17, .c (.val (.int .i64 t_11))), (36, .c (.val (.bool y)))]) (fun y => []) ?_ ?_
          · skip
            rcases Bool.eq_false_or_eq_true ((decide ((List.getD l_2 (Int.toNat t_11) ((0 : Int), ((0 : Int), ByteArray.empty))).1 < (0 : Int)))) with b_17 | b_17
            · have H_83 := of_t H_80 b_17
              refine V_reg hN hn [] [(24, true)] calls_nil 1 [0, 1, 15, 16, 17, 36] [] ⟨[(0, .c (.val (.int .i64 base_1))), (1, .c (.imm (.slice (.pair (.int .i64) (.pair (.int .i64) .str))) l_2)), (15, .c (.imm (.slice (.pair (.int .i64) (.pair (.int .i64) .str))) l_2)), (16, .c (.val (.int .i64 (((List.length l_2) : Nat) : Int)))), (17, .c (.val (.int .i64 t_11))), (36, .c (.val (.bool true)))], [], 1⟩ [(decide ((List.getD l_2 (Int.toNat t_11) ((0 : Int), ((0 : Int), ByteArray.empty))).1 < (0 : Int))) = true] (by kernel_rfl) rfl rfl (ap1 b_17) (by kernel_rfl) (by kernel_rfl) ?_
              have H_85 := Option.some.inj (show some true = some q_79 from H_83); subst H_85
              refine VL_nil ?_
              exact QP_end true rfl [] hn (by kernel_rfl) (by kernel_rfl) rfl rfl rfl
            · have H_84 := of_f H_80 b_17
              rcases Bool.eq_false_or_eq_true ((decide ((List.getD l_2 (Int.toNat t_11) ((0 : Int), ((0 : Int), ByteArray.empty))).1 > (List.getD l_2 (Int.toNat t_11) ((0 : Int), ((0 : Int), ByteArray.empty))).2.1))) with b_19 | b_19
              · have H_86 := of_t H_84 b_19
                refine V_reg hN hn [] [(24, false), (31, true)] calls_nil 1 [0, 1, 15, 16, 17, 36] [] ⟨[(0, .c (.val (.int .i64 base_1))), (1, .c (.imm (.slice (.pair (.int .i64) (.pair (.int .i64) .str))) l_2)), (15, .c (.imm (.slice (.pair (.int .i64) (.pair (.int .i64) .str))) l_2)), (16, .c (.val (.int .i64 (((List.length l_2) : Nat) : Int)))), (17, .c (.val (.int .i64 t_11))), (36, .c (.val (.bool true)))], [], 1⟩ [(decide ((List.getD l_2 (Int.toNat t_11) ((0 : Int), ((0 : Int), ByteArray.empty))).1 < (0 : Int))) = false, (decide ((List.getD l_2 (Int.toNat t_11) ((0 : Int), ((0 : Int), ByteArray.empty))).1 > (List.getD l_2 (Int.toNat t_11) ((0 : Int), ((0 : Int), ByteArray.empty))).2.1)) = true] (by kernel_rfl) rfl rfl (ap2 b_17 (ap1 b_19)) (by kernel_rfl) (by kernel_rfl) ?_
                have H_88 := Option.some.inj (show some true = some q_79 from H_86); subst H_88
                refine VL_nil ?_
                exact QP_end true rfl [] hn (by kernel_rfl) (by kernel_rfl) rfl rfl rfl
              · have H_87 := of_f H_84 b_19
                refine V_reg hN hn [] [(24, false), (31, false)] calls_nil 1 [0, 1, 15, 16, 17, 36] [] ⟨[(0, .c (.val (.int .i64 base_1))), (1, .c (.imm (.slice (.pair (.int .i64) (.pair (.int .i64) .str))) l_2)), (15, .c (.imm (.slice (.pair (.int .i64) (.pair (.int .i64) .str))) l_2)), (16, .c (.val (.int .i64 (((List.length l_2) : Nat) : Int)))), (17, .c (.val (.int .i64 t_11))), (36, .c (.val (.bool (decide ((List.getD l_2 (Int.toNat t_11) ((0 : Int), ((0 : Int), ByteArray.empty))).2.1 > base_1)))))], [], 1⟩ [(decide ((List.getD l_2 (Int.toNat t_11) ((0 : Int), ((0 : Int), ByteArray.empty))).1 < (0 : Int))) = false, (decide ((List.getD l_2 (Int.toNat t_11) ((0 : Int), ((0 : Int), ByteArray.empty))).1 > (List.getD l_2 (Int.toNat t_11) ((0 : Int), ((0 : Int), ByteArray.empty))).2.1)) = false] (by kernel_rfl) rfl rfl (ap2 b_17 (ap1 b_19)) (by kernel_rfl) (by kernel_rfl) ?_
                have H_89 := Option.some.inj (show some (decide ((List.getD l_2 (Int.toNat t_11) ((0 : Int), ((0 : Int), ByteArray.empty))).2.1 > base_1)) = some q_79 from H_87); subst H_89
                refine VL_nil ?_
                exact QP_end (decide ((List.getD l_2 (Int.toNat t_11) ((0 : Int), ((0 : Int), ByteArray.empty))).2.1 > base_1)) rfl [] hn (by kernel_rfl) (by kernel_rfl) rfl rfl rfl
          · intro y_82 hy; subst hy
            skip
            skip
            refine VL_cond (y_82) (by kernel_rfl) ?_ ?_
            · intro b_23; have H_90 := of_t H_81 b_23
              refine V_run hN hn 2 1 [4] [] ⟨[(4, .c (.val (.int .i64 (10 : Int))))], [], 1⟩ [] (by kernel_rfl) rfl rfl ap0 ?_
              have H_92 := Option.some.inj (show some (Sum.inl (10 : Int)) = some q_70 from H_90); subst H_92
              have H_93 := Option.some.inj (show some (10 : Int) = some r from H_72); subst H_93
              refine VL_ret ?_
              refine QB_ret ?_
              refine QL_ret ?_
              refine QB_ret ?_
              refine QP_ret ?_
              exact P_to [(4, .c (.val (.int .i64 (10 : Int))))] [] [] hn (by kernel_rfl) (by kernel_rfl) rfl rfl rfl (QF_retS (by kernel_rfl) (by kernel_rfl) rfl)
            · intro b_23; have H_91 := of_f H_81 b_23
              refine V_run hN hn 1 1 [0, 1, 15, 16, 17, 36] [] ⟨[(0, .c (.val (.int .i64 base_1))), (1, .c (.imm (.slice (.pair (.int .i64) (.pair (.int .i64) .str))) l_2)), (15, .c (.imm (.slice (.pair (.int .i64) (.pair (.int .i64) .str))) l_2)), (16, .c (.val (.int .i64 (((List.length l_2) : Nat) : Int)))), (17, .c (.val (.int .i64 t_11))), (36, .c (.val (.bool y_82)))], [], 1⟩ [] (by kernel_rfl) rfl rfl ap0 ?_
              refine VL_nil (QB_end ?_)
              refine V_run hN hn 1 1 [0, 1, 15, 16, 17] [] ⟨[(0, .c (.val (.int .i64 base_1))), (1, .c (.imm (.slice (.pair (.int .i64) (.pair (.int .i64) .str))) l_2)), (15, .c (.imm (.slice (.pair (.int .i64) (.pair (.int .i64) .str))) l_2)), (16, .c (.val (.int .i64 (((List.length l_2) : Nat) : Int)))), (17, .c (.val (.int .i64 (IntKind.wrap .i64 (t_11 + (1 : Int))))))], [], 1⟩ [] (by kernel_rfl) rfl rfl ap0 ?_
              refine VL_nil ?_
              exact V_roundEnd (IntKind.wrap .i64 (t_11 + (1 : Int))) H_91 [] hn (by kernel_rfl) (by kernel_rfl) rfl rfl rfl
        · intro b_14; have H_77 := of_f H_75 b_14
          refine VL_exit ?_
          refine QL_exit ?_
          refine QB_here ?_
          have H_94 := Option.some.inj (show some (Sum.inr ()) = some q_70 from H_77); subst H_94
          refine VL_nil ?_
          exact QP_end () rfl [] hn (by kernel_rfl) (by kernel_rfl) rfl rfl rfl
      · intro y_73 hy; subst hy
        skip
        refine V_run hN hn 2 0 [0, 1] [] ⟨[(0, .c (.val (.int .i64 base_1))), (1, .c (.imm (.slice (.pair (.int .i64) (.pair (.int .i64) .str))) l_2))], [], 0⟩ [] (by kernel_rfl) rfl rfl ap0 ?_
        obtain ⟨r_28, h_29, H_95⟩ := of_bind H_72
        refine V_reg hN hn [(1, ⟨40, 0, [.c (.imm (.slice (.pair (.int .i64) (.pair (.int .i64) .str))) l_2)], [], .c (.val (.bool r_28)), [], [], 0⟩)] [] (calls_cons (delta_Ordered_spec K l_2 r_28 h_29) (by kernel_rfl) calls_nil) 0 [0, 1, 40] [] ⟨[(0, .c (.val (.int .i64 base_1))), (1, .c (.imm (.slice (.pair (.int .i64) (.pair (.int .i64) .str))) l_2)), (40, .c (.val (.bool (!r_28))))], [], 0⟩ [] (by kernel_rfl) rfl rfl ap0 (by kernel_rfl) (by kernel_rfl) ?_
        refine VL_cond ((!r_28)) (by kernel_rfl) ?_ ?_
        · intro b_31; have H_96 := of_t H_95 b_31
          refine V_run hN hn 2 0 [4] [] ⟨[(4, .c (.val (.int .i64 (180 : Int))))], [], 0⟩ [] (by kernel_rfl) rfl rfl ap0 ?_
          have H_98 := Option.some.inj (show some (180 : Int) = some r from H_96); subst H_98
          refine VL_ret ?_
          exact P_to [(4, .c (.val (.int .i64 (180 : Int))))] [] [] hn (by kernel_rfl) (by kernel_rfl) rfl rfl rfl (QF_retS (by kernel_rfl) (by kernel_rfl) rfl)
        · intro b_31; have H_97 := of_f H_95 b_31
          refine V_run hN hn 4 0 [0, 1, 41, 42, 43] [] ⟨[(0, .c (.val (.int .i64 base_1))), (1, .c (.imm (.slice (.pair (.int .i64) (.pair (.int .i64) .str))) l_2)), (41, .c (.imm (.slice (.pair (.int .i64) (.pair (.int .i64) .str))) l_2)), (42, .c (.val (.int .i64 (((List.length l_2) : Nat) : Int)))), (43, .c (.val (.int .i64 (0 : Int))))], [], 0⟩ [] (by kernel_rfl) rfl rfl ap0 ?_
          obtain ⟨q_99, H_100, H_101⟩ := of_bind H_97
          refine V_cut (Y := Unit) (R := (Int ⊕ Unit)) q_99 (fun y => (Sum.inr y)) (fun y => [(0, .c (.val (.int .i64 base_1))), (1, .c (.imm (.slice (.pair (.int .i64) (.pair (.int .i64) .str))) l_2))]) (fun y => []) ?_ ?_
          · skip
            refine VL_block ?_
            refine V_to [(0, .c (.val (.int .i64 base_1))), (1, .c (.imm (.slice (.pair (.int .i64) (.pair (.int .i64) .str))) l_2)), (41, .c (.imm (.slice (.pair (.int .i64) (.pair (.int .i64) .str))) l_2)), (42, .c (.val (.int .i64 (((List.length l_2) : Nat) : Int)))), (43, .c (.val (.int .i64 (0 : Int))))] [] [] hn (by kernel_rfl) (by kernel_rfl) rfl rfl rfl ?_
            refine VL_loop (X := Int) (fun x => [(0, .c (.val (.int .i64 base_1))), (1, .c (.imm (.slice (.pair (.int .i64) (.pair (.int .i64) .str))) l_2)), (41, .c (.imm (.slice (.pair (.int .i64) (.pair (.int .i64) .str))) l_2)), (42, .c (.val (.int .i64 (((List.length l_2) : Nat) : Int)))), (43, .c (.val (.int .i64 x)))]) (fun x => []) (fun k x => delta_check_gr.l1 K l_2 k x = some q_99) K (0 : Int) H_100 (fun _ h => no_none h) ?_
            intro k_35 t_34 H_103
            have H_104 : delta_check_gr.l1 K l_2 (k_35 + 1) t_34 = some q_99 := H_103
            rw [delta_check_gr.l1] at H_104
            refine V_run hN hn 3 0 [0, 1, 41, 42, 43, 44] [] ⟨[(0, .c (.val (.int .i64 base_1))), (1, .c (.imm (.slice (.pair (.int .i64) (.pair (.int .i64) .str))) l_2)), (41, .c (.imm (.slice (.pair (.int .i64) (.pair (.int .i64) .str))) l_2)), (42, .c (.val (.int .i64 (((List.length l_2) : Nat) : Int)))), (43, .c (.val (.int .i64 t_34))), (44, .c (.val (.bool (decide (t_34 < (((List.length l_2) : Nat) : Int))))))], [], 0⟩ [] (by kernel_rfl) rfl rfl ap0 ?_
            refine VL_cond ((decide (t_34 < (((List.length l_2) : Nat) : Int)))) (by kernel_rfl) ?_ ?_
            · intro b_37; have H_105 := of_t H_104 b_37
              refine V_run hN hn 2 0 [0, 1, 41, 42, 43, 44] [] ⟨[(0, .c (.val (.int .i64 base_1))), (1, .c (.imm (.slice (.pair (.int .i64) (.pair (.int .i64) .str))) l_2)), (41, .c (.imm (.slice (.pair (.int .i64) (.pair (.int .i64) .str))) l_2)), (42, .c (.val (.int .i64 (((List.length l_2) : Nat) : Int)))), (43, .c (.val (.int .i64 t_34))), (44, .c (.val (.bool (decide (t_34 < (((List.length l_2) : Nat) : Int))))))], [], 0⟩ [] (by kernel_rfl) rfl rfl ap0 ?_
              refine VL_block ?_
              obtain ⟨c_39, H_107⟩ := of_if H_105
              refine V_run hN hn 3 0 [0, 1, 8, 41, 42, 43] [0] ⟨[(0, .c (.val (.int .i64 base_1))), (1, .c (.imm (.slice (.pair (.int .i64) (.pair (.int .i64) .str))) l_2)), (8, .c (.h 0)), (41, .c (.imm (.slice (.pair (.int .i64) (.pair (.int .i64) .str))) l_2)), (42, .c (.val (.int .i64 (((List.length l_2) : Nat) : Int)))), (43, .c (.val (.int .i64 t_34)))], [(0, .box [.val (.int .i64 (List.getD l_2 (Int.toNat t_34) ((0 : Int), ((0 : Int), ByteArray.empty))).1), .val (.int .i64 (List.getD l_2 (Int.toNat t_34) ((0 : Int), ((0 : Int), ByteArray.empty))).2.1), .val (.string (List.getD l_2 (Int.toNat t_34) ((0 : Int), ((0 : Int), ByteArray.empty))).2.2)])], 1⟩ [0 ≤ t_34, t_34 < (((List.length l_2) : Nat) : Int)] (by kernel_rfl) rfl rfl (ap2 c_39.1 (ap1 c_39.2)) ?_
              obtain ⟨r_40, h_41, H_108⟩ := of_bind H_107
              refine V_reg hN hn [(2, ⟨39, 0, [.c (.val (.string (List.getD l_2 (Int.toNat t_34) ((0 : Int), ((0 : Int), ByteArray.empty))).2.2))], [], .c (.val (.bool r_40)), [], [], 1⟩)] [] (calls_cons (utf_Valid_spec K (List.getD l_2 (Int.toNat t_34) ((0 : Int), ((0 : Int), ByteArray.empty))).2.2 r_40 h_41) (by kernel_rfl) calls_nil) 1 [0, 1, 41, 42, 43, 50] [] ⟨[(0, .c (.val (.int .i64 base_1))), (1, .c (.imm (.slice (.pair (.int .i64) (.pair (.int .i64) .str))) l_2)), (41, .c (.imm (.slice (.pair (.int .i64) (.pair (.int .i64) .str))) l_2)), (42, .c (.val (.int .i64 (((List.length l_2) : Nat) : Int)))), (43, .c (.val (.int .i64 t_34))), (50, .c (.val (.bool (!r_40))))], [], 1⟩ [] (by kernel_rfl) rfl rfl ap0 (by kernel_rfl) (by kernel_rfl) ?_
              refine VL_cond ((!r_40)) (by kernel_rfl) ?_ ?_
              · intro b_43; have H_109 := of_t H_108 b_43
                refine V_run hN hn 2 1 [4] [] ⟨[(4, .c (.val (.int .i64 (12 : Int))))], [], 1⟩ [] (by kernel_rfl) rfl rfl ap0 ?_
                have H_111 := Option.some.inj (show some (Sum.inl (12 : Int)) = some q_99 from H_109); subst H_111
                have H_112 := Option.some.inj (show some (12 : Int) = some r from H_101); subst H_112
                refine VL_ret ?_
                refine QB_ret ?_
                refine QL_ret ?_
                refine QB_ret ?_
                refine QP_ret ?_
                exact P_to [(4, .c (.val (.int .i64 (12 : Int))))] [] [] hn (by kernel_rfl) (by kernel_rfl) rfl rfl rfl (QF_retS (by kernel_rfl) (by kernel_rfl) rfl)
              · intro b_43; have H_110 := of_f H_108 b_43
                refine V_run hN hn 1 1 [0, 1, 41, 42, 43, 50] [] ⟨[(0, .c (.val (.int .i64 base_1))), (1, .c (.imm (.slice (.pair (.int .i64) (.pair (.int .i64) .str))) l_2)), (41, .c (.imm (.slice (.pair (.int .i64) (.pair (.int .i64) .str))) l_2)), (42, .c (.val (.int .i64 (((List.length l_2) : Nat) : Int)))), (43, .c (.val (.int .i64 t_34))), (50, .c (.val (.bool (!r_40))))], [], 1⟩ [] (by kernel_rfl) rfl rfl ap0 ?_
                refine VL_nil (QB_end ?_)
                refine V_run hN hn 1 1 [0, 1, 41, 42, 43] [] ⟨[(0, .c (.val (.int .i64 base_1))), (1, .c (.imm (.slice (.pair (.int .i64) (.pair (.int .i64) .str))) l_2)), (41, .c (.imm (.slice (.pair (.int .i64) (.pair (.int .i64) .str))) l_2)), (42, .c (.val (.int .i64 (((List.length l_2) : Nat) : Int)))), (43, .c (.val (.int .i64 (IntKind.wrap .i64 (t_34 + (1 : Int))))))], [], 1⟩ [] (by kernel_rfl) rfl rfl ap0 ?_
                refine VL_nil ?_
                exact V_roundEnd (IntKind.wrap .i64 (t_34 + (1 : Int))) H_110 [] hn (by kernel_rfl) (by kernel_rfl) rfl rfl rfl
            · intro b_37; have H_106 := of_f H_104 b_37
              refine VL_exit ?_
              refine QL_exit ?_
              refine QB_here ?_
              have H_113 := Option.some.inj (show some (Sum.inr ()) = some q_99 from H_106); subst H_113
              refine VL_nil ?_
              exact QP_end () rfl [] hn (by kernel_rfl) (by kernel_rfl) rfl rfl rfl
          · intro y_102 hy; subst hy
            skip
            refine V_run hN hn 1 0 [0, 1] [] ⟨[(0, .c (.val (.int .i64 base_1))), (1, .c (.imm (.slice (.pair (.int .i64) (.pair (.int .i64) .str))) l_2))], [], 0⟩ [] (by kernel_rfl) rfl rfl ap0 ?_
            obtain ⟨r_48, h_49, H_114⟩ := of_bind H_101
            refine V_reg hN hn [(2, ⟨41, 0, [.c (.val (.int .i64 base_1)), .c (.imm (.slice (.pair (.int .i64) (.pair (.int .i64) .str))) l_2)], [], .c (.val (.int .i64 r_48)), [], [], 0⟩)] [] (calls_cons (delta_long_spec K base_1 l_2 r_48 h_49) (by kernel_rfl) calls_nil) 0 [4] [] ⟨[(4, .c (.val (.int .i64 r_48)))], [], 0⟩ [] (by kernel_rfl) rfl rfl ap0 (by kernel_rfl) (by kernel_rfl) ?_
            have H_115 := Option.some.inj (show some r_48 = some r from H_114); subst H_115
            refine VL_ret ?_
            exact P_to [(4, .c (.val (.int .i64 r_48)))] [] [] hn (by kernel_rfl) (by kernel_rfl) rfl rfl rfl (QF_retS (by kernel_rfl) (by kernel_rfl) rfl)

theorem delta_Build_spec (K : Nat) (base_1 : Int) (l_2 : (List (Int × (Int × ByteArray)))) (r : (Int × (List (Int × (Int × ByteArray))) × Int)) (H : delta_Build_gr K base_1 l_2 = some r) : Spec Try.prog 22 0 [.c (.val (.int .i64 base_1)), .c (.imm (.slice (.pair (.int .i64) (.pair (.int .i64) .str))) l_2)] [] (.tup [(true, [.val (.int .i64 r.1), .imm (.slice (.pair (.int .i64) (.pair (.int .i64) .str))) r.2.1]), (false, [.val (.int .i64 r.2.2)])]) [] := by
  refine Spec_mk (fn := Try.f22) (c := (Try.f22.body).get!) Try.func22 (by kernel_rfl) rfl ?_
  intro C hN hn
  replace hN : C.N = 46 := hN
  unfold delta_Build_gr at H
  refine V_run hN hn 4 0 [0, 1, 4] [0] ⟨[(0, .c (.val (.int .i64 base_1))), (1, .c (.imm (.slice (.pair (.int .i64) (.pair (.int .i64) .str))) l_2)), (4, .c (.h 0))], [(0, .box [.val (.int .i64 (0 : Int)), .val (.slice none 0 0)])], 1⟩ [] (by kernel_rfl) rfl rfl ap0 ?_
  obtain ⟨r_4, h_5, H_60⟩ := of_bind H
  refine V_reg hN hn [(2, ⟨30, 0, [.c (.val (.int .i64 base_1)), .c (.imm (.slice (.pair (.int .i64) (.pair (.int .i64) .str))) l_2)], [], .c (.val (.int .i64 r_4)), [], [], 1⟩)] [] (calls_cons (delta_check_spec K base_1 l_2 r_4 h_5) (by kernel_rfl) calls_nil) 1 [0, 1, 4, 6] [0] ⟨[(0, .c (.val (.int .i64 base_1))), (1, .c (.imm (.slice (.pair (.int .i64) (.pair (.int .i64) .str))) l_2)), (4, .c (.h 0)), (6, .c (.val (.int .i64 r_4)))], [(0, .box [.val (.int .i64 (0 : Int)), .val (.slice none 0 0)])], 1⟩ [] (by kernel_rfl) rfl rfl ap0 (by kernel_rfl) (by kernel_rfl) ?_
  refine V_run hN hn 2 1 [0, 1, 4, 6, 15] [0] ⟨[(0, .c (.val (.int .i64 base_1))), (1, .c (.imm (.slice (.pair (.int .i64) (.pair (.int .i64) .str))) l_2)), (4, .c (.h 0)), (6, .c (.val (.int .i64 r_4))), (15, .c (.val (.bool (r_4 != (0 : Int)))))], [(0, .box [.val (.int .i64 (0 : Int)), .val (.slice none 0 0)])], 1⟩ [] (by kernel_rfl) rfl rfl ap0 ?_
  refine VL_cond ((r_4 != (0 : Int))) (by kernel_rfl) ?_ ?_
  · intro b_8; have H_61 := of_t H_60 b_8
    refine V_run hN hn 2 1 [4, 5] [0] ⟨[(4, .c (.h 0)), (5, .c (.val (.int .i64 r_4)))], [(0, .box [.val (.int .i64 (0 : Int)), .val (.slice none 0 0)])], 1⟩ [] (by kernel_rfl) rfl rfl ap0 ?_
    have H_63 := Option.some.inj (show some ((0 : Int), ([] : List (Int × (Int × ByteArray))), r_4) = some r from H_61); subst H_63
    refine VL_ret ?_
    refine P_ghost [.readCell 0 1 (.slice (.pair (.int .i64) (.pair (.int .i64) .str)))] 1 hn [4, 5] [0] ⟨[(4, .c (.h 0)), (5, .c (.val (.int .i64 r_4)))], [(0, .box [.val (.int .i64 (0 : Int)), .imm (.slice (.pair (.int .i64) (.pair (.int .i64) .str))) ([] : List (Int × (Int × ByteArray)))])], 1⟩ (by kernel_rfl) rfl rfl ?_
    exact P_to [(4, .c (.h 0)), (5, .c (.val (.int .i64 r_4)))] [(0, .box [.val (.int .i64 (0 : Int)), .imm (.slice (.pair (.int .i64) (.pair (.int .i64) .str))) ([] : List (Int × (Int × ByteArray)))])] [(0, 0)] hn (by kernel_rfl) (by kernel_rfl) rfl rfl rfl (QF_retS (by kernel_rfl) (by kernel_rfl) rfl)
  · intro b_8; have H_62 := of_f H_60 b_8
    refine V_run hN hn 2 1 [0, 1, 4, 6, 15] [0] ⟨[(0, .c (.val (.int .i64 base_1))), (1, .c (.imm (.slice (.pair (.int .i64) (.pair (.int .i64) .str))) l_2)), (4, .c (.h 0)), (6, .c (.val (.int .i64 r_4))), (15, .c (.val (.bool (r_4 != (0 : Int)))))], [(0, .box [.val (.int .i64 (0 : Int)), .val (.slice none 0 0)])], 1⟩ [] (by kernel_rfl) rfl rfl ap0 ?_
    obtain ⟨r_11, h_12, H_64⟩ := of_bind H_62
    refine V_reg hN hn [(1, ⟨31, 0, [.c (.val (.int .i64 base_1))], [], .c (.h 0), [(0, .box [.val (.int .i64 base_1), .val (.slice none 0 0)])], [(0, 1)], 2⟩)] [] (calls_cons (delta_NewMaker_spec K base_1 r_11 h_12) (by kernel_rfl) calls_nil) 1 [0, 1, 4, 7] [0, 1] ⟨[(0, .c (.val (.int .i64 base_1))), (1, .c (.imm (.slice (.pair (.int .i64) (.pair (.int .i64) .str))) l_2)), (4, .c (.h 0)), (7, .c (.h 1))], [(0, .box [.val (.int .i64 (0 : Int)), .val (.slice none 0 0)]), (1, .box [.val (.int .i64 base_1), .val (.slice none 0 0)])], 2⟩ [] (by kernel_rfl) rfl rfl ap0 (by kernel_rfl) (by kernel_rfl) ?_
    refine V_run hN hn 5 2 [0, 4, 7, 8, 20, 21, 22] [0, 1] ⟨[(0, .c (.val (.int .i64 base_1))), (4, .c (.h 0)), (7, .c (.h 1)), (8, .c (.val (.int .i64 (0 : Int)))), (20, .c (.imm (.slice (.pair (.int .i64) (.pair (.int .i64) .str))) l_2)), (21, .c (.val (.int .i64 (((List.length l_2) : Nat) : Int)))), (22, .c (.val (.int .i64 (0 : Int))))], [(0, .box [.val (.int .i64 (0 : Int)), .val (.slice none 0 0)]), (1, .box [.val (.int .i64 base_1), .val (.slice none 0 0)])], 2⟩ [] (by kernel_rfl) rfl rfl ap0 ?_
    obtain ⟨q_65, H_66, H_67⟩ := of_bind H_64
    refine V_cut (Y := ((List (Int × (Int × ByteArray))) × Int)) (R := ((List (Int × (Int × ByteArray))) × Int)) q_65 (fun y => y) (fun y => [(0, .c (.val (.int .i64 base_1))), (4, .c (.h 0)), (7, .c (.h 1)), (8, .c (.val (.int .i64 y.2)))]) (fun y => [(0, .box [.val (.int .i64 (0 : Int)), .val (.slice none 0 0)]), (1, .box [.val (.int .i64 base_1), .h 5]), (5, .row (.pair (.int .i64) (.pair (.int .i64) .str)) y.1)]) ?_ ?_
    · skip
      refine VL_block ?_
      refine V_ghost [.nilCell 1 1 (.pair (.int .i64) (.pair (.int .i64) .str))] 2 hn [0, 4, 7, 8, 20, 21, 22] [0, 1, 2] ⟨[(0, .c (.val (.int .i64 base_1))), (4, .c (.h 0)), (7, .c (.h 1)), (8, .c (.val (.int .i64 (0 : Int)))), (20, .c (.imm (.slice (.pair (.int .i64) (.pair (.int .i64) .str))) l_2)), (21, .c (.val (.int .i64 (((List.length l_2) : Nat) : Int)))), (22, .c (.val (.int .i64 (0 : Int))))], [(0, .box [.val (.int .i64 (0 : Int)), .val (.slice none 0 0)]), (1, .box [.val (.int .i64 base_1), .h 2]), (2, .row (.pair (.int .i64) (.pair (.int .i64) .str)) ([] : List (Int × (Int × ByteArray))))], 3⟩ (by kernel_rfl) rfl rfl ?_
      refine V_to [(0, .c (.val (.int .i64 base_1))), (4, .c (.h 0)), (7, .c (.h 1)), (8, .c (.val (.int .i64 (0 : Int)))), (20, .c (.imm (.slice (.pair (.int .i64) (.pair (.int .i64) .str))) l_2)), (21, .c (.val (.int .i64 (((List.length l_2) : Nat) : Int)))), (22, .c (.val (.int .i64 (0 : Int))))] [(0, .box [.val (.int .i64 (0 : Int)), .val (.slice none 0 0)]), (1, .box [.val (.int .i64 base_1), .h 5]), (5, .row (.pair (.int .i64) (.pair (.int .i64) .str)) ([] : List (Int × (Int × ByteArray))))] [(0, 0), (1, 1), (5, 2)] hn (by kernel_rfl) (by kernel_rfl) rfl rfl rfl ?_
      refine VL_loop (X := ((List (Int × (Int × ByteArray))) × Int × Int)) (fun x => [(0, .c (.val (.int .i64 base_1))), (4, .c (.h 0)), (7, .c (.h 1)), (8, .c (.val (.int .i64 x.2.1))), (20, .c (.imm (.slice (.pair (.int .i64) (.pair (.int .i64) .str))) l_2)), (21, .c (.val (.int .i64 (((List.length l_2) : Nat) : Int)))), (22, .c (.val (.int .i64 x.2.2)))]) (fun x => [(0, .box [.val (.int .i64 (0 : Int)), .val (.slice none 0 0)]), (1, .box [.val (.int .i64 base_1), .h 5]), (5, .row (.pair (.int .i64) (.pair (.int .i64) .str)) x.1)]) (fun k x => delta_Build_gr.l0 K l_2 base_1 k x.1 x.2.1 x.2.2 = some q_65) K (([] : List (Int × (Int × ByteArray))), (0 : Int), (0 : Int)) H_66 (fun _ h => no_none h) ?_
      intro k_32 x_32 H_69
      obtain ⟨x_31, at_15, t_16⟩ := x_32
      have H_70 : delta_Build_gr.l0 K l_2 base_1 (k_32 + 1) x_31 at_15 t_16 = some q_65 := H_69
      rw [delta_Build_gr.l0] at H_70
      refine V_run hN hn 3 6 [0, 4, 7, 8, 20, 21, 22, 23] [0, 1, 5] ⟨[(0, .c (.val (.int .i64 base_1))), (4, .c (.h 0)), (7, .c (.h 1)), (8, .c (.val (.int .i64 at_15))), (20, .c (.imm (.slice (.pair (.int .i64) (.pair (.int .i64) .str))) l_2)), (21, .c (.val (.int .i64 (((List.length l_2) : Nat) : Int)))), (22, .c (.val (.int .i64 t_16))), (23, .c (.val (.bool (decide (t_16 < (((List.length l_2) : Nat) : Int))))))], [(0, .box [.val (.int .i64 (0 : Int)), .val (.slice none 0 0)]), (1, .box [.val (.int .i64 base_1), .h 5]), (5, .row (.pair (.int .i64) (.pair (.int .i64) .str)) x_31)], 6⟩ [] (by kernel_rfl) rfl rfl ap0 ?_
      refine VL_cond ((decide (t_16 < (((List.length l_2) : Nat) : Int)))) (by kernel_rfl) ?_ ?_
      · intro b_34; have H_71 := of_t H_70 b_34
        refine V_run hN hn 2 6 [0, 4, 7, 8, 20, 21, 22, 23] [0, 1, 5] ⟨[(0, .c (.val (.int .i64 base_1))), (4, .c (.h 0)), (7, .c (.h 1)), (8, .c (.val (.int .i64 at_15))), (20, .c (.imm (.slice (.pair (.int .i64) (.pair (.int .i64) .str))) l_2)), (21, .c (.val (.int .i64 (((List.length l_2) : Nat) : Int)))), (22, .c (.val (.int .i64 t_16))), (23, .c (.val (.bool (decide (t_16 < (((List.length l_2) : Nat) : Int))))))], [(0, .box [.val (.int .i64 (0 : Int)), .val (.slice none 0 0)]), (1, .box [.val (.int .i64 base_1), .h 5]), (5, .row (.pair (.int .i64) (.pair (.int .i64) .str)) x_31)], 6⟩ [] (by kernel_rfl) rfl rfl ap0 ?_
        refine VL_block ?_
        obtain ⟨c_36, H_73⟩ := of_if H_71
        refine V_run hN hn 3 6 [0, 4, 7, 8, 10, 20, 21, 22] [0, 1, 5, 6] ⟨[(0, .c (.val (.int .i64 base_1))), (4, .c (.h 0)), (7, .c (.h 1)), (8, .c (.val (.int .i64 at_15))), (10, .c (.h 6)), (20, .c (.imm (.slice (.pair (.int .i64) (.pair (.int .i64) .str))) l_2)), (21, .c (.val (.int .i64 (((List.length l_2) : Nat) : Int)))), (22, .c (.val (.int .i64 t_16)))], [(0, .box [.val (.int .i64 (0 : Int)), .val (.slice none 0 0)]), (1, .box [.val (.int .i64 base_1), .h 5]), (5, .row (.pair (.int .i64) (.pair (.int .i64) .str)) x_31), (6, .box [.val (.int .i64 (List.getD l_2 (Int.toNat t_16) ((0 : Int), ((0 : Int), ByteArray.empty))).1), .val (.int .i64 (List.getD l_2 (Int.toNat t_16) ((0 : Int), ((0 : Int), ByteArray.empty))).2.1), .val (.string (List.getD l_2 (Int.toNat t_16) ((0 : Int), ((0 : Int), ByteArray.empty))).2.2)])], 7⟩ [0 ≤ t_16, t_16 < (((List.length l_2) : Nat) : Int)] (by kernel_rfl) rfl rfl (ap2 c_36.1 (ap1 c_36.2)) ?_
        obtain ⟨r_37, h_38, H_74⟩ := of_bind H_73
        refine V_reg hN hn [(4, ⟨32, 2, [.c (.h 0), .c (.val (.int .i64 at_15)), .c (.val (.int .i64 (List.getD l_2 (Int.toNat t_16) ((0 : Int), ((0 : Int), ByteArray.empty))).1))], [(0, .box [.val (.int .i64 base_1), .h 1]), (1, .row (.pair (.int .i64) (.pair (.int .i64) .str)) x_31)], .tup [], [(0, .box [.val (.int .i64 base_1), .h 4]), (4, .row (.pair (.int .i64) (.pair (.int .i64) .str)) r_37)], [(0, 1), (1, 5), (4, 7)], 8⟩)] [] (calls_cons (delta_Maker_Copy_bgg_11dec_spec K base_1 x_31 at_15 (List.getD l_2 (Int.toNat t_16) ((0 : Int), ((0 : Int), ByteArray.empty))).1 r_37 h_38) (by kernel_rfl) calls_nil) 7 [0, 4, 7, 10, 20, 21, 22] [0, 1, 6, 7] ⟨[(0, .c (.val (.int .i64 base_1))), (4, .c (.h 0)), (7, .c (.h 1)), (10, .c (.h 6)), (20, .c (.imm (.slice (.pair (.int .i64) (.pair (.int .i64) .str))) l_2)), (21, .c (.val (.int .i64 (((List.length l_2) : Nat) : Int)))), (22, .c (.val (.int .i64 t_16)))], [(0, .box [.val (.int .i64 (0 : Int)), .val (.slice none 0 0)]), (1, .box [.val (.int .i64 base_1), .h 7]), (6, .box [.val (.int .i64 (List.getD l_2 (Int.toNat t_16) ((0 : Int), ((0 : Int), ByteArray.empty))).1), .val (.int .i64 (List.getD l_2 (Int.toNat t_16) ((0 : Int), ((0 : Int), ByteArray.empty))).2.1), .val (.string (List.getD l_2 (Int.toNat t_16) ((0 : Int), ((0 : Int), ByteArray.empty))).2.2)]), (7, .row (.pair (.int .i64) (.pair (.int .i64) .str)) r_37)], 8⟩ [] (by kernel_rfl) rfl rfl ap0 (by kernel_rfl) (by kernel_rfl) ?_
        refine V_run hN hn 1 8 [0, 4, 7, 10, 20, 21, 22] [0, 1, 6, 7] ⟨[(0, .c (.val (.int .i64 base_1))), (4, .c (.h 0)), (7, .c (.h 1)), (10, .c (.h 6)), (20, .c (.imm (.slice (.pair (.int .i64) (.pair (.int .i64) .str))) l_2)), (21, .c (.val (.int .i64 (((List.length l_2) : Nat) : Int)))), (22, .c (.val (.int .i64 t_16)))], [(0, .box [.val (.int .i64 (0 : Int)), .val (.slice none 0 0)]), (1, .box [.val (.int .i64 base_1), .h 7]), (6, .box [.val (.int .i64 (List.getD l_2 (Int.toNat t_16) ((0 : Int), ((0 : Int), ByteArray.empty))).1), .val (.int .i64 (List.getD l_2 (Int.toNat t_16) ((0 : Int), ((0 : Int), ByteArray.empty))).2.1), .val (.string (List.getD l_2 (Int.toNat t_16) ((0 : Int), ((0 : Int), ByteArray.empty))).2.2)]), (7, .row (.pair (.int .i64) (.pair (.int .i64) .str)) r_37)], 8⟩ [] (by kernel_rfl) rfl rfl ap0 ?_
        obtain ⟨r_41, h_42, H_75⟩ := of_bind H_74
        refine V_reg hN hn [(3, ⟨33, 2, [.c (.h 0), .c (.val (.string (List.getD l_2 (Int.toNat t_16) ((0 : Int), ((0 : Int), ByteArray.empty))).2.2))], [(0, .box [.val (.int .i64 base_1), .h 1]), (1, .row (.pair (.int .i64) (.pair (.int .i64) .str)) r_37)], .tup [], [(0, .box [.val (.int .i64 base_1), .h 4]), (4, .row (.pair (.int .i64) (.pair (.int .i64) .str)) r_41)], [(0, 1), (1, 7), (4, 8)], 9⟩)] [] (calls_cons (delta_Maker_Put_bg_92925_spec K base_1 r_37 (List.getD l_2 (Int.toNat t_16) ((0 : Int), ((0 : Int), ByteArray.empty))).2.2 r_41 h_42) (by kernel_rfl) calls_nil) 8 [0, 4, 7, 10, 20, 21, 22] [0, 1, 6, 8] ⟨[(0, .c (.val (.int .i64 base_1))), (4, .c (.h 0)), (7, .c (.h 1)), (10, .c (.h 6)), (20, .c (.imm (.slice (.pair (.int .i64) (.pair (.int .i64) .str))) l_2)), (21, .c (.val (.int .i64 (((List.length l_2) : Nat) : Int)))), (22, .c (.val (.int .i64 t_16)))], [(0, .box [.val (.int .i64 (0 : Int)), .val (.slice none 0 0)]), (1, .box [.val (.int .i64 base_1), .h 8]), (6, .box [.val (.int .i64 (List.getD l_2 (Int.toNat t_16) ((0 : Int), ((0 : Int), ByteArray.empty))).1), .val (.int .i64 (List.getD l_2 (Int.toNat t_16) ((0 : Int), ((0 : Int), ByteArray.empty))).2.1), .val (.string (List.getD l_2 (Int.toNat t_16) ((0 : Int), ((0 : Int), ByteArray.empty))).2.2)]), (8, .row (.pair (.int .i64) (.pair (.int .i64) .str)) r_41)], 9⟩ [] (by kernel_rfl) rfl rfl ap0 (by kernel_rfl) (by kernel_rfl) ?_
        refine V_run hN hn 1 9 [0, 4, 7, 8, 20, 21, 22] [0, 1, 8] ⟨[(0, .c (.val (.int .i64 base_1))), (4, .c (.h 0)), (7, .c (.h 1)), (8, .c (.val (.int .i64 (List.getD l_2 (Int.toNat t_16) ((0 : Int), ((0 : Int), ByteArray.empty))).2.1))), (20, .c (.imm (.slice (.pair (.int .i64) (.pair (.int .i64) .str))) l_2)), (21, .c (.val (.int .i64 (((List.length l_2) : Nat) : Int)))), (22, .c (.val (.int .i64 t_16)))], [(0, .box [.val (.int .i64 (0 : Int)), .val (.slice none 0 0)]), (1, .box [.val (.int .i64 base_1), .h 8]), (8, .row (.pair (.int .i64) (.pair (.int .i64) .str)) r_41)], 9⟩ [] (by kernel_rfl) rfl rfl ap0 ?_
        refine VL_nil (QB_end ?_)
        refine V_run hN hn 1 9 [0, 4, 7, 8, 20, 21, 22] [0, 1, 8] ⟨[(0, .c (.val (.int .i64 base_1))), (4, .c (.h 0)), (7, .c (.h 1)), (8, .c (.val (.int .i64 (List.getD l_2 (Int.toNat t_16) ((0 : Int), ((0 : Int), ByteArray.empty))).2.1))), (20, .c (.imm (.slice (.pair (.int .i64) (.pair (.int .i64) .str))) l_2)), (21, .c (.val (.int .i64 (((List.length l_2) : Nat) : Int)))), (22, .c (.val (.int .i64 (IntKind.wrap .i64 (t_16 + (1 : Int))))))], [(0, .box [.val (.int .i64 (0 : Int)), .val (.slice none 0 0)]), (1, .box [.val (.int .i64 base_1), .h 8]), (8, .row (.pair (.int .i64) (.pair (.int .i64) .str)) r_41)], 9⟩ [] (by kernel_rfl) rfl rfl ap0 ?_
        refine VL_nil ?_
        exact V_roundEnd (r_41, (List.getD l_2 (Int.toNat t_16) ((0 : Int), ((0 : Int), ByteArray.empty))).2.1, (IntKind.wrap .i64 (t_16 + (1 : Int)))) H_75 [(0, 0), (1, 1), (5, 8)] hn (by kernel_rfl) (by kernel_rfl) rfl rfl rfl
      · intro b_34; have H_72 := of_f H_70 b_34
        refine VL_exit ?_
        refine QL_exit ?_
        refine QB_here ?_
        have H_76 := Option.some.inj (show some (x_31, at_15) = some q_65 from H_72); subst H_76
        refine VL_nil ?_
        exact QP_end (x_31, at_15) rfl [(0, 0), (1, 1), (5, 5)] hn (by kernel_rfl) (by kernel_rfl) rfl rfl rfl
    · intro y_68 hy; subst hy
      obtain ⟨x_46, at_47⟩ := y_68
      refine V_run hN hn 1 6 [0, 4, 7, 8] [0, 1, 5] ⟨[(0, .c (.val (.int .i64 base_1))), (4, .c (.h 0)), (7, .c (.h 1)), (8, .c (.val (.int .i64 at_47)))], [(0, .box [.val (.int .i64 (0 : Int)), .val (.slice none 0 0)]), (1, .box [.val (.int .i64 base_1), .h 5]), (5, .row (.pair (.int .i64) (.pair (.int .i64) .str)) x_46)], 6⟩ [] (by kernel_rfl) rfl rfl ap0 ?_
      obtain ⟨r_49, h_50, H_77⟩ := of_bind H_67
      refine V_reg hN hn [(3, ⟨32, 2, [.c (.h 0), .c (.val (.int .i64 at_47)), .c (.val (.int .i64 base_1))], [(0, .box [.val (.int .i64 base_1), .h 1]), (1, .row (.pair (.int .i64) (.pair (.int .i64) .str)) x_46)], .tup [], [(0, .box [.val (.int .i64 base_1), .h 4]), (4, .row (.pair (.int .i64) (.pair (.int .i64) .str)) r_49)], [(0, 1), (1, 5), (4, 6)], 7⟩)] [] (calls_cons (delta_Maker_Copy_bgg_11dec_spec K base_1 x_46 at_47 base_1 r_49 h_50) (by kernel_rfl) calls_nil) 6 [4, 7] [0, 1, 6] ⟨[(4, .c (.h 0)), (7, .c (.h 1))], [(0, .box [.val (.int .i64 (0 : Int)), .val (.slice none 0 0)]), (1, .box [.val (.int .i64 base_1), .h 6]), (6, .row (.pair (.int .i64) (.pair (.int .i64) .str)) r_49)], 7⟩ [] (by kernel_rfl) rfl rfl ap0 (by kernel_rfl) (by kernel_rfl) ?_
      refine V_run hN hn 1 7 [4, 7] [0, 1, 6] ⟨[(4, .c (.h 0)), (7, .c (.h 1))], [(0, .box [.val (.int .i64 (0 : Int)), .val (.slice none 0 0)]), (1, .box [.val (.int .i64 base_1), .h 6]), (6, .row (.pair (.int .i64) (.pair (.int .i64) .str)) r_49)], 7⟩ [] (by kernel_rfl) rfl rfl ap0 ?_
      refine V_ghost [.shut 6] 7 hn [4, 7] [0, 1] ⟨[(4, .c (.h 0)), (7, .c (.h 1))], [(0, .box [.val (.int .i64 (0 : Int)), .val (.slice none 0 0)]), (1, .box [.val (.int .i64 base_1), .imm (.slice (.pair (.int .i64) (.pair (.int .i64) .str))) r_49])], 7⟩ (by kernel_rfl) rfl rfl ?_
      obtain ⟨r_53, h_54, H_78⟩ := of_bind H_77
      refine V_reg hN hn [(1, ⟨34, 1, [.c (.h 0)], [(0, .box [.val (.int .i64 base_1), .imm (.slice (.pair (.int .i64) (.pair (.int .i64) .str))) r_49])], .tup [(true, [.val (.int .i64 r_53.1), .imm (.slice (.pair (.int .i64) (.pair (.int .i64) .str))) r_53.2.1]), (false, [.val (.int .i64 r_53.2.2)])], [(0, .box [.val (.int .i64 base_1), .imm (.slice (.pair (.int .i64) (.pair (.int .i64) .str))) r_49])], [(0, 1)], 7⟩)] [] (calls_cons (delta_Maker_Delta_b_ee1c6_spec K base_1 r_49 r_53 h_54) (by kernel_rfl) calls_nil) 7 [4, 5] [0] ⟨[(4, .c (.h 0)), (5, .c (.val (.int .i64 r_53.2.2)))], [(0, .box [.val (.int .i64 r_53.1), .imm (.slice (.pair (.int .i64) (.pair (.int .i64) .str))) r_53.2.1])], 7⟩ [] (by kernel_rfl) rfl rfl ap0 (by kernel_rfl) (by kernel_rfl) ?_
      have H_79 := Option.some.inj (show some (r_53.1, r_53.2.1, r_53.2.2) = some r from H_78); subst H_79
      refine VL_ret ?_
      exact P_to [(4, .c (.h 0)), (5, .c (.val (.int .i64 r_53.2.2)))] [(0, .box [.val (.int .i64 r_53.1), .imm (.slice (.pair (.int .i64) (.pair (.int .i64) .str))) r_53.2.1])] [(0, 0)] hn (by kernel_rfl) (by kernel_rfl) rfl rfl rfl (QF_retS (by kernel_rfl) (by kernel_rfl) rfl)

theorem palinoderef11_Ordered_spec (K : Nat) (l_1 : (List (Int × (Int × ByteArray)))) (r : Bool) (H : palinoderef11_Ordered K l_1 = some r) : Spec Try.prog 35 0 [.c (.imm (.slice (.pair (.int .i64) (.pair (.int .i64) .str))) l_1)] [] (.c (.val (.bool r))) [] := by
  refine Spec_mk (fn := Try.f35) (c := (Try.f35.body).get!) Try.func35 (by kernel_rfl) rfl ?_
  intro C hN hn
  replace hN : C.N = 40 := hN
  unfold palinoderef11_Ordered at H
  refine V_run hN hn 5 0 [0, 3] [] ⟨[(0, .c (.imm (.slice (.pair (.int .i64) (.pair (.int .i64) .str))) l_1)), (3, .c (.val (.int .i64 (1 : Int))))], [], 0⟩ [] (by kernel_rfl) rfl rfl ap0 ?_
  refine VL_block ?_
  refine V_to [(0, .c (.imm (.slice (.pair (.int .i64) (.pair (.int .i64) .str))) l_1)), (3, .c (.val (.int .i64 (1 : Int))))] [] [] hn (by kernel_rfl) (by kernel_rfl) rfl rfl rfl ?_
  refine VL_loop (X := Int) (fun x => [(0, .c (.imm (.slice (.pair (.int .i64) (.pair (.int .i64) .str))) l_1)), (3, .c (.val (.int .i64 x)))]) (fun x => []) (fun k x => palinoderef11_Ordered.l0 K l_1 k x = some r) K (1 : Int) H (fun _ h => no_none h) ?_
  intro k_4 i_3 H_25
  have H_26 : palinoderef11_Ordered.l0 K l_1 (k_4 + 1) i_3 = some r := H_25
  rw [palinoderef11_Ordered.l0] at H_26
  refine V_run hN hn 3 0 [0, 3, 9] [] ⟨[(0, .c (.imm (.slice (.pair (.int .i64) (.pair (.int .i64) .str))) l_1)), (3, .c (.val (.int .i64 i_3))), (9, .c (.val (.bool (decide (i_3 < (((List.length l_1) : Nat) : Int))))))], [], 0⟩ [] (by kernel_rfl) rfl rfl ap0 ?_
  refine VL_cond ((decide (i_3 < (((List.length l_1) : Nat) : Int)))) (by kernel_rfl) ?_ ?_
  · intro b_6; have H_27 := of_t H_26 b_6
    refine V_run hN hn 2 0 [0, 3, 9] [] ⟨[(0, .c (.imm (.slice (.pair (.int .i64) (.pair (.int .i64) .str))) l_1)), (3, .c (.val (.int .i64 i_3))), (9, .c (.val (.bool (decide (i_3 < (((List.length l_1) : Nat) : Int))))))], [], 0⟩ [] (by kernel_rfl) rfl rfl ap0 ?_
    refine VL_block ?_
    refine V_run hN hn 1 0 [0, 3, 9] [] ⟨[(0, .c (.imm (.slice (.pair (.int .i64) (.pair (.int .i64) .str))) l_1)), (3, .c (.val (.int .i64 i_3))), (9, .c (.val (.bool (decide (i_3 < (((List.length l_1) : Nat) : Int))))))], [], 0⟩ [] (by kernel_rfl) rfl rfl ap0 ?_
    obtain ⟨c_9, H_29⟩ := of_if H_27
    refine V_draw hN hn (by kernel_rfl) [] [] calls_nil 0 [0, 3, 4, 5] [0, 1] ⟨[(0, .c (.imm (.slice (.pair (.int .i64) (.pair (.int .i64) .str))) l_1)), (3, .c (.val (.int .i64 i_3))), (4, .c (.h 0)), (5, .c (.h 1))], [(0, .box [.val (.int .i64 (List.getD l_1 (Int.toNat (IntKind.wrap .i64 (i_3 - (1 : Int)))) ((0 : Int), ((0 : Int), ByteArray.empty))).1), .val (.int .i64 (List.getD l_1 (Int.toNat (IntKind.wrap .i64 (i_3 - (1 : Int)))) ((0 : Int), ((0 : Int), ByteArray.empty))).2.1), .val (.string (List.getD l_1 (Int.toNat (IntKind.wrap .i64 (i_3 - (1 : Int)))) ((0 : Int), ((0 : Int), ByteArray.empty))).2.2)]), (1, .box [.val (.int .i64 (List.getD l_1 (Int.toNat i_3) ((0 : Int), ((0 : Int), ByteArray.empty))).1), .val (.int .i64 (List.getD l_1 (Int.toNat i_3) ((0 : Int), ((0 : Int), ByteArray.empty))).2.1), .val (.string (List.getD l_1 (Int.toNat i_3) ((0 : Int), ((0 : Int), ByteArray.empty))).2.2)])], 2⟩ [0 ≤ (IntKind.wrap .i64 (i_3 - (1 : Int))), (IntKind.wrap .i64 (i_3 - (1 : Int))) < (((List.length l_1) : Nat) : Int), 0 ≤ (IntKind.wrap .i64 (i_3 - (1 : Int))), (IntKind.wrap .i64 (i_3 - (1 : Int))) < (((List.length l_1) : Nat) : Int), 0 ≤ (IntKind.wrap .i64 (i_3 - (1 : Int))), (IntKind.wrap .i64 (i_3 - (1 : Int))) < (((List.length l_1) : Nat) : Int), 0 ≤ (IntKind.wrap .i64 (i_3 - (1 : Int))), (IntKind.wrap .i64 (i_3 - (1 : Int))) < (((List.length l_1) : Nat) : Int), 0 ≤ i_3, i_3 < (((List.length l_1) : Nat) : Int), 0 ≤ i_3, i_3 < (((List.length l_1) : Nat) : Int), 0 ≤ i_3, i_3 < (((List.length l_1) : Nat) : Int), 0 ≤ i_3, i_3 < (((List.length l_1) : Nat) : Int), 0 ≤ i_3, i_3 < (((List.length l_1) : Nat) : Int)] (by kernel_rfl) rfl rfl (ap2 c_9.1 (ap2 c_9.2.1 (ap2 c_9.1 (ap2 c_9.2.1 (ap2 c_9.1 (ap2 c_9.2.1 (ap2 c_9.1 (ap2 c_9.2.1 (ap2 c_9.2.2.1 (ap2 c_9.2.2.2 (ap2 c_9.2.2.1 (ap2 c_9.2.2.2 (ap2 c_9.2.2.1 (ap2 c_9.2.2.2 (ap2 c_9.2.2.1 (ap2 c_9.2.2.2 (ap2 c_9.2.2.1 (ap1 c_9.2.2.2)))))))))))))))))) (by kernel_rfl) (by kernel_rfl) ?_
    refine V_run hN hn 1 2 [0, 3, 4, 5] [0, 1] ⟨[(0, .c (.imm (.slice (.pair (.int .i64) (.pair (.int .i64) .str))) l_1)), (3, .c (.val (.int .i64 i_3))), (4, .c (.h 0)), (5, .c (.h 1))], [(0, .box [.val (.int .i64 (List.getD l_1 (Int.toNat (IntKind.wrap .i64 (i_3 - (1 : Int)))) ((0 : Int), ((0 : Int), ByteArray.empty))).1), .val (.int .i64 (List.getD l_1 (Int.toNat (IntKind.wrap .i64 (i_3 - (1 : Int)))) ((0 : Int), ((0 : Int), ByteArray.empty))).2.1), .val (.string (List.getD l_1 (Int.toNat (IntKind.wrap .i64 (i_3 - (1 : Int)))) ((0 : Int), ((0 : Int), ByteArray.empty))).2.2)]), (1, .box [.val (.int .i64 (List.getD l_1 (Int.toNat i_3) ((0 : Int), ((0 : Int), ByteArray.empty))).1), .val (.int .i64 (List.getD l_1 (Int.toNat i_3) ((0 : Int), ((0 : Int), ByteArray.empty))).2.1), .val (.string (List.getD l_1 (Int.toNat i_3) ((0 : Int), ((0 : Int), ByteArray.empty))).2.2)])], 2⟩ [] (by kernel_rfl) rfl rfl ap0 ?_
    obtain ⟨q_30, H_31, H_32⟩ := of_bind H_29
    refine V_cut (Y := Bool) (R := Bool) q_30 (fun y => y) (fun y => [(0, .c (.imm (.slice (.pair (.int .i64) (.pair (.int .i64) .str))) l_1)), (3, .c (.val (.int .i64 i_3))), (39, .c (.val (.bool y)))]) (fun y => []) ?_ ?_
    · skip
      rcases Bool.eq_false_or_eq_true ((decide ((List.getD l_1 (Int.toNat i_3) ((0 : Int), ((0 : Int), ByteArray.empty))).1 < (List.getD l_1 (Int.toNat (IntKind.wrap .i64 (i_3 - (1 : Int)))) ((0 : Int), ((0 : Int), ByteArray.empty))).2.1))) with b_11 | b_11
      · have H_34 := of_t H_31 b_11
        refine V_reg hN hn [] [(26, true)] calls_nil 2 [0, 3, 39] [] ⟨[(0, .c (.imm (.slice (.pair (.int .i64) (.pair (.int .i64) .str))) l_1)), (3, .c (.val (.int .i64 i_3))), (39, .c (.val (.bool true)))], [], 2⟩ [(decide ((List.getD l_1 (Int.toNat i_3) ((0 : Int), ((0 : Int), ByteArray.empty))).1 < (List.getD l_1 (Int.toNat (IntKind.wrap .i64 (i_3 - (1 : Int)))) ((0 : Int), ((0 : Int), ByteArray.empty))).2.1)) = true] (by kernel_rfl) rfl rfl (ap1 b_11) (by kernel_rfl) (by kernel_rfl) ?_
        have H_36 := Option.some.inj (show some true = some q_30 from H_34); subst H_36
        refine VL_nil ?_
        exact QP_end true rfl [] hn (by kernel_rfl) (by kernel_rfl) rfl rfl rfl
      · have H_35 := of_f H_31 b_11
        rcases Bool.eq_false_or_eq_true (((List.getD l_1 (Int.toNat i_3) ((0 : Int), ((0 : Int), ByteArray.empty))).1 == (List.getD l_1 (Int.toNat (IntKind.wrap .i64 (i_3 - (1 : Int)))) ((0 : Int), ((0 : Int), ByteArray.empty))).1)) with b_13 | b_13
        · have H_37 := of_t H_35 b_13
          refine V_reg hN hn [] [(26, false), (32, true)] calls_nil 2 [0, 3, 39] [] ⟨[(0, .c (.imm (.slice (.pair (.int .i64) (.pair (.int .i64) .str))) l_1)), (3, .c (.val (.int .i64 i_3))), (39, .c (.val (.bool ((List.getD l_1 (Int.toNat (IntKind.wrap .i64 (i_3 - (1 : Int)))) ((0 : Int), ((0 : Int), ByteArray.empty))).1 == (List.getD l_1 (Int.toNat (IntKind.wrap .i64 (i_3 - (1 : Int)))) ((0 : Int), ((0 : Int), ByteArray.empty))).2.1))))], [], 2⟩ [(decide ((List.getD l_1 (Int.toNat i_3) ((0 : Int), ((0 : Int), ByteArray.empty))).1 < (List.getD l_1 (Int.toNat (IntKind.wrap .i64 (i_3 - (1 : Int)))) ((0 : Int), ((0 : Int), ByteArray.empty))).2.1)) = false, ((List.getD l_1 (Int.toNat i_3) ((0 : Int), ((0 : Int), ByteArray.empty))).1 == (List.getD l_1 (Int.toNat (IntKind.wrap .i64 (i_3 - (1 : Int)))) ((0 : Int), ((0 : Int), ByteArray.empty))).1) = true] (by kernel_rfl) rfl rfl (ap2 b_11 (ap1 b_13)) (by kernel_rfl) (by kernel_rfl) ?_
          have H_39 := Option.some.inj (show some ((List.getD l_1 (Int.toNat (IntKind.wrap .i64 (i_3 - (1 : Int)))) ((0 : Int), ((0 : Int), ByteArray.empty))).1 == (List.getD l_1 (Int.toNat (IntKind.wrap .i64 (i_3 - (1 : Int)))) ((0 : Int), ((0 : Int), ByteArray.empty))).2.1) = some q_30 from H_37); subst H_39
          refine VL_nil ?_
          exact QP_end ((List.getD l_1 (Int.toNat (IntKind.wrap .i64 (i_3 - (1 : Int)))) ((0 : Int), ((0 : Int), ByteArray.empty))).1 == (List.getD l_1 (Int.toNat (IntKind.wrap .i64 (i_3 - (1 : Int)))) ((0 : Int), ((0 : Int), ByteArray.empty))).2.1) rfl [] hn (by kernel_rfl) (by kernel_rfl) rfl rfl rfl
        · have H_38 := of_f H_35 b_13
          refine V_reg hN hn [] [(26, false), (32, false)] calls_nil 2 [0, 3, 39] [] ⟨[(0, .c (.imm (.slice (.pair (.int .i64) (.pair (.int .i64) .str))) l_1)), (3, .c (.val (.int .i64 i_3))), (39, .c (.val (.bool false)))], [], 2⟩ [(decide ((List.getD l_1 (Int.toNat i_3) ((0 : Int), ((0 : Int), ByteArray.empty))).1 < (List.getD l_1 (Int.toNat (IntKind.wrap .i64 (i_3 - (1 : Int)))) ((0 : Int), ((0 : Int), ByteArray.empty))).2.1)) = false, ((List.getD l_1 (Int.toNat i_3) ((0 : Int), ((0 : Int), ByteArray.empty))).1 == (List.getD l_1 (Int.toNat (IntKind.wrap .i64 (i_3 - (1 : Int)))) ((0 : Int), ((0 : Int), ByteArray.empty))).1) = false] (by kernel_rfl) rfl rfl (ap2 b_11 (ap1 b_13)) (by kernel_rfl) (by kernel_rfl) ?_
          have H_40 := Option.some.inj (show some false = some q_30 from H_38); subst H_40
          refine VL_nil ?_
          exact QP_end false rfl [] hn (by kernel_rfl) (by kernel_rfl) rfl rfl rfl
    · intro y_33 hy; subst hy
      skip
      skip
      refine VL_cond (y_33) (by kernel_rfl) ?_ ?_
      · intro b_17; have H_41 := of_t H_32 b_17
        refine V_run hN hn 2 2 [2] [] ⟨[(2, .c (.val (.bool false)))], [], 2⟩ [] (by kernel_rfl) rfl rfl ap0 ?_
        have H_43 := Option.some.inj (show some false = some r from H_41); subst H_43
        refine VL_ret ?_
        refine QB_ret ?_
        refine QL_ret ?_
        refine QB_ret ?_
        exact P_to [(2, .c (.val (.bool false)))] [] [] hn (by kernel_rfl) (by kernel_rfl) rfl rfl rfl (QF_retS (by kernel_rfl) (by kernel_rfl) rfl)
      · intro b_17; have H_42 := of_f H_32 b_17
        refine V_run hN hn 1 2 [0, 3, 39] [] ⟨[(0, .c (.imm (.slice (.pair (.int .i64) (.pair (.int .i64) .str))) l_1)), (3, .c (.val (.int .i64 i_3))), (39, .c (.val (.bool y_33)))], [], 2⟩ [] (by kernel_rfl) rfl rfl ap0 ?_
        refine VL_nil (QB_end ?_)
        refine V_run hN hn 1 2 [0, 3] [] ⟨[(0, .c (.imm (.slice (.pair (.int .i64) (.pair (.int .i64) .str))) l_1)), (3, .c (.val (.int .i64 (IntKind.wrap .i64 (i_3 + (1 : Int))))))], [], 2⟩ [] (by kernel_rfl) rfl rfl ap0 ?_
        refine VL_nil ?_
        exact V_roundEnd (IntKind.wrap .i64 (i_3 + (1 : Int))) H_42 [] hn (by kernel_rfl) (by kernel_rfl) rfl rfl rfl
  · intro b_6; have H_28 := of_f H_26 b_6
    refine VL_exit ?_
    refine QL_exit ?_
    refine QB_here ?_
    refine V_run hN hn 2 0 [2] [] ⟨[(2, .c (.val (.bool true)))], [], 0⟩ [] (by kernel_rfl) rfl rfl ap0 ?_
    have H_44 := Option.some.inj (show some true = some r from H_28); subst H_44
    refine VL_ret ?_
    exact P_to [(2, .c (.val (.bool true)))] [] [] hn (by kernel_rfl) (by kernel_rfl) rfl rfl rfl (QF_retS (by kernel_rfl) (by kernel_rfl) rfl)

theorem palinoderef11_cells_spec (K : Nat) (base_1 : Int) (l_2 : (List (Int × (Int × ByteArray)))) (r : ((List (Int × Int)) × Bool)) (H : palinoderef11_cells K base_1 l_2 = some r) : Spec Try.prog 36 0 [.c (.val (.int .i64 base_1)), .c (.imm (.slice (.pair (.int .i64) (.pair (.int .i64) .str))) l_2)] [] (.tup [(false, [.h 11]), (false, [.val (.bool r.2)])]) [(11, .row (.pair (.int .i64) (.int .u8)) r.1)] := by
  refine Spec_mk (fn := Try.f36) (c := (Try.f36.body).get!) Try.func36 (by kernel_rfl) rfl ?_
  intro C hN hn
  replace hN : C.N = 73 := hN
  unfold palinoderef11_cells at H
  refine V_run hN hn 9 0 [0, 1, 6, 7, 8] [] ⟨[(0, .c (.val (.int .i64 base_1))), (1, .c (.imm (.slice (.pair (.int .i64) (.pair (.int .i64) .str))) l_2)), (6, .c (.val (.slice none 0 0))), (7, .c (.val (.int .i64 (0 : Int)))), (8, .c (.val (.int .i64 (0 : Int))))], [], 0⟩ [] (by kernel_rfl) rfl rfl ap0 ?_
  obtain ⟨q_112, H_113, H_114⟩ := of_bind H
  refine V_cut (Y := (List (Int × Int))) (R := (List (Int × Int))) q_112 (fun y => y) (fun y => [(6, .c (.h 11))]) (fun y => [(11, .row (.pair (.int .i64) (.int .u8)) y)]) ?_ ?_
  · skip
    refine VL_block ?_
    refine V_ghost [.nilSlot 6 (.pair (.int .i64) (.int .u8))] 0 hn [0, 1, 6, 7, 8] [0] ⟨[(0, .c (.val (.int .i64 base_1))), (1, .c (.imm (.slice (.pair (.int .i64) (.pair (.int .i64) .str))) l_2)), (6, .c (.h 0)), (7, .c (.val (.int .i64 (0 : Int)))), (8, .c (.val (.int .i64 (0 : Int))))], [(0, .row (.pair (.int .i64) (.int .u8)) ([] : List (Int × Int)))], 1⟩ (by kernel_rfl) rfl rfl ?_
    refine V_to [(0, .c (.val (.int .i64 base_1))), (1, .c (.imm (.slice (.pair (.int .i64) (.pair (.int .i64) .str))) l_2)), (6, .c (.h 7)), (7, .c (.val (.int .i64 (0 : Int)))), (8, .c (.val (.int .i64 (0 : Int))))] [(7, .row (.pair (.int .i64) (.int .u8)) ([] : List (Int × Int)))] [(7, 0)] hn (by kernel_rfl) (by kernel_rfl) rfl rfl rfl ?_
    refine VL_loop (X := ((List (Int × Int)) × Int × Int)) (fun x => [(0, .c (.val (.int .i64 base_1))), (1, .c (.imm (.slice (.pair (.int .i64) (.pair (.int .i64) .str))) l_2)), (6, .c (.h 7)), (7, .c (.val (.int .i64 x.2.1))), (8, .c (.val (.int .i64 x.2.2)))]) (fun x => [(7, .row (.pair (.int .i64) (.int .u8)) x.1)]) (fun k x => palinoderef11_cells.l0 K l_2 base_1 k x.1 x.2.1 x.2.2 = some q_112) K (([] : List (Int × Int)), (0 : Int), (0 : Int)) H_113 (fun _ h => no_none h) ?_
    intro k_53 x_53 H_116
    obtain ⟨out_52, at_4, i_5⟩ := x_53
    have H_117 : palinoderef11_cells.l0 K l_2 base_1 (k_53 + 1) out_52 at_4 i_5 = some q_112 := H_116
    rw [palinoderef11_cells.l0] at H_117
    refine V_run hN hn 3 8 [0, 1, 6, 7, 8, 15] [7] ⟨[(0, .c (.val (.int .i64 base_1))), (1, .c (.imm (.slice (.pair (.int .i64) (.pair (.int .i64) .str))) l_2)), (6, .c (.h 7)), (7, .c (.val (.int .i64 at_4))), (8, .c (.val (.int .i64 i_5))), (15, .c (.val (.bool (decide (i_5 ≤ (((List.length l_2) : Nat) : Int))))))], [(7, .row (.pair (.int .i64) (.int .u8)) out_52)], 8⟩ [] (by kernel_rfl) rfl rfl ap0 ?_
    refine VL_cond ((decide (i_5 ≤ (((List.length l_2) : Nat) : Int)))) (by kernel_rfl) ?_ ?_
    · intro b_55; have H_118 := of_t H_117 b_55
      refine V_run hN hn 2 8 [0, 1, 6, 7, 8, 15] [7] ⟨[(0, .c (.val (.int .i64 base_1))), (1, .c (.imm (.slice (.pair (.int .i64) (.pair (.int .i64) .str))) l_2)), (6, .c (.h 7)), (7, .c (.val (.int .i64 at_4))), (8, .c (.val (.int .i64 i_5))), (15, .c (.val (.bool (decide (i_5 ≤ (((List.length l_2) : Nat) : Int))))))], [(7, .row (.pair (.int .i64) (.int .u8)) out_52)], 8⟩ [] (by kernel_rfl) rfl rfl ap0 ?_
      obtain ⟨q_120, H_121, H_122⟩ := of_bind H_118
      refine V_cut (Y := (List (Int × Int))) (R := ((List (Int × Int)) ⊕ (List (Int × Int)))) q_120 (fun y => (Sum.inr y)) (fun y => [(0, .c (.val (.int .i64 base_1))), (1, .c (.imm (.slice (.pair (.int .i64) (.pair (.int .i64) .str))) l_2)), (6, .c (.h 13)), (7, .c (.val (.int .i64 (List.getD l_2 (Int.toNat i_5) ((0 : Int), ((0 : Int), ByteArray.empty))).2.1))), (8, .c (.val (.int .i64 i_5)))]) (fun y => [(13, .row (.pair (.int .i64) (.int .u8)) y)]) ?_ ?_
      · skip
        refine VL_block ?_
        refine V_run hN hn 5 8 [0, 1, 6, 7, 8, 9, 22] [7] ⟨[(0, .c (.val (.int .i64 base_1))), (1, .c (.imm (.slice (.pair (.int .i64) (.pair (.int .i64) .str))) l_2)), (6, .c (.h 7)), (7, .c (.val (.int .i64 at_4))), (8, .c (.val (.int .i64 i_5))), (9, .c (.val (.int .i64 base_1))), (22, .c (.val (.bool (decide (i_5 < (((List.length l_2) : Nat) : Int))))))], [(7, .row (.pair (.int .i64) (.int .u8)) out_52)], 8⟩ [] (by kernel_rfl) rfl rfl ap0 ?_
        obtain ⟨q_124, H_125, H_126⟩ := of_bind H_121
        refine V_cut (Y := Int) (R := Int) q_124 (fun y => y) (fun y => [(0, .c (.val (.int .i64 base_1))), (1, .c (.imm (.slice (.pair (.int .i64) (.pair (.int .i64) .str))) l_2)), (6, .c (.h 7)), (7, .c (.val (.int .i64 at_4))), (8, .c (.val (.int .i64 i_5))), (9, .c (.val (.int .i64 y)))]) (fun y => [(7, .row (.pair (.int .i64) (.int .u8)) out_52)]) ?_ ?_
        · skip
          refine VL_cond ((decide (i_5 < (((List.length l_2) : Nat) : Int)))) (by kernel_rfl) ?_ ?_
          · intro b_58; have H_128 := of_t H_125 b_58
            obtain ⟨c_59, H_130⟩ := of_if H_128
            refine V_run hN hn 1 8 [0, 1, 6, 7, 8, 9] [7] ⟨[(0, .c (.val (.int .i64 base_1))), (1, .c (.imm (.slice (.pair (.int .i64) (.pair (.int .i64) .str))) l_2)), (6, .c (.h 7)), (7, .c (.val (.int .i64 at_4))), (8, .c (.val (.int .i64 i_5))), (9, .c (.val (.int .i64 (List.getD l_2 (Int.toNat i_5) ((0 : Int), ((0 : Int), ByteArray.empty))).1)))], [(7, .row (.pair (.int .i64) (.int .u8)) out_52)], 8⟩ [0 ≤ i_5, i_5 < (((List.length l_2) : Nat) : Int)] (by kernel_rfl) rfl rfl (ap2 c_59.1 (ap1 c_59.2)) ?_
            have H_131 := Option.some.inj (show some (List.getD l_2 (Int.toNat i_5) ((0 : Int), ((0 : Int), ByteArray.empty))).1 = some q_124 from H_130); subst H_131
            refine VL_nil ?_
            exact QP_end (List.getD l_2 (Int.toNat i_5) ((0 : Int), ((0 : Int), ByteArray.empty))).1 rfl [(7, 7)] hn (by kernel_rfl) (by kernel_rfl) rfl rfl rfl
          · intro b_58; have H_129 := of_f H_125 b_58
            refine V_run hN hn 1 8 [0, 1, 6, 7, 8, 9, 22] [7] ⟨[(0, .c (.val (.int .i64 base_1))), (1, .c (.imm (.slice (.pair (.int .i64) (.pair (.int .i64) .str))) l_2)), (6, .c (.h 7)), (7, .c (.val (.int .i64 at_4))), (8, .c (.val (.int .i64 i_5))), (9, .c (.val (.int .i64 base_1))), (22, .c (.val (.bool (decide (i_5 < (((List.length l_2) : Nat) : Int))))))], [(7, .row (.pair (.int .i64) (.int .u8)) out_52)], 8⟩ [] (by kernel_rfl) rfl rfl ap0 ?_
            have H_132 := Option.some.inj (show some base_1 = some q_124 from H_129); subst H_132
            refine VL_nil ?_
            exact QP_end base_1 rfl [(7, 7)] hn (by kernel_rfl) (by kernel_rfl) rfl rfl rfl
        · intro y_127 hy; subst hy
          skip
          skip
          refine V_run hN hn 3 8 [0, 1, 6, 8, 9, 10] [7] ⟨[(0, .c (.val (.int .i64 base_1))), (1, .c (.imm (.slice (.pair (.int .i64) (.pair (.int .i64) .str))) l_2)), (6, .c (.h 7)), (8, .c (.val (.int .i64 i_5))), (9, .c (.val (.int .i64 y_127))), (10, .c (.val (.int .i64 at_4)))], [(7, .row (.pair (.int .i64) (.int .u8)) out_52)], 8⟩ [] (by kernel_rfl) rfl rfl ap0 ?_
          obtain ⟨q_133, H_134, H_135⟩ := of_bind H_126
          refine V_cut (Y := (List (Int × Int))) (R := (List (Int × Int))) q_133 (fun y => y) (fun y => [(0, .c (.val (.int .i64 base_1))), (1, .c (.imm (.slice (.pair (.int .i64) (.pair (.int .i64) .str))) l_2)), (6, .c (.h 10)), (8, .c (.val (.int .i64 i_5)))]) (fun y => [(10, .row (.pair (.int .i64) (.int .u8)) y)]) ?_ ?_
          · skip
            refine VL_block ?_
            refine V_to [(0, .c (.val (.int .i64 base_1))), (1, .c (.imm (.slice (.pair (.int .i64) (.pair (.int .i64) .str))) l_2)), (6, .c (.h 10)), (8, .c (.val (.int .i64 i_5))), (9, .c (.val (.int .i64 y_127))), (10, .c (.val (.int .i64 at_4)))] [(10, .row (.pair (.int .i64) (.int .u8)) out_52)] [(10, 7)] hn (by kernel_rfl) (by kernel_rfl) rfl rfl rfl ?_
            refine VL_loop (X := ((List (Int × Int)) × Int)) (fun x => [(0, .c (.val (.int .i64 base_1))), (1, .c (.imm (.slice (.pair (.int .i64) (.pair (.int .i64) .str))) l_2)), (6, .c (.h 10)), (8, .c (.val (.int .i64 i_5))), (9, .c (.val (.int .i64 y_127))), (10, .c (.val (.int .i64 x.2)))]) (fun x => [(10, .row (.pair (.int .i64) (.int .u8)) x.1)]) (fun k x => palinoderef11_cells.l1 K y_127 k x.1 x.2 = some q_133) K (out_52, at_4) H_134 (fun _ h => no_none h) ?_
            intro k_71 x_71 H_137
            obtain ⟨out_70, k_63⟩ := x_71
            have H_138 : palinoderef11_cells.l1 K y_127 (k_71 + 1) out_70 k_63 = some q_133 := H_137
            rw [palinoderef11_cells.l1] at H_138
            refine V_run hN hn 3 11 [0, 1, 6, 8, 9, 10, 31] [10] ⟨[(0, .c (.val (.int .i64 base_1))), (1, .c (.imm (.slice (.pair (.int .i64) (.pair (.int .i64) .str))) l_2)), (6, .c (.h 10)), (8, .c (.val (.int .i64 i_5))), (9, .c (.val (.int .i64 y_127))), (10, .c (.val (.int .i64 k_63))), (31, .c (.val (.bool (decide (k_63 < y_127)))))], [(10, .row (.pair (.int .i64) (.int .u8)) out_70)], 11⟩ [] (by kernel_rfl) rfl rfl ap0 ?_
            refine VL_cond ((decide (k_63 < y_127))) (by kernel_rfl) ?_ ?_
            · intro b_73; have H_139 := of_t H_138 b_73
              refine V_run hN hn 2 11 [0, 1, 6, 8, 9, 10, 31] [10] ⟨[(0, .c (.val (.int .i64 base_1))), (1, .c (.imm (.slice (.pair (.int .i64) (.pair (.int .i64) .str))) l_2)), (6, .c (.h 10)), (8, .c (.val (.int .i64 i_5))), (9, .c (.val (.int .i64 y_127))), (10, .c (.val (.int .i64 k_63))), (31, .c (.val (.bool (decide (k_63 < y_127)))))], [(10, .row (.pair (.int .i64) (.int .u8)) out_70)], 11⟩ [] (by kernel_rfl) rfl rfl ap0 ?_
              refine VL_block ?_
              obtain ⟨c_75, H_141⟩ := of_if H_139
              refine V_run hN hn 1 11 [0, 1, 6, 8, 9, 10] [12] ⟨[(0, .c (.val (.int .i64 base_1))), (1, .c (.imm (.slice (.pair (.int .i64) (.pair (.int .i64) .str))) l_2)), (6, .c (.h 12)), (8, .c (.val (.int .i64 i_5))), (9, .c (.val (.int .i64 y_127))), (10, .c (.val (.int .i64 k_63)))], [(12, .row (.pair (.int .i64) (.int .u8)) (out_70 ++ ([(k_63, (0 : Int))] : List (Int × Int))))], 13⟩ [(List.length out_70 + List.length ([(k_63, (0 : Int))] : List (Int × Int))) * 16 ≤ 140737488355328] (by kernel_rfl) rfl rfl (ap1 c_75) ?_
              refine VL_nil (QB_end ?_)
              refine V_run hN hn 1 13 [0, 1, 6, 8, 9, 10] [12] ⟨[(0, .c (.val (.int .i64 base_1))), (1, .c (.imm (.slice (.pair (.int .i64) (.pair (.int .i64) .str))) l_2)), (6, .c (.h 12)), (8, .c (.val (.int .i64 i_5))), (9, .c (.val (.int .i64 y_127))), (10, .c (.val (.int .i64 (IntKind.wrap .i64 (k_63 + (1 : Int))))))], [(12, .row (.pair (.int .i64) (.int .u8)) (out_70 ++ ([(k_63, (0 : Int))] : List (Int × Int))))], 13⟩ [] (by kernel_rfl) rfl rfl ap0 ?_
              refine VL_nil ?_
              exact V_roundEnd ((out_70 ++ ([(k_63, (0 : Int))] : List (Int × Int))), (IntKind.wrap .i64 (k_63 + (1 : Int)))) H_141 [(10, 12)] hn (by kernel_rfl) (by kernel_rfl) rfl rfl rfl
            · intro b_73; have H_140 := of_f H_138 b_73
              refine VL_exit ?_
              refine QL_exit ?_
              refine QB_here ?_
              have H_142 := Option.some.inj (show some out_70 = some q_133 from H_140); subst H_142
              refine VL_nil ?_
              exact QP_end out_70 rfl [(10, 10)] hn (by kernel_rfl) (by kernel_rfl) rfl rfl rfl
          · intro y_136 hy; subst hy
            skip
            skip
            refine V_run hN hn 3 11 [0, 1, 6, 8, 42] [10] ⟨[(0, .c (.val (.int .i64 base_1))), (1, .c (.imm (.slice (.pair (.int .i64) (.pair (.int .i64) .str))) l_2)), (6, .c (.h 10)), (8, .c (.val (.int .i64 i_5))), (42, .c (.val (.bool (i_5 == (((List.length l_2) : Nat) : Int)))))], [(10, .row (.pair (.int .i64) (.int .u8)) y_136)], 11⟩ [] (by kernel_rfl) rfl rfl ap0 ?_
            refine VL_cond ((i_5 == (((List.length l_2) : Nat) : Int))) (by kernel_rfl) ?_ ?_
            · intro b_79; have H_143 := of_t H_135 b_79
              have H_145 := Option.some.inj (show some (Sum.inl y_136) = some q_120 from H_143); subst H_145
              have H_146 := Option.some.inj (show some y_136 = some q_112 from H_122); subst H_146
              refine VL_exit ?_
              refine QB_out (by decide) ?_
              refine QP_exit ?_
              refine QL_exit ?_
              refine QB_here ?_
              refine VL_nil ?_
              exact QP_end y_136 rfl [(11, 10)] hn (by kernel_rfl) (by kernel_rfl) rfl rfl rfl
            · intro b_79; have H_144 := of_f H_135 b_79
              refine V_run hN hn 4 11 [0, 1, 6, 8, 11] [10] ⟨[(0, .c (.val (.int .i64 base_1))), (1, .c (.imm (.slice (.pair (.int .i64) (.pair (.int .i64) .str))) l_2)), (6, .c (.h 10)), (8, .c (.val (.int .i64 i_5))), (11, .c (.val (.int .i64 (0 : Int))))], [(10, .row (.pair (.int .i64) (.int .u8)) y_136)], 11⟩ [] (by kernel_rfl) rfl rfl ap0 ?_
              refine VL_block ?_
              refine V_to [(0, .c (.val (.int .i64 base_1))), (1, .c (.imm (.slice (.pair (.int .i64) (.pair (.int .i64) .str))) l_2)), (6, .c (.h 13)), (8, .c (.val (.int .i64 i_5))), (11, .c (.val (.int .i64 (0 : Int))))] [(13, .row (.pair (.int .i64) (.int .u8)) y_136)] [(13, 10)] hn (by kernel_rfl) (by kernel_rfl) rfl rfl rfl ?_
              refine VL_loop (X := ((List (Int × Int)) × Int)) (fun x => [(0, .c (.val (.int .i64 base_1))), (1, .c (.imm (.slice (.pair (.int .i64) (.pair (.int .i64) .str))) l_2)), (6, .c (.h 13)), (8, .c (.val (.int .i64 i_5))), (11, .c (.val (.int .i64 x.2)))]) (fun x => [(13, .row (.pair (.int .i64) (.int .u8)) x.1)]) (fun k x => palinoderef11_cells.l2 K i_5 l_2 k x.1 x.2 = some q_120) K (y_136, (0 : Int)) H_144 (fun _ h => no_none h) ?_
              intro k_90 x_90 H_147
              obtain ⟨out_89, k_81⟩ := x_90
              have H_148 : palinoderef11_cells.l2 K i_5 l_2 (k_90 + 1) out_89 k_81 = some q_120 := H_147
              rw [palinoderef11_cells.l2] at H_148
              obtain ⟨c_91, H_149⟩ := of_if H_148
              refine V_run hN hn 3 14 [0, 1, 6, 8, 11, 50] [13] ⟨[(0, .c (.val (.int .i64 base_1))), (1, .c (.imm (.slice (.pair (.int .i64) (.pair (.int .i64) .str))) l_2)), (6, .c (.h 13)), (8, .c (.val (.int .i64 i_5))), (11, .c (.val (.int .i64 k_81))), (50, .c (.val (.bool (decide (k_81 < (((ByteArray.size (List.getD l_2 (Int.toNat i_5) ((0 : Int), ((0 : Int), ByteArray.empty))).2.2) : Nat) : Int))))))], [(13, .row (.pair (.int .i64) (.int .u8)) out_89)], 14⟩ [0 ≤ i_5, i_5 < (((List.length l_2) : Nat) : Int)] (by kernel_rfl) rfl rfl (ap2 c_91.1 (ap1 c_91.2)) ?_
              refine VL_cond ((decide (k_81 < (((ByteArray.size (List.getD l_2 (Int.toNat i_5) ((0 : Int), ((0 : Int), ByteArray.empty))).2.2) : Nat) : Int)))) (by kernel_rfl) ?_ ?_
              · intro b_92; have H_150 := of_t H_149 b_92
                refine V_run hN hn 2 14 [0, 1, 6, 8, 11, 50] [13] ⟨[(0, .c (.val (.int .i64 base_1))), (1, .c (.imm (.slice (.pair (.int .i64) (.pair (.int .i64) .str))) l_2)), (6, .c (.h 13)), (8, .c (.val (.int .i64 i_5))), (11, .c (.val (.int .i64 k_81))), (50, .c (.val (.bool (decide (k_81 < (((ByteArray.size (List.getD l_2 (Int.toNat i_5) ((0 : Int), ((0 : Int), ByteArray.empty))).2.2) : Nat) : Int))))))], [(13, .row (.pair (.int .i64) (.int .u8)) out_89)], 14⟩ [] (by kernel_rfl) rfl rfl ap0 ?_
                refine VL_block ?_
                obtain ⟨c_94, H_152⟩ := of_if H_150
                refine V_run hN hn 1 14 [0, 1, 6, 8, 11] [15] ⟨[(0, .c (.val (.int .i64 base_1))), (1, .c (.imm (.slice (.pair (.int .i64) (.pair (.int .i64) .str))) l_2)), (6, .c (.h 15)), (8, .c (.val (.int .i64 i_5))), (11, .c (.val (.int .i64 k_81)))], [(15, .row (.pair (.int .i64) (.int .u8)) (out_89 ++ ([((-1 : Int), (bt (List.getD l_2 (Int.toNat i_5) ((0 : Int), ((0 : Int), ByteArray.empty))).2.2 k_81))] : List (Int × Int))))], 16⟩ [0 ≤ i_5, i_5 < (((List.length l_2) : Nat) : Int), 0 ≤ k_81, k_81 < (((ByteArray.size (List.getD l_2 (Int.toNat i_5) ((0 : Int), ((0 : Int), ByteArray.empty))).2.2) : Nat) : Int), (List.length out_89 + List.length ([((-1 : Int), (bt (List.getD l_2 (Int.toNat i_5) ((0 : Int), ((0 : Int), ByteArray.empty))).2.2 k_81))] : List (Int × Int))) * 16 ≤ 140737488355328] (by kernel_rfl) rfl rfl (ap2 c_91.1 (ap2 c_91.2 (ap2 c_94.1 (ap2 c_94.2.1 (ap1 c_94.2.2))))) ?_
                refine VL_nil (QB_end ?_)
                refine V_run hN hn 1 16 [0, 1, 6, 8, 11] [15] ⟨[(0, .c (.val (.int .i64 base_1))), (1, .c (.imm (.slice (.pair (.int .i64) (.pair (.int .i64) .str))) l_2)), (6, .c (.h 15)), (8, .c (.val (.int .i64 i_5))), (11, .c (.val (.int .i64 (IntKind.wrap .i64 (k_81 + (1 : Int))))))], [(15, .row (.pair (.int .i64) (.int .u8)) (out_89 ++ ([((-1 : Int), (bt (List.getD l_2 (Int.toNat i_5) ((0 : Int), ((0 : Int), ByteArray.empty))).2.2 k_81))] : List (Int × Int))))], 16⟩ [] (by kernel_rfl) rfl rfl ap0 ?_
                refine VL_nil ?_
                exact V_roundEnd ((out_89 ++ ([((-1 : Int), (bt (List.getD l_2 (Int.toNat i_5) ((0 : Int), ((0 : Int), ByteArray.empty))).2.2 k_81))] : List (Int × Int))), (IntKind.wrap .i64 (k_81 + (1 : Int)))) H_152 [(13, 15)] hn (by kernel_rfl) (by kernel_rfl) rfl rfl rfl
              · intro b_92; have H_151 := of_f H_149 b_92
                refine VL_exit ?_
                refine QL_exit ?_
                refine QB_here ?_
                refine V_run hN hn 1 14 [0, 1, 6, 7, 8] [13] ⟨[(0, .c (.val (.int .i64 base_1))), (1, .c (.imm (.slice (.pair (.int .i64) (.pair (.int .i64) .str))) l_2)), (6, .c (.h 13)), (7, .c (.val (.int .i64 (List.getD l_2 (Int.toNat i_5) ((0 : Int), ((0 : Int), ByteArray.empty))).2.1))), (8, .c (.val (.int .i64 i_5)))], [(13, .row (.pair (.int .i64) (.int .u8)) out_89)], 14⟩ [0 ≤ i_5, i_5 < (((List.length l_2) : Nat) : Int)] (by kernel_rfl) rfl rfl (ap2 c_91.1 (ap1 c_91.2)) ?_
                refine VL_nil (QB_end ?_)
                have H_153 := Option.some.inj (show some (Sum.inr out_89) = some q_120 from H_151); subst H_153
                refine VL_nil ?_
                exact QP_end out_89 rfl [(13, 13)] hn (by kernel_rfl) (by kernel_rfl) rfl rfl rfl
      · intro y_123 hy; subst hy
        skip
        skip
        refine V_run hN hn 1 14 [0, 1, 6, 7, 8] [13] ⟨[(0, .c (.val (.int .i64 base_1))), (1, .c (.imm (.slice (.pair (.int .i64) (.pair (.int .i64) .str))) l_2)), (6, .c (.h 13)), (7, .c (.val (.int .i64 (List.getD l_2 (Int.toNat i_5) ((0 : Int), ((0 : Int), ByteArray.empty))).2.1))), (8, .c (.val (.int .i64 (IntKind.wrap .i64 (i_5 + (1 : Int))))))], [(13, .row (.pair (.int .i64) (.int .u8)) y_123)], 14⟩ [] (by kernel_rfl) rfl rfl ap0 ?_
        refine VL_nil ?_
        exact V_roundEnd (y_123, (List.getD l_2 (Int.toNat i_5) ((0 : Int), ((0 : Int), ByteArray.empty))).2.1, (IntKind.wrap .i64 (i_5 + (1 : Int)))) H_122 [(7, 13)] hn (by kernel_rfl) (by kernel_rfl) rfl rfl rfl
    · intro b_55; have H_119 := of_f H_117 b_55
      refine VL_exit ?_
      refine QL_exit ?_
      refine QB_here ?_
      have H_154 := Option.some.inj (show some out_52 = some q_112 from H_119); subst H_154
      refine VL_nil ?_
      exact QP_end out_52 rfl [(11, 7)] hn (by kernel_rfl) (by kernel_rfl) rfl rfl rfl
  · intro y_115 hy; subst hy
    skip
    skip
    refine V_run hN hn 2 12 [4, 5] [11] ⟨[(4, .c (.h 11)), (5, .c (.val (.bool (decide ((((List.length y_115) : Nat) : Int) > (20000 : Int))))))], [(11, .row (.pair (.int .i64) (.int .u8)) y_115)], 12⟩ [] (by kernel_rfl) rfl rfl ap0 ?_
    have H_155 := Option.some.inj (show some (y_115, (decide ((((List.length y_115) : Nat) : Int) > (20000 : Int)))) = some r from H_114); subst H_155
    refine VL_ret ?_
    exact P_to [(4, .c (.h 11)), (5, .c (.val (.bool (decide ((((List.length y_115) : Nat) : Int) > (20000 : Int))))))] [(11, .row (.pair (.int .i64) (.int .u8)) y_115)] [(11, 11)] hn (by kernel_rfl) (by kernel_rfl) rfl rfl rfl (QF_retS (by kernel_rfl) (by kernel_rfl) rfl)

theorem palinoderef11_Told_gr_spec (K : Nat) (base_1 : Int) (l_2 : (List (Int × Int))) (r : (Int × (List (Int × (Int × ByteArray))) × Int)) (H : palinoderef11_Told_gr K base_1 l_2 = some r) : Spec Try.prog 37 1 [.c (.val (.int .i64 base_1)), .c (.h 0)] [(0, .row (.pair (.int .i64) (.int .u8)) l_2)] (.tup [(true, [.val (.int .i64 r.1), .h 12]), (false, [.val (.int .i64 r.2.2)])]) [(0, .row (.pair (.int .i64) (.int .u8)) l_2), (12, .row (.pair (.int .i64) (.pair (.int .i64) .str)) r.2.1)] := by
  refine Spec_mk (fn := Try.f37) (c := (Try.f37.body).get!) Try.func37 (by kernel_rfl) rfl ?_
  intro C hN hn
  replace hN : C.N = 123 := hN
  unfold palinoderef11_Told_gr at H
  refine V_run hN hn 7 1 [1, 4, 6, 7] [0, 1, 2] ⟨[(1, .c (.h 0)), (4, .c (.h 1)), (6, .c (.h 2)), (7, .c (.val (.int .i64 (0 : Int))))], [(0, .row (.pair (.int .i64) (.int .u8)) l_2), (1, .box [.val (.int .i64 (0 : Int)), .val (.slice none 0 0)]), (2, .box [.val (.int .i64 base_1), .val (.slice none 0 0)])], 3⟩ [] (by kernel_rfl) rfl rfl ap0 ?_
  obtain ⟨q_133, H_134, H_135⟩ := of_bind H
  refine V_cut (Y := (List (Int × (Int × ByteArray)))) (R := (List (Int × (Int × ByteArray)))) q_133 (fun y => y) (fun y => [(4, .c (.h 1)), (6, .c (.h 2))]) (fun y => [(0, .row (.pair (.int .i64) (.int .u8)) l_2), (1, .box [.val (.int .i64 (0 : Int)), .val (.slice none 0 0)]), (2, .box [.val (.int .i64 base_1), .h 10]), (10, .row (.pair (.int .i64) (.pair (.int .i64) .str)) y)]) ?_ ?_
  · skip
    refine VL_block ?_
    refine V_ghost [.nilCell 2 1 (.pair (.int .i64) (.pair (.int .i64) .str))] 3 hn [1, 4, 6, 7] [0, 1, 2, 3] ⟨[(1, .c (.h 0)), (4, .c (.h 1)), (6, .c (.h 2)), (7, .c (.val (.int .i64 (0 : Int))))], [(0, .row (.pair (.int .i64) (.int .u8)) l_2), (1, .box [.val (.int .i64 (0 : Int)), .val (.slice none 0 0)]), (2, .box [.val (.int .i64 base_1), .h 3]), (3, .row (.pair (.int .i64) (.pair (.int .i64) .str)) ([] : List (Int × (Int × ByteArray))))], 4⟩ (by kernel_rfl) rfl rfl ?_
    refine V_to [(1, .c (.h 0)), (4, .c (.h 1)), (6, .c (.h 2)), (7, .c (.val (.int .i64 (0 : Int))))] [(0, .row (.pair (.int .i64) (.int .u8)) l_2), (1, .box [.val (.int .i64 (0 : Int)), .val (.slice none 0 0)]), (2, .box [.val (.int .i64 base_1), .h 10]), (10, .row (.pair (.int .i64) (.pair (.int .i64) .str)) ([] : List (Int × (Int × ByteArray))))] [(1, 1), (2, 2), (10, 3)] hn (by kernel_rfl) (by kernel_rfl) rfl rfl rfl ?_
    refine VL_loop (X := ((List (Int × (Int × ByteArray))) × Int)) (fun x => [(1, .c (.h 0)), (4, .c (.h 1)), (6, .c (.h 2)), (7, .c (.val (.int .i64 x.2)))]) (fun x => [(0, .row (.pair (.int .i64) (.int .u8)) l_2), (1, .box [.val (.int .i64 (0 : Int)), .val (.slice none 0 0)]), (2, .box [.val (.int .i64 base_1), .h 10]), (10, .row (.pair (.int .i64) (.pair (.int .i64) .str)) x.1)]) (fun k x => palinoderef11_Told_gr.l0 K l_2 k x.1 x.2 = some q_133) K (([] : List (Int × (Int × ByteArray))), (0 : Int)) H_134 (fun _ h => no_none h) ?_
    intro k_52 x_52 H_137
    obtain ⟨x_51, i_4⟩ := x_52
    have H_138 : palinoderef11_Told_gr.l0 K l_2 (k_52 + 1) x_51 i_4 = some q_133 := H_137
    rw [palinoderef11_Told_gr.l0] at H_138
    refine V_run hN hn 3 11 [1, 4, 6, 7, 16] [0, 1, 2, 10] ⟨[(1, .c (.h 0)), (4, .c (.h 1)), (6, .c (.h 2)), (7, .c (.val (.int .i64 i_4))), (16, .c (.val (.bool (decide (i_4 < (((List.length l_2) : Nat) : Int))))))], [(0, .row (.pair (.int .i64) (.int .u8)) l_2), (1, .box [.val (.int .i64 (0 : Int)), .val (.slice none 0 0)]), (2, .box [.val (.int .i64 base_1), .h 10]), (10, .row (.pair (.int .i64) (.pair (.int .i64) .str)) x_51)], 11⟩ [] (by kernel_rfl) rfl rfl ap0 ?_
    refine VL_cond ((decide (i_4 < (((List.length l_2) : Nat) : Int)))) (by kernel_rfl) ?_ ?_
    · intro b_54; have H_139 := of_t H_138 b_54
      refine V_run hN hn 1 11 [1, 4, 6, 7, 16] [0, 1, 2, 10] ⟨[(1, .c (.h 0)), (4, .c (.h 1)), (6, .c (.h 2)), (7, .c (.val (.int .i64 i_4))), (16, .c (.val (.bool (decide (i_4 < (((List.length l_2) : Nat) : Int))))))], [(0, .row (.pair (.int .i64) (.int .u8)) l_2), (1, .box [.val (.int .i64 (0 : Int)), .val (.slice none 0 0)]), (2, .box [.val (.int .i64 base_1), .h 10]), (10, .row (.pair (.int .i64) (.pair (.int .i64) .str)) x_51)], 11⟩ [] (by kernel_rfl) rfl rfl ap0 ?_
      obtain ⟨q_141, H_142, H_143⟩ := of_bind H_139
      refine V_cut (Y := ((List (Int × (Int × ByteArray))) × Int)) (R := ((List (Int × (Int × ByteArray))) × Int)) q_141 (fun y => y) (fun y => [(1, .c (.h 0)), (4, .c (.h 1)), (6, .c (.h 2)), (7, .c (.val (.int .i64 y.2)))]) (fun y => [(0, .row (.pair (.int .i64) (.int .u8)) l_2), (1, .box [.val (.int .i64 (0 : Int)), .val (.slice none 0 0)]), (2, .box [.val (.int .i64 base_1), .h 17]), (17, .row (.pair (.int .i64) (.pair (.int .i64) .str)) y.1)]) ?_ ?_
      · skip
        refine VL_block ?_
        obtain ⟨c_56, H_145⟩ := of_if H_142
        refine V_run hN hn 5 11 [1, 4, 6, 7, 8, 24] [0, 1, 2, 10] ⟨[(1, .c (.h 0)), (4, .c (.h 1)), (6, .c (.h 2)), (7, .c (.val (.int .i64 i_4))), (8, .c (.val (.int .i64 (IntKind.wrap .i64 (i_4 + (1 : Int)))))), (24, .c (.val (.bool (decide ((List.getD l_2 (Int.toNat i_4) ((0 : Int), (0 : Int))).1 < (0 : Int))))))], [(0, .row (.pair (.int .i64) (.int .u8)) l_2), (1, .box [.val (.int .i64 (0 : Int)), .val (.slice none 0 0)]), (2, .box [.val (.int .i64 base_1), .h 10]), (10, .row (.pair (.int .i64) (.pair (.int .i64) .str)) x_51)], 11⟩ [0 ≤ i_4, i_4 < (((List.length l_2) : Nat) : Int)] (by kernel_rfl) rfl rfl (ap2 c_56.1 (ap1 c_56.2)) ?_
        refine VL_cond ((decide ((List.getD l_2 (Int.toNat i_4) ((0 : Int), (0 : Int))).1 < (0 : Int)))) (by kernel_rfl) ?_ ?_
        · intro b_57; have H_146 := of_t H_145 b_57
          refine V_run hN hn 3 11 [1, 4, 6, 8, 9] [0, 1, 2, 10, 11] ⟨[(1, .c (.h 0)), (4, .c (.h 1)), (6, .c (.h 2)), (8, .c (.val (.int .i64 (IntKind.wrap .i64 (i_4 + (1 : Int)))))), (9, .c (.h 11))], [(0, .row (.pair (.int .i64) (.int .u8)) l_2), (1, .box [.val (.int .i64 (0 : Int)), .val (.slice none 0 0)]), (2, .box [.val (.int .i64 base_1), .h 10]), (10, .row (.pair (.int .i64) (.pair (.int .i64) .str)) x_51), (11, .row (.int .u8) ([(List.getD l_2 (Int.toNat i_4) ((0 : Int), (0 : Int))).2] : List Int))], 12⟩ [0 ≤ i_4, i_4 < (((List.length l_2) : Nat) : Int)] (by kernel_rfl) rfl rfl (ap2 c_56.1 (ap1 c_56.2)) ?_
          obtain ⟨q_148, H_149, H_150⟩ := of_bind H_146
          refine V_cut (Y := (Int × (List Int))) (R := (Int × (List Int))) q_148 (fun y => y) (fun y => [(1, .c (.h 0)), (4, .c (.h 1)), (6, .c (.h 2)), (8, .c (.val (.int .i64 y.1))), (9, .c (.h 14))]) (fun y => [(0, .row (.pair (.int .i64) (.int .u8)) l_2), (1, .box [.val (.int .i64 (0 : Int)), .val (.slice none 0 0)]), (2, .box [.val (.int .i64 base_1), .h 10]), (10, .row (.pair (.int .i64) (.pair (.int .i64) .str)) x_51), (14, .row (.int .u8) y.2)]) ?_ ?_
          · skip
            refine VL_block ?_
            refine V_to [(1, .c (.h 0)), (4, .c (.h 1)), (6, .c (.h 2)), (8, .c (.val (.int .i64 (IntKind.wrap .i64 (i_4 + (1 : Int)))))), (9, .c (.h 14))] [(0, .row (.pair (.int .i64) (.int .u8)) l_2), (1, .box [.val (.int .i64 (0 : Int)), .val (.slice none 0 0)]), (2, .box [.val (.int .i64 base_1), .h 10]), (10, .row (.pair (.int .i64) (.pair (.int .i64) .str)) x_51), (14, .row (.int .u8) ([(List.getD l_2 (Int.toNat i_4) ((0 : Int), (0 : Int))).2] : List Int))] [(1, 1), (2, 2), (10, 10), (14, 11)] hn (by kernel_rfl) (by kernel_rfl) rfl rfl rfl ?_
            refine VL_loop (X := (Int × (List Int))) (fun x => [(1, .c (.h 0)), (4, .c (.h 1)), (6, .c (.h 2)), (8, .c (.val (.int .i64 x.1))), (9, .c (.h 14))]) (fun x => [(0, .row (.pair (.int .i64) (.int .u8)) l_2), (1, .box [.val (.int .i64 (0 : Int)), .val (.slice none 0 0)]), (2, .box [.val (.int .i64 base_1), .h 10]), (10, .row (.pair (.int .i64) (.pair (.int .i64) .str)) x_51), (14, .row (.int .u8) x.2)]) (fun k x => palinoderef11_Told_gr.l1 K l_2 k x.1 x.2 = some q_148) K ((IntKind.wrap .i64 (i_4 + (1 : Int))), ([(List.getD l_2 (Int.toNat i_4) ((0 : Int), (0 : Int))).2] : List Int)) H_149 (fun _ h => no_none h) ?_
            intro k_70 x_70 H_152
            obtain ⟨k_59, t_69⟩ := x_70
            have H_153 : palinoderef11_Told_gr.l1 K l_2 (k_70 + 1) k_59 t_69 = some q_148 := H_152
            rw [palinoderef11_Told_gr.l1] at H_153
            refine V_run hN hn 2 15 [1, 4, 6, 8, 9] [0, 1, 2, 10, 14] ⟨[(1, .c (.h 0)), (4, .c (.h 1)), (6, .c (.h 2)), (8, .c (.val (.int .i64 k_59))), (9, .c (.h 14))], [(0, .row (.pair (.int .i64) (.int .u8)) l_2), (1, .box [.val (.int .i64 (0 : Int)), .val (.slice none 0 0)]), (2, .box [.val (.int .i64 base_1), .h 10]), (10, .row (.pair (.int .i64) (.pair (.int .i64) .str)) x_51), (14, .row (.int .u8) t_69)], 15⟩ [] (by kernel_rfl) rfl rfl ap0 ?_
            obtain ⟨q_154, H_155, H_156⟩ := of_bind H_153
            refine V_cut (Y := Bool) (R := Bool) q_154 (fun y => y) (fun y => [(1, .c (.h 0)), (4, .c (.h 1)), (6, .c (.h 2)), (8, .c (.val (.int .i64 k_59))), (9, .c (.h 14)), (42, .c (.val (.bool y)))]) (fun y => [(0, .row (.pair (.int .i64) (.int .u8)) l_2), (1, .box [.val (.int .i64 (0 : Int)), .val (.slice none 0 0)]), (2, .box [.val (.int .i64 base_1), .h 10]), (10, .row (.pair (.int .i64) (.pair (.int .i64) .str)) x_51), (14, .row (.int .u8) t_69)]) ?_ ?_
            · skip
              rcases Bool.eq_false_or_eq_true ((decide (k_59 < (((List.length l_2) : Nat) : Int)))) with b_72 | b_72
              · have H_158 := of_t H_155 b_72
                obtain ⟨c_73, H_160⟩ := of_if H_158
                refine V_reg hN hn [] [(35, true)] calls_nil 15 [1, 4, 6, 8, 9, 42] [0, 1, 2, 10, 14] ⟨[(1, .c (.h 0)), (4, .c (.h 1)), (6, .c (.h 2)), (8, .c (.val (.int .i64 k_59))), (9, .c (.h 14)), (42, .c (.val (.bool (decide ((List.getD l_2 (Int.toNat k_59) ((0 : Int), (0 : Int))).1 < (0 : Int))))))], [(0, .row (.pair (.int .i64) (.int .u8)) l_2), (1, .box [.val (.int .i64 (0 : Int)), .val (.slice none 0 0)]), (2, .box [.val (.int .i64 base_1), .h 10]), (10, .row (.pair (.int .i64) (.pair (.int .i64) .str)) x_51), (14, .row (.int .u8) t_69)], 15⟩ [(decide (k_59 < (((List.length l_2) : Nat) : Int))) = true, 0 ≤ k_59, k_59 < (((List.length l_2) : Nat) : Int)] (by kernel_rfl) rfl rfl (ap2 b_72 (ap2 c_73.1 (ap1 c_73.2))) (by kernel_rfl) (by kernel_rfl) ?_
                have H_161 := Option.some.inj (show some (decide ((List.getD l_2 (Int.toNat k_59) ((0 : Int), (0 : Int))).1 < (0 : Int))) = some q_154 from H_160); subst H_161
                refine VL_nil ?_
                exact QP_end (decide ((List.getD l_2 (Int.toNat k_59) ((0 : Int), (0 : Int))).1 < (0 : Int))) rfl [(1, 1), (2, 2), (10, 10), (14, 14)] hn (by kernel_rfl) (by kernel_rfl) rfl rfl rfl
              · have H_159 := of_f H_155 b_72
                refine V_reg hN hn [] [(35, false)] calls_nil 15 [1, 4, 6, 8, 9, 42] [0, 1, 2, 10, 14] ⟨[(1, .c (.h 0)), (4, .c (.h 1)), (6, .c (.h 2)), (8, .c (.val (.int .i64 k_59))), (9, .c (.h 14)), (42, .c (.val (.bool false)))], [(0, .row (.pair (.int .i64) (.int .u8)) l_2), (1, .box [.val (.int .i64 (0 : Int)), .val (.slice none 0 0)]), (2, .box [.val (.int .i64 base_1), .h 10]), (10, .row (.pair (.int .i64) (.pair (.int .i64) .str)) x_51), (14, .row (.int .u8) t_69)], 15⟩ [(decide (k_59 < (((List.length l_2) : Nat) : Int))) = false] (by kernel_rfl) rfl rfl (ap1 b_72) (by kernel_rfl) (by kernel_rfl) ?_
                have H_162 := Option.some.inj (show some false = some q_154 from H_159); subst H_162
                refine VL_nil ?_
                exact QP_end false rfl [(1, 1), (2, 2), (10, 10), (14, 14)] hn (by kernel_rfl) (by kernel_rfl) rfl rfl rfl
            · intro y_157 hy; subst hy
              skip
              skip
              refine VL_cond (y_157) (by kernel_rfl) ?_ ?_
              · intro b_76; have H_163 := of_t H_156 b_76
                refine V_run hN hn 1 15 [1, 4, 6, 8, 9, 42] [0, 1, 2, 10, 14] ⟨[(1, .c (.h 0)), (4, .c (.h 1)), (6, .c (.h 2)), (8, .c (.val (.int .i64 k_59))), (9, .c (.h 14)), (42, .c (.val (.bool y_157)))], [(0, .row (.pair (.int .i64) (.int .u8)) l_2), (1, .box [.val (.int .i64 (0 : Int)), .val (.slice none 0 0)]), (2, .box [.val (.int .i64 base_1), .h 10]), (10, .row (.pair (.int .i64) (.pair (.int .i64) .str)) x_51), (14, .row (.int .u8) t_69)], 15⟩ [] (by kernel_rfl) rfl rfl ap0 ?_
                refine VL_block ?_
                obtain ⟨c_78, H_165⟩ := of_if H_163
                refine V_run hN hn 3 15 [1, 4, 6, 8, 9] [0, 1, 2, 10, 16] ⟨[(1, .c (.h 0)), (4, .c (.h 1)), (6, .c (.h 2)), (8, .c (.val (.int .i64 (IntKind.wrap .i64 (k_59 + (1 : Int)))))), (9, .c (.h 16))], [(0, .row (.pair (.int .i64) (.int .u8)) l_2), (1, .box [.val (.int .i64 (0 : Int)), .val (.slice none 0 0)]), (2, .box [.val (.int .i64 base_1), .h 10]), (10, .row (.pair (.int .i64) (.pair (.int .i64) .str)) x_51), (16, .row (.int .u8) (t_69 ++ ([(List.getD l_2 (Int.toNat k_59) ((0 : Int), (0 : Int))).2] : List Int)))], 17⟩ [0 ≤ k_59, k_59 < (((List.length l_2) : Nat) : Int), (List.length t_69 + List.length ([(List.getD l_2 (Int.toNat k_59) ((0 : Int), (0 : Int))).2] : List Int)) * 1 ≤ 140737488355328] (by kernel_rfl) rfl rfl (ap2 c_78.1 (ap2 c_78.2.1 (ap1 c_78.2.2))) ?_
                refine VL_nil (QB_end ?_)
                refine VL_nil ?_
                exact V_roundEnd ((IntKind.wrap .i64 (k_59 + (1 : Int))), (t_69 ++ ([(List.getD l_2 (Int.toNat k_59) ((0 : Int), (0 : Int))).2] : List Int))) H_165 [(1, 1), (2, 2), (10, 10), (14, 16)] hn (by kernel_rfl) (by kernel_rfl) rfl rfl rfl
              · intro b_76; have H_164 := of_f H_156 b_76
                refine VL_exit ?_
                refine QL_exit ?_
                refine QB_here ?_
                have H_166 := Option.some.inj (show some (k_59, t_69) = some q_148 from H_164); subst H_166
                refine VL_nil ?_
                exact QP_end (k_59, t_69) rfl [(1, 1), (2, 2), (10, 10), (14, 14)] hn (by kernel_rfl) (by kernel_rfl) rfl rfl rfl
          · intro y_151 hy; subst hy
            obtain ⟨k_79, t_80⟩ := y_151
            obtain ⟨c_81, H_167⟩ := of_if H_150
            refine V_run hN hn 2 15 [1, 4, 6, 7] [0, 1, 2, 16] ⟨[(1, .c (.h 0)), (4, .c (.h 1)), (6, .c (.h 2)), (7, .c (.val (.int .i64 k_79)))], [(0, .row (.pair (.int .i64) (.int .u8)) l_2), (1, .box [.val (.int .i64 (0 : Int)), .val (.slice none 0 0)]), (2, .box [.val (.int .i64 base_1), .h 16]), (16, .row (.pair (.int .i64) (.pair (.int .i64) .str)) (x_51 ++ ([((0 : Int), ((0 : Int), (ofBytes t_80)))] : List (Int × (Int × ByteArray)))))], 17⟩ [(List.length x_51 + List.length ([((0 : Int), ((0 : Int), (ofBytes t_80)))] : List (Int × (Int × ByteArray)))) * 32 ≤ 140737488355328] (by kernel_rfl) rfl rfl (ap1 c_81) ?_
            refine VL_nil (QB_end ?_)
            have H_168 := Option.some.inj (show some ((x_51 ++ ([((0 : Int), ((0 : Int), (ofBytes t_80)))] : List (Int × (Int × ByteArray)))), k_79) = some q_141 from H_167); subst H_168
            refine VL_nil ?_
            exact QP_end ((x_51 ++ ([((0 : Int), ((0 : Int), (ofBytes t_80)))] : List (Int × (Int × ByteArray)))), k_79) rfl [(1, 1), (2, 2), (17, 16)] hn (by kernel_rfl) (by kernel_rfl) rfl rfl rfl
        · intro b_57; have H_147 := of_f H_145 b_57
          refine V_run hN hn 1 11 [1, 4, 6, 7, 8, 24] [0, 1, 2, 10] ⟨[(1, .c (.h 0)), (4, .c (.h 1)), (6, .c (.h 2)), (7, .c (.val (.int .i64 i_4))), (8, .c (.val (.int .i64 (IntKind.wrap .i64 (i_4 + (1 : Int)))))), (24, .c (.val (.bool (decide ((List.getD l_2 (Int.toNat i_4) ((0 : Int), (0 : Int))).1 < (0 : Int))))))], [(0, .row (.pair (.int .i64) (.int .u8)) l_2), (1, .box [.val (.int .i64 (0 : Int)), .val (.slice none 0 0)]), (2, .box [.val (.int .i64 base_1), .h 10]), (10, .row (.pair (.int .i64) (.pair (.int .i64) .str)) x_51)], 11⟩ [] (by kernel_rfl) rfl rfl ap0 ?_
          obtain ⟨q_169, H_170, H_171⟩ := of_bind H_147
          refine V_cut (Y := Int) (R := Int) q_169 (fun y => y) (fun y => [(1, .c (.h 0)), (4, .c (.h 1)), (6, .c (.h 2)), (7, .c (.val (.int .i64 i_4))), (8, .c (.val (.int .i64 y)))]) (fun y => [(0, .row (.pair (.int .i64) (.int .u8)) l_2), (1, .box [.val (.int .i64 (0 : Int)), .val (.slice none 0 0)]), (2, .box [.val (.int .i64 base_1), .h 10]), (10, .row (.pair (.int .i64) (.pair (.int .i64) .str)) x_51)]) ?_ ?_
          · skip
            refine VL_block ?_
            refine V_to [(1, .c (.h 0)), (4, .c (.h 1)), (6, .c (.h 2)), (7, .c (.val (.int .i64 i_4))), (8, .c (.val (.int .i64 (IntKind.wrap .i64 (i_4 + (1 : Int))))))] [(0, .row (.pair (.int .i64) (.int .u8)) l_2), (1, .box [.val (.int .i64 (0 : Int)), .val (.slice none 0 0)]), (2, .box [.val (.int .i64 base_1), .h 10]), (10, .row (.pair (.int .i64) (.pair (.int .i64) .str)) x_51)] [(1, 1), (2, 2), (10, 10)] hn (by kernel_rfl) (by kernel_rfl) rfl rfl rfl ?_
            refine VL_loop (X := Int) (fun x => [(1, .c (.h 0)), (4, .c (.h 1)), (6, .c (.h 2)), (7, .c (.val (.int .i64 i_4))), (8, .c (.val (.int .i64 x)))]) (fun x => [(0, .row (.pair (.int .i64) (.int .u8)) l_2), (1, .box [.val (.int .i64 (0 : Int)), .val (.slice none 0 0)]), (2, .box [.val (.int .i64 base_1), .h 10]), (10, .row (.pair (.int .i64) (.pair (.int .i64) .str)) x_51)]) (fun k x => palinoderef11_Told_gr.l2 K l_2 k x = some q_169) K (IntKind.wrap .i64 (i_4 + (1 : Int))) H_170 (fun _ h => no_none h) ?_
            intro k_84 k_83 H_173
            have H_174 : palinoderef11_Told_gr.l2 K l_2 (k_84 + 1) k_83 = some q_169 := H_173
            rw [palinoderef11_Told_gr.l2] at H_174
            refine V_run hN hn 2 11 [1, 4, 6, 7, 8] [0, 1, 2, 10] ⟨[(1, .c (.h 0)), (4, .c (.h 1)), (6, .c (.h 2)), (7, .c (.val (.int .i64 i_4))), (8, .c (.val (.int .i64 k_83)))], [(0, .row (.pair (.int .i64) (.int .u8)) l_2), (1, .box [.val (.int .i64 (0 : Int)), .val (.slice none 0 0)]), (2, .box [.val (.int .i64 base_1), .h 10]), (10, .row (.pair (.int .i64) (.pair (.int .i64) .str)) x_51)], 11⟩ [] (by kernel_rfl) rfl rfl ap0 ?_
            obtain ⟨q_175, H_176, H_177⟩ := of_bind H_174
            refine V_cut (Y := Bool) (R := Bool) q_175 (fun y => y) (fun y => [(1, .c (.h 0)), (4, .c (.h 1)), (6, .c (.h 2)), (7, .c (.val (.int .i64 i_4))), (8, .c (.val (.int .i64 k_83))), (79, .c (.val (.bool y)))]) (fun y => [(0, .row (.pair (.int .i64) (.int .u8)) l_2), (1, .box [.val (.int .i64 (0 : Int)), .val (.slice none 0 0)]), (2, .box [.val (.int .i64 base_1), .h 10]), (10, .row (.pair (.int .i64) (.pair (.int .i64) .str)) x_51)]) ?_ ?_
            · skip
              rcases Bool.eq_false_or_eq_true ((decide (k_83 < (((List.length l_2) : Nat) : Int)))) with b_86 | b_86
              · have H_179 := of_t H_176 b_86
                obtain ⟨c_87, H_181⟩ := of_if H_179
                refine V_draw hN hn (by kernel_rfl) [] [(65, true)] calls_nil 11 [1, 4, 6, 7, 8, 79] [0, 1, 2, 10] ⟨[(1, .c (.h 0)), (4, .c (.h 1)), (6, .c (.h 2)), (7, .c (.val (.int .i64 i_4))), (8, .c (.val (.int .i64 k_83))), (79, .c (.val (.bool ((List.getD l_2 (Int.toNat k_83) ((0 : Int), (0 : Int))).1 == (IntKind.wrap .i64 ((List.getD l_2 (Int.toNat (IntKind.wrap .i64 (k_83 - (1 : Int)))) ((0 : Int), (0 : Int))).1 + (1 : Int)))))))], [(0, .row (.pair (.int .i64) (.int .u8)) l_2), (1, .box [.val (.int .i64 (0 : Int)), .val (.slice none 0 0)]), (2, .box [.val (.int .i64 base_1), .h 10]), (10, .row (.pair (.int .i64) (.pair (.int .i64) .str)) x_51)], 11⟩ [(decide (k_83 < (((List.length l_2) : Nat) : Int))) = true, 0 ≤ k_83, k_83 < (((List.length l_2) : Nat) : Int), 0 ≤ (IntKind.wrap .i64 (k_83 - (1 : Int))), (IntKind.wrap .i64 (k_83 - (1 : Int))) < (((List.length l_2) : Nat) : Int)] (by kernel_rfl) rfl rfl (ap2 b_86 (ap2 c_87.1 (ap2 c_87.2.1 (ap2 c_87.2.2.1 (ap1 c_87.2.2.2))))) (by kernel_rfl) (by kernel_rfl) ?_
                have H_182 := Option.some.inj (show some ((List.getD l_2 (Int.toNat k_83) ((0 : Int), (0 : Int))).1 == (IntKind.wrap .i64 ((List.getD l_2 (Int.toNat (IntKind.wrap .i64 (k_83 - (1 : Int)))) ((0 : Int), (0 : Int))).1 + (1 : Int)))) = some q_175 from H_181); subst H_182
                refine VL_nil ?_
                exact QP_end ((List.getD l_2 (Int.toNat k_83) ((0 : Int), (0 : Int))).1 == (IntKind.wrap .i64 ((List.getD l_2 (Int.toNat (IntKind.wrap .i64 (k_83 - (1 : Int)))) ((0 : Int), (0 : Int))).1 + (1 : Int)))) rfl [(1, 1), (2, 2), (10, 10)] hn (by kernel_rfl) (by kernel_rfl) rfl rfl rfl
              · have H_180 := of_f H_176 b_86
                refine V_draw hN hn (by kernel_rfl) [] [(65, false)] calls_nil 11 [1, 4, 6, 7, 8, 79] [0, 1, 2, 10] ⟨[(1, .c (.h 0)), (4, .c (.h 1)), (6, .c (.h 2)), (7, .c (.val (.int .i64 i_4))), (8, .c (.val (.int .i64 k_83))), (79, .c (.val (.bool false)))], [(0, .row (.pair (.int .i64) (.int .u8)) l_2), (1, .box [.val (.int .i64 (0 : Int)), .val (.slice none 0 0)]), (2, .box [.val (.int .i64 base_1), .h 10]), (10, .row (.pair (.int .i64) (.pair (.int .i64) .str)) x_51)], 11⟩ [(decide (k_83 < (((List.length l_2) : Nat) : Int))) = false] (by kernel_rfl) rfl rfl (ap1 b_86) (by kernel_rfl) (by kernel_rfl) ?_
                have H_183 := Option.some.inj (show some false = some q_175 from H_180); subst H_183
                refine VL_nil ?_
                exact QP_end false rfl [(1, 1), (2, 2), (10, 10)] hn (by kernel_rfl) (by kernel_rfl) rfl rfl rfl
            · intro y_178 hy; subst hy
              skip
              skip
              refine VL_cond (y_178) (by kernel_rfl) ?_ ?_
              · intro b_90; have H_184 := of_t H_177 b_90
                refine V_run hN hn 1 11 [1, 4, 6, 7, 8, 79] [0, 1, 2, 10] ⟨[(1, .c (.h 0)), (4, .c (.h 1)), (6, .c (.h 2)), (7, .c (.val (.int .i64 i_4))), (8, .c (.val (.int .i64 k_83))), (79, .c (.val (.bool y_178)))], [(0, .row (.pair (.int .i64) (.int .u8)) l_2), (1, .box [.val (.int .i64 (0 : Int)), .val (.slice none 0 0)]), (2, .box [.val (.int .i64 base_1), .h 10]), (10, .row (.pair (.int .i64) (.pair (.int .i64) .str)) x_51)], 11⟩ [] (by kernel_rfl) rfl rfl ap0 ?_
                refine VL_block ?_
                refine V_run hN hn 1 11 [1, 4, 6, 7, 8] [0, 1, 2, 10] ⟨[(1, .c (.h 0)), (4, .c (.h 1)), (6, .c (.h 2)), (7, .c (.val (.int .i64 i_4))), (8, .c (.val (.int .i64 (IntKind.wrap .i64 (k_83 + (1 : Int))))))], [(0, .row (.pair (.int .i64) (.int .u8)) l_2), (1, .box [.val (.int .i64 (0 : Int)), .val (.slice none 0 0)]), (2, .box [.val (.int .i64 base_1), .h 10]), (10, .row (.pair (.int .i64) (.pair (.int .i64) .str)) x_51)], 11⟩ [] (by kernel_rfl) rfl rfl ap0 ?_
                refine VL_nil (QB_end ?_)
                refine VL_nil ?_
                exact V_roundEnd (IntKind.wrap .i64 (k_83 + (1 : Int))) H_184 [(1, 1), (2, 2), (10, 10)] hn (by kernel_rfl) (by kernel_rfl) rfl rfl rfl
              · intro b_90; have H_185 := of_f H_177 b_90
                refine VL_exit ?_
                refine QL_exit ?_
                refine QB_here ?_
                have H_186 := Option.some.inj (show some k_83 = some q_169 from H_185); subst H_186
                refine VL_nil ?_
                exact QP_end k_83 rfl [(1, 1), (2, 2), (10, 10)] hn (by kernel_rfl) (by kernel_rfl) rfl rfl rfl
          · intro y_172 hy; subst hy
            skip
            skip
            obtain ⟨c_94, H_187⟩ := of_if H_171
            refine V_draw hN hn (by kernel_rfl) [] [] calls_nil 11 [1, 4, 6, 8] [0, 1, 2, 12] ⟨[(1, .c (.h 0)), (4, .c (.h 1)), (6, .c (.h 2)), (8, .c (.val (.int .i64 y_172)))], [(0, .row (.pair (.int .i64) (.int .u8)) l_2), (1, .box [.val (.int .i64 (0 : Int)), .val (.slice none 0 0)]), (2, .box [.val (.int .i64 base_1), .h 12]), (12, .row (.pair (.int .i64) (.pair (.int .i64) .str)) (x_51 ++ ([((List.getD l_2 (Int.toNat i_4) ((0 : Int), (0 : Int))).1, ((IntKind.wrap .i64 ((List.getD l_2 (Int.toNat (IntKind.wrap .i64 (y_172 - (1 : Int)))) ((0 : Int), (0 : Int))).1 + (1 : Int))), ByteArray.empty))] : List (Int × (Int × ByteArray)))))], 13⟩ [0 ≤ i_4, i_4 < (((List.length l_2) : Nat) : Int), 0 ≤ (IntKind.wrap .i64 (y_172 - (1 : Int))), (IntKind.wrap .i64 (y_172 - (1 : Int))) < (((List.length l_2) : Nat) : Int), (List.length x_51 + List.length ([((List.getD l_2 (Int.toNat i_4) ((0 : Int), (0 : Int))).1, ((IntKind.wrap .i64 ((List.getD l_2 (Int.toNat (IntKind.wrap .i64 (y_172 - (1 : Int)))) ((0 : Int), (0 : Int))).1 + (1 : Int))), ByteArray.empty))] : List (Int × (Int × ByteArray)))) * 32 ≤ 140737488355328] (by kernel_rfl) rfl rfl (ap2 c_56.1 (ap2 c_56.2 (ap2 c_94.1 (ap2 c_94.2.1 (ap1 c_94.2.2))))) (by kernel_rfl) (by kernel_rfl) ?_
            refine V_run hN hn 1 13 [1, 4, 6, 7] [0, 1, 2, 12] ⟨[(1, .c (.h 0)), (4, .c (.h 1)), (6, .c (.h 2)), (7, .c (.val (.int .i64 y_172)))], [(0, .row (.pair (.int .i64) (.int .u8)) l_2), (1, .box [.val (.int .i64 (0 : Int)), .val (.slice none 0 0)]), (2, .box [.val (.int .i64 base_1), .h 12]), (12, .row (.pair (.int .i64) (.pair (.int .i64) .str)) (x_51 ++ ([((List.getD l_2 (Int.toNat i_4) ((0 : Int), (0 : Int))).1, ((IntKind.wrap .i64 ((List.getD l_2 (Int.toNat (IntKind.wrap .i64 (y_172 - (1 : Int)))) ((0 : Int), (0 : Int))).1 + (1 : Int))), ByteArray.empty))] : List (Int × (Int × ByteArray)))))], 13⟩ [] (by kernel_rfl) rfl rfl ap0 ?_
            refine VL_nil (QB_end ?_)
            have H_188 := Option.some.inj (show some ((x_51 ++ ([((List.getD l_2 (Int.toNat i_4) ((0 : Int), (0 : Int))).1, ((IntKind.wrap .i64 ((List.getD l_2 (Int.toNat (IntKind.wrap .i64 (y_172 - (1 : Int)))) ((0 : Int), (0 : Int))).1 + (1 : Int))), ByteArray.empty))] : List (Int × (Int × ByteArray)))), y_172) = some q_141 from H_187); subst H_188
            refine VL_nil ?_
            exact QP_end ((x_51 ++ ([((List.getD l_2 (Int.toNat i_4) ((0 : Int), (0 : Int))).1, ((IntKind.wrap .i64 ((List.getD l_2 (Int.toNat (IntKind.wrap .i64 (y_172 - (1 : Int)))) ((0 : Int), (0 : Int))).1 + (1 : Int))), ByteArray.empty))] : List (Int × (Int × ByteArray)))), y_172) rfl [(1, 1), (2, 2), (17, 12)] hn (by kernel_rfl) (by kernel_rfl) rfl rfl rfl
      · intro y_144 hy; subst hy
        obtain ⟨x_96, i_97⟩ := y_144
        refine VL_nil ?_
        exact V_roundEnd (x_96, i_97) H_143 [(1, 1), (2, 2), (10, 17)] hn (by kernel_rfl) (by kernel_rfl) rfl rfl rfl
    · intro b_54; have H_140 := of_f H_138 b_54
      refine VL_exit ?_
      refine QL_exit ?_
      refine QB_here ?_
      have H_189 := Option.some.inj (show some x_51 = some q_133 from H_140); subst H_189
      refine VL_nil ?_
      exact QP_end x_51 rfl [(1, 1), (2, 2), (10, 10)] hn (by kernel_rfl) (by kernel_rfl) rfl rfl rfl
  · intro y_136 hy; subst hy
    skip
    skip
    refine V_run hN hn 3 11 [4, 6, 10] [0, 1, 2, 10] ⟨[(4, .c (.h 1)), (6, .c (.h 2)), (10, .c (.val (.int .i64 (0 : Int))))], [(0, .row (.pair (.int .i64) (.int .u8)) l_2), (1, .box [.val (.int .i64 (0 : Int)), .val (.slice none 0 0)]), (2, .box [.val (.int .i64 base_1), .h 10]), (10, .row (.pair (.int .i64) (.pair (.int .i64) .str)) y_136)], 11⟩ [] (by kernel_rfl) rfl rfl ap0 ?_
    obtain ⟨q_190, H_191, H_192⟩ := of_bind H_135
    refine V_cut (Y := Unit) (R := ((Int × (List (Int × (Int × ByteArray))) × Int) ⊕ Unit)) q_190 (fun y => (Sum.inr y)) (fun y => [(4, .c (.h 1)), (6, .c (.h 2))]) (fun y => [(0, .row (.pair (.int .i64) (.int .u8)) l_2), (1, .box [.val (.int .i64 (0 : Int)), .val (.slice none 0 0)]), (2, .box [.val (.int .i64 base_1), .h 10]), (10, .row (.pair (.int .i64) (.pair (.int .i64) .str)) y_136)]) ?_ ?_
    · skip
      refine VL_block ?_
      refine V_to [(4, .c (.h 1)), (6, .c (.h 2)), (10, .c (.val (.int .i64 (0 : Int))))] [(0, .row (.pair (.int .i64) (.int .u8)) l_2), (1, .box [.val (.int .i64 (0 : Int)), .val (.slice none 0 0)]), (2, .box [.val (.int .i64 base_1), .h 10]), (10, .row (.pair (.int .i64) (.pair (.int .i64) .str)) y_136)] [(1, 1), (2, 2), (10, 10)] hn (by kernel_rfl) (by kernel_rfl) rfl rfl rfl ?_
      refine VL_loop (X := Int) (fun x => [(4, .c (.h 1)), (6, .c (.h 2)), (10, .c (.val (.int .i64 x)))]) (fun x => [(0, .row (.pair (.int .i64) (.int .u8)) l_2), (1, .box [.val (.int .i64 (0 : Int)), .val (.slice none 0 0)]), (2, .box [.val (.int .i64 base_1), .h 10]), (10, .row (.pair (.int .i64) (.pair (.int .i64) .str)) y_136)]) (fun k x => palinoderef11_Told_gr.l3 K y_136 k x = some q_190) K (0 : Int) H_191 (fun _ h => no_none h) ?_
      intro k_101 k_100 H_194
      have H_195 : palinoderef11_Told_gr.l3 K y_136 (k_101 + 1) k_100 = some q_190 := H_194
      rw [palinoderef11_Told_gr.l3] at H_195
      refine V_run hN hn 3 11 [4, 6, 10, 105] [0, 1, 2, 10] ⟨[(4, .c (.h 1)), (6, .c (.h 2)), (10, .c (.val (.int .i64 k_100))), (105, .c (.val (.bool (decide (k_100 < (((List.length y_136) : Nat) : Int))))))], [(0, .row (.pair (.int .i64) (.int .u8)) l_2), (1, .box [.val (.int .i64 (0 : Int)), .val (.slice none 0 0)]), (2, .box [.val (.int .i64 base_1), .h 10]), (10, .row (.pair (.int .i64) (.pair (.int .i64) .str)) y_136)], 11⟩ [] (by kernel_rfl) rfl rfl ap0 ?_
      refine VL_cond ((decide (k_100 < (((List.length y_136) : Nat) : Int)))) (by kernel_rfl) ?_ ?_
      · intro b_103; have H_196 := of_t H_195 b_103
        refine V_run hN hn 2 11 [4, 6, 10, 105] [0, 1, 2, 10] ⟨[(4, .c (.h 1)), (6, .c (.h 2)), (10, .c (.val (.int .i64 k_100))), (105, .c (.val (.bool (decide (k_100 < (((List.length y_136) : Nat) : Int))))))], [(0, .row (.pair (.int .i64) (.int .u8)) l_2), (1, .box [.val (.int .i64 (0 : Int)), .val (.slice none 0 0)]), (2, .box [.val (.int .i64 base_1), .h 10]), (10, .row (.pair (.int .i64) (.pair (.int .i64) .str)) y_136)], 11⟩ [] (by kernel_rfl) rfl rfl ap0 ?_
        refine VL_block ?_
        refine V_run hN hn 1 11 [4, 6, 10, 105] [0, 1, 2, 10] ⟨[(4, .c (.h 1)), (6, .c (.h 2)), (10, .c (.val (.int .i64 k_100))), (105, .c (.val (.bool (decide (k_100 < (((List.length y_136) : Nat) : Int))))))], [(0, .row (.pair (.int .i64) (.int .u8)) l_2), (1, .box [.val (.int .i64 (0 : Int)), .val (.slice none 0 0)]), (2, .box [.val (.int .i64 base_1), .h 10]), (10, .row (.pair (.int .i64) (.pair (.int .i64) .str)) y_136)], 11⟩ [] (by kernel_rfl) rfl rfl ap0 ?_
        obtain ⟨r_106, h_107, H_198⟩ := of_bind H_196
        obtain ⟨c_108, H_199⟩ := of_if H_198
        refine V_reg hN hn [(6, ⟨25, 0, [.c (.val (.string (List.getD y_136 (Int.toNat k_100) ((0 : Int), ((0 : Int), ByteArray.empty))).2.2))], [], .c (.val (.bool r_106)), [], [], 11⟩)] [] (calls_cons (palinoderef1_Valid_spec K (List.getD y_136 (Int.toNat k_100) ((0 : Int), ((0 : Int), ByteArray.empty))).2.2 r_106 h_107) (by kernel_rfl) calls_nil) 11 [4, 6, 10, 115] [0, 1, 2, 10] ⟨[(4, .c (.h 1)), (6, .c (.h 2)), (10, .c (.val (.int .i64 k_100))), (115, .c (.val (.bool (!r_106))))], [(0, .row (.pair (.int .i64) (.int .u8)) l_2), (1, .box [.val (.int .i64 (0 : Int)), .val (.slice none 0 0)]), (2, .box [.val (.int .i64 base_1), .h 10]), (10, .row (.pair (.int .i64) (.pair (.int .i64) .str)) y_136)], 11⟩ [0 ≤ k_100, k_100 < (((List.length y_136) : Nat) : Int)] (by kernel_rfl) rfl rfl (ap2 c_108.1 (ap1 c_108.2)) (by kernel_rfl) (by kernel_rfl) ?_
        refine VL_cond ((!r_106)) (by kernel_rfl) ?_ ?_
        · intro b_109; have H_200 := of_t H_199 b_109
          refine V_run hN hn 2 11 [4, 5] [0, 1] ⟨[(4, .c (.h 1)), (5, .c (.val (.int .i64 (12 : Int))))], [(0, .row (.pair (.int .i64) (.int .u8)) l_2), (1, .box [.val (.int .i64 (0 : Int)), .val (.slice none 0 0)])], 11⟩ [] (by kernel_rfl) rfl rfl ap0 ?_
          have H_202 := Option.some.inj (show some (Sum.inl ((0 : Int), ([] : List (Int × (Int × ByteArray))), (12 : Int))) = some q_190 from H_200); subst H_202
          have H_203 := Option.some.inj (show some ((0 : Int), ([] : List (Int × (Int × ByteArray))), (12 : Int)) = some r from H_192); subst H_203
          refine VL_ret ?_
          refine QB_ret ?_
          refine QL_ret ?_
          refine QB_ret ?_
          refine QP_ret ?_
          refine P_ghost [.nilCell 1 1 (.pair (.int .i64) (.pair (.int .i64) .str))] 11 hn [4, 5] [0, 1, 11] ⟨[(4, .c (.h 1)), (5, .c (.val (.int .i64 (12 : Int))))], [(0, .row (.pair (.int .i64) (.int .u8)) l_2), (1, .box [.val (.int .i64 (0 : Int)), .h 11]), (11, .row (.pair (.int .i64) (.pair (.int .i64) .str)) ([] : List (Int × (Int × ByteArray))))], 12⟩ (by kernel_rfl) rfl rfl ?_
          exact P_to [(4, .c (.h 1)), (5, .c (.val (.int .i64 (12 : Int))))] [(0, .row (.pair (.int .i64) (.int .u8)) l_2), (1, .box [.val (.int .i64 (0 : Int)), .h 12]), (12, .row (.pair (.int .i64) (.pair (.int .i64) .str)) ([] : List (Int × (Int × ByteArray))))] [(1, 1), (12, 11)] hn (by kernel_rfl) (by kernel_rfl) rfl rfl rfl (QF_retS (by kernel_rfl) (by kernel_rfl) rfl)
        · intro b_109; have H_201 := of_f H_199 b_109
          refine V_run hN hn 1 11 [4, 6, 10, 115] [0, 1, 2, 10] ⟨[(4, .c (.h 1)), (6, .c (.h 2)), (10, .c (.val (.int .i64 k_100))), (115, .c (.val (.bool (!r_106))))], [(0, .row (.pair (.int .i64) (.int .u8)) l_2), (1, .box [.val (.int .i64 (0 : Int)), .val (.slice none 0 0)]), (2, .box [.val (.int .i64 base_1), .h 10]), (10, .row (.pair (.int .i64) (.pair (.int .i64) .str)) y_136)], 11⟩ [] (by kernel_rfl) rfl rfl ap0 ?_
          refine VL_nil (QB_end ?_)
          refine V_run hN hn 1 11 [4, 6, 10] [0, 1, 2, 10] ⟨[(4, .c (.h 1)), (6, .c (.h 2)), (10, .c (.val (.int .i64 (IntKind.wrap .i64 (k_100 + (1 : Int))))))], [(0, .row (.pair (.int .i64) (.int .u8)) l_2), (1, .box [.val (.int .i64 (0 : Int)), .val (.slice none 0 0)]), (2, .box [.val (.int .i64 base_1), .h 10]), (10, .row (.pair (.int .i64) (.pair (.int .i64) .str)) y_136)], 11⟩ [] (by kernel_rfl) rfl rfl ap0 ?_
          refine VL_nil ?_
          exact V_roundEnd (IntKind.wrap .i64 (k_100 + (1 : Int))) H_201 [(1, 1), (2, 2), (10, 10)] hn (by kernel_rfl) (by kernel_rfl) rfl rfl rfl
      · intro b_103; have H_197 := of_f H_195 b_103
        refine VL_exit ?_
        refine QL_exit ?_
        refine QB_here ?_
        have H_204 := Option.some.inj (show some (Sum.inr ()) = some q_190 from H_197); subst H_204
        refine VL_nil ?_
        exact QP_end () rfl [(1, 1), (2, 2), (10, 10)] hn (by kernel_rfl) (by kernel_rfl) rfl rfl rfl
    · intro y_193 hy; subst hy
      skip
      refine V_run hN hn 3 11 [4, 6, 120] [0, 1, 2, 10] ⟨[(4, .c (.h 1)), (6, .c (.h 2)), (120, .c (.val (.bool (decide ((((List.length y_136) : Nat) : Int) > (60 : Int))))))], [(0, .row (.pair (.int .i64) (.int .u8)) l_2), (1, .box [.val (.int .i64 (0 : Int)), .val (.slice none 0 0)]), (2, .box [.val (.int .i64 base_1), .h 10]), (10, .row (.pair (.int .i64) (.pair (.int .i64) .str)) y_136)], 11⟩ [] (by kernel_rfl) rfl rfl ap0 ?_
      refine VL_cond ((decide ((((List.length y_136) : Nat) : Int) > (60 : Int)))) (by kernel_rfl) ?_ ?_
      · intro b_114; have H_205 := of_t H_192 b_114
        refine V_run hN hn 2 11 [4, 5] [0, 1] ⟨[(4, .c (.h 1)), (5, .c (.val (.int .i64 (70 : Int))))], [(0, .row (.pair (.int .i64) (.int .u8)) l_2), (1, .box [.val (.int .i64 (0 : Int)), .val (.slice none 0 0)])], 11⟩ [] (by kernel_rfl) rfl rfl ap0 ?_
        have H_207 := Option.some.inj (show some ((0 : Int), ([] : List (Int × (Int × ByteArray))), (70 : Int)) = some r from H_205); subst H_207
        refine VL_ret ?_
        refine P_ghost [.nilCell 1 1 (.pair (.int .i64) (.pair (.int .i64) .str))] 11 hn [4, 5] [0, 1, 11] ⟨[(4, .c (.h 1)), (5, .c (.val (.int .i64 (70 : Int))))], [(0, .row (.pair (.int .i64) (.int .u8)) l_2), (1, .box [.val (.int .i64 (0 : Int)), .h 11]), (11, .row (.pair (.int .i64) (.pair (.int .i64) .str)) ([] : List (Int × (Int × ByteArray))))], 12⟩ (by kernel_rfl) rfl rfl ?_
        exact P_to [(4, .c (.h 1)), (5, .c (.val (.int .i64 (70 : Int))))] [(0, .row (.pair (.int .i64) (.int .u8)) l_2), (1, .box [.val (.int .i64 (0 : Int)), .h 12]), (12, .row (.pair (.int .i64) (.pair (.int .i64) .str)) ([] : List (Int × (Int × ByteArray))))] [(1, 1), (12, 11)] hn (by kernel_rfl) (by kernel_rfl) rfl rfl rfl (QF_retS (by kernel_rfl) (by kernel_rfl) rfl)
      · intro b_114; have H_206 := of_f H_192 b_114
        refine V_run hN hn 3 11 [4, 5] [0, 1, 10] ⟨[(4, .c (.h 1)), (5, .c (.val (.int .i64 (0 : Int))))], [(0, .row (.pair (.int .i64) (.int .u8)) l_2), (1, .box [.val (.int .i64 base_1), .h 10]), (10, .row (.pair (.int .i64) (.pair (.int .i64) .str)) y_136)], 11⟩ [] (by kernel_rfl) rfl rfl ap0 ?_
        have H_208 := Option.some.inj (show some (base_1, y_136, (0 : Int)) = some r from H_206); subst H_208
        refine VL_ret ?_
        exact P_to [(4, .c (.h 1)), (5, .c (.val (.int .i64 (0 : Int))))] [(0, .row (.pair (.int .i64) (.int .u8)) l_2), (1, .box [.val (.int .i64 base_1), .h 12]), (12, .row (.pair (.int .i64) (.pair (.int .i64) .str)) y_136)] [(1, 1), (12, 10)] hn (by kernel_rfl) (by kernel_rfl) rfl rfl rfl (QF_retS (by kernel_rfl) (by kernel_rfl) rfl)

theorem palinoderef11_Build_spec (K : Nat) (base_1 : Int) (l_2 : (List (Int × (Int × ByteArray)))) (r : (Int × (List (Int × (Int × ByteArray))) × Int)) (H : palinoderef11_Build K base_1 l_2 = some r) : Spec Try.prog 23 0 [.c (.val (.int .i64 base_1)), .c (.imm (.slice (.pair (.int .i64) (.pair (.int .i64) .str))) l_2)] [] (.tup [(true, [.val (.int .i64 r.1), .h 3]), (false, [.val (.int .i64 r.2.2)])]) [(3, .row (.pair (.int .i64) (.pair (.int .i64) .str)) r.2.1)] := by
  refine Spec_mk (fn := Try.f23) (c := (Try.f23.body).get!) Try.func23 (by kernel_rfl) rfl ?_
  intro C hN hn
  replace hN : C.N = 83 := hN
  unfold palinoderef11_Build at H
  refine V_run hN hn 4 0 [0, 1, 4] [0] ⟨[(0, .c (.val (.int .i64 base_1))), (1, .c (.imm (.slice (.pair (.int .i64) (.pair (.int .i64) .str))) l_2)), (4, .c (.h 0))], [(0, .box [.val (.int .i64 (0 : Int)), .val (.slice none 0 0)])], 1⟩ [] (by kernel_rfl) rfl rfl ap0 ?_
  obtain ⟨q_68, H_69, H_70⟩ := of_bind H
  refine V_cut (Y := Bool) (R := Bool) q_68 (fun y => y) (fun y => [(0, .c (.val (.int .i64 base_1))), (1, .c (.imm (.slice (.pair (.int .i64) (.pair (.int .i64) .str))) l_2)), (4, .c (.h 0)), (15, .c (.val (.bool y)))]) (fun y => [(0, .box [.val (.int .i64 (0 : Int)), .val (.slice none 0 0)])]) ?_ ?_
  · skip
    rcases Bool.eq_false_or_eq_true ((decide (base_1 < (0 : Int)))) with b_4 | b_4
    · have H_72 := of_t H_69 b_4
      refine V_reg hN hn [] [(12, true)] calls_nil 1 [0, 1, 4, 15] [0] ⟨[(0, .c (.val (.int .i64 base_1))), (1, .c (.imm (.slice (.pair (.int .i64) (.pair (.int .i64) .str))) l_2)), (4, .c (.h 0)), (15, .c (.val (.bool true)))], [(0, .box [.val (.int .i64 (0 : Int)), .val (.slice none 0 0)])], 1⟩ [(decide (base_1 < (0 : Int))) = true] (by kernel_rfl) rfl rfl (ap1 b_4) (by kernel_rfl) (by kernel_rfl) ?_
      have H_74 := Option.some.inj (show some true = some q_68 from H_72); subst H_74
      refine VL_nil ?_
      exact QP_end true rfl [(0, 0)] hn (by kernel_rfl) (by kernel_rfl) rfl rfl rfl
    · have H_73 := of_f H_69 b_4
      refine V_reg hN hn [] [(12, false)] calls_nil 1 [0, 1, 4, 15] [0] ⟨[(0, .c (.val (.int .i64 base_1))), (1, .c (.imm (.slice (.pair (.int .i64) (.pair (.int .i64) .str))) l_2)), (4, .c (.h 0)), (15, .c (.val (.bool (decide (base_1 > (20000 : Int))))))], [(0, .box [.val (.int .i64 (0 : Int)), .val (.slice none 0 0)])], 1⟩ [(decide (base_1 < (0 : Int))) = false] (by kernel_rfl) rfl rfl (ap1 b_4) (by kernel_rfl) (by kernel_rfl) ?_
      have H_75 := Option.some.inj (show some (decide (base_1 > (20000 : Int))) = some q_68 from H_73); subst H_75
      refine VL_nil ?_
      exact QP_end (decide (base_1 > (20000 : Int))) rfl [(0, 0)] hn (by kernel_rfl) (by kernel_rfl) rfl rfl rfl
  · intro y_71 hy; subst hy
    skip
    skip
    refine VL_cond (y_71) (by kernel_rfl) ?_ ?_
    · intro b_8; have H_76 := of_t H_70 b_8
      refine V_run hN hn 2 1 [4, 5] [0] ⟨[(4, .c (.h 0)), (5, .c (.val (.int .i64 (10 : Int))))], [(0, .box [.val (.int .i64 (0 : Int)), .val (.slice none 0 0)])], 1⟩ [] (by kernel_rfl) rfl rfl ap0 ?_
      have H_78 := Option.some.inj (show some ((0 : Int), ([] : List (Int × (Int × ByteArray))), (10 : Int)) = some r from H_76); subst H_78
      refine VL_ret ?_
      refine P_ghost [.nilCell 0 1 (.pair (.int .i64) (.pair (.int .i64) .str))] 1 hn [4, 5] [0, 1] ⟨[(4, .c (.h 0)), (5, .c (.val (.int .i64 (10 : Int))))], [(0, .box [.val (.int .i64 (0 : Int)), .h 1]), (1, .row (.pair (.int .i64) (.pair (.int .i64) .str)) ([] : List (Int × (Int × ByteArray))))], 2⟩ (by kernel_rfl) rfl rfl ?_
      exact P_to [(4, .c (.h 0)), (5, .c (.val (.int .i64 (10 : Int))))] [(0, .box [.val (.int .i64 (0 : Int)), .h 3]), (3, .row (.pair (.int .i64) (.pair (.int .i64) .str)) ([] : List (Int × (Int × ByteArray))))] [(0, 0), (3, 1)] hn (by kernel_rfl) (by kernel_rfl) rfl rfl rfl (QF_retS (by kernel_rfl) (by kernel_rfl) rfl)
    · intro b_8; have H_77 := of_f H_70 b_8
      refine V_run hN hn 4 1 [0, 1, 4, 6] [0] ⟨[(0, .c (.val (.int .i64 base_1))), (1, .c (.imm (.slice (.pair (.int .i64) (.pair (.int .i64) .str))) l_2)), (4, .c (.h 0)), (6, .c (.val (.int .i64 (0 : Int))))], [(0, .box [.val (.int .i64 (0 : Int)), .val (.slice none 0 0)])], 1⟩ [] (by kernel_rfl) rfl rfl ap0 ?_
      obtain ⟨q_79, H_80, H_81⟩ := of_bind H_77
      refine V_cut (Y := Unit) (R := ((Int × (List (Int × (Int × ByteArray))) × Int) ⊕ Unit)) q_79 (fun y => (Sum.inr y)) (fun y => [(0, .c (.val (.int .i64 base_1))), (1, .c (.imm (.slice (.pair (.int .i64) (.pair (.int .i64) .str))) l_2)), (4, .c (.h 0))]) (fun y => [(0, .box [.val (.int .i64 (0 : Int)), .val (.slice none 0 0)])]) ?_ ?_
      · skip
        refine VL_block ?_
        refine V_to [(0, .c (.val (.int .i64 base_1))), (1, .c (.imm (.slice (.pair (.int .i64) (.pair (.int .i64) .str))) l_2)), (4, .c (.h 0)), (6, .c (.val (.int .i64 (0 : Int))))] [(0, .box [.val (.int .i64 (0 : Int)), .val (.slice none 0 0)])] [(0, 0)] hn (by kernel_rfl) (by kernel_rfl) rfl rfl rfl ?_
        refine VL_loop (X := Int) (fun x => [(0, .c (.val (.int .i64 base_1))), (1, .c (.imm (.slice (.pair (.int .i64) (.pair (.int .i64) .str))) l_2)), (4, .c (.h 0)), (6, .c (.val (.int .i64 x)))]) (fun x => [(0, .box [.val (.int .i64 (0 : Int)), .val (.slice none 0 0)])]) (fun k x => palinoderef11_Build.l0 K l_2 base_1 k x = some q_79) K (0 : Int) H_80 (fun _ h => no_none h) ?_
        intro k_12 i_11 H_83
        have H_84 : palinoderef11_Build.l0 K l_2 base_1 (k_12 + 1) i_11 = some q_79 := H_83
        rw [palinoderef11_Build.l0] at H_84
        refine V_run hN hn 3 1 [0, 1, 4, 6, 20] [0] ⟨[(0, .c (.val (.int .i64 base_1))), (1, .c (.imm (.slice (.pair (.int .i64) (.pair (.int .i64) .str))) l_2)), (4, .c (.h 0)), (6, .c (.val (.int .i64 i_11))), (20, .c (.val (.bool (decide (i_11 < (((List.length l_2) : Nat) : Int))))))], [(0, .box [.val (.int .i64 (0 : Int)), .val (.slice none 0 0)])], 1⟩ [] (by kernel_rfl) rfl rfl ap0 ?_
        refine VL_cond ((decide (i_11 < (((List.length l_2) : Nat) : Int)))) (by kernel_rfl) ?_ ?_
        · intro b_14; have H_85 := of_t H_84 b_14
          refine V_run hN hn 2 1 [0, 1, 4, 6, 20] [0] ⟨[(0, .c (.val (.int .i64 base_1))), (1, .c (.imm (.slice (.pair (.int .i64) (.pair (.int .i64) .str))) l_2)), (4, .c (.h 0)), (6, .c (.val (.int .i64 i_11))), (20, .c (.val (.bool (decide (i_11 < (((List.length l_2) : Nat) : Int))))))], [(0, .box [.val (.int .i64 (0 : Int)), .val (.slice none 0 0)])], 1⟩ [] (by kernel_rfl) rfl rfl ap0 ?_
          refine VL_block ?_
          refine V_run hN hn 1 1 [0, 1, 4, 6, 20] [0] ⟨[(0, .c (.val (.int .i64 base_1))), (1, .c (.imm (.slice (.pair (.int .i64) (.pair (.int .i64) .str))) l_2)), (4, .c (.h 0)), (6, .c (.val (.int .i64 i_11))), (20, .c (.val (.bool (decide (i_11 < (((List.length l_2) : Nat) : Int))))))], [(0, .box [.val (.int .i64 (0 : Int)), .val (.slice none 0 0)])], 1⟩ [] (by kernel_rfl) rfl rfl ap0 ?_
          obtain ⟨q_87, H_88, H_89⟩ := of_bind H_85
          refine V_cut (Y := Bool) (R := Bool) q_87 (fun y => y) (fun y => [(0, .c (.val (.int .i64 base_1))), (1, .c (.imm (.slice (.pair (.int .i64) (.pair (.int .i64) .str))) l_2)), (4, .c (.h 0)), (6, .c (.val (.int .i64 i_11))), (50, .c (.val (.bool y)))]) (fun y => [(0, .box [.val (.int .i64 (0 : Int)), .val (.slice none 0 0)])]) ?_ ?_
          · skip
            rcases Bool.eq_false_or_eq_true ((decide ((List.getD l_2 (Int.toNat i_11) ((0 : Int), ((0 : Int), ByteArray.empty))).1 < (0 : Int)))) with b_17 | b_17
            · have H_91 := of_t H_88 b_17
              obtain ⟨c_18, H_93⟩ := of_if H_91
              refine V_draw hN hn (by kernel_rfl) [] [(29, true)] calls_nil 1 [0, 1, 4, 6, 50] [0] ⟨[(0, .c (.val (.int .i64 base_1))), (1, .c (.imm (.slice (.pair (.int .i64) (.pair (.int .i64) .str))) l_2)), (4, .c (.h 0)), (6, .c (.val (.int .i64 i_11))), (50, .c (.val (.bool true)))], [(0, .box [.val (.int .i64 (0 : Int)), .val (.slice none 0 0)])], 1⟩ [0 ≤ i_11, i_11 < (((List.length l_2) : Nat) : Int), (decide ((List.getD l_2 (Int.toNat i_11) ((0 : Int), ((0 : Int), ByteArray.empty))).1 < (0 : Int))) = true] (by kernel_rfl) rfl rfl (ap2 c_18.1 (ap2 c_18.2 (ap1 b_17))) (by kernel_rfl) (by kernel_rfl) ?_
              have H_94 := Option.some.inj (show some true = some q_87 from H_93); subst H_94
              refine VL_nil ?_
              exact QP_end true rfl [(0, 0)] hn (by kernel_rfl) (by kernel_rfl) rfl rfl rfl
            · have H_92 := of_f H_88 b_17
              rcases Bool.eq_false_or_eq_true ((decide ((List.getD l_2 (Int.toNat i_11) ((0 : Int), ((0 : Int), ByteArray.empty))).2.1 < (List.getD l_2 (Int.toNat i_11) ((0 : Int), ((0 : Int), ByteArray.empty))).1))) with b_19 | b_19
              · have H_95 := of_t H_92 b_19
                obtain ⟨c_20, H_97⟩ := of_if H_95
                refine V_draw hN hn (by kernel_rfl) [] [(29, false), (42, true)] calls_nil 1 [0, 1, 4, 6, 50] [0] ⟨[(0, .c (.val (.int .i64 base_1))), (1, .c (.imm (.slice (.pair (.int .i64) (.pair (.int .i64) .str))) l_2)), (4, .c (.h 0)), (6, .c (.val (.int .i64 i_11))), (50, .c (.val (.bool true)))], [(0, .box [.val (.int .i64 (0 : Int)), .val (.slice none 0 0)])], 1⟩ [0 ≤ i_11, i_11 < (((List.length l_2) : Nat) : Int), (decide ((List.getD l_2 (Int.toNat i_11) ((0 : Int), ((0 : Int), ByteArray.empty))).1 < (0 : Int))) = false, 0 ≤ i_11, i_11 < (((List.length l_2) : Nat) : Int), 0 ≤ i_11, i_11 < (((List.length l_2) : Nat) : Int), (decide ((List.getD l_2 (Int.toNat i_11) ((0 : Int), ((0 : Int), ByteArray.empty))).2.1 < (List.getD l_2 (Int.toNat i_11) ((0 : Int), ((0 : Int), ByteArray.empty))).1)) = true] (by kernel_rfl) rfl rfl (ap2 c_20.1 (ap2 c_20.2 (ap2 b_17 (ap2 c_20.1 (ap2 c_20.2 (ap2 c_20.1 (ap2 c_20.2 (ap1 b_19)))))))) (by kernel_rfl) (by kernel_rfl) ?_
                have H_98 := Option.some.inj (show some true = some q_87 from H_97); subst H_98
                refine VL_nil ?_
                exact QP_end true rfl [(0, 0)] hn (by kernel_rfl) (by kernel_rfl) rfl rfl rfl
              · have H_96 := of_f H_92 b_19
                obtain ⟨c_21, H_99⟩ := of_if H_96
                refine V_draw hN hn (by kernel_rfl) [] [(29, false), (42, false)] calls_nil 1 [0, 1, 4, 6, 50] [0] ⟨[(0, .c (.val (.int .i64 base_1))), (1, .c (.imm (.slice (.pair (.int .i64) (.pair (.int .i64) .str))) l_2)), (4, .c (.h 0)), (6, .c (.val (.int .i64 i_11))), (50, .c (.val (.bool (decide ((List.getD l_2 (Int.toNat i_11) ((0 : Int), ((0 : Int), ByteArray.empty))).2.1 > base_1)))))], [(0, .box [.val (.int .i64 (0 : Int)), .val (.slice none 0 0)])], 1⟩ [0 ≤ i_11, i_11 < (((List.length l_2) : Nat) : Int), (decide ((List.getD l_2 (Int.toNat i_11) ((0 : Int), ((0 : Int), ByteArray.empty))).1 < (0 : Int))) = false, 0 ≤ i_11, i_11 < (((List.length l_2) : Nat) : Int), 0 ≤ i_11, i_11 < (((List.length l_2) : Nat) : Int), (decide ((List.getD l_2 (Int.toNat i_11) ((0 : Int), ((0 : Int), ByteArray.empty))).2.1 < (List.getD l_2 (Int.toNat i_11) ((0 : Int), ((0 : Int), ByteArray.empty))).1)) = false, 0 ≤ i_11, i_11 < (((List.length l_2) : Nat) : Int)] (by kernel_rfl) rfl rfl (ap2 c_21.1 (ap2 c_21.2 (ap2 b_17 (ap2 c_21.1 (ap2 c_21.2 (ap2 c_21.1 (ap2 c_21.2 (ap2 b_19 (ap2 c_21.1 (ap1 c_21.2)))))))))) (by kernel_rfl) (by kernel_rfl) ?_
                have H_100 := Option.some.inj (show some (decide ((List.getD l_2 (Int.toNat i_11) ((0 : Int), ((0 : Int), ByteArray.empty))).2.1 > base_1)) = some q_87 from H_99); subst H_100
                refine VL_nil ?_
                exact QP_end (decide ((List.getD l_2 (Int.toNat i_11) ((0 : Int), ((0 : Int), ByteArray.empty))).2.1 > base_1)) rfl [(0, 0)] hn (by kernel_rfl) (by kernel_rfl) rfl rfl rfl
          · intro y_90 hy; subst hy
            skip
            skip
            refine VL_cond (y_90) (by kernel_rfl) ?_ ?_
            · intro b_23; have H_101 := of_t H_89 b_23
              refine V_run hN hn 2 1 [4, 5] [0] ⟨[(4, .c (.h 0)), (5, .c (.val (.int .i64 (10 : Int))))], [(0, .box [.val (.int .i64 (0 : Int)), .val (.slice none 0 0)])], 1⟩ [] (by kernel_rfl) rfl rfl ap0 ?_
              have H_103 := Option.some.inj (show some (Sum.inl ((0 : Int), ([] : List (Int × (Int × ByteArray))), (10 : Int))) = some q_79 from H_101); subst H_103
              have H_104 := Option.some.inj (show some ((0 : Int), ([] : List (Int × (Int × ByteArray))), (10 : Int)) = some r from H_81); subst H_104
              refine VL_ret ?_
              refine QB_ret ?_
              refine QL_ret ?_
              refine QB_ret ?_
              refine QP_ret ?_
              refine P_ghost [.nilCell 0 1 (.pair (.int .i64) (.pair (.int .i64) .str))] 1 hn [4, 5] [0, 1] ⟨[(4, .c (.h 0)), (5, .c (.val (.int .i64 (10 : Int))))], [(0, .box [.val (.int .i64 (0 : Int)), .h 1]), (1, .row (.pair (.int .i64) (.pair (.int .i64) .str)) ([] : List (Int × (Int × ByteArray))))], 2⟩ (by kernel_rfl) rfl rfl ?_
              exact P_to [(4, .c (.h 0)), (5, .c (.val (.int .i64 (10 : Int))))] [(0, .box [.val (.int .i64 (0 : Int)), .h 3]), (3, .row (.pair (.int .i64) (.pair (.int .i64) .str)) ([] : List (Int × (Int × ByteArray))))] [(0, 0), (3, 1)] hn (by kernel_rfl) (by kernel_rfl) rfl rfl rfl (QF_retS (by kernel_rfl) (by kernel_rfl) rfl)
            · intro b_23; have H_102 := of_f H_89 b_23
              refine V_run hN hn 1 1 [0, 1, 4, 6, 50] [0] ⟨[(0, .c (.val (.int .i64 base_1))), (1, .c (.imm (.slice (.pair (.int .i64) (.pair (.int .i64) .str))) l_2)), (4, .c (.h 0)), (6, .c (.val (.int .i64 i_11))), (50, .c (.val (.bool y_90)))], [(0, .box [.val (.int .i64 (0 : Int)), .val (.slice none 0 0)])], 1⟩ [] (by kernel_rfl) rfl rfl ap0 ?_
              refine VL_nil (QB_end ?_)
              refine V_run hN hn 1 1 [0, 1, 4, 6] [0] ⟨[(0, .c (.val (.int .i64 base_1))), (1, .c (.imm (.slice (.pair (.int .i64) (.pair (.int .i64) .str))) l_2)), (4, .c (.h 0)), (6, .c (.val (.int .i64 (IntKind.wrap .i64 (i_11 + (1 : Int))))))], [(0, .box [.val (.int .i64 (0 : Int)), .val (.slice none 0 0)])], 1⟩ [] (by kernel_rfl) rfl rfl ap0 ?_
              refine VL_nil ?_
              exact V_roundEnd (IntKind.wrap .i64 (i_11 + (1 : Int))) H_102 [(0, 0)] hn (by kernel_rfl) (by kernel_rfl) rfl rfl rfl
        · intro b_14; have H_86 := of_f H_84 b_14
          refine VL_exit ?_
          refine QL_exit ?_
          refine QB_here ?_
          have H_105 := Option.some.inj (show some (Sum.inr ()) = some q_79 from H_86); subst H_105
          refine VL_nil ?_
          exact QP_end () rfl [(0, 0)] hn (by kernel_rfl) (by kernel_rfl) rfl rfl rfl
      · intro y_82 hy; subst hy
        skip
        refine V_run hN hn 2 1 [0, 1, 4] [0] ⟨[(0, .c (.val (.int .i64 base_1))), (1, .c (.imm (.slice (.pair (.int .i64) (.pair (.int .i64) .str))) l_2)), (4, .c (.h 0))], [(0, .box [.val (.int .i64 (0 : Int)), .val (.slice none 0 0)])], 1⟩ [] (by kernel_rfl) rfl rfl ap0 ?_
        obtain ⟨r_28, h_29, H_106⟩ := of_bind H_81
        refine V_reg hN hn [(1, ⟨35, 0, [.c (.imm (.slice (.pair (.int .i64) (.pair (.int .i64) .str))) l_2)], [], .c (.val (.bool r_28)), [], [], 1⟩)] [] (calls_cons (palinoderef11_Ordered_spec K l_2 r_28 h_29) (by kernel_rfl) calls_nil) 1 [0, 1, 4, 54] [0] ⟨[(0, .c (.val (.int .i64 base_1))), (1, .c (.imm (.slice (.pair (.int .i64) (.pair (.int .i64) .str))) l_2)), (4, .c (.h 0)), (54, .c (.val (.bool (!r_28))))], [(0, .box [.val (.int .i64 (0 : Int)), .val (.slice none 0 0)])], 1⟩ [] (by kernel_rfl) rfl rfl ap0 (by kernel_rfl) (by kernel_rfl) ?_
        refine VL_cond ((!r_28)) (by kernel_rfl) ?_ ?_
        · intro b_31; have H_107 := of_t H_106 b_31
          refine V_run hN hn 2 1 [4, 5] [0] ⟨[(4, .c (.h 0)), (5, .c (.val (.int .i64 (180 : Int))))], [(0, .box [.val (.int .i64 (0 : Int)), .val (.slice none 0 0)])], 1⟩ [] (by kernel_rfl) rfl rfl ap0 ?_
          have H_109 := Option.some.inj (show some ((0 : Int), ([] : List (Int × (Int × ByteArray))), (180 : Int)) = some r from H_107); subst H_109
          refine VL_ret ?_
          refine P_ghost [.nilCell 0 1 (.pair (.int .i64) (.pair (.int .i64) .str))] 1 hn [4, 5] [0, 1] ⟨[(4, .c (.h 0)), (5, .c (.val (.int .i64 (180 : Int))))], [(0, .box [.val (.int .i64 (0 : Int)), .h 1]), (1, .row (.pair (.int .i64) (.pair (.int .i64) .str)) ([] : List (Int × (Int × ByteArray))))], 2⟩ (by kernel_rfl) rfl rfl ?_
          exact P_to [(4, .c (.h 0)), (5, .c (.val (.int .i64 (180 : Int))))] [(0, .box [.val (.int .i64 (0 : Int)), .h 3]), (3, .row (.pair (.int .i64) (.pair (.int .i64) .str)) ([] : List (Int × (Int × ByteArray))))] [(0, 0), (3, 1)] hn (by kernel_rfl) (by kernel_rfl) rfl rfl rfl (QF_retS (by kernel_rfl) (by kernel_rfl) rfl)
        · intro b_31; have H_108 := of_f H_106 b_31
          refine V_run hN hn 4 1 [0, 1, 4, 7] [0] ⟨[(0, .c (.val (.int .i64 base_1))), (1, .c (.imm (.slice (.pair (.int .i64) (.pair (.int .i64) .str))) l_2)), (4, .c (.h 0)), (7, .c (.val (.int .i64 (0 : Int))))], [(0, .box [.val (.int .i64 (0 : Int)), .val (.slice none 0 0)])], 1⟩ [] (by kernel_rfl) rfl rfl ap0 ?_
          obtain ⟨q_110, H_111, H_112⟩ := of_bind H_108
          refine V_cut (Y := Unit) (R := ((Int × (List (Int × (Int × ByteArray))) × Int) ⊕ Unit)) q_110 (fun y => (Sum.inr y)) (fun y => [(0, .c (.val (.int .i64 base_1))), (1, .c (.imm (.slice (.pair (.int .i64) (.pair (.int .i64) .str))) l_2)), (4, .c (.h 0))]) (fun y => [(0, .box [.val (.int .i64 (0 : Int)), .val (.slice none 0 0)])]) ?_ ?_
          · skip
            refine VL_block ?_
            refine V_to [(0, .c (.val (.int .i64 base_1))), (1, .c (.imm (.slice (.pair (.int .i64) (.pair (.int .i64) .str))) l_2)), (4, .c (.h 0)), (7, .c (.val (.int .i64 (0 : Int))))] [(0, .box [.val (.int .i64 (0 : Int)), .val (.slice none 0 0)])] [(0, 0)] hn (by kernel_rfl) (by kernel_rfl) rfl rfl rfl ?_
            refine VL_loop (X := Int) (fun x => [(0, .c (.val (.int .i64 base_1))), (1, .c (.imm (.slice (.pair (.int .i64) (.pair (.int .i64) .str))) l_2)), (4, .c (.h 0)), (7, .c (.val (.int .i64 x)))]) (fun x => [(0, .box [.val (.int .i64 (0 : Int)), .val (.slice none 0 0)])]) (fun k x => palinoderef11_Build.l1 K l_2 k x = some q_110) K (0 : Int) H_111 (fun _ h => no_none h) ?_
            intro k_35 i_34 H_114
            have H_115 : palinoderef11_Build.l1 K l_2 (k_35 + 1) i_34 = some q_110 := H_114
            rw [palinoderef11_Build.l1] at H_115
            refine V_run hN hn 3 1 [0, 1, 4, 7, 59] [0] ⟨[(0, .c (.val (.int .i64 base_1))), (1, .c (.imm (.slice (.pair (.int .i64) (.pair (.int .i64) .str))) l_2)), (4, .c (.h 0)), (7, .c (.val (.int .i64 i_34))), (59, .c (.val (.bool (decide (i_34 < (((List.length l_2) : Nat) : Int))))))], [(0, .box [.val (.int .i64 (0 : Int)), .val (.slice none 0 0)])], 1⟩ [] (by kernel_rfl) rfl rfl ap0 ?_
            refine VL_cond ((decide (i_34 < (((List.length l_2) : Nat) : Int)))) (by kernel_rfl) ?_ ?_
            · intro b_37; have H_116 := of_t H_115 b_37
              refine V_run hN hn 2 1 [0, 1, 4, 7, 59] [0] ⟨[(0, .c (.val (.int .i64 base_1))), (1, .c (.imm (.slice (.pair (.int .i64) (.pair (.int .i64) .str))) l_2)), (4, .c (.h 0)), (7, .c (.val (.int .i64 i_34))), (59, .c (.val (.bool (decide (i_34 < (((List.length l_2) : Nat) : Int))))))], [(0, .box [.val (.int .i64 (0 : Int)), .val (.slice none 0 0)])], 1⟩ [] (by kernel_rfl) rfl rfl ap0 ?_
              refine VL_block ?_
              refine V_run hN hn 1 1 [0, 1, 4, 7, 59] [0] ⟨[(0, .c (.val (.int .i64 base_1))), (1, .c (.imm (.slice (.pair (.int .i64) (.pair (.int .i64) .str))) l_2)), (4, .c (.h 0)), (7, .c (.val (.int .i64 i_34))), (59, .c (.val (.bool (decide (i_34 < (((List.length l_2) : Nat) : Int))))))], [(0, .box [.val (.int .i64 (0 : Int)), .val (.slice none 0 0)])], 1⟩ [] (by kernel_rfl) rfl rfl ap0 ?_
              obtain ⟨r_40, h_41, H_118⟩ := of_bind H_116
              obtain ⟨c_42, H_119⟩ := of_if H_118
              refine V_reg hN hn [(5, ⟨25, 0, [.c (.val (.string (List.getD l_2 (Int.toNat i_34) ((0 : Int), ((0 : Int), ByteArray.empty))).2.2))], [], .c (.val (.bool r_40)), [], [], 1⟩)] [] (calls_cons (palinoderef1_Valid_spec K (List.getD l_2 (Int.toNat i_34) ((0 : Int), ((0 : Int), ByteArray.empty))).2.2 r_40 h_41) (by kernel_rfl) calls_nil) 1 [0, 1, 4, 7, 68] [0] ⟨[(0, .c (.val (.int .i64 base_1))), (1, .c (.imm (.slice (.pair (.int .i64) (.pair (.int .i64) .str))) l_2)), (4, .c (.h 0)), (7, .c (.val (.int .i64 i_34))), (68, .c (.val (.bool (!r_40))))], [(0, .box [.val (.int .i64 (0 : Int)), .val (.slice none 0 0)])], 1⟩ [0 ≤ i_34, i_34 < (((List.length l_2) : Nat) : Int)] (by kernel_rfl) rfl rfl (ap2 c_42.1 (ap1 c_42.2)) (by kernel_rfl) (by kernel_rfl) ?_
              refine VL_cond ((!r_40)) (by kernel_rfl) ?_ ?_
              · intro b_43; have H_120 := of_t H_119 b_43
                refine V_run hN hn 2 1 [4, 5] [0] ⟨[(4, .c (.h 0)), (5, .c (.val (.int .i64 (12 : Int))))], [(0, .box [.val (.int .i64 (0 : Int)), .val (.slice none 0 0)])], 1⟩ [] (by kernel_rfl) rfl rfl ap0 ?_
                have H_122 := Option.some.inj (show some (Sum.inl ((0 : Int), ([] : List (Int × (Int × ByteArray))), (12 : Int))) = some q_110 from H_120); subst H_122
                have H_123 := Option.some.inj (show some ((0 : Int), ([] : List (Int × (Int × ByteArray))), (12 : Int)) = some r from H_112); subst H_123
                refine VL_ret ?_
                refine QB_ret ?_
                refine QL_ret ?_
                refine QB_ret ?_
                refine QP_ret ?_
                refine P_ghost [.nilCell 0 1 (.pair (.int .i64) (.pair (.int .i64) .str))] 1 hn [4, 5] [0, 1] ⟨[(4, .c (.h 0)), (5, .c (.val (.int .i64 (12 : Int))))], [(0, .box [.val (.int .i64 (0 : Int)), .h 1]), (1, .row (.pair (.int .i64) (.pair (.int .i64) .str)) ([] : List (Int × (Int × ByteArray))))], 2⟩ (by kernel_rfl) rfl rfl ?_
                exact P_to [(4, .c (.h 0)), (5, .c (.val (.int .i64 (12 : Int))))] [(0, .box [.val (.int .i64 (0 : Int)), .h 3]), (3, .row (.pair (.int .i64) (.pair (.int .i64) .str)) ([] : List (Int × (Int × ByteArray))))] [(0, 0), (3, 1)] hn (by kernel_rfl) (by kernel_rfl) rfl rfl rfl (QF_retS (by kernel_rfl) (by kernel_rfl) rfl)
              · intro b_43; have H_121 := of_f H_119 b_43
                refine V_run hN hn 1 1 [0, 1, 4, 7, 68] [0] ⟨[(0, .c (.val (.int .i64 base_1))), (1, .c (.imm (.slice (.pair (.int .i64) (.pair (.int .i64) .str))) l_2)), (4, .c (.h 0)), (7, .c (.val (.int .i64 i_34))), (68, .c (.val (.bool (!r_40))))], [(0, .box [.val (.int .i64 (0 : Int)), .val (.slice none 0 0)])], 1⟩ [] (by kernel_rfl) rfl rfl ap0 ?_
                refine VL_nil (QB_end ?_)
                refine V_run hN hn 1 1 [0, 1, 4, 7] [0] ⟨[(0, .c (.val (.int .i64 base_1))), (1, .c (.imm (.slice (.pair (.int .i64) (.pair (.int .i64) .str))) l_2)), (4, .c (.h 0)), (7, .c (.val (.int .i64 (IntKind.wrap .i64 (i_34 + (1 : Int))))))], [(0, .box [.val (.int .i64 (0 : Int)), .val (.slice none 0 0)])], 1⟩ [] (by kernel_rfl) rfl rfl ap0 ?_
                refine VL_nil ?_
                exact V_roundEnd (IntKind.wrap .i64 (i_34 + (1 : Int))) H_121 [(0, 0)] hn (by kernel_rfl) (by kernel_rfl) rfl rfl rfl
            · intro b_37; have H_117 := of_f H_115 b_37
              refine VL_exit ?_
              refine QL_exit ?_
              refine QB_here ?_
              have H_124 := Option.some.inj (show some (Sum.inr ()) = some q_110 from H_117); subst H_124
              refine VL_nil ?_
              exact QP_end () rfl [(0, 0)] hn (by kernel_rfl) (by kernel_rfl) rfl rfl rfl
          · intro y_113 hy; subst hy
            skip
            refine V_run hN hn 1 1 [0, 1, 4] [0] ⟨[(0, .c (.val (.int .i64 base_1))), (1, .c (.imm (.slice (.pair (.int .i64) (.pair (.int .i64) .str))) l_2)), (4, .c (.h 0))], [(0, .box [.val (.int .i64 (0 : Int)), .val (.slice none 0 0)])], 1⟩ [] (by kernel_rfl) rfl rfl ap0 ?_
            obtain ⟨r_48, h_49, H_125⟩ := of_bind H_112
            refine V_reg hN hn [(2, ⟨36, 0, [.c (.val (.int .i64 base_1)), .c (.imm (.slice (.pair (.int .i64) (.pair (.int .i64) .str))) l_2)], [], .tup [(false, [.h 11]), (false, [.val (.bool r_48.2)])], [(11, .row (.pair (.int .i64) (.int .u8)) r_48.1)], [(11, 1)], 2⟩)] [] (calls_cons (palinoderef11_cells_spec K base_1 l_2 r_48 h_49) (by kernel_rfl) calls_nil) 1 [0, 4, 8, 9] [0, 1] ⟨[(0, .c (.val (.int .i64 base_1))), (4, .c (.h 0)), (8, .c (.h 1)), (9, .c (.val (.bool r_48.2)))], [(0, .box [.val (.int .i64 (0 : Int)), .val (.slice none 0 0)]), (1, .row (.pair (.int .i64) (.int .u8)) r_48.1)], 2⟩ [] (by kernel_rfl) rfl rfl ap0 (by kernel_rfl) (by kernel_rfl) ?_
            refine V_run hN hn 3 2 [0, 4, 8, 76] [0, 1] ⟨[(0, .c (.val (.int .i64 base_1))), (4, .c (.h 0)), (8, .c (.h 1)), (76, .c (.val (.bool r_48.2)))], [(0, .box [.val (.int .i64 (0 : Int)), .val (.slice none 0 0)]), (1, .row (.pair (.int .i64) (.int .u8)) r_48.1)], 2⟩ [] (by kernel_rfl) rfl rfl ap0 ?_
            refine VL_cond (r_48.2) (by kernel_rfl) ?_ ?_
            · intro b_52; have H_126 := of_t H_125 b_52
              refine V_run hN hn 2 2 [4, 5] [0] ⟨[(4, .c (.h 0)), (5, .c (.val (.int .i64 (13 : Int))))], [(0, .box [.val (.int .i64 (0 : Int)), .val (.slice none 0 0)])], 2⟩ [] (by kernel_rfl) rfl rfl ap0 ?_
              have H_128 := Option.some.inj (show some ((0 : Int), ([] : List (Int × (Int × ByteArray))), (13 : Int)) = some r from H_126); subst H_128
              refine VL_ret ?_
              refine P_ghost [.nilCell 0 1 (.pair (.int .i64) (.pair (.int .i64) .str))] 2 hn [4, 5] [0, 2] ⟨[(4, .c (.h 0)), (5, .c (.val (.int .i64 (13 : Int))))], [(0, .box [.val (.int .i64 (0 : Int)), .h 2]), (2, .row (.pair (.int .i64) (.pair (.int .i64) .str)) ([] : List (Int × (Int × ByteArray))))], 3⟩ (by kernel_rfl) rfl rfl ?_
              exact P_to [(4, .c (.h 0)), (5, .c (.val (.int .i64 (13 : Int))))] [(0, .box [.val (.int .i64 (0 : Int)), .h 3]), (3, .row (.pair (.int .i64) (.pair (.int .i64) .str)) ([] : List (Int × (Int × ByteArray))))] [(0, 0), (3, 2)] hn (by kernel_rfl) (by kernel_rfl) rfl rfl rfl (QF_retS (by kernel_rfl) (by kernel_rfl) rfl)
            · intro b_52; have H_127 := of_f H_125 b_52
              refine V_run hN hn 2 2 [0, 4, 8, 76] [0, 1] ⟨[(0, .c (.val (.int .i64 base_1))), (4, .c (.h 0)), (8, .c (.h 1)), (76, .c (.val (.bool r_48.2)))], [(0, .box [.val (.int .i64 (0 : Int)), .val (.slice none 0 0)]), (1, .row (.pair (.int .i64) (.int .u8)) r_48.1)], 2⟩ [] (by kernel_rfl) rfl rfl ap0 ?_
              obtain ⟨r_55, h_56, H_129⟩ := of_bind H_127
              refine V_reg hN hn [(2, ⟨37, 1, [.c (.val (.int .i64 base_1)), .c (.h 0)], [(0, .row (.pair (.int .i64) (.int .u8)) r_48.1)], .tup [(true, [.val (.int .i64 r_55.1), .h 12]), (false, [.val (.int .i64 r_55.2.2)])], [(0, .row (.pair (.int .i64) (.int .u8)) r_48.1), (12, .row (.pair (.int .i64) (.pair (.int .i64) .str)) r_55.2.1)], [(0, 1), (12, 2)], 3⟩)] [] (calls_cons (palinoderef11_Told_gr_spec K base_1 r_48.1 r_55 h_56) (by kernel_rfl) calls_nil) 2 [4, 5] [0, 2] ⟨[(4, .c (.h 0)), (5, .c (.val (.int .i64 r_55.2.2)))], [(0, .box [.val (.int .i64 r_55.1), .h 2]), (2, .row (.pair (.int .i64) (.pair (.int .i64) .str)) r_55.2.1)], 3⟩ [] (by kernel_rfl) rfl rfl ap0 (by kernel_rfl) (by kernel_rfl) ?_
              have H_130 := Option.some.inj (show some (r_55.1, r_55.2.1, r_55.2.2) = some r from H_129); subst H_130
              refine VL_ret ?_
              exact P_to [(4, .c (.h 0)), (5, .c (.val (.int .i64 r_55.2.2)))] [(0, .box [.val (.int .i64 r_55.1), .h 3]), (3, .row (.pair (.int .i64) (.pair (.int .i64) .str)) r_55.2.1)] [(0, 0), (3, 2)] hn (by kernel_rfl) (by kernel_rfl) rfl rfl rfl (QF_retS (by kernel_rfl) (by kernel_rfl) rfl)

theorem delta_Is_sgr_spec (K : Nat) (d_1 : Int) (d_2 : (List (Int × (Int × ByteArray)))) (r : Bool) (H : delta_Is K d_1 d_2 = some r) : Spec Try.prog 13 1 [.agg [.val (.int .i64 d_1), .h 0]] [(0, .row (.pair (.int .i64) (.pair (.int .i64) .str)) d_2)] (.c (.val (.bool r))) [(0, .row (.pair (.int .i64) (.pair (.int .i64) .str)) d_2)] := by
  refine Spec_mk (fn := Try.f13) (c := (Try.f13.body).get!) Try.func13 (by kernel_rfl) rfl ?_
  intro C hN hn
  replace hN : C.N = 68 := hN
  unfold delta_Is at H
  refine V_run hN hn 4 1 [1] [0, 1] ⟨[(1, .c (.h 1))], [(0, .row (.pair (.int .i64) (.pair (.int .i64) .str)) d_2), (1, .box [.val (.int .i64 d_1), .h 0])], 2⟩ [] (by kernel_rfl) rfl rfl ap0 ?_
  obtain ⟨q_53, H_54, H_55⟩ := of_bind H
  refine V_cut (Y := Bool) (R := Bool) q_53 (fun y => y) (fun y => [(1, .c (.h 1)), (21, .c (.val (.bool y)))]) (fun y => [(0, .row (.pair (.int .i64) (.pair (.int .i64) .str)) d_2), (1, .box [.val (.int .i64 d_1), .h 0])]) ?_ ?_
  · skip
    rcases Bool.eq_false_or_eq_true ((decide (d_1 < (0 : Int)))) with b_4 | b_4
    · have H_57 := of_t H_54 b_4
      refine V_reg hN hn [] [(11, true)] calls_nil 2 [1, 21] [0, 1] ⟨[(1, .c (.h 1)), (21, .c (.val (.bool true)))], [(0, .row (.pair (.int .i64) (.pair (.int .i64) .str)) d_2), (1, .box [.val (.int .i64 d_1), .h 0])], 2⟩ [(decide (d_1 < (0 : Int))) = true] (by kernel_rfl) rfl rfl (ap1 b_4) (by kernel_rfl) (by kernel_rfl) ?_
      have H_59 := Option.some.inj (show some true = some q_53 from H_57); subst H_59
      refine VL_nil ?_
      exact QP_end true rfl [(1, 1)] hn (by kernel_rfl) (by kernel_rfl) rfl rfl rfl
    · have H_58 := of_f H_54 b_4
      rcases Bool.eq_false_or_eq_true ((decide (d_1 > (20000 : Int)))) with b_6 | b_6
      · have H_60 := of_t H_58 b_6
        refine V_reg hN hn [] [(11, false), (16, true)] calls_nil 2 [1, 21] [0, 1] ⟨[(1, .c (.h 1)), (21, .c (.val (.bool true)))], [(0, .row (.pair (.int .i64) (.pair (.int .i64) .str)) d_2), (1, .box [.val (.int .i64 d_1), .h 0])], 2⟩ [(decide (d_1 < (0 : Int))) = false, (decide (d_1 > (20000 : Int))) = true] (by kernel_rfl) rfl rfl (ap2 b_4 (ap1 b_6)) (by kernel_rfl) (by kernel_rfl) ?_
        have H_62 := Option.some.inj (show some true = some q_53 from H_60); subst H_62
        refine VL_nil ?_
        exact QP_end true rfl [(1, 1)] hn (by kernel_rfl) (by kernel_rfl) rfl rfl rfl
      · have H_61 := of_f H_58 b_6
        refine V_reg hN hn [] [(11, false), (16, false)] calls_nil 2 [1, 21] [0, 1] ⟨[(1, .c (.h 1)), (21, .c (.val (.bool (decide ((((List.length d_2) : Nat) : Int) > (60 : Int))))))], [(0, .row (.pair (.int .i64) (.pair (.int .i64) .str)) d_2), (1, .box [.val (.int .i64 d_1), .h 0])], 2⟩ [(decide (d_1 < (0 : Int))) = false, (decide (d_1 > (20000 : Int))) = false] (by kernel_rfl) rfl rfl (ap2 b_4 (ap1 b_6)) (by kernel_rfl) (by kernel_rfl) ?_
        have H_63 := Option.some.inj (show some (decide ((((List.length d_2) : Nat) : Int) > (60 : Int))) = some q_53 from H_61); subst H_63
        refine VL_nil ?_
        exact QP_end (decide ((((List.length d_2) : Nat) : Int) > (60 : Int))) rfl [(1, 1)] hn (by kernel_rfl) (by kernel_rfl) rfl rfl rfl
  · intro y_56 hy; subst hy
    skip
    skip
    refine VL_cond (y_56) (by kernel_rfl) ?_ ?_
    · intro b_10; have H_64 := of_t H_55 b_10
      refine V_run hN hn 2 2 [2] [0] ⟨[(2, .c (.val (.bool false)))], [(0, .row (.pair (.int .i64) (.pair (.int .i64) .str)) d_2)], 2⟩ [] (by kernel_rfl) rfl rfl ap0 ?_
      have H_66 := Option.some.inj (show some false = some r from H_64); subst H_66
      refine VL_ret ?_
      exact P_to [(2, .c (.val (.bool false)))] [(0, .row (.pair (.int .i64) (.pair (.int .i64) .str)) d_2)] [] hn (by kernel_rfl) (by kernel_rfl) rfl rfl rfl (QF_retS (by kernel_rfl) (by kernel_rfl) rfl)
    · intro b_10; have H_65 := of_f H_55 b_10
      refine V_run hN hn 6 2 [1, 3, 4, 23, 24, 25] [0, 1] ⟨[(1, .c (.h 1)), (3, .c (.val (.int .i64 (0 : Int)))), (4, .c (.val (.int .i64 (0 : Int)))), (23, .c (.h 0)), (24, .c (.val (.int .i64 (((List.length d_2) : Nat) : Int)))), (25, .c (.val (.int .i64 (0 : Int))))], [(0, .row (.pair (.int .i64) (.pair (.int .i64) .str)) d_2), (1, .box [.val (.int .i64 d_1), .h 0])], 2⟩ [] (by kernel_rfl) rfl rfl ap0 ?_
      refine VL_block ?_
      refine V_to [(1, .c (.h 1)), (3, .c (.val (.int .i64 (0 : Int)))), (4, .c (.val (.int .i64 (0 : Int)))), (23, .c (.h 0)), (24, .c (.val (.int .i64 (((List.length d_2) : Nat) : Int)))), (25, .c (.val (.int .i64 (0 : Int))))] [(0, .row (.pair (.int .i64) (.pair (.int .i64) .str)) d_2), (1, .box [.val (.int .i64 d_1), .h 0])] [(1, 1)] hn (by kernel_rfl) (by kernel_rfl) rfl rfl rfl ?_
      refine VL_loop (X := (Int × Int × Int)) (fun x => [(1, .c (.h 1)), (3, .c (.val (.int .i64 x.1))), (4, .c (.val (.int .i64 x.2.1))), (23, .c (.h 0)), (24, .c (.val (.int .i64 (((List.length d_2) : Nat) : Int)))), (25, .c (.val (.int .i64 x.2.2)))]) (fun x => [(0, .row (.pair (.int .i64) (.pair (.int .i64) .str)) d_2), (1, .box [.val (.int .i64 d_1), .h 0])]) (fun k x => delta_Is.l0 K d_2 d_1 k x.1 x.2.1 x.2.2 = some r) K ((0 : Int), (0 : Int), (0 : Int)) H_65 (fun _ h => no_none h) ?_
      intro k_16 x_16 H_67
      obtain ⟨size_13, to_14, t_15⟩ := x_16
      have H_68 : delta_Is.l0 K d_2 d_1 (k_16 + 1) size_13 to_14 t_15 = some r := H_67
      rw [delta_Is.l0] at H_68
      refine V_run hN hn 3 2 [1, 3, 4, 23, 24, 25, 26] [0, 1] ⟨[(1, .c (.h 1)), (3, .c (.val (.int .i64 size_13))), (4, .c (.val (.int .i64 to_14))), (23, .c (.h 0)), (24, .c (.val (.int .i64 (((List.length d_2) : Nat) : Int)))), (25, .c (.val (.int .i64 t_15))), (26, .c (.val (.bool (decide (t_15 < (((List.length d_2) : Nat) : Int))))))], [(0, .row (.pair (.int .i64) (.pair (.int .i64) .str)) d_2), (1, .box [.val (.int .i64 d_1), .h 0])], 2⟩ [] (by kernel_rfl) rfl rfl ap0 ?_
      refine VL_cond ((decide (t_15 < (((List.length d_2) : Nat) : Int)))) (by kernel_rfl) ?_ ?_
      · intro b_18; have H_69 := of_t H_68 b_18
        refine V_run hN hn 2 2 [1, 3, 4, 23, 24, 25, 26] [0, 1] ⟨[(1, .c (.h 1)), (3, .c (.val (.int .i64 size_13))), (4, .c (.val (.int .i64 to_14))), (23, .c (.h 0)), (24, .c (.val (.int .i64 (((List.length d_2) : Nat) : Int)))), (25, .c (.val (.int .i64 t_15))), (26, .c (.val (.bool (decide (t_15 < (((List.length d_2) : Nat) : Int))))))], [(0, .row (.pair (.int .i64) (.pair (.int .i64) .str)) d_2), (1, .box [.val (.int .i64 d_1), .h 0])], 2⟩ [] (by kernel_rfl) rfl rfl ap0 ?_
        refine VL_block ?_
        obtain ⟨c_20, H_71⟩ := of_if H_69
        refine V_run hN hn 3 2 [1, 3, 4, 5, 6, 23, 24, 25] [0, 1, 2] ⟨[(1, .c (.h 1)), (3, .c (.val (.int .i64 size_13))), (4, .c (.val (.int .i64 to_14))), (5, .c (.val (.int .i64 t_15))), (6, .c (.h 2)), (23, .c (.h 0)), (24, .c (.val (.int .i64 (((List.length d_2) : Nat) : Int)))), (25, .c (.val (.int .i64 t_15)))], [(0, .row (.pair (.int .i64) (.pair (.int .i64) .str)) d_2), (1, .box [.val (.int .i64 d_1), .h 0]), (2, .box [.val (.int .i64 (List.getD d_2 (Int.toNat t_15) ((0 : Int), ((0 : Int), ByteArray.empty))).1), .val (.int .i64 (List.getD d_2 (Int.toNat t_15) ((0 : Int), ((0 : Int), ByteArray.empty))).2.1), .val (.string (List.getD d_2 (Int.toNat t_15) ((0 : Int), ((0 : Int), ByteArray.empty))).2.2)])], 3⟩ [0 ≤ t_15, t_15 < (((List.length d_2) : Nat) : Int)] (by kernel_rfl) rfl rfl (ap2 c_20.1 (ap1 c_20.2)) ?_
        obtain ⟨q_72, H_73, H_74⟩ := of_bind H_71
        refine V_cut (Y := Bool) (R := Bool) q_72 (fun y => y) (fun y => [(1, .c (.h 1)), (3, .c (.val (.int .i64 size_13))), (4, .c (.val (.int .i64 to_14))), (5, .c (.val (.int .i64 t_15))), (6, .c (.h 2)), (7, .c (.val (.bool y))), (23, .c (.h 0)), (24, .c (.val (.int .i64 (((List.length d_2) : Nat) : Int)))), (25, .c (.val (.int .i64 t_15)))]) (fun y => [(0, .row (.pair (.int .i64) (.pair (.int .i64) .str)) d_2), (1, .box [.val (.int .i64 d_1), .h 0]), (2, .box [.val (.int .i64 (List.getD d_2 (Int.toNat t_15) ((0 : Int), ((0 : Int), ByteArray.empty))).1), .val (.int .i64 (List.getD d_2 (Int.toNat t_15) ((0 : Int), ((0 : Int), ByteArray.empty))).2.1), .val (.string (List.getD d_2 (Int.toNat t_15) ((0 : Int), ((0 : Int), ByteArray.empty))).2.2)])]) ?_ ?_
        · skip
          rcases Bool.eq_false_or_eq_true ((decide (t_15 > (0 : Int)))) with b_21 | b_21
          · have H_76 := of_t H_73 b_21
            obtain ⟨r_22, h_23, H_78⟩ := of_bind H_76
            obtain ⟨c_24, H_79⟩ := of_if H_78
            refine V_reg hN hn [(9, ⟨26, 0, [.agg [.val (.int .i64 (List.getD d_2 (Int.toNat (IntKind.wrap .i64 (t_15 - (1 : Int)))) ((0 : Int), ((0 : Int), ByteArray.empty))).1), .val (.int .i64 (List.getD d_2 (Int.toNat (IntKind.wrap .i64 (t_15 - (1 : Int)))) ((0 : Int), ((0 : Int), ByteArray.empty))).2.1), .val (.string (List.getD d_2 (Int.toNat (IntKind.wrap .i64 (t_15 - (1 : Int)))) ((0 : Int), ((0 : Int), ByteArray.empty))).2.2)]], [], .c (.val (.bool r_22)), [], [], 3⟩)] [(32, true)] (calls_cons (delta_IsCopy_spec K (List.getD d_2 (Int.toNat (IntKind.wrap .i64 (t_15 - (1 : Int)))) ((0 : Int), ((0 : Int), ByteArray.empty))).1 (List.getD d_2 (Int.toNat (IntKind.wrap .i64 (t_15 - (1 : Int)))) ((0 : Int), ((0 : Int), ByteArray.empty))).2.1 (List.getD d_2 (Int.toNat (IntKind.wrap .i64 (t_15 - (1 : Int)))) ((0 : Int), ((0 : Int), ByteArray.empty))).2.2 r_22 h_23) (by kernel_rfl) calls_nil) 3 [1, 3, 4, 5, 6, 7, 23, 24, 25] [0, 1, 2] ⟨[(1, .c (.h 1)), (3, .c (.val (.int .i64 size_13))), (4, .c (.val (.int .i64 to_14))), (5, .c (.val (.int .i64 t_15))), (6, .c (.h 2)), (7, .c (.val (.bool r_22))), (23, .c (.h 0)), (24, .c (.val (.int .i64 (((List.length d_2) : Nat) : Int)))), (25, .c (.val (.int .i64 t_15)))], [(0, .row (.pair (.int .i64) (.pair (.int .i64) .str)) d_2), (1, .box [.val (.int .i64 d_1), .h 0]), (2, .box [.val (.int .i64 (List.getD d_2 (Int.toNat t_15) ((0 : Int), ((0 : Int), ByteArray.empty))).1), .val (.int .i64 (List.getD d_2 (Int.toNat t_15) ((0 : Int), ((0 : Int), ByteArray.empty))).2.1), .val (.string (List.getD d_2 (Int.toNat t_15) ((0 : Int), ((0 : Int), ByteArray.empty))).2.2)])], 3⟩ [(decide (t_15 > (0 : Int))) = true, 0 ≤ (IntKind.wrap .i64 (t_15 - (1 : Int))), (IntKind.wrap .i64 (t_15 - (1 : Int))) < (((List.length d_2) : Nat) : Int)] (by kernel_rfl) rfl rfl (ap2 b_21 (ap2 c_24.1 (ap1 c_24.2))) (by kernel_rfl) (by kernel_rfl) ?_
            have H_80 := Option.some.inj (show some r_22 = some q_72 from H_79); subst H_80
            refine VL_nil ?_
            exact QP_end r_22 rfl [(1, 1), (2, 2)] hn (by kernel_rfl) (by kernel_rfl) rfl rfl rfl
          · have H_77 := of_f H_73 b_21
            refine V_reg hN hn [] [(32, false)] calls_nil 3 [1, 3, 4, 5, 6, 7, 23, 24, 25] [0, 1, 2] ⟨[(1, .c (.h 1)), (3, .c (.val (.int .i64 size_13))), (4, .c (.val (.int .i64 to_14))), (5, .c (.val (.int .i64 t_15))), (6, .c (.h 2)), (7, .c (.val (.bool false))), (23, .c (.h 0)), (24, .c (.val (.int .i64 (((List.length d_2) : Nat) : Int)))), (25, .c (.val (.int .i64 t_15)))], [(0, .row (.pair (.int .i64) (.pair (.int .i64) .str)) d_2), (1, .box [.val (.int .i64 d_1), .h 0]), (2, .box [.val (.int .i64 (List.getD d_2 (Int.toNat t_15) ((0 : Int), ((0 : Int), ByteArray.empty))).1), .val (.int .i64 (List.getD d_2 (Int.toNat t_15) ((0 : Int), ((0 : Int), ByteArray.empty))).2.1), .val (.string (List.getD d_2 (Int.toNat t_15) ((0 : Int), ((0 : Int), ByteArray.empty))).2.2)])], 3⟩ [(decide (t_15 > (0 : Int))) = false] (by kernel_rfl) rfl rfl (ap1 b_21) (by kernel_rfl) (by kernel_rfl) ?_
            have H_81 := Option.some.inj (show some false = some q_72 from H_77); subst H_81
            refine VL_nil ?_
            exact QP_end false rfl [(1, 1), (2, 2)] hn (by kernel_rfl) (by kernel_rfl) rfl rfl rfl
        · intro y_75 hy; subst hy
          skip
          skip
          refine V_run hN hn 2 3 [1, 3, 4, 5, 6, 7, 23, 24, 25] [0, 1, 2] ⟨[(1, .c (.h 1)), (3, .c (.val (.int .i64 size_13))), (4, .c (.val (.int .i64 to_14))), (5, .c (.val (.int .i64 t_15))), (6, .c (.h 2)), (7, .c (.val (.bool y_75))), (23, .c (.h 0)), (24, .c (.val (.int .i64 (((List.length d_2) : Nat) : Int)))), (25, .c (.val (.int .i64 t_15)))], [(0, .row (.pair (.int .i64) (.pair (.int .i64) .str)) d_2), (1, .box [.val (.int .i64 d_1), .h 0]), (2, .box [.val (.int .i64 (List.getD d_2 (Int.toNat t_15) ((0 : Int), ((0 : Int), ByteArray.empty))).1), .val (.int .i64 (List.getD d_2 (Int.toNat t_15) ((0 : Int), ((0 : Int), ByteArray.empty))).2.1), .val (.string (List.getD d_2 (Int.toNat t_15) ((0 : Int), ((0 : Int), ByteArray.empty))).2.2)])], 3⟩ [] (by kernel_rfl) rfl rfl ap0 ?_
          obtain ⟨r_28, h_29, H_82⟩ := of_bind H_74
          refine V_reg hN hn [(7, ⟨27, 0, [.agg [.val (.int .i64 (List.getD d_2 (Int.toNat t_15) ((0 : Int), ((0 : Int), ByteArray.empty))).1), .val (.int .i64 (List.getD d_2 (Int.toNat t_15) ((0 : Int), ((0 : Int), ByteArray.empty))).2.1), .val (.string (List.getD d_2 (Int.toNat t_15) ((0 : Int), ((0 : Int), ByteArray.empty))).2.2)], .c (.val (.int .i64 d_1)), .c (.val (.int .i64 to_14)), .c (.val (.bool (decide (t_15 > (0 : Int))))), .c (.val (.bool y_75))], [], .c (.val (.bool r_28)), [], [], 3⟩)] [] (calls_cons (delta_elem_spec K (List.getD d_2 (Int.toNat t_15) ((0 : Int), ((0 : Int), ByteArray.empty))).1 (List.getD d_2 (Int.toNat t_15) ((0 : Int), ((0 : Int), ByteArray.empty))).2.1 (List.getD d_2 (Int.toNat t_15) ((0 : Int), ((0 : Int), ByteArray.empty))).2.2 d_1 to_14 (decide (t_15 > (0 : Int))) y_75 r_28 h_29) (by kernel_rfl) calls_nil) 3 [1, 3, 4, 6, 23, 24, 25, 49] [0, 1, 2] ⟨[(1, .c (.h 1)), (3, .c (.val (.int .i64 size_13))), (4, .c (.val (.int .i64 to_14))), (6, .c (.h 2)), (23, .c (.h 0)), (24, .c (.val (.int .i64 (((List.length d_2) : Nat) : Int)))), (25, .c (.val (.int .i64 t_15))), (49, .c (.val (.bool (!r_28))))], [(0, .row (.pair (.int .i64) (.pair (.int .i64) .str)) d_2), (1, .box [.val (.int .i64 d_1), .h 0]), (2, .box [.val (.int .i64 (List.getD d_2 (Int.toNat t_15) ((0 : Int), ((0 : Int), ByteArray.empty))).1), .val (.int .i64 (List.getD d_2 (Int.toNat t_15) ((0 : Int), ((0 : Int), ByteArray.empty))).2.1), .val (.string (List.getD d_2 (Int.toNat t_15) ((0 : Int), ((0 : Int), ByteArray.empty))).2.2)])], 3⟩ [] (by kernel_rfl) rfl rfl ap0 (by kernel_rfl) (by kernel_rfl) ?_
          refine VL_cond ((!r_28)) (by kernel_rfl) ?_ ?_
          · intro b_31; have H_83 := of_t H_82 b_31
            refine V_run hN hn 2 3 [2] [0] ⟨[(2, .c (.val (.bool false)))], [(0, .row (.pair (.int .i64) (.pair (.int .i64) .str)) d_2)], 3⟩ [] (by kernel_rfl) rfl rfl ap0 ?_
            have H_85 := Option.some.inj (show some false = some r from H_83); subst H_85
            refine VL_ret ?_
            refine QB_ret ?_
            refine QL_ret ?_
            refine QB_ret ?_
            exact P_to [(2, .c (.val (.bool false)))] [(0, .row (.pair (.int .i64) (.pair (.int .i64) .str)) d_2)] [] hn (by kernel_rfl) (by kernel_rfl) rfl rfl rfl (QF_retS (by kernel_rfl) (by kernel_rfl) rfl)
          · intro b_31; have H_84 := of_f H_82 b_31
            refine V_run hN hn 3 3 [1, 3, 4, 6, 23, 24, 25, 49] [0, 1, 2] ⟨[(1, .c (.h 1)), (3, .c (.val (.int .i64 size_13))), (4, .c (.val (.int .i64 to_14))), (6, .c (.h 2)), (23, .c (.h 0)), (24, .c (.val (.int .i64 (((List.length d_2) : Nat) : Int)))), (25, .c (.val (.int .i64 t_15))), (49, .c (.val (.bool (!r_28))))], [(0, .row (.pair (.int .i64) (.pair (.int .i64) .str)) d_2), (1, .box [.val (.int .i64 d_1), .h 0]), (2, .box [.val (.int .i64 (List.getD d_2 (Int.toNat t_15) ((0 : Int), ((0 : Int), ByteArray.empty))).1), .val (.int .i64 (List.getD d_2 (Int.toNat t_15) ((0 : Int), ((0 : Int), ByteArray.empty))).2.1), .val (.string (List.getD d_2 (Int.toNat t_15) ((0 : Int), ((0 : Int), ByteArray.empty))).2.2)])], 3⟩ [] (by kernel_rfl) rfl rfl ap0 ?_
            obtain ⟨r_34, h_35, H_86⟩ := of_bind H_84
            refine V_reg hN hn [(1, ⟨26, 0, [.agg [.val (.int .i64 (List.getD d_2 (Int.toNat t_15) ((0 : Int), ((0 : Int), ByteArray.empty))).1), .val (.int .i64 (List.getD d_2 (Int.toNat t_15) ((0 : Int), ((0 : Int), ByteArray.empty))).2.1), .val (.string (List.getD d_2 (Int.toNat t_15) ((0 : Int), ((0 : Int), ByteArray.empty))).2.2)]], [], .c (.val (.bool r_34)), [], [], 3⟩)] [] (calls_cons (delta_IsCopy_spec K (List.getD d_2 (Int.toNat t_15) ((0 : Int), ((0 : Int), ByteArray.empty))).1 (List.getD d_2 (Int.toNat t_15) ((0 : Int), ((0 : Int), ByteArray.empty))).2.1 (List.getD d_2 (Int.toNat t_15) ((0 : Int), ((0 : Int), ByteArray.empty))).2.2 r_34 h_35) (by kernel_rfl) calls_nil) 3 [1, 3, 4, 6, 23, 24, 25, 51] [0, 1, 2] ⟨[(1, .c (.h 1)), (3, .c (.val (.int .i64 size_13))), (4, .c (.val (.int .i64 to_14))), (6, .c (.h 2)), (23, .c (.h 0)), (24, .c (.val (.int .i64 (((List.length d_2) : Nat) : Int)))), (25, .c (.val (.int .i64 t_15))), (51, .c (.val (.bool r_34)))], [(0, .row (.pair (.int .i64) (.pair (.int .i64) .str)) d_2), (1, .box [.val (.int .i64 d_1), .h 0]), (2, .box [.val (.int .i64 (List.getD d_2 (Int.toNat t_15) ((0 : Int), ((0 : Int), ByteArray.empty))).1), .val (.int .i64 (List.getD d_2 (Int.toNat t_15) ((0 : Int), ((0 : Int), ByteArray.empty))).2.1), .val (.string (List.getD d_2 (Int.toNat t_15) ((0 : Int), ((0 : Int), ByteArray.empty))).2.2)])], 3⟩ [] (by kernel_rfl) rfl rfl ap0 (by kernel_rfl) (by kernel_rfl) ?_
            obtain ⟨q_87, H_88, H_89⟩ := of_bind H_86
            refine V_cut (Y := Int) (R := Int) q_87 (fun y => y) (fun y => [(1, .c (.h 1)), (3, .c (.val (.int .i64 size_13))), (4, .c (.val (.int .i64 y))), (6, .c (.h 2)), (23, .c (.h 0)), (24, .c (.val (.int .i64 (((List.length d_2) : Nat) : Int)))), (25, .c (.val (.int .i64 t_15)))]) (fun y => [(0, .row (.pair (.int .i64) (.pair (.int .i64) .str)) d_2), (1, .box [.val (.int .i64 d_1), .h 0]), (2, .box [.val (.int .i64 (List.getD d_2 (Int.toNat t_15) ((0 : Int), ((0 : Int), ByteArray.empty))).1), .val (.int .i64 (List.getD d_2 (Int.toNat t_15) ((0 : Int), ((0 : Int), ByteArray.empty))).2.1), .val (.string (List.getD d_2 (Int.toNat t_15) ((0 : Int), ((0 : Int), ByteArray.empty))).2.2)])]) ?_ ?_
            · skip
              refine VL_cond (r_34) (by kernel_rfl) ?_ ?_
              · intro b_37; have H_91 := of_t H_88 b_37
                refine V_run hN hn 1 3 [1, 3, 4, 6, 23, 24, 25] [0, 1, 2] ⟨[(1, .c (.h 1)), (3, .c (.val (.int .i64 size_13))), (4, .c (.val (.int .i64 (List.getD d_2 (Int.toNat t_15) ((0 : Int), ((0 : Int), ByteArray.empty))).2.1))), (6, .c (.h 2)), (23, .c (.h 0)), (24, .c (.val (.int .i64 (((List.length d_2) : Nat) : Int)))), (25, .c (.val (.int .i64 t_15)))], [(0, .row (.pair (.int .i64) (.pair (.int .i64) .str)) d_2), (1, .box [.val (.int .i64 d_1), .h 0]), (2, .box [.val (.int .i64 (List.getD d_2 (Int.toNat t_15) ((0 : Int), ((0 : Int), ByteArray.empty))).1), .val (.int .i64 (List.getD d_2 (Int.toNat t_15) ((0 : Int), ((0 : Int), ByteArray.empty))).2.1), .val (.string (List.getD d_2 (Int.toNat t_15) ((0 : Int), ((0 : Int), ByteArray.empty))).2.2)])], 3⟩ [] (by kernel_rfl) rfl rfl ap0 ?_
                have H_93 := Option.some.inj (show some (List.getD d_2 (Int.toNat t_15) ((0 : Int), ((0 : Int), ByteArray.empty))).2.1 = some q_87 from H_91); subst H_93
                refine VL_nil ?_
                exact QP_end (List.getD d_2 (Int.toNat t_15) ((0 : Int), ((0 : Int), ByteArray.empty))).2.1 rfl [(1, 1), (2, 2)] hn (by kernel_rfl) (by kernel_rfl) rfl rfl rfl
              · intro b_37; have H_92 := of_f H_88 b_37
                refine V_run hN hn 1 3 [1, 3, 4, 6, 23, 24, 25, 51] [0, 1, 2] ⟨[(1, .c (.h 1)), (3, .c (.val (.int .i64 size_13))), (4, .c (.val (.int .i64 to_14))), (6, .c (.h 2)), (23, .c (.h 0)), (24, .c (.val (.int .i64 (((List.length d_2) : Nat) : Int)))), (25, .c (.val (.int .i64 t_15))), (51, .c (.val (.bool r_34)))], [(0, .row (.pair (.int .i64) (.pair (.int .i64) .str)) d_2), (1, .box [.val (.int .i64 d_1), .h 0]), (2, .box [.val (.int .i64 (List.getD d_2 (Int.toNat t_15) ((0 : Int), ((0 : Int), ByteArray.empty))).1), .val (.int .i64 (List.getD d_2 (Int.toNat t_15) ((0 : Int), ((0 : Int), ByteArray.empty))).2.1), .val (.string (List.getD d_2 (Int.toNat t_15) ((0 : Int), ((0 : Int), ByteArray.empty))).2.2)])], 3⟩ [] (by kernel_rfl) rfl rfl ap0 ?_
                have H_94 := Option.some.inj (show some to_14 = some q_87 from H_92); subst H_94
                refine VL_nil ?_
                exact QP_end to_14 rfl [(1, 1), (2, 2)] hn (by kernel_rfl) (by kernel_rfl) rfl rfl rfl
            · intro y_90 hy; subst hy
              skip
              skip
              refine V_run hN hn 4 3 [1, 3, 4, 23, 24, 25, 66] [0, 1] ⟨[(1, .c (.h 1)), (3, .c (.val (.int .i64 (IntKind.wrap .i64 (size_13 + (IntKind.wrap .i64 ((IntKind.wrap .i64 ((List.getD d_2 (Int.toNat t_15) ((0 : Int), ((0 : Int), ByteArray.empty))).2.1 - (List.getD d_2 (Int.toNat t_15) ((0 : Int), ((0 : Int), ByteArray.empty))).1)) + (((ByteArray.size (List.getD d_2 (Int.toNat t_15) ((0 : Int), ((0 : Int), ByteArray.empty))).2.2) : Nat) : Int)))))))), (4, .c (.val (.int .i64 y_90))), (23, .c (.h 0)), (24, .c (.val (.int .i64 (((List.length d_2) : Nat) : Int)))), (25, .c (.val (.int .i64 t_15))), (66, .c (.val (.bool (decide ((IntKind.wrap .i64 (size_13 + (IntKind.wrap .i64 ((IntKind.wrap .i64 ((List.getD d_2 (Int.toNat t_15) ((0 : Int), ((0 : Int), ByteArray.empty))).2.1 - (List.getD d_2 (Int.toNat t_15) ((0 : Int), ((0 : Int), ByteArray.empty))).1)) + (((ByteArray.size (List.getD d_2 (Int.toNat t_15) ((0 : Int), ((0 : Int), ByteArray.empty))).2.2) : Nat) : Int))))) > (20000 : Int))))))], [(0, .row (.pair (.int .i64) (.pair (.int .i64) .str)) d_2), (1, .box [.val (.int .i64 d_1), .h 0])], 3⟩ [] (by kernel_rfl) rfl rfl ap0 ?_
              refine VL_cond ((decide ((IntKind.wrap .i64 (size_13 + (IntKind.wrap .i64 ((IntKind.wrap .i64 ((List.getD d_2 (Int.toNat t_15) ((0 : Int), ((0 : Int), ByteArray.empty))).2.1 - (List.getD d_2 (Int.toNat t_15) ((0 : Int), ((0 : Int), ByteArray.empty))).1)) + (((ByteArray.size (List.getD d_2 (Int.toNat t_15) ((0 : Int), ((0 : Int), ByteArray.empty))).2.2) : Nat) : Int))))) > (20000 : Int)))) (by kernel_rfl) ?_ ?_
              · intro b_42; have H_95 := of_t H_89 b_42
                refine V_run hN hn 2 3 [2] [0] ⟨[(2, .c (.val (.bool false)))], [(0, .row (.pair (.int .i64) (.pair (.int .i64) .str)) d_2)], 3⟩ [] (by kernel_rfl) rfl rfl ap0 ?_
                have H_97 := Option.some.inj (show some false = some r from H_95); subst H_97
                refine VL_ret ?_
                refine QB_ret ?_
                refine QL_ret ?_
                refine QB_ret ?_
                exact P_to [(2, .c (.val (.bool false)))] [(0, .row (.pair (.int .i64) (.pair (.int .i64) .str)) d_2)] [] hn (by kernel_rfl) (by kernel_rfl) rfl rfl rfl (QF_retS (by kernel_rfl) (by kernel_rfl) rfl)
              · intro b_42; have H_96 := of_f H_89 b_42
                refine V_run hN hn 1 3 [1, 3, 4, 23, 24, 25, 66] [0, 1] ⟨[(1, .c (.h 1)), (3, .c (.val (.int .i64 (IntKind.wrap .i64 (size_13 + (IntKind.wrap .i64 ((IntKind.wrap .i64 ((List.getD d_2 (Int.toNat t_15) ((0 : Int), ((0 : Int), ByteArray.empty))).2.1 - (List.getD d_2 (Int.toNat t_15) ((0 : Int), ((0 : Int), ByteArray.empty))).1)) + (((ByteArray.size (List.getD d_2 (Int.toNat t_15) ((0 : Int), ((0 : Int), ByteArray.empty))).2.2) : Nat) : Int)))))))), (4, .c (.val (.int .i64 y_90))), (23, .c (.h 0)), (24, .c (.val (.int .i64 (((List.length d_2) : Nat) : Int)))), (25, .c (.val (.int .i64 t_15))), (66, .c (.val (.bool (decide ((IntKind.wrap .i64 (size_13 + (IntKind.wrap .i64 ((IntKind.wrap .i64 ((List.getD d_2 (Int.toNat t_15) ((0 : Int), ((0 : Int), ByteArray.empty))).2.1 - (List.getD d_2 (Int.toNat t_15) ((0 : Int), ((0 : Int), ByteArray.empty))).1)) + (((ByteArray.size (List.getD d_2 (Int.toNat t_15) ((0 : Int), ((0 : Int), ByteArray.empty))).2.2) : Nat) : Int))))) > (20000 : Int))))))], [(0, .row (.pair (.int .i64) (.pair (.int .i64) .str)) d_2), (1, .box [.val (.int .i64 d_1), .h 0])], 3⟩ [] (by kernel_rfl) rfl rfl ap0 ?_
                refine VL_nil (QB_end ?_)
                refine V_run hN hn 1 3 [1, 3, 4, 23, 24, 25] [0, 1] ⟨[(1, .c (.h 1)), (3, .c (.val (.int .i64 (IntKind.wrap .i64 (size_13 + (IntKind.wrap .i64 ((IntKind.wrap .i64 ((List.getD d_2 (Int.toNat t_15) ((0 : Int), ((0 : Int), ByteArray.empty))).2.1 - (List.getD d_2 (Int.toNat t_15) ((0 : Int), ((0 : Int), ByteArray.empty))).1)) + (((ByteArray.size (List.getD d_2 (Int.toNat t_15) ((0 : Int), ((0 : Int), ByteArray.empty))).2.2) : Nat) : Int)))))))), (4, .c (.val (.int .i64 y_90))), (23, .c (.h 0)), (24, .c (.val (.int .i64 (((List.length d_2) : Nat) : Int)))), (25, .c (.val (.int .i64 (IntKind.wrap .i64 (t_15 + (1 : Int))))))], [(0, .row (.pair (.int .i64) (.pair (.int .i64) .str)) d_2), (1, .box [.val (.int .i64 d_1), .h 0])], 3⟩ [] (by kernel_rfl) rfl rfl ap0 ?_
                refine VL_nil ?_
                exact V_roundEnd ((IntKind.wrap .i64 (size_13 + (IntKind.wrap .i64 ((IntKind.wrap .i64 ((List.getD d_2 (Int.toNat t_15) ((0 : Int), ((0 : Int), ByteArray.empty))).2.1 - (List.getD d_2 (Int.toNat t_15) ((0 : Int), ((0 : Int), ByteArray.empty))).1)) + (((ByteArray.size (List.getD d_2 (Int.toNat t_15) ((0 : Int), ((0 : Int), ByteArray.empty))).2.2) : Nat) : Int))))), y_90, (IntKind.wrap .i64 (t_15 + (1 : Int)))) H_96 [(1, 1)] hn (by kernel_rfl) (by kernel_rfl) rfl rfl rfl
      · intro b_18; have H_70 := of_f H_68 b_18
        refine VL_exit ?_
        refine QL_exit ?_
        refine QB_here ?_
        refine V_run hN hn 2 2 [2] [0] ⟨[(2, .c (.val (.bool true)))], [(0, .row (.pair (.int .i64) (.pair (.int .i64) .str)) d_2)], 2⟩ [] (by kernel_rfl) rfl rfl ap0 ?_
        have H_98 := Option.some.inj (show some true = some r from H_70); subst H_98
        refine VL_ret ?_
        exact P_to [(2, .c (.val (.bool true)))] [(0, .row (.pair (.int .i64) (.pair (.int .i64) .str)) d_2)] [] hn (by kernel_rfl) (by kernel_rfl) rfl rfl rfl (QF_retS (by kernel_rfl) (by kernel_rfl) rfl)

theorem delta_sums_sgr_spec (K : Nat) (d_1 : Int) (d_2 : (List (Int × (Int × ByteArray)))) (r : (Int × Int)) (H : delta_sums K d_1 d_2 = some r) : Spec Try.prog 29 1 [.agg [.val (.int .i64 d_1), .h 0]] [(0, .row (.pair (.int .i64) (.pair (.int .i64) .str)) d_2)] (.tup [(false, [.val (.int .i64 r.1)]), (false, [.val (.int .i64 r.2)])]) [(0, .row (.pair (.int .i64) (.pair (.int .i64) .str)) d_2)] := by
  refine Spec_mk (fn := Try.f29) (c := (Try.f29.body).get!) Try.func29 (by kernel_rfl) rfl ?_
  intro C hN hn
  replace hN : C.N = 33 := hN
  unfold delta_sums at H
  refine V_run hN hn 6 1 [1, 4, 5] [0, 1] ⟨[(1, .c (.h 1)), (4, .c (.val (.int .i64 (0 : Int)))), (5, .c (.val (.int .i64 (0 : Int))))], [(0, .row (.pair (.int .i64) (.pair (.int .i64) .str)) d_2), (1, .box [.val (.int .i64 d_1), .h 0])], 2⟩ [] (by kernel_rfl) rfl rfl ap0 ?_
  obtain ⟨r_4, h_5, H_22⟩ := of_bind H
  refine V_reg hN hn [(1, ⟨13, 1, [.agg [.val (.int .i64 d_1), .h 0]], [(0, .row (.pair (.int .i64) (.pair (.int .i64) .str)) d_2)], .c (.val (.bool r_4)), [(0, .row (.pair (.int .i64) (.pair (.int .i64) .str)) d_2)], [(0, 0)], 2⟩)] [] (calls_cons (delta_Is_sgr_spec K d_1 d_2 r_4 h_5) (by kernel_rfl) calls_nil) 2 [1, 4, 5, 10] [0, 1] ⟨[(1, .c (.h 1)), (4, .c (.val (.int .i64 (0 : Int)))), (5, .c (.val (.int .i64 (0 : Int)))), (10, .c (.val (.bool (!r_4))))], [(0, .row (.pair (.int .i64) (.pair (.int .i64) .str)) d_2), (1, .box [.val (.int .i64 d_1), .h 0])], 2⟩ [] (by kernel_rfl) rfl rfl ap0 (by kernel_rfl) (by kernel_rfl) ?_
  refine VL_cond ((!r_4)) (by kernel_rfl) ?_ ?_
  · intro b_7; have H_23 := of_t H_22 b_7
    refine V_run hN hn 2 2 [2, 3] [0] ⟨[(2, .c (.val (.int .i64 (0 : Int)))), (3, .c (.val (.int .i64 (0 : Int))))], [(0, .row (.pair (.int .i64) (.pair (.int .i64) .str)) d_2)], 2⟩ [] (by kernel_rfl) rfl rfl ap0 ?_
    have H_25 := Option.some.inj (show some ((0 : Int), (0 : Int)) = some r from H_23); subst H_25
    refine VL_ret ?_
    exact P_to [(2, .c (.val (.int .i64 (0 : Int)))), (3, .c (.val (.int .i64 (0 : Int))))] [(0, .row (.pair (.int .i64) (.pair (.int .i64) .str)) d_2)] [] hn (by kernel_rfl) (by kernel_rfl) rfl rfl rfl (QF_retS (by kernel_rfl) (by kernel_rfl) rfl)
  · intro b_7; have H_24 := of_f H_22 b_7
    refine V_run hN hn 4 2 [4, 5, 12, 13, 14] [0] ⟨[(4, .c (.val (.int .i64 (0 : Int)))), (5, .c (.val (.int .i64 (0 : Int)))), (12, .c (.h 0)), (13, .c (.val (.int .i64 (((List.length d_2) : Nat) : Int)))), (14, .c (.val (.int .i64 (0 : Int))))], [(0, .row (.pair (.int .i64) (.pair (.int .i64) .str)) d_2)], 2⟩ [] (by kernel_rfl) rfl rfl ap0 ?_
    refine VL_block ?_
    refine V_to [(4, .c (.val (.int .i64 (0 : Int)))), (5, .c (.val (.int .i64 (0 : Int)))), (12, .c (.h 0)), (13, .c (.val (.int .i64 (((List.length d_2) : Nat) : Int)))), (14, .c (.val (.int .i64 (0 : Int))))] [(0, .row (.pair (.int .i64) (.pair (.int .i64) .str)) d_2)] [] hn (by kernel_rfl) (by kernel_rfl) rfl rfl rfl ?_
    refine VL_loop (X := (Int × Int × Int)) (fun x => [(4, .c (.val (.int .i64 x.1))), (5, .c (.val (.int .i64 x.2.1))), (12, .c (.h 0)), (13, .c (.val (.int .i64 (((List.length d_2) : Nat) : Int)))), (14, .c (.val (.int .i64 x.2.2)))]) (fun x => [(0, .row (.pair (.int .i64) (.pair (.int .i64) .str)) d_2)]) (fun k x => delta_sums.l0 K d_2 k x.1 x.2.1 x.2.2 = some r) K ((0 : Int), (0 : Int), (0 : Int)) H_24 (fun _ h => no_none h) ?_
    intro k_13 x_13 H_26
    obtain ⟨kept_10, put_11, t_12⟩ := x_13
    have H_27 : delta_sums.l0 K d_2 (k_13 + 1) kept_10 put_11 t_12 = some r := H_26
    rw [delta_sums.l0] at H_27
    refine V_run hN hn 3 2 [4, 5, 12, 13, 14, 15] [0] ⟨[(4, .c (.val (.int .i64 kept_10))), (5, .c (.val (.int .i64 put_11))), (12, .c (.h 0)), (13, .c (.val (.int .i64 (((List.length d_2) : Nat) : Int)))), (14, .c (.val (.int .i64 t_12))), (15, .c (.val (.bool (decide (t_12 < (((List.length d_2) : Nat) : Int))))))], [(0, .row (.pair (.int .i64) (.pair (.int .i64) .str)) d_2)], 2⟩ [] (by kernel_rfl) rfl rfl ap0 ?_
    refine VL_cond ((decide (t_12 < (((List.length d_2) : Nat) : Int)))) (by kernel_rfl) ?_ ?_
    · intro b_15; have H_28 := of_t H_27 b_15
      refine V_run hN hn 2 2 [4, 5, 12, 13, 14, 15] [0] ⟨[(4, .c (.val (.int .i64 kept_10))), (5, .c (.val (.int .i64 put_11))), (12, .c (.h 0)), (13, .c (.val (.int .i64 (((List.length d_2) : Nat) : Int)))), (14, .c (.val (.int .i64 t_12))), (15, .c (.val (.bool (decide (t_12 < (((List.length d_2) : Nat) : Int))))))], [(0, .row (.pair (.int .i64) (.pair (.int .i64) .str)) d_2)], 2⟩ [] (by kernel_rfl) rfl rfl ap0 ?_
      refine VL_block ?_
      obtain ⟨c_17, H_30⟩ := of_if H_28
      refine V_run hN hn 5 2 [4, 5, 12, 13, 14] [0] ⟨[(4, .c (.val (.int .i64 (IntKind.wrap .i64 (kept_10 + (IntKind.wrap .i64 ((List.getD d_2 (Int.toNat t_12) ((0 : Int), ((0 : Int), ByteArray.empty))).2.1 - (List.getD d_2 (Int.toNat t_12) ((0 : Int), ((0 : Int), ByteArray.empty))).1))))))), (5, .c (.val (.int .i64 (IntKind.wrap .i64 (put_11 + (((ByteArray.size (List.getD d_2 (Int.toNat t_12) ((0 : Int), ((0 : Int), ByteArray.empty))).2.2) : Nat) : Int)))))), (12, .c (.h 0)), (13, .c (.val (.int .i64 (((List.length d_2) : Nat) : Int)))), (14, .c (.val (.int .i64 t_12)))], [(0, .row (.pair (.int .i64) (.pair (.int .i64) .str)) d_2)], 3⟩ [0 ≤ t_12, t_12 < (((List.length d_2) : Nat) : Int)] (by kernel_rfl) rfl rfl (ap2 c_17.1 (ap1 c_17.2)) ?_
      refine VL_nil (QB_end ?_)
      refine V_run hN hn 1 3 [4, 5, 12, 13, 14] [0] ⟨[(4, .c (.val (.int .i64 (IntKind.wrap .i64 (kept_10 + (IntKind.wrap .i64 ((List.getD d_2 (Int.toNat t_12) ((0 : Int), ((0 : Int), ByteArray.empty))).2.1 - (List.getD d_2 (Int.toNat t_12) ((0 : Int), ((0 : Int), ByteArray.empty))).1))))))), (5, .c (.val (.int .i64 (IntKind.wrap .i64 (put_11 + (((ByteArray.size (List.getD d_2 (Int.toNat t_12) ((0 : Int), ((0 : Int), ByteArray.empty))).2.2) : Nat) : Int)))))), (12, .c (.h 0)), (13, .c (.val (.int .i64 (((List.length d_2) : Nat) : Int)))), (14, .c (.val (.int .i64 (IntKind.wrap .i64 (t_12 + (1 : Int))))))], [(0, .row (.pair (.int .i64) (.pair (.int .i64) .str)) d_2)], 3⟩ [] (by kernel_rfl) rfl rfl ap0 ?_
      refine VL_nil ?_
      exact V_roundEnd ((IntKind.wrap .i64 (kept_10 + (IntKind.wrap .i64 ((List.getD d_2 (Int.toNat t_12) ((0 : Int), ((0 : Int), ByteArray.empty))).2.1 - (List.getD d_2 (Int.toNat t_12) ((0 : Int), ((0 : Int), ByteArray.empty))).1)))), (IntKind.wrap .i64 (put_11 + (((ByteArray.size (List.getD d_2 (Int.toNat t_12) ((0 : Int), ((0 : Int), ByteArray.empty))).2.2) : Nat) : Int))), (IntKind.wrap .i64 (t_12 + (1 : Int)))) H_30 [] hn (by kernel_rfl) (by kernel_rfl) rfl rfl rfl
    · intro b_15; have H_29 := of_f H_27 b_15
      refine VL_exit ?_
      refine QL_exit ?_
      refine QB_here ?_
      refine V_run hN hn 2 2 [2, 3] [0] ⟨[(2, .c (.val (.int .i64 kept_10))), (3, .c (.val (.int .i64 put_11)))], [(0, .row (.pair (.int .i64) (.pair (.int .i64) .str)) d_2)], 2⟩ [] (by kernel_rfl) rfl rfl ap0 ?_
      have H_31 := Option.some.inj (show some (kept_10, put_11) = some r from H_29); subst H_31
      refine VL_ret ?_
      exact P_to [(2, .c (.val (.int .i64 kept_10))), (3, .c (.val (.int .i64 put_11)))] [(0, .row (.pair (.int .i64) (.pair (.int .i64) .str)) d_2)] [] hn (by kernel_rfl) (by kernel_rfl) rfl rfl rfl (QF_retS (by kernel_rfl) (by kernel_rfl) rfl)

theorem delta_Size_sgr_spec (K : Nat) (d_1 : Int) (d_2 : (List (Int × (Int × ByteArray)))) (r : Int) (H : delta_Size K d_1 d_2 = some r) : Spec Try.prog 16 1 [.agg [.val (.int .i64 d_1), .h 0]] [(0, .row (.pair (.int .i64) (.pair (.int .i64) .str)) d_2)] (.c (.val (.int .i64 r))) [(0, .row (.pair (.int .i64) (.pair (.int .i64) .str)) d_2)] := by
  refine Spec_mk (fn := Try.f16) (c := (Try.f16.body).get!) Try.func16 (by kernel_rfl) rfl ?_
  intro C hN hn
  replace hN : C.N = 13 := hN
  unfold delta_Size at H
  refine V_run hN hn 3 1 [1] [0, 1] ⟨[(1, .c (.h 1))], [(0, .row (.pair (.int .i64) (.pair (.int .i64) .str)) d_2), (1, .box [.val (.int .i64 d_1), .h 0])], 2⟩ [] (by kernel_rfl) rfl rfl ap0 ?_
  obtain ⟨r_4, h_5, H_9⟩ := of_bind H
  refine V_reg hN hn [(1, ⟨29, 1, [.agg [.val (.int .i64 d_1), .h 0]], [(0, .row (.pair (.int .i64) (.pair (.int .i64) .str)) d_2)], .tup [(false, [.val (.int .i64 r_4.1)]), (false, [.val (.int .i64 r_4.2)])], [(0, .row (.pair (.int .i64) (.pair (.int .i64) .str)) d_2)], [(0, 0)], 2⟩)] [] (calls_cons (delta_sums_sgr_spec K d_1 d_2 r_4 h_5) (by kernel_rfl) calls_nil) 2 [3, 4] [0] ⟨[(3, .c (.val (.int .i64 r_4.1))), (4, .c (.val (.int .i64 r_4.2)))], [(0, .row (.pair (.int .i64) (.pair (.int .i64) .str)) d_2)], 2⟩ [] (by kernel_rfl) rfl rfl ap0 (by kernel_rfl) (by kernel_rfl) ?_
  refine V_run hN hn 2 2 [2] [0] ⟨[(2, .c (.val (.int .i64 (IntKind.wrap .i64 (r_4.1 + r_4.2)))))], [(0, .row (.pair (.int .i64) (.pair (.int .i64) .str)) d_2)], 2⟩ [] (by kernel_rfl) rfl rfl ap0 ?_
  have H_10 := Option.some.inj (show some (IntKind.wrap .i64 (r_4.1 + r_4.2)) = some r from H_9); subst H_10
  refine VL_ret ?_
  exact P_to [(2, .c (.val (.int .i64 (IntKind.wrap .i64 (r_4.1 + r_4.2)))))] [(0, .row (.pair (.int .i64) (.pair (.int .i64) .str)) d_2)] [] hn (by kernel_rfl) (by kernel_rfl) rfl rfl rfl (QF_retS (by kernel_rfl) (by kernel_rfl) rfl)

end Go.Pal
