/- The Go functions that DeltaTells reaches compute what the plain functions say: part 1, printed by a program of this workplace. -/
import Derived.Test.YtjhkbooonbcklaaChecked
import Derived.Test.YtjhkbooonbcklaaWalkDeltaTells0
namespace Go.Pal
open Go Go.Proofs
set_option maxRecDepth 100000
set_option linter.unusedVariables false

theorem palinoderef1_Size_spec (K : Nat) (s_1 : ByteArray) (at_2 : Int) (r : Int) (H : palinoderef1_Size K s_1 at_2 = some r) : Spec Try.prog 38 0 [.c (.val (.string s_1)), .c (.val (.int .i64 at_2))] [] (.c (.val (.int .i64 r))) [] := by
  refine Spec_mk (fn := Try.f38) (c := (Try.f38.body).get!) Try.func38 (by kernel_rfl) rfl ?_
  intro C hN hn
  replace hN : C.N = 94 := hN
  unfold palinoderef1_Size at H
  refine V_run hN hn 4 0 [0, 1] [] ⟨[(0, .c (.val (.string s_1))), (1, .c (.val (.int .i64 at_2)))], [], 0⟩ [] (by kernel_rfl) rfl rfl ap0 ?_
  obtain ⟨q_77, H_78, H_79⟩ := of_bind H
  refine V_cut (Y := Bool) (R := Bool) q_77 (fun y => y) (fun y => [(0, .c (.val (.string s_1))), (1, .c (.val (.int .i64 at_2))), (18, .c (.val (.bool y)))]) (fun y => []) ?_ ?_
  · skip
    rcases Bool.eq_false_or_eq_true ((decide (at_2 < (0 : Int)))) with b_4 | b_4
    · have H_81 := of_t H_78 b_4
      refine V_reg hN hn [] [(13, true)] calls_nil 0 [0, 1, 18] [] ⟨[(0, .c (.val (.string s_1))), (1, .c (.val (.int .i64 at_2))), (18, .c (.val (.bool true)))], [], 0⟩ [(decide (at_2 < (0 : Int))) = true] (by kernel_rfl) rfl rfl (ap1 b_4) (by kernel_rfl) (by kernel_rfl) ?_
      have H_83 := Option.some.inj (show some true = some q_77 from H_81); subst H_83
      refine VL_nil ?_
      exact QP_end true rfl [] hn (by kernel_rfl) (by kernel_rfl) rfl rfl rfl
    · have H_82 := of_f H_78 b_4
      refine V_reg hN hn [] [(13, false)] calls_nil 0 [0, 1, 18] [] ⟨[(0, .c (.val (.string s_1))), (1, .c (.val (.int .i64 at_2))), (18, .c (.val (.bool (decide (at_2 ≥ (((ByteArray.size s_1) : Nat) : Int))))))], [], 0⟩ [(decide (at_2 < (0 : Int))) = false] (by kernel_rfl) rfl rfl (ap1 b_4) (by kernel_rfl) (by kernel_rfl) ?_
      have H_84 := Option.some.inj (show some (decide (at_2 ≥ (((ByteArray.size s_1) : Nat) : Int))) = some q_77 from H_82); subst H_84
      refine VL_nil ?_
      exact QP_end (decide (at_2 ≥ (((ByteArray.size s_1) : Nat) : Int))) rfl [] hn (by kernel_rfl) (by kernel_rfl) rfl rfl rfl
  · intro y_80 hy; subst hy
    skip
    skip
    refine VL_cond (y_80) (by kernel_rfl) ?_ ?_
    · intro b_8; have H_85 := of_t H_79 b_8
      refine V_run hN hn 2 0 [4] [] ⟨[(4, .c (.val (.int .i64 (0 : Int))))], [], 0⟩ [] (by kernel_rfl) rfl rfl ap0 ?_
      have H_87 := Option.some.inj (show some (0 : Int) = some r from H_85); subst H_87
      refine VL_ret ?_
      exact P_to [(4, .c (.val (.int .i64 (0 : Int))))] [] [] hn (by kernel_rfl) (by kernel_rfl) rfl rfl rfl (QF_retS (by kernel_rfl) (by kernel_rfl) rfl)
    · intro b_8; have H_86 := of_f H_79 b_8
      obtain ⟨c_10, H_88⟩ := of_if H_86
      refine V_run hN hn 6 0 [0, 1, 5] [] ⟨[(0, .c (.val (.string s_1))), (1, .c (.val (.int .i64 at_2))), (5, .c (.val (.int .i64 (IntKind.wrap .i64 (bt s_1 at_2)))))], [], 0⟩ [0 ≤ at_2, at_2 < (((ByteArray.size s_1) : Nat) : Int)] (by kernel_rfl) rfl rfl (ap2 c_10.1 (ap1 c_10.2)) ?_
      refine VL_block ?_
      refine V_run hN hn 2 0 [0, 1, 5, 23] [] ⟨[(0, .c (.val (.string s_1))), (1, .c (.val (.int .i64 at_2))), (5, .c (.val (.int .i64 (IntKind.wrap .i64 (bt s_1 at_2))))), (23, .c (.val (.bool (decide ((IntKind.wrap .i64 (bt s_1 at_2)) < (128 : Int))))))], [], 0⟩ [] (by kernel_rfl) rfl rfl ap0 ?_
      refine VL_cond ((decide ((IntKind.wrap .i64 (bt s_1 at_2)) < (128 : Int)))) (by kernel_rfl) ?_ ?_
      · intro b_12; have H_89 := of_t H_88 b_12
        refine V_run hN hn 2 0 [4] [] ⟨[(4, .c (.val (.int .i64 (1 : Int))))], [], 0⟩ [] (by kernel_rfl) rfl rfl ap0 ?_
        have H_91 := Option.some.inj (show some (1 : Int) = some r from H_89); subst H_91
        refine VL_ret ?_
        refine QB_ret ?_
        exact P_to [(4, .c (.val (.int .i64 (1 : Int))))] [] [] hn (by kernel_rfl) (by kernel_rfl) rfl rfl rfl (QF_retS (by kernel_rfl) (by kernel_rfl) rfl)
      · intro b_12; have H_90 := of_f H_88 b_12
        refine V_run hN hn 1 0 [0, 1, 5, 23] [] ⟨[(0, .c (.val (.string s_1))), (1, .c (.val (.int .i64 at_2))), (5, .c (.val (.int .i64 (IntKind.wrap .i64 (bt s_1 at_2))))), (23, .c (.val (.bool (decide ((IntKind.wrap .i64 (bt s_1 at_2)) < (128 : Int))))))], [], 0⟩ [] (by kernel_rfl) rfl rfl ap0 ?_
        obtain ⟨q_92, H_93, H_94⟩ := of_bind H_90
        refine V_cut (Y := Bool) (R := Bool) q_92 (fun y => y) (fun y => [(0, .c (.val (.string s_1))), (1, .c (.val (.int .i64 at_2))), (5, .c (.val (.int .i64 (IntKind.wrap .i64 (bt s_1 at_2))))), (26, .c (.val (.bool y)))]) (fun y => []) ?_ ?_
        · skip
          rcases Bool.eq_false_or_eq_true ((decide ((IntKind.wrap .i64 (bt s_1 at_2)) ≥ (192 : Int)))) with b_15 | b_15
          · have H_96 := of_t H_93 b_15
            refine V_reg hN hn [] [(29, true)] calls_nil 0 [0, 1, 5, 26] [] ⟨[(0, .c (.val (.string s_1))), (1, .c (.val (.int .i64 at_2))), (5, .c (.val (.int .i64 (IntKind.wrap .i64 (bt s_1 at_2))))), (26, .c (.val (.bool (decide ((IntKind.wrap .i64 (bt s_1 at_2)) < (224 : Int))))))], [], 0⟩ [(decide ((IntKind.wrap .i64 (bt s_1 at_2)) ≥ (192 : Int))) = true] (by kernel_rfl) rfl rfl (ap1 b_15) (by kernel_rfl) (by kernel_rfl) ?_
            have H_98 := Option.some.inj (show some (decide ((IntKind.wrap .i64 (bt s_1 at_2)) < (224 : Int))) = some q_92 from H_96); subst H_98
            refine VL_nil ?_
            exact QP_end (decide ((IntKind.wrap .i64 (bt s_1 at_2)) < (224 : Int))) rfl [] hn (by kernel_rfl) (by kernel_rfl) rfl rfl rfl
          · have H_97 := of_f H_93 b_15
            refine V_reg hN hn [] [(29, false)] calls_nil 0 [0, 1, 5, 26] [] ⟨[(0, .c (.val (.string s_1))), (1, .c (.val (.int .i64 at_2))), (5, .c (.val (.int .i64 (IntKind.wrap .i64 (bt s_1 at_2))))), (26, .c (.val (.bool false)))], [], 0⟩ [(decide ((IntKind.wrap .i64 (bt s_1 at_2)) ≥ (192 : Int))) = false] (by kernel_rfl) rfl rfl (ap1 b_15) (by kernel_rfl) (by kernel_rfl) ?_
            have H_99 := Option.some.inj (show some false = some q_92 from H_97); subst H_99
            refine VL_nil ?_
            exact QP_end false rfl [] hn (by kernel_rfl) (by kernel_rfl) rfl rfl rfl
        · intro y_95 hy; subst hy
          skip
          skip
          obtain ⟨q_100, H_101, H_102⟩ := of_bind H_94
          refine V_cut (Y := (Int × Int × Int)) (R := (Int ⊕ (Int × Int × Int))) q_100 (fun y => (Sum.inr y)) (fun y => [(0, .c (.val (.string s_1))), (1, .c (.val (.int .i64 at_2))), (6, .c (.val (.int .i64 y.1))), (7, .c (.val (.int .i64 y.2.1))), (8, .c (.val (.int .i64 y.2.2)))]) (fun y => []) ?_ ?_
          · skip
            refine VL_cond (y_95) (by kernel_rfl) ?_ ?_
            · intro b_19; have H_104 := of_t H_101 b_19
              refine V_run hN hn 1 0 [0, 1, 6, 7, 8] [] ⟨[(0, .c (.val (.string s_1))), (1, .c (.val (.int .i64 at_2))), (6, .c (.val (.int .i64 (2 : Int)))), (7, .c (.val (.int .i64 (IntKind.wrap .i64 (BitVec.toNat (BitVec.ofInt (IntKind.bits .i64) (IntKind.wrap .i64 (bt s_1 at_2)) &&& BitVec.ofInt (IntKind.bits .i64) (31 : Int))))))), (8, .c (.val (.int .i64 (128 : Int))))], [], 0⟩ [] (by kernel_rfl) rfl rfl ap0 ?_
              have H_106 := Option.some.inj (show some (Sum.inr ((2 : Int), (IntKind.wrap .i64 (BitVec.toNat (BitVec.ofInt (IntKind.bits .i64) (IntKind.wrap .i64 (bt s_1 at_2)) &&& BitVec.ofInt (IntKind.bits .i64) (31 : Int)))), (128 : Int))) = some q_100 from H_104); subst H_106
              refine VL_nil ?_
              exact QP_end ((2 : Int), (IntKind.wrap .i64 (BitVec.toNat (BitVec.ofInt (IntKind.bits .i64) (IntKind.wrap .i64 (bt s_1 at_2)) &&& BitVec.ofInt (IntKind.bits .i64) (31 : Int)))), (128 : Int)) rfl [] hn (by kernel_rfl) (by kernel_rfl) rfl rfl rfl
            · intro b_19; have H_105 := of_f H_101 b_19
              refine V_run hN hn 1 0 [0, 1, 5, 26] [] ⟨[(0, .c (.val (.string s_1))), (1, .c (.val (.int .i64 at_2))), (5, .c (.val (.int .i64 (IntKind.wrap .i64 (bt s_1 at_2))))), (26, .c (.val (.bool y_95)))], [], 0⟩ [] (by kernel_rfl) rfl rfl ap0 ?_
              obtain ⟨q_107, H_108, H_109⟩ := of_bind H_105
              refine V_cut (Y := Bool) (R := Bool) q_107 (fun y => y) (fun y => [(0, .c (.val (.string s_1))), (1, .c (.val (.int .i64 at_2))), (5, .c (.val (.int .i64 (IntKind.wrap .i64 (bt s_1 at_2))))), (35, .c (.val (.bool y)))]) (fun y => []) ?_ ?_
              · skip
                rcases Bool.eq_false_or_eq_true ((decide ((IntKind.wrap .i64 (bt s_1 at_2)) ≥ (224 : Int)))) with b_22 | b_22
                · have H_111 := of_t H_108 b_22
                  refine V_reg hN hn [] [(38, true)] calls_nil 0 [0, 1, 5, 35] [] ⟨[(0, .c (.val (.string s_1))), (1, .c (.val (.int .i64 at_2))), (5, .c (.val (.int .i64 (IntKind.wrap .i64 (bt s_1 at_2))))), (35, .c (.val (.bool (decide ((IntKind.wrap .i64 (bt s_1 at_2)) < (240 : Int))))))], [], 0⟩ [(decide ((IntKind.wrap .i64 (bt s_1 at_2)) ≥ (224 : Int))) = true] (by kernel_rfl) rfl rfl (ap1 b_22) (by kernel_rfl) (by kernel_rfl) ?_
                  have H_113 := Option.some.inj (show some (decide ((IntKind.wrap .i64 (bt s_1 at_2)) < (240 : Int))) = some q_107 from H_111); subst H_113
                  refine VL_nil ?_
                  exact QP_end (decide ((IntKind.wrap .i64 (bt s_1 at_2)) < (240 : Int))) rfl [] hn (by kernel_rfl) (by kernel_rfl) rfl rfl rfl
                · have H_112 := of_f H_108 b_22
                  refine V_reg hN hn [] [(38, false)] calls_nil 0 [0, 1, 5, 35] [] ⟨[(0, .c (.val (.string s_1))), (1, .c (.val (.int .i64 at_2))), (5, .c (.val (.int .i64 (IntKind.wrap .i64 (bt s_1 at_2))))), (35, .c (.val (.bool false)))], [], 0⟩ [(decide ((IntKind.wrap .i64 (bt s_1 at_2)) ≥ (224 : Int))) = false] (by kernel_rfl) rfl rfl (ap1 b_22) (by kernel_rfl) (by kernel_rfl) ?_
                  have H_114 := Option.some.inj (show some false = some q_107 from H_112); subst H_114
                  refine VL_nil ?_
                  exact QP_end false rfl [] hn (by kernel_rfl) (by kernel_rfl) rfl rfl rfl
              · intro y_110 hy; subst hy
                skip
                skip
                refine VL_cond (y_110) (by kernel_rfl) ?_ ?_
                · intro b_26; have H_115 := of_t H_109 b_26
                  refine V_run hN hn 1 0 [0, 1, 6, 7, 8] [] ⟨[(0, .c (.val (.string s_1))), (1, .c (.val (.int .i64 at_2))), (6, .c (.val (.int .i64 (3 : Int)))), (7, .c (.val (.int .i64 (IntKind.wrap .i64 (BitVec.toNat (BitVec.ofInt (IntKind.bits .i64) (IntKind.wrap .i64 (bt s_1 at_2)) &&& BitVec.ofInt (IntKind.bits .i64) (15 : Int))))))), (8, .c (.val (.int .i64 (2048 : Int))))], [], 0⟩ [] (by kernel_rfl) rfl rfl ap0 ?_
                  have H_117 := Option.some.inj (show some (Sum.inr ((3 : Int), (IntKind.wrap .i64 (BitVec.toNat (BitVec.ofInt (IntKind.bits .i64) (IntKind.wrap .i64 (bt s_1 at_2)) &&& BitVec.ofInt (IntKind.bits .i64) (15 : Int)))), (2048 : Int))) = some q_100 from H_115); subst H_117
                  refine VL_nil ?_
                  exact QP_end ((3 : Int), (IntKind.wrap .i64 (BitVec.toNat (BitVec.ofInt (IntKind.bits .i64) (IntKind.wrap .i64 (bt s_1 at_2)) &&& BitVec.ofInt (IntKind.bits .i64) (15 : Int)))), (2048 : Int)) rfl [] hn (by kernel_rfl) (by kernel_rfl) rfl rfl rfl
                · intro b_26; have H_116 := of_f H_109 b_26
                  refine V_run hN hn 1 0 [0, 1, 5, 35] [] ⟨[(0, .c (.val (.string s_1))), (1, .c (.val (.int .i64 at_2))), (5, .c (.val (.int .i64 (IntKind.wrap .i64 (bt s_1 at_2))))), (35, .c (.val (.bool y_110)))], [], 0⟩ [] (by kernel_rfl) rfl rfl ap0 ?_
                  obtain ⟨q_118, H_119, H_120⟩ := of_bind H_116
                  refine V_cut (Y := Bool) (R := Bool) q_118 (fun y => y) (fun y => [(0, .c (.val (.string s_1))), (1, .c (.val (.int .i64 at_2))), (5, .c (.val (.int .i64 (IntKind.wrap .i64 (bt s_1 at_2))))), (44, .c (.val (.bool y)))]) (fun y => []) ?_ ?_
                  · skip
                    rcases Bool.eq_false_or_eq_true ((decide ((IntKind.wrap .i64 (bt s_1 at_2)) ≥ (240 : Int)))) with b_29 | b_29
                    · have H_122 := of_t H_119 b_29
                      refine V_reg hN hn [] [(47, true)] calls_nil 0 [0, 1, 5, 44] [] ⟨[(0, .c (.val (.string s_1))), (1, .c (.val (.int .i64 at_2))), (5, .c (.val (.int .i64 (IntKind.wrap .i64 (bt s_1 at_2))))), (44, .c (.val (.bool (decide ((IntKind.wrap .i64 (bt s_1 at_2)) < (248 : Int))))))], [], 0⟩ [(decide ((IntKind.wrap .i64 (bt s_1 at_2)) ≥ (240 : Int))) = true] (by kernel_rfl) rfl rfl (ap1 b_29) (by kernel_rfl) (by kernel_rfl) ?_
                      have H_124 := Option.some.inj (show some (decide ((IntKind.wrap .i64 (bt s_1 at_2)) < (248 : Int))) = some q_118 from H_122); subst H_124
                      refine VL_nil ?_
                      exact QP_end (decide ((IntKind.wrap .i64 (bt s_1 at_2)) < (248 : Int))) rfl [] hn (by kernel_rfl) (by kernel_rfl) rfl rfl rfl
                    · have H_123 := of_f H_119 b_29
                      refine V_reg hN hn [] [(47, false)] calls_nil 0 [0, 1, 5, 44] [] ⟨[(0, .c (.val (.string s_1))), (1, .c (.val (.int .i64 at_2))), (5, .c (.val (.int .i64 (IntKind.wrap .i64 (bt s_1 at_2))))), (44, .c (.val (.bool false)))], [], 0⟩ [(decide ((IntKind.wrap .i64 (bt s_1 at_2)) ≥ (240 : Int))) = false] (by kernel_rfl) rfl rfl (ap1 b_29) (by kernel_rfl) (by kernel_rfl) ?_
                      have H_125 := Option.some.inj (show some false = some q_118 from H_123); subst H_125
                      refine VL_nil ?_
                      exact QP_end false rfl [] hn (by kernel_rfl) (by kernel_rfl) rfl rfl rfl
                  · intro y_121 hy; subst hy
                    skip
                    skip
                    refine VL_cond (y_121) (by kernel_rfl) ?_ ?_
                    · intro b_33; have H_126 := of_t H_120 b_33
                      refine V_run hN hn 1 0 [0, 1, 6, 7, 8] [] ⟨[(0, .c (.val (.string s_1))), (1, .c (.val (.int .i64 at_2))), (6, .c (.val (.int .i64 (4 : Int)))), (7, .c (.val (.int .i64 (IntKind.wrap .i64 (BitVec.toNat (BitVec.ofInt (IntKind.bits .i64) (IntKind.wrap .i64 (bt s_1 at_2)) &&& BitVec.ofInt (IntKind.bits .i64) (7 : Int))))))), (8, .c (.val (.int .i64 (65536 : Int))))], [], 0⟩ [] (by kernel_rfl) rfl rfl ap0 ?_
                      have H_128 := Option.some.inj (show some (Sum.inr ((4 : Int), (IntKind.wrap .i64 (BitVec.toNat (BitVec.ofInt (IntKind.bits .i64) (IntKind.wrap .i64 (bt s_1 at_2)) &&& BitVec.ofInt (IntKind.bits .i64) (7 : Int)))), (65536 : Int))) = some q_100 from H_126); subst H_128
                      refine VL_nil ?_
                      exact QP_end ((4 : Int), (IntKind.wrap .i64 (BitVec.toNat (BitVec.ofInt (IntKind.bits .i64) (IntKind.wrap .i64 (bt s_1 at_2)) &&& BitVec.ofInt (IntKind.bits .i64) (7 : Int)))), (65536 : Int)) rfl [] hn (by kernel_rfl) (by kernel_rfl) rfl rfl rfl
                    · intro b_33; have H_127 := of_f H_120 b_33
                      refine V_run hN hn 2 0 [4] [] ⟨[(4, .c (.val (.int .i64 (0 : Int))))], [], 0⟩ [] (by kernel_rfl) rfl rfl ap0 ?_
                      have H_129 := Option.some.inj (show some (Sum.inl (0 : Int)) = some q_100 from H_127); subst H_129
                      have H_130 := Option.some.inj (show some (0 : Int) = some r from H_102); subst H_130
                      refine VL_ret ?_
                      refine QP_ret ?_
                      refine QB_ret ?_
                      exact P_to [(4, .c (.val (.int .i64 (0 : Int))))] [] [] hn (by kernel_rfl) (by kernel_rfl) rfl rfl rfl (QF_retS (by kernel_rfl) (by kernel_rfl) rfl)
          · intro y_103 hy; subst hy
            obtain ⟨n_36, v_37, least_38⟩ := y_103
            refine VL_nil (QB_end ?_)
            refine V_run hN hn 3 0 [0, 1, 6, 7, 8, 58] [] ⟨[(0, .c (.val (.string s_1))), (1, .c (.val (.int .i64 at_2))), (6, .c (.val (.int .i64 n_36))), (7, .c (.val (.int .i64 v_37))), (8, .c (.val (.int .i64 least_38))), (58, .c (.val (.bool (decide ((IntKind.wrap .i64 ((((ByteArray.size s_1) : Nat) : Int) - at_2)) < n_36)))))], [], 0⟩ [] (by kernel_rfl) rfl rfl ap0 ?_
            refine VL_cond ((decide ((IntKind.wrap .i64 ((((ByteArray.size s_1) : Nat) : Int) - at_2)) < n_36))) (by kernel_rfl) ?_ ?_
            · intro b_40; have H_131 := of_t H_102 b_40
              refine V_run hN hn 2 0 [4] [] ⟨[(4, .c (.val (.int .i64 (0 : Int))))], [], 0⟩ [] (by kernel_rfl) rfl rfl ap0 ?_
              have H_133 := Option.some.inj (show some (0 : Int) = some r from H_131); subst H_133
              refine VL_ret ?_
              exact P_to [(4, .c (.val (.int .i64 (0 : Int))))] [] [] hn (by kernel_rfl) (by kernel_rfl) rfl rfl rfl (QF_retS (by kernel_rfl) (by kernel_rfl) rfl)
            · intro b_40; have H_132 := of_f H_102 b_40
              refine V_run hN hn 4 0 [0, 1, 6, 7, 8, 9] [] ⟨[(0, .c (.val (.string s_1))), (1, .c (.val (.int .i64 at_2))), (6, .c (.val (.int .i64 n_36))), (7, .c (.val (.int .i64 v_37))), (8, .c (.val (.int .i64 least_38))), (9, .c (.val (.int .i64 (1 : Int))))], [], 0⟩ [] (by kernel_rfl) rfl rfl ap0 ?_
              obtain ⟨q_134, H_135, H_136⟩ := of_bind H_132
              refine V_cut (Y := Int) (R := (Int ⊕ Int)) q_134 (fun y => (Sum.inr y)) (fun y => [(6, .c (.val (.int .i64 n_36))), (7, .c (.val (.int .i64 y))), (8, .c (.val (.int .i64 least_38)))]) (fun y => []) ?_ ?_
              · skip
                refine VL_block ?_
                refine V_to [(0, .c (.val (.string s_1))), (1, .c (.val (.int .i64 at_2))), (6, .c (.val (.int .i64 n_36))), (7, .c (.val (.int .i64 v_37))), (8, .c (.val (.int .i64 least_38))), (9, .c (.val (.int .i64 (1 : Int))))] [] [] hn (by kernel_rfl) (by kernel_rfl) rfl rfl rfl ?_
                refine VL_loop (X := (Int × Int)) (fun x => [(0, .c (.val (.string s_1))), (1, .c (.val (.int .i64 at_2))), (6, .c (.val (.int .i64 n_36))), (7, .c (.val (.int .i64 x.1))), (8, .c (.val (.int .i64 least_38))), (9, .c (.val (.int .i64 x.2)))]) (fun x => []) (fun k x => palinoderef1_Size.l0 K n_36 at_2 s_1 k x.1 x.2 = some q_134) K (v_37, (1 : Int)) H_135 (fun _ h => no_none h) ?_
                intro k_45 x_45 H_138
                obtain ⟨v_43, i_44⟩ := x_45
                have H_139 : palinoderef1_Size.l0 K n_36 at_2 s_1 (k_45 + 1) v_43 i_44 = some q_134 := H_138
                rw [palinoderef1_Size.l0] at H_139
                refine V_run hN hn 3 0 [0, 1, 6, 7, 8, 9, 61] [] ⟨[(0, .c (.val (.string s_1))), (1, .c (.val (.int .i64 at_2))), (6, .c (.val (.int .i64 n_36))), (7, .c (.val (.int .i64 v_43))), (8, .c (.val (.int .i64 least_38))), (9, .c (.val (.int .i64 i_44))), (61, .c (.val (.bool (decide (i_44 < n_36)))))], [], 0⟩ [] (by kernel_rfl) rfl rfl ap0 ?_
                refine VL_cond ((decide (i_44 < n_36))) (by kernel_rfl) ?_ ?_
                · intro b_47; have H_140 := of_t H_139 b_47
                  refine V_run hN hn 2 0 [0, 1, 6, 7, 8, 9, 61] [] ⟨[(0, .c (.val (.string s_1))), (1, .c (.val (.int .i64 at_2))), (6, .c (.val (.int .i64 n_36))), (7, .c (.val (.int .i64 v_43))), (8, .c (.val (.int .i64 least_38))), (9, .c (.val (.int .i64 i_44))), (61, .c (.val (.bool (decide (i_44 < n_36)))))], [], 0⟩ [] (by kernel_rfl) rfl rfl ap0 ?_
                  refine VL_block ?_
                  obtain ⟨c_49, H_142⟩ := of_if H_140
                  refine V_run hN hn 5 0 [0, 1, 6, 7, 8, 9, 10, 72] [] ⟨[(0, .c (.val (.string s_1))), (1, .c (.val (.int .i64 at_2))), (6, .c (.val (.int .i64 n_36))), (7, .c (.val (.int .i64 v_43))), (8, .c (.val (.int .i64 least_38))), (9, .c (.val (.int .i64 i_44))), (10, .c (.val (.int .i64 (IntKind.wrap .i64 (bt s_1 (IntKind.wrap .i64 (at_2 + i_44))))))), (72, .c (.val (.bool ((Int.fdiv (IntKind.wrap .i64 (bt s_1 (IntKind.wrap .i64 (at_2 + i_44)))) (64 : Int)) != (2 : Int)))))], [], 0⟩ [0 ≤ (IntKind.wrap .i64 (at_2 + i_44)), (IntKind.wrap .i64 (at_2 + i_44)) < (((ByteArray.size s_1) : Nat) : Int), (0 : Int) ≤ (6 : Int)] (by kernel_rfl) rfl rfl (ap2 c_49.1 (ap2 c_49.2 (ap1 (by decide)))) ?_
                  refine VL_cond (((Int.fdiv (IntKind.wrap .i64 (bt s_1 (IntKind.wrap .i64 (at_2 + i_44)))) (64 : Int)) != (2 : Int))) (by kernel_rfl) ?_ ?_
                  · intro b_50; have H_143 := of_t H_142 b_50
                    refine V_run hN hn 2 0 [4] [] ⟨[(4, .c (.val (.int .i64 (0 : Int))))], [], 0⟩ [] (by kernel_rfl) rfl rfl ap0 ?_
                    have H_145 := Option.some.inj (show some (Sum.inl (0 : Int)) = some q_134 from H_143); subst H_145
                    have H_146 := Option.some.inj (show some (0 : Int) = some r from H_136); subst H_146
                    refine VL_ret ?_
                    refine QB_ret ?_
                    refine QL_ret ?_
                    refine QB_ret ?_
                    refine QP_ret ?_
                    exact P_to [(4, .c (.val (.int .i64 (0 : Int))))] [] [] hn (by kernel_rfl) (by kernel_rfl) rfl rfl rfl (QF_retS (by kernel_rfl) (by kernel_rfl) rfl)
                  · intro b_50; have H_144 := of_f H_142 b_50
                    refine V_run hN hn 2 0 [0, 1, 6, 7, 8, 9] [] ⟨[(0, .c (.val (.string s_1))), (1, .c (.val (.int .i64 at_2))), (6, .c (.val (.int .i64 n_36))), (7, .c (.val (.int .i64 (IntKind.wrap .i64 (BitVec.toNat (BitVec.ofInt (IntKind.bits .i64) (IntKind.wrap .i64 (v_43 * (64 : Int))) ||| BitVec.ofInt (IntKind.bits .i64) (IntKind.wrap .i64 (BitVec.toNat (BitVec.ofInt (IntKind.bits .i64) (IntKind.wrap .i64 (bt s_1 (IntKind.wrap .i64 (at_2 + i_44)))) &&& BitVec.ofInt (IntKind.bits .i64) (63 : Int)))))))))), (8, .c (.val (.int .i64 least_38))), (9, .c (.val (.int .i64 i_44)))], [], 0⟩ [(0 : Int) ≤ (6 : Int)] (by kernel_rfl) rfl rfl (ap1 (by decide)) ?_
                    refine VL_nil (QB_end ?_)
                    refine V_run hN hn 1 0 [0, 1, 6, 7, 8, 9] [] ⟨[(0, .c (.val (.string s_1))), (1, .c (.val (.int .i64 at_2))), (6, .c (.val (.int .i64 n_36))), (7, .c (.val (.int .i64 (IntKind.wrap .i64 (BitVec.toNat (BitVec.ofInt (IntKind.bits .i64) (IntKind.wrap .i64 (v_43 * (64 : Int))) ||| BitVec.ofInt (IntKind.bits .i64) (IntKind.wrap .i64 (BitVec.toNat (BitVec.ofInt (IntKind.bits .i64) (IntKind.wrap .i64 (bt s_1 (IntKind.wrap .i64 (at_2 + i_44)))) &&& BitVec.ofInt (IntKind.bits .i64) (63 : Int)))))))))), (8, .c (.val (.int .i64 least_38))), (9, .c (.val (.int .i64 (IntKind.wrap .i64 (i_44 + (1 : Int))))))], [], 0⟩ [] (by kernel_rfl) rfl rfl ap0 ?_
                    refine VL_nil ?_
                    exact V_roundEnd ((IntKind.wrap .i64 (BitVec.toNat (BitVec.ofInt (IntKind.bits .i64) (IntKind.wrap .i64 (v_43 * (64 : Int))) ||| BitVec.ofInt (IntKind.bits .i64) (IntKind.wrap .i64 (BitVec.toNat (BitVec.ofInt (IntKind.bits .i64) (IntKind.wrap .i64 (bt s_1 (IntKind.wrap .i64 (at_2 + i_44)))) &&& BitVec.ofInt (IntKind.bits .i64) (63 : Int))))))), (IntKind.wrap .i64 (i_44 + (1 : Int)))) H_144 [] hn (by kernel_rfl) (by kernel_rfl) rfl rfl rfl
                · intro b_47; have H_141 := of_f H_139 b_47
                  refine VL_exit ?_
                  refine QL_exit ?_
                  refine QB_here ?_
                  have H_147 := Option.some.inj (show some (Sum.inr v_43) = some q_134 from H_141); subst H_147
                  refine VL_nil ?_
                  exact QP_end v_43 rfl [] hn (by kernel_rfl) (by kernel_rfl) rfl rfl rfl
              · intro y_137 hy; subst hy
                skip
                skip
                refine V_run hN hn 2 0 [6, 7, 8] [] ⟨[(6, .c (.val (.int .i64 n_36))), (7, .c (.val (.int .i64 y_137))), (8, .c (.val (.int .i64 least_38)))], [], 0⟩ [] (by kernel_rfl) rfl rfl ap0 ?_
                obtain ⟨q_148, H_149, H_150⟩ := of_bind H_136
                refine V_cut (Y := Bool) (R := Bool) q_148 (fun y => y) (fun y => [(6, .c (.val (.int .i64 n_36))), (92, .c (.val (.bool y)))]) (fun y => []) ?_ ?_
                · skip
                  rcases Bool.eq_false_or_eq_true ((decide (y_137 < least_38))) with b_56 | b_56
                  · have H_152 := of_t H_149 b_56
                    refine V_reg hN hn [] [(81, true)] calls_nil 0 [6, 92] [] ⟨[(6, .c (.val (.int .i64 n_36))), (92, .c (.val (.bool true)))], [], 0⟩ [(decide (y_137 < least_38)) = true] (by kernel_rfl) rfl rfl (ap1 b_56) (by kernel_rfl) (by kernel_rfl) ?_
                    have H_154 := Option.some.inj (show some true = some q_148 from H_152); subst H_154
                    refine VL_nil ?_
                    exact QP_end true rfl [] hn (by kernel_rfl) (by kernel_rfl) rfl rfl rfl
                  · have H_153 := of_f H_149 b_56
                    rcases Bool.eq_false_or_eq_true ((decide (y_137 > (1114111 : Int)))) with b_58 | b_58
                    · have H_155 := of_t H_153 b_58
                      refine V_reg hN hn [] [(81, false), (85, true)] calls_nil 0 [6, 92] [] ⟨[(6, .c (.val (.int .i64 n_36))), (92, .c (.val (.bool true)))], [], 0⟩ [(decide (y_137 < least_38)) = false, (decide (y_137 > (1114111 : Int))) = true] (by kernel_rfl) rfl rfl (ap2 b_56 (ap1 b_58)) (by kernel_rfl) (by kernel_rfl) ?_
                      have H_157 := Option.some.inj (show some true = some q_148 from H_155); subst H_157
                      refine VL_nil ?_
                      exact QP_end true rfl [] hn (by kernel_rfl) (by kernel_rfl) rfl rfl rfl
                    · have H_156 := of_f H_153 b_58
                      rcases Bool.eq_false_or_eq_true ((decide (y_137 ≥ (55296 : Int)))) with b_60 | b_60
                      · have H_158 := of_t H_156 b_60
                        refine V_reg hN hn [] [(81, false), (85, false), (88, true)] calls_nil 0 [6, 92] [] ⟨[(6, .c (.val (.int .i64 n_36))), (92, .c (.val (.bool (decide (y_137 < (57344 : Int))))))], [], 0⟩ [(decide (y_137 < least_38)) = false, (decide (y_137 > (1114111 : Int))) = false, (decide (y_137 ≥ (55296 : Int))) = true] (by kernel_rfl) rfl rfl (ap2 b_56 (ap2 b_58 (ap1 b_60))) (by kernel_rfl) (by kernel_rfl) ?_
                        have H_160 := Option.some.inj (show some (decide (y_137 < (57344 : Int))) = some q_148 from H_158); subst H_160
                        refine VL_nil ?_
                        exact QP_end (decide (y_137 < (57344 : Int))) rfl [] hn (by kernel_rfl) (by kernel_rfl) rfl rfl rfl
                      · have H_159 := of_f H_156 b_60
                        refine V_reg hN hn [] [(81, false), (85, false), (88, false)] calls_nil 0 [6, 92] [] ⟨[(6, .c (.val (.int .i64 n_36))), (92, .c (.val (.bool false)))], [], 0⟩ [(decide (y_137 < least_38)) = false, (decide (y_137 > (1114111 : Int))) = false, (decide (y_137 ≥ (55296 : Int))) = false] (by kernel_rfl) rfl rfl (ap2 b_56 (ap2 b_58 (ap1 b_60))) (by kernel_rfl) (by kernel_rfl) ?_
                        have H_161 := Option.some.inj (show some false = some q_148 from H_159); subst H_161
                        refine VL_nil ?_
                        exact QP_end false rfl [] hn (by kernel_rfl) (by kernel_rfl) rfl rfl rfl
                · intro y_151 hy; subst hy
                  skip
                  skip
                  refine VL_cond (y_151) (by kernel_rfl) ?_ ?_
                  · intro b_64; have H_162 := of_t H_150 b_64
                    refine V_run hN hn 2 0 [4] [] ⟨[(4, .c (.val (.int .i64 (0 : Int))))], [], 0⟩ [] (by kernel_rfl) rfl rfl ap0 ?_
                    have H_164 := Option.some.inj (show some (0 : Int) = some r from H_162); subst H_164
                    refine VL_ret ?_
                    exact P_to [(4, .c (.val (.int .i64 (0 : Int))))] [] [] hn (by kernel_rfl) (by kernel_rfl) rfl rfl rfl (QF_retS (by kernel_rfl) (by kernel_rfl) rfl)
                  · intro b_64; have H_163 := of_f H_150 b_64
                    refine V_run hN hn 3 0 [4] [] ⟨[(4, .c (.val (.int .i64 n_36)))], [], 0⟩ [] (by kernel_rfl) rfl rfl ap0 ?_
                    have H_165 := Option.some.inj (show some n_36 = some r from H_163); subst H_165
                    refine VL_ret ?_
                    exact P_to [(4, .c (.val (.int .i64 n_36)))] [] [] hn (by kernel_rfl) (by kernel_rfl) rfl rfl rfl (QF_retS (by kernel_rfl) (by kernel_rfl) rfl)

theorem palinoderef1_Valid_spec (K : Nat) (s_1 : ByteArray) (r : Bool) (H : palinoderef1_Valid K s_1 = some r) : Spec Try.prog 25 0 [.c (.val (.string s_1))] [] (.c (.val (.bool r))) [] := by
  refine Spec_mk (fn := Try.f25) (c := (Try.f25.body).get!) Try.func25 (by kernel_rfl) rfl ?_
  intro C hN hn
  replace hN : C.N = 17 := hN
  unfold palinoderef1_Valid at H
  refine V_run hN hn 5 0 [0, 3] [] ⟨[(0, .c (.val (.string s_1))), (3, .c (.val (.int .i64 (0 : Int))))], [], 0⟩ [] (by kernel_rfl) rfl rfl ap0 ?_
  refine VL_block ?_
  refine V_to [(0, .c (.val (.string s_1))), (3, .c (.val (.int .i64 (0 : Int))))] [] [] hn (by kernel_rfl) (by kernel_rfl) rfl rfl rfl ?_
  refine VL_loop (X := Int) (fun x => [(0, .c (.val (.string s_1))), (3, .c (.val (.int .i64 x)))]) (fun x => []) (fun k x => palinoderef1_Valid.l0 K s_1 k x = some r) K (0 : Int) H (fun _ h => no_none h) ?_
  intro k_4 at_3 H_18
  have H_19 : palinoderef1_Valid.l0 K s_1 (k_4 + 1) at_3 = some r := H_18
  rw [palinoderef1_Valid.l0] at H_19
  refine V_run hN hn 3 0 [0, 3, 8] [] ⟨[(0, .c (.val (.string s_1))), (3, .c (.val (.int .i64 at_3))), (8, .c (.val (.bool (decide (at_3 < (((ByteArray.size s_1) : Nat) : Int))))))], [], 0⟩ [] (by kernel_rfl) rfl rfl ap0 ?_
  refine VL_cond ((decide (at_3 < (((ByteArray.size s_1) : Nat) : Int)))) (by kernel_rfl) ?_ ?_
  · intro b_6; have H_20 := of_t H_19 b_6
    refine V_run hN hn 1 0 [0, 3, 8] [] ⟨[(0, .c (.val (.string s_1))), (3, .c (.val (.int .i64 at_3))), (8, .c (.val (.bool (decide (at_3 < (((ByteArray.size s_1) : Nat) : Int))))))], [], 0⟩ [] (by kernel_rfl) rfl rfl ap0 ?_
    refine VL_block ?_
    refine V_run hN hn 1 0 [0, 3, 8] [] ⟨[(0, .c (.val (.string s_1))), (3, .c (.val (.int .i64 at_3))), (8, .c (.val (.bool (decide (at_3 < (((ByteArray.size s_1) : Nat) : Int))))))], [], 0⟩ [] (by kernel_rfl) rfl rfl ap0 ?_
    obtain ⟨r_9, h_10, H_22⟩ := of_bind H_20
    refine V_reg hN hn [(2, ⟨38, 0, [.c (.val (.string s_1)), .c (.val (.int .i64 at_3))], [], .c (.val (.int .i64 r_9)), [], [], 0⟩)] [] (calls_cons (palinoderef1_Size_spec K s_1 at_3 r_9 h_10) (by kernel_rfl) calls_nil) 0 [0, 3, 4] [] ⟨[(0, .c (.val (.string s_1))), (3, .c (.val (.int .i64 at_3))), (4, .c (.val (.int .i64 r_9)))], [], 0⟩ [] (by kernel_rfl) rfl rfl ap0 (by kernel_rfl) (by kernel_rfl) ?_
    refine V_run hN hn 3 0 [0, 3, 4, 13] [] ⟨[(0, .c (.val (.string s_1))), (3, .c (.val (.int .i64 at_3))), (4, .c (.val (.int .i64 r_9))), (13, .c (.val (.bool (r_9 == (0 : Int)))))], [], 0⟩ [] (by kernel_rfl) rfl rfl ap0 ?_
    refine VL_cond ((r_9 == (0 : Int))) (by kernel_rfl) ?_ ?_
    · intro b_13; have H_23 := of_t H_22 b_13
      refine V_run hN hn 2 0 [2] [] ⟨[(2, .c (.val (.bool false)))], [], 0⟩ [] (by kernel_rfl) rfl rfl ap0 ?_
      have H_25 := Option.some.inj (show some false = some r from H_23); subst H_25
      refine VL_ret ?_
      refine QB_ret ?_
      refine QL_ret ?_
      refine QB_ret ?_
      exact P_to [(2, .c (.val (.bool false)))] [] [] hn (by kernel_rfl) (by kernel_rfl) rfl rfl rfl (QF_retS (by kernel_rfl) (by kernel_rfl) rfl)
    · intro b_13; have H_24 := of_f H_22 b_13
      refine V_run hN hn 2 0 [0, 3] [] ⟨[(0, .c (.val (.string s_1))), (3, .c (.val (.int .i64 (IntKind.wrap .i64 (at_3 + r_9)))))], [], 0⟩ [] (by kernel_rfl) rfl rfl ap0 ?_
      refine VL_nil (QB_end ?_)
      refine VL_nil ?_
      exact V_roundEnd (IntKind.wrap .i64 (at_3 + r_9)) H_24 [] hn (by kernel_rfl) (by kernel_rfl) rfl rfl rfl
  · intro b_6; have H_21 := of_f H_19 b_6
    refine VL_exit ?_
    refine QL_exit ?_
    refine QB_here ?_
    refine V_run hN hn 2 0 [2] [] ⟨[(2, .c (.val (.bool true)))], [], 0⟩ [] (by kernel_rfl) rfl rfl ap0 ?_
    have H_26 := Option.some.inj (show some true = some r from H_21); subst H_26
    refine VL_ret ?_
    exact P_to [(2, .c (.val (.bool true)))] [] [] hn (by kernel_rfl) (by kernel_rfl) rfl rfl rfl (QF_retS (by kernel_rfl) (by kernel_rfl) rfl)

theorem palinoderef11_Is_spec (K : Nat) (d_1 : Int) (d_2 : (List (Int × (Int × ByteArray)))) (r : Bool) (H : palinoderef11_Is K d_1 d_2 = some r) : Spec Try.prog 11 0 [.agg [.val (.int .i64 d_1), .imm (.slice (.pair (.int .i64) (.pair (.int .i64) .str))) d_2]] [] (.c (.val (.bool r))) [] := by
  refine Spec_mk (fn := Try.f11) (c := (Try.f11.body).get!) Try.func11 (by kernel_rfl) rfl ?_
  intro C hN hn
  replace hN : C.N = 122 := hN
  unfold palinoderef11_Is at H
  refine V_run hN hn 4 0 [1] [0] ⟨[(1, .c (.h 0))], [(0, .box [.val (.int .i64 d_1), .imm (.slice (.pair (.int .i64) (.pair (.int .i64) .str))) d_2])], 1⟩ [] (by kernel_rfl) rfl rfl ap0 ?_
  obtain ⟨q_80, H_81, H_82⟩ := of_bind H
  refine V_cut (Y := Bool) (R := Bool) q_80 (fun y => y) (fun y => [(1, .c (.h 0)), (21, .c (.val (.bool y)))]) (fun y => [(0, .box [.val (.int .i64 d_1), .imm (.slice (.pair (.int .i64) (.pair (.int .i64) .str))) d_2])]) ?_ ?_
  · skip
    rcases Bool.eq_false_or_eq_true ((decide (d_1 < (0 : Int)))) with b_4 | b_4
    · have H_84 := of_t H_81 b_4
      refine V_reg hN hn [] [(11, true)] calls_nil 1 [1, 21] [0] ⟨[(1, .c (.h 0)), (21, .c (.val (.bool true)))], [(0, .box [.val (.int .i64 d_1), .imm (.slice (.pair (.int .i64) (.pair (.int .i64) .str))) d_2])], 1⟩ [(decide (d_1 < (0 : Int))) = true] (by kernel_rfl) rfl rfl (ap1 b_4) (by kernel_rfl) (by kernel_rfl) ?_
      have H_86 := Option.some.inj (show some true = some q_80 from H_84); subst H_86
      refine VL_nil ?_
      exact QP_end true rfl [(0, 0)] hn (by kernel_rfl) (by kernel_rfl) rfl rfl rfl
    · have H_85 := of_f H_81 b_4
      rcases Bool.eq_false_or_eq_true ((decide (d_1 > (20000 : Int)))) with b_6 | b_6
      · have H_87 := of_t H_85 b_6
        refine V_reg hN hn [] [(11, false), (16, true)] calls_nil 1 [1, 21] [0] ⟨[(1, .c (.h 0)), (21, .c (.val (.bool true)))], [(0, .box [.val (.int .i64 d_1), .imm (.slice (.pair (.int .i64) (.pair (.int .i64) .str))) d_2])], 1⟩ [(decide (d_1 < (0 : Int))) = false, (decide (d_1 > (20000 : Int))) = true] (by kernel_rfl) rfl rfl (ap2 b_4 (ap1 b_6)) (by kernel_rfl) (by kernel_rfl) ?_
        have H_89 := Option.some.inj (show some true = some q_80 from H_87); subst H_89
        refine VL_nil ?_
        exact QP_end true rfl [(0, 0)] hn (by kernel_rfl) (by kernel_rfl) rfl rfl rfl
      · have H_88 := of_f H_85 b_6
        refine V_reg hN hn [] [(11, false), (16, false)] calls_nil 1 [1, 21] [0] ⟨[(1, .c (.h 0)), (21, .c (.val (.bool (decide ((((List.length d_2) : Nat) : Int) > (60 : Int))))))], [(0, .box [.val (.int .i64 d_1), .imm (.slice (.pair (.int .i64) (.pair (.int .i64) .str))) d_2])], 1⟩ [(decide (d_1 < (0 : Int))) = false, (decide (d_1 > (20000 : Int))) = false] (by kernel_rfl) rfl rfl (ap2 b_4 (ap1 b_6)) (by kernel_rfl) (by kernel_rfl) ?_
        have H_90 := Option.some.inj (show some (decide ((((List.length d_2) : Nat) : Int) > (60 : Int))) = some q_80 from H_88); subst H_90
        refine VL_nil ?_
        exact QP_end (decide ((((List.length d_2) : Nat) : Int) > (60 : Int))) rfl [(0, 0)] hn (by kernel_rfl) (by kernel_rfl) rfl rfl rfl
  · intro y_83 hy; subst hy
    skip
    skip
    refine VL_cond (y_83) (by kernel_rfl) ?_ ?_
    · intro b_10; have H_91 := of_t H_82 b_10
      refine V_run hN hn 2 1 [2] [] ⟨[(2, .c (.val (.bool false)))], [], 1⟩ [] (by kernel_rfl) rfl rfl ap0 ?_
      have H_93 := Option.some.inj (show some false = some r from H_91); subst H_93
      refine VL_ret ?_
      exact P_to [(2, .c (.val (.bool false)))] [] [] hn (by kernel_rfl) (by kernel_rfl) rfl rfl rfl (QF_retS (by kernel_rfl) (by kernel_rfl) rfl)
    · intro b_10; have H_92 := of_f H_82 b_10
      refine V_run hN hn 6 1 [1, 3, 4, 5, 6] [0] ⟨[(1, .c (.h 0)), (3, .c (.val (.int .i64 (0 : Int)))), (4, .c (.val (.bool true))), (5, .c (.val (.int .i64 (0 : Int)))), (6, .c (.val (.int .i64 (0 : Int))))], [(0, .box [.val (.int .i64 d_1), .imm (.slice (.pair (.int .i64) (.pair (.int .i64) .str))) d_2])], 1⟩ [] (by kernel_rfl) rfl rfl ap0 ?_
      refine VL_block ?_
      refine V_to [(1, .c (.h 0)), (3, .c (.val (.int .i64 (0 : Int)))), (4, .c (.val (.bool true))), (5, .c (.val (.int .i64 (0 : Int)))), (6, .c (.val (.int .i64 (0 : Int))))] [(0, .box [.val (.int .i64 d_1), .imm (.slice (.pair (.int .i64) (.pair (.int .i64) .str))) d_2])] [(0, 0)] hn (by kernel_rfl) (by kernel_rfl) rfl rfl rfl ?_
      refine VL_loop (X := (Int × Bool × Int × Int)) (fun x => [(1, .c (.h 0)), (3, .c (.val (.int .i64 x.1))), (4, .c (.val (.bool x.2.1))), (5, .c (.val (.int .i64 x.2.2.1))), (6, .c (.val (.int .i64 x.2.2.2)))]) (fun x => [(0, .box [.val (.int .i64 d_1), .imm (.slice (.pair (.int .i64) (.pair (.int .i64) .str))) d_2])]) (fun k x => palinoderef11_Is.l0 K d_2 d_1 k x.1 x.2.1 x.2.2.1 x.2.2.2 = some r) K ((0 : Int), true, (0 : Int), (0 : Int)) H_92 (fun _ h => no_none h) ?_
      intro k_17 x_17 H_94
      obtain ⟨last_13, text_14, size_15, i_16⟩ := x_17
      have H_95 : palinoderef11_Is.l0 K d_2 d_1 (k_17 + 1) last_13 text_14 size_15 i_16 = some r := H_94
      rw [palinoderef11_Is.l0] at H_95
      refine V_run hN hn 3 1 [1, 3, 4, 5, 6, 26] [0] ⟨[(1, .c (.h 0)), (3, .c (.val (.int .i64 last_13))), (4, .c (.val (.bool text_14))), (5, .c (.val (.int .i64 size_15))), (6, .c (.val (.int .i64 i_16))), (26, .c (.val (.bool (decide (i_16 < (((List.length d_2) : Nat) : Int))))))], [(0, .box [.val (.int .i64 d_1), .imm (.slice (.pair (.int .i64) (.pair (.int .i64) .str))) d_2])], 1⟩ [] (by kernel_rfl) rfl rfl ap0 ?_
      refine VL_cond ((decide (i_16 < (((List.length d_2) : Nat) : Int)))) (by kernel_rfl) ?_ ?_
      · intro b_19; have H_96 := of_t H_95 b_19
        refine V_run hN hn 2 1 [1, 3, 4, 5, 6, 26] [0] ⟨[(1, .c (.h 0)), (3, .c (.val (.int .i64 last_13))), (4, .c (.val (.bool text_14))), (5, .c (.val (.int .i64 size_15))), (6, .c (.val (.int .i64 i_16))), (26, .c (.val (.bool (decide (i_16 < (((List.length d_2) : Nat) : Int))))))], [(0, .box [.val (.int .i64 d_1), .imm (.slice (.pair (.int .i64) (.pair (.int .i64) .str))) d_2])], 1⟩ [] (by kernel_rfl) rfl rfl ap0 ?_
        refine VL_block ?_
        obtain ⟨c_21, H_98⟩ := of_if H_96
        refine V_run hN hn 5 1 [1, 3, 4, 5, 6, 7, 36] [0, 1] ⟨[(1, .c (.h 0)), (3, .c (.val (.int .i64 last_13))), (4, .c (.val (.bool text_14))), (5, .c (.val (.int .i64 size_15))), (6, .c (.val (.int .i64 i_16))), (7, .c (.h 1)), (36, .c (.val (.bool (!(ByteArray.toList (List.getD d_2 (Int.toNat i_16) ((0 : Int), ((0 : Int), ByteArray.empty))).2.2 == ByteArray.toList (ByteArray.mk #[]))))))], [(0, .box [.val (.int .i64 d_1), .imm (.slice (.pair (.int .i64) (.pair (.int .i64) .str))) d_2]), (1, .box [.val (.int .i64 (List.getD d_2 (Int.toNat i_16) ((0 : Int), ((0 : Int), ByteArray.empty))).1), .val (.int .i64 (List.getD d_2 (Int.toNat i_16) ((0 : Int), ((0 : Int), ByteArray.empty))).2.1), .val (.string (List.getD d_2 (Int.toNat i_16) ((0 : Int), ((0 : Int), ByteArray.empty))).2.2)])], 2⟩ [0 ≤ i_16, i_16 < (((List.length d_2) : Nat) : Int)] (by kernel_rfl) rfl rfl (ap2 c_21.1 (ap1 c_21.2)) ?_
        refine VL_cond ((!(ByteArray.toList (List.getD d_2 (Int.toNat i_16) ((0 : Int), ((0 : Int), ByteArray.empty))).2.2 == ByteArray.toList (ByteArray.mk #[])))) (by kernel_rfl) ?_ ?_
        · intro b_22; have H_99 := of_t H_98 b_22
          refine V_run hN hn 2 2 [1, 3, 4, 5, 6, 7, 36] [0, 1] ⟨[(1, .c (.h 0)), (3, .c (.val (.int .i64 last_13))), (4, .c (.val (.bool text_14))), (5, .c (.val (.int .i64 size_15))), (6, .c (.val (.int .i64 i_16))), (7, .c (.h 1)), (36, .c (.val (.bool (!(ByteArray.toList (List.getD d_2 (Int.toNat i_16) ((0 : Int), ((0 : Int), ByteArray.empty))).2.2 == ByteArray.toList (ByteArray.mk #[]))))))], [(0, .box [.val (.int .i64 d_1), .imm (.slice (.pair (.int .i64) (.pair (.int .i64) .str))) d_2]), (1, .box [.val (.int .i64 (List.getD d_2 (Int.toNat i_16) ((0 : Int), ((0 : Int), ByteArray.empty))).1), .val (.int .i64 (List.getD d_2 (Int.toNat i_16) ((0 : Int), ((0 : Int), ByteArray.empty))).2.1), .val (.string (List.getD d_2 (Int.toNat i_16) ((0 : Int), ((0 : Int), ByteArray.empty))).2.2)])], 2⟩ [] (by kernel_rfl) rfl rfl ap0 ?_
          obtain ⟨q_101, H_102, H_103⟩ := of_bind H_99
          refine V_cut (Y := Bool) (R := Bool) q_101 (fun y => y) (fun y => [(1, .c (.h 0)), (3, .c (.val (.int .i64 last_13))), (5, .c (.val (.int .i64 size_15))), (6, .c (.val (.int .i64 i_16))), (7, .c (.h 1)), (65, .c (.val (.bool y)))]) (fun y => [(0, .box [.val (.int .i64 d_1), .imm (.slice (.pair (.int .i64) (.pair (.int .i64) .str))) d_2]), (1, .box [.val (.int .i64 (List.getD d_2 (Int.toNat i_16) ((0 : Int), ((0 : Int), ByteArray.empty))).1), .val (.int .i64 (List.getD d_2 (Int.toNat i_16) ((0 : Int), ((0 : Int), ByteArray.empty))).2.1), .val (.string (List.getD d_2 (Int.toNat i_16) ((0 : Int), ((0 : Int), ByteArray.empty))).2.2)])]) ?_ ?_
          · skip
            rcases Bool.eq_false_or_eq_true (((List.getD d_2 (Int.toNat i_16) ((0 : Int), ((0 : Int), ByteArray.empty))).1 != (0 : Int))) with b_24 | b_24
            · have H_105 := of_t H_102 b_24
              refine V_reg hN hn [] [(40, true)] calls_nil 2 [1, 3, 5, 6, 7, 65] [0, 1] ⟨[(1, .c (.h 0)), (3, .c (.val (.int .i64 last_13))), (5, .c (.val (.int .i64 size_15))), (6, .c (.val (.int .i64 i_16))), (7, .c (.h 1)), (65, .c (.val (.bool true)))], [(0, .box [.val (.int .i64 d_1), .imm (.slice (.pair (.int .i64) (.pair (.int .i64) .str))) d_2]), (1, .box [.val (.int .i64 (List.getD d_2 (Int.toNat i_16) ((0 : Int), ((0 : Int), ByteArray.empty))).1), .val (.int .i64 (List.getD d_2 (Int.toNat i_16) ((0 : Int), ((0 : Int), ByteArray.empty))).2.1), .val (.string (List.getD d_2 (Int.toNat i_16) ((0 : Int), ((0 : Int), ByteArray.empty))).2.2)])], 2⟩ [((List.getD d_2 (Int.toNat i_16) ((0 : Int), ((0 : Int), ByteArray.empty))).1 != (0 : Int)) = true] (by kernel_rfl) rfl rfl (ap1 b_24) (by kernel_rfl) (by kernel_rfl) ?_
              have H_107 := Option.some.inj (show some true = some q_101 from H_105); subst H_107
              refine VL_nil ?_
              exact QP_end true rfl [(0, 0), (1, 1)] hn (by kernel_rfl) (by kernel_rfl) rfl rfl rfl
            · have H_106 := of_f H_102 b_24
              rcases Bool.eq_false_or_eq_true (((List.getD d_2 (Int.toNat i_16) ((0 : Int), ((0 : Int), ByteArray.empty))).2.1 != (0 : Int))) with b_26 | b_26
              · have H_108 := of_t H_106 b_26
                refine V_reg hN hn [] [(40, false), (45, true)] calls_nil 2 [1, 3, 5, 6, 7, 65] [0, 1] ⟨[(1, .c (.h 0)), (3, .c (.val (.int .i64 last_13))), (5, .c (.val (.int .i64 size_15))), (6, .c (.val (.int .i64 i_16))), (7, .c (.h 1)), (65, .c (.val (.bool true)))], [(0, .box [.val (.int .i64 d_1), .imm (.slice (.pair (.int .i64) (.pair (.int .i64) .str))) d_2]), (1, .box [.val (.int .i64 (List.getD d_2 (Int.toNat i_16) ((0 : Int), ((0 : Int), ByteArray.empty))).1), .val (.int .i64 (List.getD d_2 (Int.toNat i_16) ((0 : Int), ((0 : Int), ByteArray.empty))).2.1), .val (.string (List.getD d_2 (Int.toNat i_16) ((0 : Int), ((0 : Int), ByteArray.empty))).2.2)])], 2⟩ [((List.getD d_2 (Int.toNat i_16) ((0 : Int), ((0 : Int), ByteArray.empty))).1 != (0 : Int)) = false, ((List.getD d_2 (Int.toNat i_16) ((0 : Int), ((0 : Int), ByteArray.empty))).2.1 != (0 : Int)) = true] (by kernel_rfl) rfl rfl (ap2 b_24 (ap1 b_26)) (by kernel_rfl) (by kernel_rfl) ?_
                have H_110 := Option.some.inj (show some true = some q_101 from H_108); subst H_110
                refine VL_nil ?_
                exact QP_end true rfl [(0, 0), (1, 1)] hn (by kernel_rfl) (by kernel_rfl) rfl rfl rfl
              · have H_109 := of_f H_106 b_26
                rcases Bool.eq_false_or_eq_true ((decide (i_16 > (0 : Int)))) with b_28 | b_28
                · have H_111 := of_t H_109 b_28
                  rcases Bool.eq_false_or_eq_true (text_14) with b_29 | b_29
                  · have H_113 := of_t H_111 b_29
                    refine V_reg hN hn [] [(40, false), (45, false), (48, true), (52, true)] calls_nil 2 [1, 3, 5, 6, 7, 65] [0, 1] ⟨[(1, .c (.h 0)), (3, .c (.val (.int .i64 last_13))), (5, .c (.val (.int .i64 size_15))), (6, .c (.val (.int .i64 i_16))), (7, .c (.h 1)), (65, .c (.val (.bool true)))], [(0, .box [.val (.int .i64 d_1), .imm (.slice (.pair (.int .i64) (.pair (.int .i64) .str))) d_2]), (1, .box [.val (.int .i64 (List.getD d_2 (Int.toNat i_16) ((0 : Int), ((0 : Int), ByteArray.empty))).1), .val (.int .i64 (List.getD d_2 (Int.toNat i_16) ((0 : Int), ((0 : Int), ByteArray.empty))).2.1), .val (.string (List.getD d_2 (Int.toNat i_16) ((0 : Int), ((0 : Int), ByteArray.empty))).2.2)])], 2⟩ [((List.getD d_2 (Int.toNat i_16) ((0 : Int), ((0 : Int), ByteArray.empty))).1 != (0 : Int)) = false, ((List.getD d_2 (Int.toNat i_16) ((0 : Int), ((0 : Int), ByteArray.empty))).2.1 != (0 : Int)) = false, (decide (i_16 > (0 : Int))) = true, text_14 = true] (by kernel_rfl) rfl rfl (ap2 b_24 (ap2 b_26 (ap2 b_28 (ap1 b_29)))) (by kernel_rfl) (by kernel_rfl) ?_
                    have H_115 := Option.some.inj (show some true = some q_101 from H_113); subst H_115
                    refine VL_nil ?_
                    exact QP_end true rfl [(0, 0), (1, 1)] hn (by kernel_rfl) (by kernel_rfl) rfl rfl rfl
                  · have H_114 := of_f H_111 b_29
                    rcases Bool.eq_false_or_eq_true ((decide ((((ByteArray.size (List.getD d_2 (Int.toNat i_16) ((0 : Int), ((0 : Int), ByteArray.empty))).2.2) : Nat) : Int) > (IntKind.wrap .i64 ((20000 : Int) - size_15))))) with b_31 | b_31
                    · have H_116 := of_t H_114 b_31
                      refine V_reg hN hn [] [(40, false), (45, false), (48, true), (52, false), (60, true)] calls_nil 2 [1, 3, 5, 6, 7, 65] [0, 1] ⟨[(1, .c (.h 0)), (3, .c (.val (.int .i64 last_13))), (5, .c (.val (.int .i64 size_15))), (6, .c (.val (.int .i64 i_16))), (7, .c (.h 1)), (65, .c (.val (.bool true)))], [(0, .box [.val (.int .i64 d_1), .imm (.slice (.pair (.int .i64) (.pair (.int .i64) .str))) d_2]), (1, .box [.val (.int .i64 (List.getD d_2 (Int.toNat i_16) ((0 : Int), ((0 : Int), ByteArray.empty))).1), .val (.int .i64 (List.getD d_2 (Int.toNat i_16) ((0 : Int), ((0 : Int), ByteArray.empty))).2.1), .val (.string (List.getD d_2 (Int.toNat i_16) ((0 : Int), ((0 : Int), ByteArray.empty))).2.2)])], 2⟩ [((List.getD d_2 (Int.toNat i_16) ((0 : Int), ((0 : Int), ByteArray.empty))).1 != (0 : Int)) = false, ((List.getD d_2 (Int.toNat i_16) ((0 : Int), ((0 : Int), ByteArray.empty))).2.1 != (0 : Int)) = false, (decide (i_16 > (0 : Int))) = true, text_14 = false, (decide ((((ByteArray.size (List.getD d_2 (Int.toNat i_16) ((0 : Int), ((0 : Int), ByteArray.empty))).2.2) : Nat) : Int) > (IntKind.wrap .i64 ((20000 : Int) - size_15)))) = true] (by kernel_rfl) rfl rfl (ap2 b_24 (ap2 b_26 (ap2 b_28 (ap2 b_29 (ap1 b_31))))) (by kernel_rfl) (by kernel_rfl) ?_
                      have H_118 := Option.some.inj (show some true = some q_101 from H_116); subst H_118
                      refine VL_nil ?_
                      exact QP_end true rfl [(0, 0), (1, 1)] hn (by kernel_rfl) (by kernel_rfl) rfl rfl rfl
                    · have H_117 := of_f H_114 b_31
                      obtain ⟨r_33, h_34, H_119⟩ := of_bind H_117
                      refine V_reg hN hn [(26, ⟨25, 0, [.c (.val (.string (List.getD d_2 (Int.toNat i_16) ((0 : Int), ((0 : Int), ByteArray.empty))).2.2))], [], .c (.val (.bool r_33)), [], [], 2⟩)] [(40, false), (45, false), (48, true), (52, false), (60, false)] (calls_cons (palinoderef1_Valid_spec K (List.getD d_2 (Int.toNat i_16) ((0 : Int), ((0 : Int), ByteArray.empty))).2.2 r_33 h_34) (by kernel_rfl) calls_nil) 2 [1, 3, 5, 6, 7, 65] [0, 1] ⟨[(1, .c (.h 0)), (3, .c (.val (.int .i64 last_13))), (5, .c (.val (.int .i64 size_15))), (6, .c (.val (.int .i64 i_16))), (7, .c (.h 1)), (65, .c (.val (.bool (!r_33))))], [(0, .box [.val (.int .i64 d_1), .imm (.slice (.pair (.int .i64) (.pair (.int .i64) .str))) d_2]), (1, .box [.val (.int .i64 (List.getD d_2 (Int.toNat i_16) ((0 : Int), ((0 : Int), ByteArray.empty))).1), .val (.int .i64 (List.getD d_2 (Int.toNat i_16) ((0 : Int), ((0 : Int), ByteArray.empty))).2.1), .val (.string (List.getD d_2 (Int.toNat i_16) ((0 : Int), ((0 : Int), ByteArray.empty))).2.2)])], 2⟩ [((List.getD d_2 (Int.toNat i_16) ((0 : Int), ((0 : Int), ByteArray.empty))).1 != (0 : Int)) = false, ((List.getD d_2 (Int.toNat i_16) ((0 : Int), ((0 : Int), ByteArray.empty))).2.1 != (0 : Int)) = false, (decide (i_16 > (0 : Int))) = true, text_14 = false, (decide ((((ByteArray.size (List.getD d_2 (Int.toNat i_16) ((0 : Int), ((0 : Int), ByteArray.empty))).2.2) : Nat) : Int) > (IntKind.wrap .i64 ((20000 : Int) - size_15)))) = false] (by kernel_rfl) rfl rfl (ap2 b_24 (ap2 b_26 (ap2 b_28 (ap2 b_29 (ap1 b_31))))) (by kernel_rfl) (by kernel_rfl) ?_
                      have H_120 := Option.some.inj (show some (!r_33) = some q_101 from H_119); subst H_120
                      refine VL_nil ?_
                      exact QP_end (!r_33) rfl [(0, 0), (1, 1)] hn (by kernel_rfl) (by kernel_rfl) rfl rfl rfl
                · have H_112 := of_f H_109 b_28
                  rcases Bool.eq_false_or_eq_true ((decide ((((ByteArray.size (List.getD d_2 (Int.toNat i_16) ((0 : Int), ((0 : Int), ByteArray.empty))).2.2) : Nat) : Int) > (IntKind.wrap .i64 ((20000 : Int) - size_15))))) with b_36 | b_36
                  · have H_121 := of_t H_112 b_36
                    refine V_reg hN hn [] [(40, false), (45, false), (48, false), (60, true)] calls_nil 2 [1, 3, 5, 6, 7, 65] [0, 1] ⟨[(1, .c (.h 0)), (3, .c (.val (.int .i64 last_13))), (5, .c (.val (.int .i64 size_15))), (6, .c (.val (.int .i64 i_16))), (7, .c (.h 1)), (65, .c (.val (.bool true)))], [(0, .box [.val (.int .i64 d_1), .imm (.slice (.pair (.int .i64) (.pair (.int .i64) .str))) d_2]), (1, .box [.val (.int .i64 (List.getD d_2 (Int.toNat i_16) ((0 : Int), ((0 : Int), ByteArray.empty))).1), .val (.int .i64 (List.getD d_2 (Int.toNat i_16) ((0 : Int), ((0 : Int), ByteArray.empty))).2.1), .val (.string (List.getD d_2 (Int.toNat i_16) ((0 : Int), ((0 : Int), ByteArray.empty))).2.2)])], 2⟩ [((List.getD d_2 (Int.toNat i_16) ((0 : Int), ((0 : Int), ByteArray.empty))).1 != (0 : Int)) = false, ((List.getD d_2 (Int.toNat i_16) ((0 : Int), ((0 : Int), ByteArray.empty))).2.1 != (0 : Int)) = false, (decide (i_16 > (0 : Int))) = false, (decide ((((ByteArray.size (List.getD d_2 (Int.toNat i_16) ((0 : Int), ((0 : Int), ByteArray.empty))).2.2) : Nat) : Int) > (IntKind.wrap .i64 ((20000 : Int) - size_15)))) = true] (by kernel_rfl) rfl rfl (ap2 b_24 (ap2 b_26 (ap2 b_28 (ap1 b_36)))) (by kernel_rfl) (by kernel_rfl) ?_
                    have H_123 := Option.some.inj (show some true = some q_101 from H_121); subst H_123
                    refine VL_nil ?_
                    exact QP_end true rfl [(0, 0), (1, 1)] hn (by kernel_rfl) (by kernel_rfl) rfl rfl rfl
                  · have H_122 := of_f H_112 b_36
                    obtain ⟨r_38, h_39, H_124⟩ := of_bind H_122
                    refine V_reg hN hn [(26, ⟨25, 0, [.c (.val (.string (List.getD d_2 (Int.toNat i_16) ((0 : Int), ((0 : Int), ByteArray.empty))).2.2))], [], .c (.val (.bool r_38)), [], [], 2⟩)] [(40, false), (45, false), (48, false), (60, false)] (calls_cons (palinoderef1_Valid_spec K (List.getD d_2 (Int.toNat i_16) ((0 : Int), ((0 : Int), ByteArray.empty))).2.2 r_38 h_39) (by kernel_rfl) calls_nil) 2 [1, 3, 5, 6, 7, 65] [0, 1] ⟨[(1, .c (.h 0)), (3, .c (.val (.int .i64 last_13))), (5, .c (.val (.int .i64 size_15))), (6, .c (.val (.int .i64 i_16))), (7, .c (.h 1)), (65, .c (.val (.bool (!r_38))))], [(0, .box [.val (.int .i64 d_1), .imm (.slice (.pair (.int .i64) (.pair (.int .i64) .str))) d_2]), (1, .box [.val (.int .i64 (List.getD d_2 (Int.toNat i_16) ((0 : Int), ((0 : Int), ByteArray.empty))).1), .val (.int .i64 (List.getD d_2 (Int.toNat i_16) ((0 : Int), ((0 : Int), ByteArray.empty))).2.1), .val (.string (List.getD d_2 (Int.toNat i_16) ((0 : Int), ((0 : Int), ByteArray.empty))).2.2)])], 2⟩ [((List.getD d_2 (Int.toNat i_16) ((0 : Int), ((0 : Int), ByteArray.empty))).1 != (0 : Int)) = false, ((List.getD d_2 (Int.toNat i_16) ((0 : Int), ((0 : Int), ByteArray.empty))).2.1 != (0 : Int)) = false, (decide (i_16 > (0 : Int))) = false, (decide ((((ByteArray.size (List.getD d_2 (Int.toNat i_16) ((0 : Int), ((0 : Int), ByteArray.empty))).2.2) : Nat) : Int) > (IntKind.wrap .i64 ((20000 : Int) - size_15)))) = false] (by kernel_rfl) rfl rfl (ap2 b_24 (ap2 b_26 (ap2 b_28 (ap1 b_36)))) (by kernel_rfl) (by kernel_rfl) ?_
                    have H_125 := Option.some.inj (show some (!r_38) = some q_101 from H_124); subst H_125
                    refine VL_nil ?_
                    exact QP_end (!r_38) rfl [(0, 0), (1, 1)] hn (by kernel_rfl) (by kernel_rfl) rfl rfl rfl
          · intro y_104 hy; subst hy
            skip
            skip
            refine VL_cond (y_104) (by kernel_rfl) ?_ ?_
            · intro b_42; have H_126 := of_t H_103 b_42
              refine V_run hN hn 2 2 [2] [] ⟨[(2, .c (.val (.bool false)))], [], 2⟩ [] (by kernel_rfl) rfl rfl ap0 ?_
              have H_128 := Option.some.inj (show some false = some r from H_126); subst H_128
              refine VL_ret ?_
              refine QB_ret ?_
              refine QL_ret ?_
              refine QB_ret ?_
              exact P_to [(2, .c (.val (.bool false)))] [] [] hn (by kernel_rfl) (by kernel_rfl) rfl rfl rfl (QF_retS (by kernel_rfl) (by kernel_rfl) rfl)
            · intro b_42; have H_127 := of_f H_103 b_42
              refine V_run hN hn 5 2 [1, 3, 4, 5, 6] [0] ⟨[(1, .c (.h 0)), (3, .c (.val (.int .i64 last_13))), (4, .c (.val (.bool true))), (5, .c (.val (.int .i64 (IntKind.wrap .i64 (size_15 + (((ByteArray.size (List.getD d_2 (Int.toNat i_16) ((0 : Int), ((0 : Int), ByteArray.empty))).2.2) : Nat) : Int)))))), (6, .c (.val (.int .i64 i_16)))], [(0, .box [.val (.int .i64 d_1), .imm (.slice (.pair (.int .i64) (.pair (.int .i64) .str))) d_2])], 2⟩ [] (by kernel_rfl) rfl rfl ap0 ?_
              refine VL_exit ?_
              refine QB_here ?_
              refine V_run hN hn 1 2 [1, 3, 4, 5, 6] [0] ⟨[(1, .c (.h 0)), (3, .c (.val (.int .i64 last_13))), (4, .c (.val (.bool true))), (5, .c (.val (.int .i64 (IntKind.wrap .i64 (size_15 + (((ByteArray.size (List.getD d_2 (Int.toNat i_16) ((0 : Int), ((0 : Int), ByteArray.empty))).2.2) : Nat) : Int)))))), (6, .c (.val (.int .i64 (IntKind.wrap .i64 (i_16 + (1 : Int))))))], [(0, .box [.val (.int .i64 d_1), .imm (.slice (.pair (.int .i64) (.pair (.int .i64) .str))) d_2])], 2⟩ [] (by kernel_rfl) rfl rfl ap0 ?_
              refine VL_nil ?_
              exact V_roundEnd (last_13, true, (IntKind.wrap .i64 (size_15 + (((ByteArray.size (List.getD d_2 (Int.toNat i_16) ((0 : Int), ((0 : Int), ByteArray.empty))).2.2) : Nat) : Int))), (IntKind.wrap .i64 (i_16 + (1 : Int)))) H_127 [(0, 0)] hn (by kernel_rfl) (by kernel_rfl) rfl rfl rfl
        · intro b_22; have H_100 := of_f H_98 b_22
          refine V_run hN hn 3 2 [1, 3, 4, 5, 6, 7, 36] [0, 1] ⟨[(1, .c (.h 0)), (3, .c (.val (.int .i64 last_13))), (4, .c (.val (.bool text_14))), (5, .c (.val (.int .i64 size_15))), (6, .c (.val (.int .i64 i_16))), (7, .c (.h 1)), (36, .c (.val (.bool (!(ByteArray.toList (List.getD d_2 (Int.toNat i_16) ((0 : Int), ((0 : Int), ByteArray.empty))).2.2 == ByteArray.toList (ByteArray.mk #[]))))))], [(0, .box [.val (.int .i64 d_1), .imm (.slice (.pair (.int .i64) (.pair (.int .i64) .str))) d_2]), (1, .box [.val (.int .i64 (List.getD d_2 (Int.toNat i_16) ((0 : Int), ((0 : Int), ByteArray.empty))).1), .val (.int .i64 (List.getD d_2 (Int.toNat i_16) ((0 : Int), ((0 : Int), ByteArray.empty))).2.1), .val (.string (List.getD d_2 (Int.toNat i_16) ((0 : Int), ((0 : Int), ByteArray.empty))).2.2)])], 2⟩ [] (by kernel_rfl) rfl rfl ap0 ?_
          obtain ⟨q_129, H_130, H_131⟩ := of_bind H_100
          refine V_cut (Y := Bool) (R := Bool) q_129 (fun y => y) (fun y => [(1, .c (.h 0)), (5, .c (.val (.int .i64 size_15))), (6, .c (.val (.int .i64 i_16))), (7, .c (.h 1)), (112, .c (.val (.bool y)))]) (fun y => [(0, .box [.val (.int .i64 d_1), .imm (.slice (.pair (.int .i64) (.pair (.int .i64) .str))) d_2]), (1, .box [.val (.int .i64 (List.getD d_2 (Int.toNat i_16) ((0 : Int), ((0 : Int), ByteArray.empty))).1), .val (.int .i64 (List.getD d_2 (Int.toNat i_16) ((0 : Int), ((0 : Int), ByteArray.empty))).2.1), .val (.string (List.getD d_2 (Int.toNat i_16) ((0 : Int), ((0 : Int), ByteArray.empty))).2.2)])]) ?_ ?_
          · skip
            rcases Bool.eq_false_or_eq_true ((decide ((List.getD d_2 (Int.toNat i_16) ((0 : Int), ((0 : Int), ByteArray.empty))).1 < last_13))) with b_47 | b_47
            · have H_133 := of_t H_130 b_47
              refine V_reg hN hn [] [(75, true)] calls_nil 2 [1, 5, 6, 7, 112] [0, 1] ⟨[(1, .c (.h 0)), (5, .c (.val (.int .i64 size_15))), (6, .c (.val (.int .i64 i_16))), (7, .c (.h 1)), (112, .c (.val (.bool true)))], [(0, .box [.val (.int .i64 d_1), .imm (.slice (.pair (.int .i64) (.pair (.int .i64) .str))) d_2]), (1, .box [.val (.int .i64 (List.getD d_2 (Int.toNat i_16) ((0 : Int), ((0 : Int), ByteArray.empty))).1), .val (.int .i64 (List.getD d_2 (Int.toNat i_16) ((0 : Int), ((0 : Int), ByteArray.empty))).2.1), .val (.string (List.getD d_2 (Int.toNat i_16) ((0 : Int), ((0 : Int), ByteArray.empty))).2.2)])], 2⟩ [(decide ((List.getD d_2 (Int.toNat i_16) ((0 : Int), ((0 : Int), ByteArray.empty))).1 < last_13)) = true] (by kernel_rfl) rfl rfl (ap1 b_47) (by kernel_rfl) (by kernel_rfl) ?_
              have H_135 := Option.some.inj (show some true = some q_129 from H_133); subst H_135
              refine VL_nil ?_
              exact QP_end true rfl [(0, 0), (1, 1)] hn (by kernel_rfl) (by kernel_rfl) rfl rfl rfl
            · have H_134 := of_f H_130 b_47
              rcases Bool.eq_false_or_eq_true ((decide (i_16 > (0 : Int)))) with b_49 | b_49
              · have H_136 := of_t H_134 b_49
                rcases Bool.eq_false_or_eq_true ((!text_14)) with b_50 | b_50
                · have H_138 := of_t H_136 b_50
                  rcases Bool.eq_false_or_eq_true (((List.getD d_2 (Int.toNat i_16) ((0 : Int), ((0 : Int), ByteArray.empty))).1 == last_13)) with b_51 | b_51
                  · have H_140 := of_t H_138 b_51
                    refine V_reg hN hn [] [(75, false), (78, true), (82, true), (89, true)] calls_nil 2 [1, 5, 6, 7, 112] [0, 1] ⟨[(1, .c (.h 0)), (5, .c (.val (.int .i64 size_15))), (6, .c (.val (.int .i64 i_16))), (7, .c (.h 1)), (112, .c (.val (.bool true)))], [(0, .box [.val (.int .i64 d_1), .imm (.slice (.pair (.int .i64) (.pair (.int .i64) .str))) d_2]), (1, .box [.val (.int .i64 (List.getD d_2 (Int.toNat i_16) ((0 : Int), ((0 : Int), ByteArray.empty))).1), .val (.int .i64 (List.getD d_2 (Int.toNat i_16) ((0 : Int), ((0 : Int), ByteArray.empty))).2.1), .val (.string (List.getD d_2 (Int.toNat i_16) ((0 : Int), ((0 : Int), ByteArray.empty))).2.2)])], 2⟩ [(decide ((List.getD d_2 (Int.toNat i_16) ((0 : Int), ((0 : Int), ByteArray.empty))).1 < last_13)) = false, (decide (i_16 > (0 : Int))) = true, (!text_14) = true, ((List.getD d_2 (Int.toNat i_16) ((0 : Int), ((0 : Int), ByteArray.empty))).1 == last_13) = true] (by kernel_rfl) rfl rfl (ap2 b_47 (ap2 b_49 (ap2 b_50 (ap1 b_51)))) (by kernel_rfl) (by kernel_rfl) ?_
                    have H_142 := Option.some.inj (show some true = some q_129 from H_140); subst H_142
                    refine VL_nil ?_
                    exact QP_end true rfl [(0, 0), (1, 1)] hn (by kernel_rfl) (by kernel_rfl) rfl rfl rfl
                  · have H_141 := of_f H_138 b_51
                    rcases Bool.eq_false_or_eq_true ((decide ((List.getD d_2 (Int.toNat i_16) ((0 : Int), ((0 : Int), ByteArray.empty))).2.1 ≤ (List.getD d_2 (Int.toNat i_16) ((0 : Int), ((0 : Int), ByteArray.empty))).1))) with b_53 | b_53
                    · have H_143 := of_t H_141 b_53
                      refine V_reg hN hn [] [(75, false), (78, true), (82, true), (89, false), (96, true)] calls_nil 2 [1, 5, 6, 7, 112] [0, 1] ⟨[(1, .c (.h 0)), (5, .c (.val (.int .i64 size_15))), (6, .c (.val (.int .i64 i_16))), (7, .c (.h 1)), (112, .c (.val (.bool true)))], [(0, .box [.val (.int .i64 d_1), .imm (.slice (.pair (.int .i64) (.pair (.int .i64) .str))) d_2]), (1, .box [.val (.int .i64 (List.getD d_2 (Int.toNat i_16) ((0 : Int), ((0 : Int), ByteArray.empty))).1), .val (.int .i64 (List.getD d_2 (Int.toNat i_16) ((0 : Int), ((0 : Int), ByteArray.empty))).2.1), .val (.string (List.getD d_2 (Int.toNat i_16) ((0 : Int), ((0 : Int), ByteArray.empty))).2.2)])], 2⟩ [(decide ((List.getD d_2 (Int.toNat i_16) ((0 : Int), ((0 : Int), ByteArray.empty))).1 < last_13)) = false, (decide (i_16 > (0 : Int))) = true, (!text_14) = true, ((List.getD d_2 (Int.toNat i_16) ((0 : Int), ((0 : Int), ByteArray.empty))).1 == last_13) = false, (decide ((List.getD d_2 (Int.toNat i_16) ((0 : Int), ((0 : Int), ByteArray.empty))).2.1 ≤ (List.getD d_2 (Int.toNat i_16) ((0 : Int), ((0 : Int), ByteArray.empty))).1)) = true] (by kernel_rfl) rfl rfl (ap2 b_47 (ap2 b_49 (ap2 b_50 (ap2 b_51 (ap1 b_53))))) (by kernel_rfl) (by kernel_rfl) ?_
                      have H_145 := Option.some.inj (show some true = some q_129 from H_143); subst H_145
                      refine VL_nil ?_
                      exact QP_end true rfl [(0, 0), (1, 1)] hn (by kernel_rfl) (by kernel_rfl) rfl rfl rfl
                    · have H_144 := of_f H_141 b_53
                      rcases Bool.eq_false_or_eq_true ((decide ((List.getD d_2 (Int.toNat i_16) ((0 : Int), ((0 : Int), ByteArray.empty))).2.1 > d_1))) with b_55 | b_55
                      · have H_146 := of_t H_144 b_55
                        refine V_reg hN hn [] [(75, false), (78, true), (82, true), (89, false), (96, false), (103, true)] calls_nil 2 [1, 5, 6, 7, 112] [0, 1] ⟨[(1, .c (.h 0)), (5, .c (.val (.int .i64 size_15))), (6, .c (.val (.int .i64 i_16))), (7, .c (.h 1)), (112, .c (.val (.bool true)))], [(0, .box [.val (.int .i64 d_1), .imm (.slice (.pair (.int .i64) (.pair (.int .i64) .str))) d_2]), (1, .box [.val (.int .i64 (List.getD d_2 (Int.toNat i_16) ((0 : Int), ((0 : Int), ByteArray.empty))).1), .val (.int .i64 (List.getD d_2 (Int.toNat i_16) ((0 : Int), ((0 : Int), ByteArray.empty))).2.1), .val (.string (List.getD d_2 (Int.toNat i_16) ((0 : Int), ((0 : Int), ByteArray.empty))).2.2)])], 2⟩ [(decide ((List.getD d_2 (Int.toNat i_16) ((0 : Int), ((0 : Int), ByteArray.empty))).1 < last_13)) = false, (decide (i_16 > (0 : Int))) = true, (!text_14) = true, ((List.getD d_2 (Int.toNat i_16) ((0 : Int), ((0 : Int), ByteArray.empty))).1 == last_13) = false, (decide ((List.getD d_2 (Int.toNat i_16) ((0 : Int), ((0 : Int), ByteArray.empty))).2.1 ≤ (List.getD d_2 (Int.toNat i_16) ((0 : Int), ((0 : Int), ByteArray.empty))).1)) = false, (decide ((List.getD d_2 (Int.toNat i_16) ((0 : Int), ((0 : Int), ByteArray.empty))).2.1 > d_1)) = true] (by kernel_rfl) rfl rfl (ap2 b_47 (ap2 b_49 (ap2 b_50 (ap2 b_51 (ap2 b_53 (ap1 b_55)))))) (by kernel_rfl) (by kernel_rfl) ?_
                        have H_148 := Option.some.inj (show some true = some q_129 from H_146); subst H_148
                        refine VL_nil ?_
                        exact QP_end true rfl [(0, 0), (1, 1)] hn (by kernel_rfl) (by kernel_rfl) rfl rfl rfl
                      · have H_147 := of_f H_144 b_55
                        refine V_reg hN hn [] [(75, false), (78, true), (82, true), (89, false), (96, false), (103, false)] calls_nil 2 [1, 5, 6, 7, 112] [0, 1] ⟨[(1, .c (.h 0)), (5, .c (.val (.int .i64 size_15))), (6, .c (.val (.int .i64 i_16))), (7, .c (.h 1)), (112, .c (.val (.bool (decide ((IntKind.wrap .i64 ((List.getD d_2 (Int.toNat i_16) ((0 : Int), ((0 : Int), ByteArray.empty))).2.1 - (List.getD d_2 (Int.toNat i_16) ((0 : Int), ((0 : Int), ByteArray.empty))).1)) > (IntKind.wrap .i64 ((20000 : Int) - size_15)))))))], [(0, .box [.val (.int .i64 d_1), .imm (.slice (.pair (.int .i64) (.pair (.int .i64) .str))) d_2]), (1, .box [.val (.int .i64 (List.getD d_2 (Int.toNat i_16) ((0 : Int), ((0 : Int), ByteArray.empty))).1), .val (.int .i64 (List.getD d_2 (Int.toNat i_16) ((0 : Int), ((0 : Int), ByteArray.empty))).2.1), .val (.string (List.getD d_2 (Int.toNat i_16) ((0 : Int), ((0 : Int), ByteArray.empty))).2.2)])], 2⟩ [(decide ((List.getD d_2 (Int.toNat i_16) ((0 : Int), ((0 : Int), ByteArray.empty))).1 < last_13)) = false, (decide (i_16 > (0 : Int))) = true, (!text_14) = true, ((List.getD d_2 (Int.toNat i_16) ((0 : Int), ((0 : Int), ByteArray.empty))).1 == last_13) = false, (decide ((List.getD d_2 (Int.toNat i_16) ((0 : Int), ((0 : Int), ByteArray.empty))).2.1 ≤ (List.getD d_2 (Int.toNat i_16) ((0 : Int), ((0 : Int), ByteArray.empty))).1)) = false, (decide ((List.getD d_2 (Int.toNat i_16) ((0 : Int), ((0 : Int), ByteArray.empty))).2.1 > d_1)) = false] (by kernel_rfl) rfl rfl (ap2 b_47 (ap2 b_49 (ap2 b_50 (ap2 b_51 (ap2 b_53 (ap1 b_55)))))) (by kernel_rfl) (by kernel_rfl) ?_
                        have H_149 := Option.some.inj (show some (decide ((IntKind.wrap .i64 ((List.getD d_2 (Int.toNat i_16) ((0 : Int), ((0 : Int), ByteArray.empty))).2.1 - (List.getD d_2 (Int.toNat i_16) ((0 : Int), ((0 : Int), ByteArray.empty))).1)) > (IntKind.wrap .i64 ((20000 : Int) - size_15)))) = some q_129 from H_147); subst H_149
                        refine VL_nil ?_
                        exact QP_end (decide ((IntKind.wrap .i64 ((List.getD d_2 (Int.toNat i_16) ((0 : Int), ((0 : Int), ByteArray.empty))).2.1 - (List.getD d_2 (Int.toNat i_16) ((0 : Int), ((0 : Int), ByteArray.empty))).1)) > (IntKind.wrap .i64 ((20000 : Int) - size_15)))) rfl [(0, 0), (1, 1)] hn (by kernel_rfl) (by kernel_rfl) rfl rfl rfl
                · have H_139 := of_f H_136 b_50
                  rcases Bool.eq_false_or_eq_true ((decide ((List.getD d_2 (Int.toNat i_16) ((0 : Int), ((0 : Int), ByteArray.empty))).2.1 ≤ (List.getD d_2 (Int.toNat i_16) ((0 : Int), ((0 : Int), ByteArray.empty))).1))) with b_58 | b_58
                  · have H_150 := of_t H_139 b_58
                    refine V_reg hN hn [] [(75, false), (78, true), (82, false), (96, true)] calls_nil 2 [1, 5, 6, 7, 112] [0, 1] ⟨[(1, .c (.h 0)), (5, .c (.val (.int .i64 size_15))), (6, .c (.val (.int .i64 i_16))), (7, .c (.h 1)), (112, .c (.val (.bool true)))], [(0, .box [.val (.int .i64 d_1), .imm (.slice (.pair (.int .i64) (.pair (.int .i64) .str))) d_2]), (1, .box [.val (.int .i64 (List.getD d_2 (Int.toNat i_16) ((0 : Int), ((0 : Int), ByteArray.empty))).1), .val (.int .i64 (List.getD d_2 (Int.toNat i_16) ((0 : Int), ((0 : Int), ByteArray.empty))).2.1), .val (.string (List.getD d_2 (Int.toNat i_16) ((0 : Int), ((0 : Int), ByteArray.empty))).2.2)])], 2⟩ [(decide ((List.getD d_2 (Int.toNat i_16) ((0 : Int), ((0 : Int), ByteArray.empty))).1 < last_13)) = false, (decide (i_16 > (0 : Int))) = true, (!text_14) = false, (decide ((List.getD d_2 (Int.toNat i_16) ((0 : Int), ((0 : Int), ByteArray.empty))).2.1 ≤ (List.getD d_2 (Int.toNat i_16) ((0 : Int), ((0 : Int), ByteArray.empty))).1)) = true] (by kernel_rfl) rfl rfl (ap2 b_47 (ap2 b_49 (ap2 b_50 (ap1 b_58)))) (by kernel_rfl) (by kernel_rfl) ?_
                    have H_152 := Option.some.inj (show some true = some q_129 from H_150); subst H_152
                    refine VL_nil ?_
                    exact QP_end true rfl [(0, 0), (1, 1)] hn (by kernel_rfl) (by kernel_rfl) rfl rfl rfl
                  · have H_151 := of_f H_139 b_58
                    rcases Bool.eq_false_or_eq_true ((decide ((List.getD d_2 (Int.toNat i_16) ((0 : Int), ((0 : Int), ByteArray.empty))).2.1 > d_1))) with b_60 | b_60
                    · have H_153 := of_t H_151 b_60
                      refine V_reg hN hn [] [(75, false), (78, true), (82, false), (96, false), (103, true)] calls_nil 2 [1, 5, 6, 7, 112] [0, 1] ⟨[(1, .c (.h 0)), (5, .c (.val (.int .i64 size_15))), (6, .c (.val (.int .i64 i_16))), (7, .c (.h 1)), (112, .c (.val (.bool true)))], [(0, .box [.val (.int .i64 d_1), .imm (.slice (.pair (.int .i64) (.pair (.int .i64) .str))) d_2]), (1, .box [.val (.int .i64 (List.getD d_2 (Int.toNat i_16) ((0 : Int), ((0 : Int), ByteArray.empty))).1), .val (.int .i64 (List.getD d_2 (Int.toNat i_16) ((0 : Int), ((0 : Int), ByteArray.empty))).2.1), .val (.string (List.getD d_2 (Int.toNat i_16) ((0 : Int), ((0 : Int), ByteArray.empty))).2.2)])], 2⟩ [(decide ((List.getD d_2 (Int.toNat i_16) ((0 : Int), ((0 : Int), ByteArray.empty))).1 < last_13)) = false, (decide (i_16 > (0 : Int))) = true, (!text_14) = false, (decide ((List.getD d_2 (Int.toNat i_16) ((0 : Int), ((0 : Int), ByteArray.empty))).2.1 ≤ (List.getD d_2 (Int.toNat i_16) ((0 : Int), ((0 : Int), ByteArray.empty))).1)) = false, (decide ((List.getD d_2 (Int.toNat i_16) ((0 : Int), ((0 : Int), ByteArray.empty))).2.1 > d_1)) = true] (by kernel_rfl) rfl rfl (ap2 b_47 (ap2 b_49 (ap2 b_50 (ap2 b_58 (ap1 b_60))))) (by kernel_rfl) (by kernel_rfl) ?_
                      have H_155 := Option.some.inj (show some true = some q_129 from H_153); subst H_155
                      refine VL_nil ?_
                      exact QP_end true rfl [(0, 0), (1, 1)] hn (by kernel_rfl) (by kernel_rfl) rfl rfl rfl
                    · have H_154 := of_f H_151 b_60
                      refine V_reg hN hn [] [(75, false), (78, true), (82, false), (96, false), (103, false)] calls_nil 2 [1, 5, 6, 7, 112] [0, 1] ⟨[(1, .c (.h 0)), (5, .c (.val (.int .i64 size_15))), (6, .c (.val (.int .i64 i_16))), (7, .c (.h 1)), (112, .c (.val (.bool (decide ((IntKind.wrap .i64 ((List.getD d_2 (Int.toNat i_16) ((0 : Int), ((0 : Int), ByteArray.empty))).2.1 - (List.getD d_2 (Int.toNat i_16) ((0 : Int), ((0 : Int), ByteArray.empty))).1)) > (IntKind.wrap .i64 ((20000 : Int) - size_15)))))))], [(0, .box [.val (.int .i64 d_1), .imm (.slice (.pair (.int .i64) (.pair (.int .i64) .str))) d_2]), (1, .box [.val (.int .i64 (List.getD d_2 (Int.toNat i_16) ((0 : Int), ((0 : Int), ByteArray.empty))).1), .val (.int .i64 (List.getD d_2 (Int.toNat i_16) ((0 : Int), ((0 : Int), ByteArray.empty))).2.1), .val (.string (List.getD d_2 (Int.toNat i_16) ((0 : Int), ((0 : Int), ByteArray.empty))).2.2)])], 2⟩ [(decide ((List.getD d_2 (Int.toNat i_16) ((0 : Int), ((0 : Int), ByteArray.empty))).1 < last_13)) = false, (decide (i_16 > (0 : Int))) = true, (!text_14) = false, (decide ((List.getD d_2 (Int.toNat i_16) ((0 : Int), ((0 : Int), ByteArray.empty))).2.1 ≤ (List.getD d_2 (Int.toNat i_16) ((0 : Int), ((0 : Int), ByteArray.empty))).1)) = false, (decide ((List.getD d_2 (Int.toNat i_16) ((0 : Int), ((0 : Int), ByteArray.empty))).2.1 > d_1)) = false] (by kernel_rfl) rfl rfl (ap2 b_47 (ap2 b_49 (ap2 b_50 (ap2 b_58 (ap1 b_60))))) (by kernel_rfl) (by kernel_rfl) ?_
                      have H_156 := Option.some.inj (show some (decide ((IntKind.wrap .i64 ((List.getD d_2 (Int.toNat i_16) ((0 : Int), ((0 : Int), ByteArray.empty))).2.1 - (List.getD d_2 (Int.toNat i_16) ((0 : Int), ((0 : Int), ByteArray.empty))).1)) > (IntKind.wrap .i64 ((20000 : Int) - size_15)))) = some q_129 from H_154); subst H_156
                      refine VL_nil ?_
                      exact QP_end (decide ((IntKind.wrap .i64 ((List.getD d_2 (Int.toNat i_16) ((0 : Int), ((0 : Int), ByteArray.empty))).2.1 - (List.getD d_2 (Int.toNat i_16) ((0 : Int), ((0 : Int), ByteArray.empty))).1)) > (IntKind.wrap .i64 ((20000 : Int) - size_15)))) rfl [(0, 0), (1, 1)] hn (by kernel_rfl) (by kernel_rfl) rfl rfl rfl
              · have H_137 := of_f H_134 b_49
                rcases Bool.eq_false_or_eq_true ((decide ((List.getD d_2 (Int.toNat i_16) ((0 : Int), ((0 : Int), ByteArray.empty))).2.1 ≤ (List.getD d_2 (Int.toNat i_16) ((0 : Int), ((0 : Int), ByteArray.empty))).1))) with b_63 | b_63
                · have H_157 := of_t H_137 b_63
                  refine V_reg hN hn [] [(75, false), (78, false), (96, true)] calls_nil 2 [1, 5, 6, 7, 112] [0, 1] ⟨[(1, .c (.h 0)), (5, .c (.val (.int .i64 size_15))), (6, .c (.val (.int .i64 i_16))), (7, .c (.h 1)), (112, .c (.val (.bool true)))], [(0, .box [.val (.int .i64 d_1), .imm (.slice (.pair (.int .i64) (.pair (.int .i64) .str))) d_2]), (1, .box [.val (.int .i64 (List.getD d_2 (Int.toNat i_16) ((0 : Int), ((0 : Int), ByteArray.empty))).1), .val (.int .i64 (List.getD d_2 (Int.toNat i_16) ((0 : Int), ((0 : Int), ByteArray.empty))).2.1), .val (.string (List.getD d_2 (Int.toNat i_16) ((0 : Int), ((0 : Int), ByteArray.empty))).2.2)])], 2⟩ [(decide ((List.getD d_2 (Int.toNat i_16) ((0 : Int), ((0 : Int), ByteArray.empty))).1 < last_13)) = false, (decide (i_16 > (0 : Int))) = false, (decide ((List.getD d_2 (Int.toNat i_16) ((0 : Int), ((0 : Int), ByteArray.empty))).2.1 ≤ (List.getD d_2 (Int.toNat i_16) ((0 : Int), ((0 : Int), ByteArray.empty))).1)) = true] (by kernel_rfl) rfl rfl (ap2 b_47 (ap2 b_49 (ap1 b_63))) (by kernel_rfl) (by kernel_rfl) ?_
                  have H_159 := Option.some.inj (show some true = some q_129 from H_157); subst H_159
                  refine VL_nil ?_
                  exact QP_end true rfl [(0, 0), (1, 1)] hn (by kernel_rfl) (by kernel_rfl) rfl rfl rfl
                · have H_158 := of_f H_137 b_63
                  rcases Bool.eq_false_or_eq_true ((decide ((List.getD d_2 (Int.toNat i_16) ((0 : Int), ((0 : Int), ByteArray.empty))).2.1 > d_1))) with b_65 | b_65
                  · have H_160 := of_t H_158 b_65
                    refine V_reg hN hn [] [(75, false), (78, false), (96, false), (103, true)] calls_nil 2 [1, 5, 6, 7, 112] [0, 1] ⟨[(1, .c (.h 0)), (5, .c (.val (.int .i64 size_15))), (6, .c (.val (.int .i64 i_16))), (7, .c (.h 1)), (112, .c (.val (.bool true)))], [(0, .box [.val (.int .i64 d_1), .imm (.slice (.pair (.int .i64) (.pair (.int .i64) .str))) d_2]), (1, .box [.val (.int .i64 (List.getD d_2 (Int.toNat i_16) ((0 : Int), ((0 : Int), ByteArray.empty))).1), .val (.int .i64 (List.getD d_2 (Int.toNat i_16) ((0 : Int), ((0 : Int), ByteArray.empty))).2.1), .val (.string (List.getD d_2 (Int.toNat i_16) ((0 : Int), ((0 : Int), ByteArray.empty))).2.2)])], 2⟩ [(decide ((List.getD d_2 (Int.toNat i_16) ((0 : Int), ((0 : Int), ByteArray.empty))).1 < last_13)) = false, (decide (i_16 > (0 : Int))) = false, (decide ((List.getD d_2 (Int.toNat i_16) ((0 : Int), ((0 : Int), ByteArray.empty))).2.1 ≤ (List.getD d_2 (Int.toNat i_16) ((0 : Int), ((0 : Int), ByteArray.empty))).1)) = false, (decide ((List.getD d_2 (Int.toNat i_16) ((0 : Int), ((0 : Int), ByteArray.empty))).2.1 > d_1)) = true] (by kernel_rfl) rfl rfl (ap2 b_47 (ap2 b_49 (ap2 b_63 (ap1 b_65)))) (by kernel_rfl) (by kernel_rfl) ?_
                    have H_162 := Option.some.inj (show some true = some q_129 from H_160); subst H_162
                    refine VL_nil ?_
                    exact QP_end true rfl [(0, 0), (1, 1)] hn (by kernel_rfl) (by kernel_rfl) rfl rfl rfl
                  · have H_161 := of_f H_158 b_65
                    refine V_reg hN hn [] [(75, false), (78, false), (96, false), (103, false)] calls_nil 2 [1, 5, 6, 7, 112] [0, 1] ⟨[(1, .c (.h 0)), (5, .c (.val (.int .i64 size_15))), (6, .c (.val (.int .i64 i_16))), (7, .c (.h 1)), (112, .c (.val (.bool (decide ((IntKind.wrap .i64 ((List.getD d_2 (Int.toNat i_16) ((0 : Int), ((0 : Int), ByteArray.empty))).2.1 - (List.getD d_2 (Int.toNat i_16) ((0 : Int), ((0 : Int), ByteArray.empty))).1)) > (IntKind.wrap .i64 ((20000 : Int) - size_15)))))))], [(0, .box [.val (.int .i64 d_1), .imm (.slice (.pair (.int .i64) (.pair (.int .i64) .str))) d_2]), (1, .box [.val (.int .i64 (List.getD d_2 (Int.toNat i_16) ((0 : Int), ((0 : Int), ByteArray.empty))).1), .val (.int .i64 (List.getD d_2 (Int.toNat i_16) ((0 : Int), ((0 : Int), ByteArray.empty))).2.1), .val (.string (List.getD d_2 (Int.toNat i_16) ((0 : Int), ((0 : Int), ByteArray.empty))).2.2)])], 2⟩ [(decide ((List.getD d_2 (Int.toNat i_16) ((0 : Int), ((0 : Int), ByteArray.empty))).1 < last_13)) = false, (decide (i_16 > (0 : Int))) = false, (decide ((List.getD d_2 (Int.toNat i_16) ((0 : Int), ((0 : Int), ByteArray.empty))).2.1 ≤ (List.getD d_2 (Int.toNat i_16) ((0 : Int), ((0 : Int), ByteArray.empty))).1)) = false, (decide ((List.getD d_2 (Int.toNat i_16) ((0 : Int), ((0 : Int), ByteArray.empty))).2.1 > d_1)) = false] (by kernel_rfl) rfl rfl (ap2 b_47 (ap2 b_49 (ap2 b_63 (ap1 b_65)))) (by kernel_rfl) (by kernel_rfl) ?_
                    have H_163 := Option.some.inj (show some (decide ((IntKind.wrap .i64 ((List.getD d_2 (Int.toNat i_16) ((0 : Int), ((0 : Int), ByteArray.empty))).2.1 - (List.getD d_2 (Int.toNat i_16) ((0 : Int), ((0 : Int), ByteArray.empty))).1)) > (IntKind.wrap .i64 ((20000 : Int) - size_15)))) = some q_129 from H_161); subst H_163
                    refine VL_nil ?_
                    exact QP_end (decide ((IntKind.wrap .i64 ((List.getD d_2 (Int.toNat i_16) ((0 : Int), ((0 : Int), ByteArray.empty))).2.1 - (List.getD d_2 (Int.toNat i_16) ((0 : Int), ((0 : Int), ByteArray.empty))).1)) > (IntKind.wrap .i64 ((20000 : Int) - size_15)))) rfl [(0, 0), (1, 1)] hn (by kernel_rfl) (by kernel_rfl) rfl rfl rfl
          · intro y_132 hy; subst hy
            skip
            skip
            refine VL_cond (y_132) (by kernel_rfl) ?_ ?_
            · intro b_69; have H_164 := of_t H_131 b_69
              refine V_run hN hn 2 2 [2] [] ⟨[(2, .c (.val (.bool false)))], [], 2⟩ [] (by kernel_rfl) rfl rfl ap0 ?_
              have H_166 := Option.some.inj (show some false = some r from H_164); subst H_166
              refine VL_ret ?_
              refine QB_ret ?_
              refine QL_ret ?_
              refine QB_ret ?_
              exact P_to [(2, .c (.val (.bool false)))] [] [] hn (by kernel_rfl) (by kernel_rfl) rfl rfl rfl (QF_retS (by kernel_rfl) (by kernel_rfl) rfl)
            · intro b_69; have H_165 := of_f H_131 b_69
              refine V_run hN hn 4 2 [1, 3, 4, 5, 6] [0] ⟨[(1, .c (.h 0)), (3, .c (.val (.int .i64 (List.getD d_2 (Int.toNat i_16) ((0 : Int), ((0 : Int), ByteArray.empty))).2.1))), (4, .c (.val (.bool false))), (5, .c (.val (.int .i64 (IntKind.wrap .i64 ((IntKind.wrap .i64 (size_15 + (List.getD d_2 (Int.toNat i_16) ((0 : Int), ((0 : Int), ByteArray.empty))).2.1)) - (List.getD d_2 (Int.toNat i_16) ((0 : Int), ((0 : Int), ByteArray.empty))).1))))), (6, .c (.val (.int .i64 i_16)))], [(0, .box [.val (.int .i64 d_1), .imm (.slice (.pair (.int .i64) (.pair (.int .i64) .str))) d_2])], 2⟩ [] (by kernel_rfl) rfl rfl ap0 ?_
              refine VL_nil (QB_end ?_)
              refine V_run hN hn 1 2 [1, 3, 4, 5, 6] [0] ⟨[(1, .c (.h 0)), (3, .c (.val (.int .i64 (List.getD d_2 (Int.toNat i_16) ((0 : Int), ((0 : Int), ByteArray.empty))).2.1))), (4, .c (.val (.bool false))), (5, .c (.val (.int .i64 (IntKind.wrap .i64 ((IntKind.wrap .i64 (size_15 + (List.getD d_2 (Int.toNat i_16) ((0 : Int), ((0 : Int), ByteArray.empty))).2.1)) - (List.getD d_2 (Int.toNat i_16) ((0 : Int), ((0 : Int), ByteArray.empty))).1))))), (6, .c (.val (.int .i64 (IntKind.wrap .i64 (i_16 + (1 : Int))))))], [(0, .box [.val (.int .i64 d_1), .imm (.slice (.pair (.int .i64) (.pair (.int .i64) .str))) d_2])], 2⟩ [] (by kernel_rfl) rfl rfl ap0 ?_
              refine VL_nil ?_
              exact V_roundEnd ((List.getD d_2 (Int.toNat i_16) ((0 : Int), ((0 : Int), ByteArray.empty))).2.1, false, (IntKind.wrap .i64 ((IntKind.wrap .i64 (size_15 + (List.getD d_2 (Int.toNat i_16) ((0 : Int), ((0 : Int), ByteArray.empty))).2.1)) - (List.getD d_2 (Int.toNat i_16) ((0 : Int), ((0 : Int), ByteArray.empty))).1)), (IntKind.wrap .i64 (i_16 + (1 : Int)))) H_165 [(0, 0)] hn (by kernel_rfl) (by kernel_rfl) rfl rfl rfl
      · intro b_19; have H_97 := of_f H_95 b_19
        refine VL_exit ?_
        refine QL_exit ?_
        refine QB_here ?_
        refine V_run hN hn 2 1 [2] [] ⟨[(2, .c (.val (.bool true)))], [], 1⟩ [] (by kernel_rfl) rfl rfl ap0 ?_
        have H_167 := Option.some.inj (show some true = some r from H_97); subst H_167
        refine VL_ret ?_
        exact P_to [(2, .c (.val (.bool true)))] [] [] hn (by kernel_rfl) (by kernel_rfl) rfl rfl rfl (QF_retS (by kernel_rfl) (by kernel_rfl) rfl)

theorem palinoderef11_Same_spec (K : Nat) (a_1 : Int) (a_2 : (List (Int × (Int × ByteArray)))) (b_3 : Int) (b_4 : (List (Int × (Int × ByteArray)))) (r : Bool) (H : palinoderef11_Same K a_1 a_2 b_3 b_4 = some r) : Spec Try.prog 15 0 [.agg [.val (.int .i64 a_1), .imm (.slice (.pair (.int .i64) (.pair (.int .i64) .str))) a_2], .agg [.val (.int .i64 b_3), .imm (.slice (.pair (.int .i64) (.pair (.int .i64) .str))) b_4]] [] (.c (.val (.bool r))) [] := by
  refine Spec_mk (fn := Try.f15) (c := (Try.f15.body).get!) Try.func15 (by kernel_rfl) rfl ?_
  intro C hN hn
  replace hN : C.N = 38 := hN
  unfold palinoderef11_Same at H
  refine V_run hN hn 4 0 [2, 3] [0, 1] ⟨[(2, .c (.h 0)), (3, .c (.h 1))], [(0, .box [.val (.int .i64 a_1), .imm (.slice (.pair (.int .i64) (.pair (.int .i64) .str))) a_2]), (1, .box [.val (.int .i64 b_3), .imm (.slice (.pair (.int .i64) (.pair (.int .i64) .str))) b_4])], 2⟩ [] (by kernel_rfl) rfl rfl ap0 ?_
  obtain ⟨q_27, H_28, H_29⟩ := of_bind H
  refine V_cut (Y := Bool) (R := Bool) q_27 (fun y => y) (fun y => [(2, .c (.h 0)), (3, .c (.h 1)), (19, .c (.val (.bool y)))]) (fun y => [(0, .box [.val (.int .i64 a_1), .imm (.slice (.pair (.int .i64) (.pair (.int .i64) .str))) a_2]), (1, .box [.val (.int .i64 b_3), .imm (.slice (.pair (.int .i64) (.pair (.int .i64) .str))) b_4])]) ?_ ?_
  · skip
    rcases Bool.eq_false_or_eq_true ((a_1 != b_3)) with b_6 | b_6
    · have H_31 := of_t H_28 b_6
      refine V_reg hN hn [] [(11, true)] calls_nil 2 [2, 3, 19] [0, 1] ⟨[(2, .c (.h 0)), (3, .c (.h 1)), (19, .c (.val (.bool true)))], [(0, .box [.val (.int .i64 a_1), .imm (.slice (.pair (.int .i64) (.pair (.int .i64) .str))) a_2]), (1, .box [.val (.int .i64 b_3), .imm (.slice (.pair (.int .i64) (.pair (.int .i64) .str))) b_4])], 2⟩ [(a_1 != b_3) = true] (by kernel_rfl) rfl rfl (ap1 b_6) (by kernel_rfl) (by kernel_rfl) ?_
      have H_33 := Option.some.inj (show some true = some q_27 from H_31); subst H_33
      refine VL_nil ?_
      exact QP_end true rfl [(0, 0), (1, 1)] hn (by kernel_rfl) (by kernel_rfl) rfl rfl rfl
    · have H_32 := of_f H_28 b_6
      refine V_reg hN hn [] [(11, false)] calls_nil 2 [2, 3, 19] [0, 1] ⟨[(2, .c (.h 0)), (3, .c (.h 1)), (19, .c (.val (.bool ((((List.length a_2) : Nat) : Int) != (((List.length b_4) : Nat) : Int)))))], [(0, .box [.val (.int .i64 a_1), .imm (.slice (.pair (.int .i64) (.pair (.int .i64) .str))) a_2]), (1, .box [.val (.int .i64 b_3), .imm (.slice (.pair (.int .i64) (.pair (.int .i64) .str))) b_4])], 2⟩ [(a_1 != b_3) = false] (by kernel_rfl) rfl rfl (ap1 b_6) (by kernel_rfl) (by kernel_rfl) ?_
      have H_34 := Option.some.inj (show some ((((List.length a_2) : Nat) : Int) != (((List.length b_4) : Nat) : Int)) = some q_27 from H_32); subst H_34
      refine VL_nil ?_
      exact QP_end ((((List.length a_2) : Nat) : Int) != (((List.length b_4) : Nat) : Int)) rfl [(0, 0), (1, 1)] hn (by kernel_rfl) (by kernel_rfl) rfl rfl rfl
  · intro y_30 hy; subst hy
    skip
    skip
    refine VL_cond (y_30) (by kernel_rfl) ?_ ?_
    · intro b_10; have H_35 := of_t H_29 b_10
      refine V_run hN hn 2 2 [4] [] ⟨[(4, .c (.val (.bool false)))], [], 2⟩ [] (by kernel_rfl) rfl rfl ap0 ?_
      have H_37 := Option.some.inj (show some false = some r from H_35); subst H_37
      refine VL_ret ?_
      exact P_to [(4, .c (.val (.bool false)))] [] [] hn (by kernel_rfl) (by kernel_rfl) rfl rfl rfl (QF_retS (by kernel_rfl) (by kernel_rfl) rfl)
    · intro b_10; have H_36 := of_f H_29 b_10
      refine V_run hN hn 4 2 [2, 3, 5] [0, 1] ⟨[(2, .c (.h 0)), (3, .c (.h 1)), (5, .c (.val (.int .i64 (0 : Int))))], [(0, .box [.val (.int .i64 a_1), .imm (.slice (.pair (.int .i64) (.pair (.int .i64) .str))) a_2]), (1, .box [.val (.int .i64 b_3), .imm (.slice (.pair (.int .i64) (.pair (.int .i64) .str))) b_4])], 2⟩ [] (by kernel_rfl) rfl rfl ap0 ?_
      refine VL_block ?_
      refine V_to [(2, .c (.h 0)), (3, .c (.h 1)), (5, .c (.val (.int .i64 (0 : Int))))] [(0, .box [.val (.int .i64 a_1), .imm (.slice (.pair (.int .i64) (.pair (.int .i64) .str))) a_2]), (1, .box [.val (.int .i64 b_3), .imm (.slice (.pair (.int .i64) (.pair (.int .i64) .str))) b_4])] [(0, 0), (1, 1)] hn (by kernel_rfl) (by kernel_rfl) rfl rfl rfl ?_
      refine VL_loop (X := Int) (fun x => [(2, .c (.h 0)), (3, .c (.h 1)), (5, .c (.val (.int .i64 x)))]) (fun x => [(0, .box [.val (.int .i64 a_1), .imm (.slice (.pair (.int .i64) (.pair (.int .i64) .str))) a_2]), (1, .box [.val (.int .i64 b_3), .imm (.slice (.pair (.int .i64) (.pair (.int .i64) .str))) b_4])]) (fun k x => palinoderef11_Same.l0 K a_2 b_4 k x = some r) K (0 : Int) H_36 (fun _ h => no_none h) ?_
      intro k_14 i_13 H_38
      have H_39 : palinoderef11_Same.l0 K a_2 b_4 (k_14 + 1) i_13 = some r := H_38
      rw [palinoderef11_Same.l0] at H_39
      refine V_run hN hn 3 2 [2, 3, 5, 24] [0, 1] ⟨[(2, .c (.h 0)), (3, .c (.h 1)), (5, .c (.val (.int .i64 i_13))), (24, .c (.val (.bool (decide (i_13 < (((List.length a_2) : Nat) : Int))))))], [(0, .box [.val (.int .i64 a_1), .imm (.slice (.pair (.int .i64) (.pair (.int .i64) .str))) a_2]), (1, .box [.val (.int .i64 b_3), .imm (.slice (.pair (.int .i64) (.pair (.int .i64) .str))) b_4])], 2⟩ [] (by kernel_rfl) rfl rfl ap0 ?_
      refine VL_cond ((decide (i_13 < (((List.length a_2) : Nat) : Int)))) (by kernel_rfl) ?_ ?_
      · intro b_16; have H_40 := of_t H_39 b_16
        refine V_run hN hn 2 2 [2, 3, 5, 24] [0, 1] ⟨[(2, .c (.h 0)), (3, .c (.h 1)), (5, .c (.val (.int .i64 i_13))), (24, .c (.val (.bool (decide (i_13 < (((List.length a_2) : Nat) : Int))))))], [(0, .box [.val (.int .i64 a_1), .imm (.slice (.pair (.int .i64) (.pair (.int .i64) .str))) a_2]), (1, .box [.val (.int .i64 b_3), .imm (.slice (.pair (.int .i64) (.pair (.int .i64) .str))) b_4])], 2⟩ [] (by kernel_rfl) rfl rfl ap0 ?_
        refine VL_block ?_
        refine V_run hN hn 1 2 [2, 3, 5, 24] [0, 1] ⟨[(2, .c (.h 0)), (3, .c (.h 1)), (5, .c (.val (.int .i64 i_13))), (24, .c (.val (.bool (decide (i_13 < (((List.length a_2) : Nat) : Int))))))], [(0, .box [.val (.int .i64 a_1), .imm (.slice (.pair (.int .i64) (.pair (.int .i64) .str))) a_2]), (1, .box [.val (.int .i64 b_3), .imm (.slice (.pair (.int .i64) (.pair (.int .i64) .str))) b_4])], 2⟩ [] (by kernel_rfl) rfl rfl ap0 ?_
        obtain ⟨c_19, H_42⟩ := of_if H_40
        refine V_draw hN hn (by kernel_rfl) [] [] calls_nil 2 [2, 3, 5, 37] [0, 1] ⟨[(2, .c (.h 0)), (3, .c (.h 1)), (5, .c (.val (.int .i64 i_13))), (37, .c (.val (.bool (!(((List.getD a_2 (Int.toNat i_13) ((0 : Int), ((0 : Int), ByteArray.empty))).1 == (List.getD b_4 (Int.toNat i_13) ((0 : Int), ((0 : Int), ByteArray.empty))).1) && (((List.getD a_2 (Int.toNat i_13) ((0 : Int), ((0 : Int), ByteArray.empty))).2.1 == (List.getD b_4 (Int.toNat i_13) ((0 : Int), ((0 : Int), ByteArray.empty))).2.1) && (ByteArray.toList (List.getD a_2 (Int.toNat i_13) ((0 : Int), ((0 : Int), ByteArray.empty))).2.2 == ByteArray.toList (List.getD b_4 (Int.toNat i_13) ((0 : Int), ((0 : Int), ByteArray.empty))).2.2)))))))], [(0, .box [.val (.int .i64 a_1), .imm (.slice (.pair (.int .i64) (.pair (.int .i64) .str))) a_2]), (1, .box [.val (.int .i64 b_3), .imm (.slice (.pair (.int .i64) (.pair (.int .i64) .str))) b_4])], 2⟩ [0 ≤ i_13, i_13 < (((List.length a_2) : Nat) : Int), 0 ≤ i_13, i_13 < (((List.length b_4) : Nat) : Int)] (by kernel_rfl) rfl rfl (ap2 c_19.1 (ap2 c_19.2.1 (ap2 c_19.1 (ap1 c_19.2.2)))) (by kernel_rfl) (by kernel_rfl) ?_
        refine VL_cond ((!(((List.getD a_2 (Int.toNat i_13) ((0 : Int), ((0 : Int), ByteArray.empty))).1 == (List.getD b_4 (Int.toNat i_13) ((0 : Int), ((0 : Int), ByteArray.empty))).1) && (((List.getD a_2 (Int.toNat i_13) ((0 : Int), ((0 : Int), ByteArray.empty))).2.1 == (List.getD b_4 (Int.toNat i_13) ((0 : Int), ((0 : Int), ByteArray.empty))).2.1) && (ByteArray.toList (List.getD a_2 (Int.toNat i_13) ((0 : Int), ((0 : Int), ByteArray.empty))).2.2 == ByteArray.toList (List.getD b_4 (Int.toNat i_13) ((0 : Int), ((0 : Int), ByteArray.empty))).2.2))))) (by kernel_rfl) ?_ ?_
        · intro b_20; have H_43 := of_t H_42 b_20
          refine V_run hN hn 2 2 [4] [] ⟨[(4, .c (.val (.bool false)))], [], 2⟩ [] (by kernel_rfl) rfl rfl ap0 ?_
          have H_45 := Option.some.inj (show some false = some r from H_43); subst H_45
          refine VL_ret ?_
          refine QB_ret ?_
          refine QL_ret ?_
          refine QB_ret ?_
          exact P_to [(4, .c (.val (.bool false)))] [] [] hn (by kernel_rfl) (by kernel_rfl) rfl rfl rfl (QF_retS (by kernel_rfl) (by kernel_rfl) rfl)
        · intro b_20; have H_44 := of_f H_42 b_20
          refine V_run hN hn 1 2 [2, 3, 5, 37] [0, 1] ⟨[(2, .c (.h 0)), (3, .c (.h 1)), (5, .c (.val (.int .i64 i_13))), (37, .c (.val (.bool (!(((List.getD a_2 (Int.toNat i_13) ((0 : Int), ((0 : Int), ByteArray.empty))).1 == (List.getD b_4 (Int.toNat i_13) ((0 : Int), ((0 : Int), ByteArray.empty))).1) && (((List.getD a_2 (Int.toNat i_13) ((0 : Int), ((0 : Int), ByteArray.empty))).2.1 == (List.getD b_4 (Int.toNat i_13) ((0 : Int), ((0 : Int), ByteArray.empty))).2.1) && (ByteArray.toList (List.getD a_2 (Int.toNat i_13) ((0 : Int), ((0 : Int), ByteArray.empty))).2.2 == ByteArray.toList (List.getD b_4 (Int.toNat i_13) ((0 : Int), ((0 : Int), ByteArray.empty))).2.2)))))))], [(0, .box [.val (.int .i64 a_1), .imm (.slice (.pair (.int .i64) (.pair (.int .i64) .str))) a_2]), (1, .box [.val (.int .i64 b_3), .imm (.slice (.pair (.int .i64) (.pair (.int .i64) .str))) b_4])], 2⟩ [] (by kernel_rfl) rfl rfl ap0 ?_
          refine VL_nil (QB_end ?_)
          refine V_run hN hn 1 2 [2, 3, 5] [0, 1] ⟨[(2, .c (.h 0)), (3, .c (.h 1)), (5, .c (.val (.int .i64 (IntKind.wrap .i64 (i_13 + (1 : Int))))))], [(0, .box [.val (.int .i64 a_1), .imm (.slice (.pair (.int .i64) (.pair (.int .i64) .str))) a_2]), (1, .box [.val (.int .i64 b_3), .imm (.slice (.pair (.int .i64) (.pair (.int .i64) .str))) b_4])], 2⟩ [] (by kernel_rfl) rfl rfl ap0 ?_
          refine VL_nil ?_
          exact V_roundEnd (IntKind.wrap .i64 (i_13 + (1 : Int))) H_44 [(0, 0), (1, 1)] hn (by kernel_rfl) (by kernel_rfl) rfl rfl rfl
      · intro b_16; have H_41 := of_f H_39 b_16
        refine VL_exit ?_
        refine QL_exit ?_
        refine QB_here ?_
        refine V_run hN hn 2 2 [4] [] ⟨[(4, .c (.val (.bool true)))], [], 2⟩ [] (by kernel_rfl) rfl rfl ap0 ?_
        have H_46 := Option.some.inj (show some true = some r from H_41); subst H_46
        refine VL_ret ?_
        exact P_to [(4, .c (.val (.bool true)))] [] [] hn (by kernel_rfl) (by kernel_rfl) rfl rfl rfl (QF_retS (by kernel_rfl) (by kernel_rfl) rfl)

theorem palinoderef11_Cells_spec (K : Nat) (d_1 : Int) (d_2 : (List (Int × (Int × ByteArray)))) (r : (List (Int × Int))) (H : palinoderef11_Cells K d_1 d_2 = some r) : Spec Try.prog 19 0 [.agg [.val (.int .i64 d_1), .imm (.slice (.pair (.int .i64) (.pair (.int .i64) .str))) d_2]] [] (.c (.h 9)) [(9, .row (.pair (.int .i64) (.int .u8)) r)] := by
  refine Spec_mk (fn := Try.f19) (c := (Try.f19.body).get!) Try.func19 (by kernel_rfl) rfl ?_
  intro C hN hn
  replace hN : C.N = 49 := hN
  unfold palinoderef11_Cells at H
  refine V_run hN hn 7 0 [1, 3, 4] [0] ⟨[(1, .c (.h 0)), (3, .c (.val (.slice none 0 0))), (4, .c (.val (.int .i64 (0 : Int))))], [(0, .box [.val (.int .i64 d_1), .imm (.slice (.pair (.int .i64) (.pair (.int .i64) .str))) d_2])], 1⟩ [] (by kernel_rfl) rfl rfl ap0 ?_
  refine VL_block ?_
  refine V_ghost [.nilSlot 3 (.pair (.int .i64) (.int .u8))] 1 hn [1, 3, 4] [0, 1] ⟨[(1, .c (.h 0)), (3, .c (.h 1)), (4, .c (.val (.int .i64 (0 : Int))))], [(0, .box [.val (.int .i64 d_1), .imm (.slice (.pair (.int .i64) (.pair (.int .i64) .str))) d_2]), (1, .row (.pair (.int .i64) (.int .u8)) ([] : List (Int × Int)))], 2⟩ (by kernel_rfl) rfl rfl ?_
  refine V_to [(1, .c (.h 0)), (3, .c (.h 9)), (4, .c (.val (.int .i64 (0 : Int))))] [(0, .box [.val (.int .i64 d_1), .imm (.slice (.pair (.int .i64) (.pair (.int .i64) .str))) d_2]), (9, .row (.pair (.int .i64) (.int .u8)) ([] : List (Int × Int)))] [(0, 0), (9, 1)] hn (by kernel_rfl) (by kernel_rfl) rfl rfl rfl ?_
  refine VL_loop (X := ((List (Int × Int)) × Int)) (fun x => [(1, .c (.h 0)), (3, .c (.h 9)), (4, .c (.val (.int .i64 x.2)))]) (fun x => [(0, .box [.val (.int .i64 d_1), .imm (.slice (.pair (.int .i64) (.pair (.int .i64) .str))) d_2]), (9, .row (.pair (.int .i64) (.int .u8)) x.1)]) (fun k x => palinoderef11_Cells.l0 K d_2 k x.1 x.2 = some r) K (([] : List (Int × Int)), (0 : Int)) H (fun _ h => no_none h) ?_
  intro k_44 x_44 H_87
  obtain ⟨out_43, i_4⟩ := x_44
  have H_88 : palinoderef11_Cells.l0 K d_2 (k_44 + 1) out_43 i_4 = some r := H_87
  rw [palinoderef11_Cells.l0] at H_88
  refine V_run hN hn 3 10 [1, 3, 4, 12] [0, 9] ⟨[(1, .c (.h 0)), (3, .c (.h 9)), (4, .c (.val (.int .i64 i_4))), (12, .c (.val (.bool (decide (i_4 < (((List.length d_2) : Nat) : Int))))))], [(0, .box [.val (.int .i64 d_1), .imm (.slice (.pair (.int .i64) (.pair (.int .i64) .str))) d_2]), (9, .row (.pair (.int .i64) (.int .u8)) out_43)], 10⟩ [] (by kernel_rfl) rfl rfl ap0 ?_
  refine VL_cond ((decide (i_4 < (((List.length d_2) : Nat) : Int)))) (by kernel_rfl) ?_ ?_
  · intro b_46; have H_89 := of_t H_88 b_46
    refine V_run hN hn 2 10 [1, 3, 4, 12] [0, 9] ⟨[(1, .c (.h 0)), (3, .c (.h 9)), (4, .c (.val (.int .i64 i_4))), (12, .c (.val (.bool (decide (i_4 < (((List.length d_2) : Nat) : Int))))))], [(0, .box [.val (.int .i64 d_1), .imm (.slice (.pair (.int .i64) (.pair (.int .i64) .str))) d_2]), (9, .row (.pair (.int .i64) (.int .u8)) out_43)], 10⟩ [] (by kernel_rfl) rfl rfl ap0 ?_
    obtain ⟨q_91, H_92, H_93⟩ := of_bind H_89
    refine V_cut (Y := (List (Int × Int))) (R := (List (Int × Int))) q_91 (fun y => y) (fun y => [(1, .c (.h 0)), (3, .c (.h 16)), (4, .c (.val (.int .i64 i_4)))]) (fun y => [(0, .box [.val (.int .i64 d_1), .imm (.slice (.pair (.int .i64) (.pair (.int .i64) .str))) d_2]), (16, .row (.pair (.int .i64) (.int .u8)) y)]) ?_ ?_
    · skip
      refine VL_block ?_
      obtain ⟨c_48, H_95⟩ := of_if H_92
      refine V_run hN hn 5 10 [1, 3, 4, 5, 6] [0, 9, 10] ⟨[(1, .c (.h 0)), (3, .c (.h 9)), (4, .c (.val (.int .i64 i_4))), (5, .c (.h 10)), (6, .c (.val (.int .i64 (0 : Int))))], [(0, .box [.val (.int .i64 d_1), .imm (.slice (.pair (.int .i64) (.pair (.int .i64) .str))) d_2]), (9, .row (.pair (.int .i64) (.int .u8)) out_43), (10, .box [.val (.int .i64 (List.getD d_2 (Int.toNat i_4) ((0 : Int), ((0 : Int), ByteArray.empty))).1), .val (.int .i64 (List.getD d_2 (Int.toNat i_4) ((0 : Int), ((0 : Int), ByteArray.empty))).2.1), .val (.string (List.getD d_2 (Int.toNat i_4) ((0 : Int), ((0 : Int), ByteArray.empty))).2.2)])], 11⟩ [0 ≤ i_4, i_4 < (((List.length d_2) : Nat) : Int)] (by kernel_rfl) rfl rfl (ap2 c_48.1 (ap1 c_48.2)) ?_
      obtain ⟨q_96, H_97, H_98⟩ := of_bind H_95
      refine V_cut (Y := (List (Int × Int))) (R := (List (Int × Int))) q_96 (fun y => y) (fun y => [(1, .c (.h 0)), (3, .c (.h 13)), (4, .c (.val (.int .i64 i_4))), (5, .c (.h 10))]) (fun y => [(0, .box [.val (.int .i64 d_1), .imm (.slice (.pair (.int .i64) (.pair (.int .i64) .str))) d_2]), (10, .box [.val (.int .i64 (List.getD d_2 (Int.toNat i_4) ((0 : Int), ((0 : Int), ByteArray.empty))).1), .val (.int .i64 (List.getD d_2 (Int.toNat i_4) ((0 : Int), ((0 : Int), ByteArray.empty))).2.1), .val (.string (List.getD d_2 (Int.toNat i_4) ((0 : Int), ((0 : Int), ByteArray.empty))).2.2)]), (13, .row (.pair (.int .i64) (.int .u8)) y)]) ?_ ?_
      · skip
        refine VL_block ?_
        refine V_to [(1, .c (.h 0)), (3, .c (.h 13)), (4, .c (.val (.int .i64 i_4))), (5, .c (.h 10)), (6, .c (.val (.int .i64 (0 : Int))))] [(0, .box [.val (.int .i64 d_1), .imm (.slice (.pair (.int .i64) (.pair (.int .i64) .str))) d_2]), (10, .box [.val (.int .i64 (List.getD d_2 (Int.toNat i_4) ((0 : Int), ((0 : Int), ByteArray.empty))).1), .val (.int .i64 (List.getD d_2 (Int.toNat i_4) ((0 : Int), ((0 : Int), ByteArray.empty))).2.1), .val (.string (List.getD d_2 (Int.toNat i_4) ((0 : Int), ((0 : Int), ByteArray.empty))).2.2)]), (13, .row (.pair (.int .i64) (.int .u8)) out_43)] [(0, 0), (10, 10), (13, 9)] hn (by kernel_rfl) (by kernel_rfl) rfl rfl rfl ?_
        refine VL_loop (X := ((List (Int × Int)) × Int)) (fun x => [(1, .c (.h 0)), (3, .c (.h 13)), (4, .c (.val (.int .i64 i_4))), (5, .c (.h 10)), (6, .c (.val (.int .i64 x.2)))]) (fun x => [(0, .box [.val (.int .i64 d_1), .imm (.slice (.pair (.int .i64) (.pair (.int .i64) .str))) d_2]), (10, .box [.val (.int .i64 (List.getD d_2 (Int.toNat i_4) ((0 : Int), ((0 : Int), ByteArray.empty))).1), .val (.int .i64 (List.getD d_2 (Int.toNat i_4) ((0 : Int), ((0 : Int), ByteArray.empty))).2.1), .val (.string (List.getD d_2 (Int.toNat i_4) ((0 : Int), ((0 : Int), ByteArray.empty))).2.2)]), (13, .row (.pair (.int .i64) (.int .u8)) x.1)]) (fun k x => palinoderef11_Cells.l1 K d_2 i_4 k x.1 x.2 = some q_96) K (out_43, (0 : Int)) H_97 (fun _ h => no_none h) ?_
        intro k_57 x_57 H_100
        obtain ⟨out_56, k_49⟩ := x_57
        have H_101 : palinoderef11_Cells.l1 K d_2 i_4 (k_57 + 1) out_56 k_49 = some q_96 := H_100
        rw [palinoderef11_Cells.l1] at H_101
        refine V_run hN hn 3 14 [1, 3, 4, 5, 6, 24] [0, 10, 13] ⟨[(1, .c (.h 0)), (3, .c (.h 13)), (4, .c (.val (.int .i64 i_4))), (5, .c (.h 10)), (6, .c (.val (.int .i64 k_49))), (24, .c (.val (.bool (decide (k_49 < (((ByteArray.size (List.getD d_2 (Int.toNat i_4) ((0 : Int), ((0 : Int), ByteArray.empty))).2.2) : Nat) : Int))))))], [(0, .box [.val (.int .i64 d_1), .imm (.slice (.pair (.int .i64) (.pair (.int .i64) .str))) d_2]), (10, .box [.val (.int .i64 (List.getD d_2 (Int.toNat i_4) ((0 : Int), ((0 : Int), ByteArray.empty))).1), .val (.int .i64 (List.getD d_2 (Int.toNat i_4) ((0 : Int), ((0 : Int), ByteArray.empty))).2.1), .val (.string (List.getD d_2 (Int.toNat i_4) ((0 : Int), ((0 : Int), ByteArray.empty))).2.2)]), (13, .row (.pair (.int .i64) (.int .u8)) out_56)], 14⟩ [] (by kernel_rfl) rfl rfl ap0 ?_
        refine VL_cond ((decide (k_49 < (((ByteArray.size (List.getD d_2 (Int.toNat i_4) ((0 : Int), ((0 : Int), ByteArray.empty))).2.2) : Nat) : Int)))) (by kernel_rfl) ?_ ?_
        · intro b_59; have H_102 := of_t H_101 b_59
          refine V_run hN hn 2 14 [1, 3, 4, 5, 6, 24] [0, 10, 13] ⟨[(1, .c (.h 0)), (3, .c (.h 13)), (4, .c (.val (.int .i64 i_4))), (5, .c (.h 10)), (6, .c (.val (.int .i64 k_49))), (24, .c (.val (.bool (decide (k_49 < (((ByteArray.size (List.getD d_2 (Int.toNat i_4) ((0 : Int), ((0 : Int), ByteArray.empty))).2.2) : Nat) : Int))))))], [(0, .box [.val (.int .i64 d_1), .imm (.slice (.pair (.int .i64) (.pair (.int .i64) .str))) d_2]), (10, .box [.val (.int .i64 (List.getD d_2 (Int.toNat i_4) ((0 : Int), ((0 : Int), ByteArray.empty))).1), .val (.int .i64 (List.getD d_2 (Int.toNat i_4) ((0 : Int), ((0 : Int), ByteArray.empty))).2.1), .val (.string (List.getD d_2 (Int.toNat i_4) ((0 : Int), ((0 : Int), ByteArray.empty))).2.2)]), (13, .row (.pair (.int .i64) (.int .u8)) out_56)], 14⟩ [] (by kernel_rfl) rfl rfl ap0 ?_
          refine VL_block ?_
          obtain ⟨c_61, H_104⟩ := of_if H_102
          refine V_run hN hn 1 14 [1, 3, 4, 5, 6] [0, 10, 15] ⟨[(1, .c (.h 0)), (3, .c (.h 15)), (4, .c (.val (.int .i64 i_4))), (5, .c (.h 10)), (6, .c (.val (.int .i64 k_49)))], [(0, .box [.val (.int .i64 d_1), .imm (.slice (.pair (.int .i64) (.pair (.int .i64) .str))) d_2]), (10, .box [.val (.int .i64 (List.getD d_2 (Int.toNat i_4) ((0 : Int), ((0 : Int), ByteArray.empty))).1), .val (.int .i64 (List.getD d_2 (Int.toNat i_4) ((0 : Int), ((0 : Int), ByteArray.empty))).2.1), .val (.string (List.getD d_2 (Int.toNat i_4) ((0 : Int), ((0 : Int), ByteArray.empty))).2.2)]), (15, .row (.pair (.int .i64) (.int .u8)) (out_56 ++ ([((-1 : Int), (bt (List.getD d_2 (Int.toNat i_4) ((0 : Int), ((0 : Int), ByteArray.empty))).2.2 k_49))] : List (Int × Int))))], 16⟩ [0 ≤ k_49, k_49 < (((ByteArray.size (List.getD d_2 (Int.toNat i_4) ((0 : Int), ((0 : Int), ByteArray.empty))).2.2) : Nat) : Int), (List.length out_56 + List.length ([((-1 : Int), (bt (List.getD d_2 (Int.toNat i_4) ((0 : Int), ((0 : Int), ByteArray.empty))).2.2 k_49))] : List (Int × Int))) * 16 ≤ 140737488355328] (by kernel_rfl) rfl rfl (ap2 c_61.1 (ap2 c_61.2.1 (ap1 c_61.2.2))) ?_
          refine VL_nil (QB_end ?_)
          refine V_run hN hn 1 16 [1, 3, 4, 5, 6] [0, 10, 15] ⟨[(1, .c (.h 0)), (3, .c (.h 15)), (4, .c (.val (.int .i64 i_4))), (5, .c (.h 10)), (6, .c (.val (.int .i64 (IntKind.wrap .i64 (k_49 + (1 : Int))))))], [(0, .box [.val (.int .i64 d_1), .imm (.slice (.pair (.int .i64) (.pair (.int .i64) .str))) d_2]), (10, .box [.val (.int .i64 (List.getD d_2 (Int.toNat i_4) ((0 : Int), ((0 : Int), ByteArray.empty))).1), .val (.int .i64 (List.getD d_2 (Int.toNat i_4) ((0 : Int), ((0 : Int), ByteArray.empty))).2.1), .val (.string (List.getD d_2 (Int.toNat i_4) ((0 : Int), ((0 : Int), ByteArray.empty))).2.2)]), (15, .row (.pair (.int .i64) (.int .u8)) (out_56 ++ ([((-1 : Int), (bt (List.getD d_2 (Int.toNat i_4) ((0 : Int), ((0 : Int), ByteArray.empty))).2.2 k_49))] : List (Int × Int))))], 16⟩ [] (by kernel_rfl) rfl rfl ap0 ?_
          refine VL_nil ?_
          exact V_roundEnd ((out_56 ++ ([((-1 : Int), (bt (List.getD d_2 (Int.toNat i_4) ((0 : Int), ((0 : Int), ByteArray.empty))).2.2 k_49))] : List (Int × Int))), (IntKind.wrap .i64 (k_49 + (1 : Int)))) H_104 [(0, 0), (10, 10), (13, 15)] hn (by kernel_rfl) (by kernel_rfl) rfl rfl rfl
        · intro b_59; have H_103 := of_f H_101 b_59
          refine VL_exit ?_
          refine QL_exit ?_
          refine QB_here ?_
          have H_105 := Option.some.inj (show some out_56 = some q_96 from H_103); subst H_105
          refine VL_nil ?_
          exact QP_end out_56 rfl [(0, 0), (10, 10), (13, 13)] hn (by kernel_rfl) (by kernel_rfl) rfl rfl rfl
      · intro y_99 hy; subst hy
        skip
        skip
        refine V_run hN hn 2 14 [1, 3, 4, 5, 7] [0, 10, 13] ⟨[(1, .c (.h 0)), (3, .c (.h 13)), (4, .c (.val (.int .i64 i_4))), (5, .c (.h 10)), (7, .c (.val (.int .i64 (List.getD d_2 (Int.toNat i_4) ((0 : Int), ((0 : Int), ByteArray.empty))).1)))], [(0, .box [.val (.int .i64 d_1), .imm (.slice (.pair (.int .i64) (.pair (.int .i64) .str))) d_2]), (10, .box [.val (.int .i64 (List.getD d_2 (Int.toNat i_4) ((0 : Int), ((0 : Int), ByteArray.empty))).1), .val (.int .i64 (List.getD d_2 (Int.toNat i_4) ((0 : Int), ((0 : Int), ByteArray.empty))).2.1), .val (.string (List.getD d_2 (Int.toNat i_4) ((0 : Int), ((0 : Int), ByteArray.empty))).2.2)]), (13, .row (.pair (.int .i64) (.int .u8)) y_99)], 14⟩ [] (by kernel_rfl) rfl rfl ap0 ?_
        refine VL_block ?_
        refine V_to [(1, .c (.h 0)), (3, .c (.h 16)), (4, .c (.val (.int .i64 i_4))), (5, .c (.h 10)), (7, .c (.val (.int .i64 (List.getD d_2 (Int.toNat i_4) ((0 : Int), ((0 : Int), ByteArray.empty))).1)))] [(0, .box [.val (.int .i64 d_1), .imm (.slice (.pair (.int .i64) (.pair (.int .i64) .str))) d_2]), (10, .box [.val (.int .i64 (List.getD d_2 (Int.toNat i_4) ((0 : Int), ((0 : Int), ByteArray.empty))).1), .val (.int .i64 (List.getD d_2 (Int.toNat i_4) ((0 : Int), ((0 : Int), ByteArray.empty))).2.1), .val (.string (List.getD d_2 (Int.toNat i_4) ((0 : Int), ((0 : Int), ByteArray.empty))).2.2)]), (16, .row (.pair (.int .i64) (.int .u8)) y_99)] [(0, 0), (10, 10), (16, 13)] hn (by kernel_rfl) (by kernel_rfl) rfl rfl rfl ?_
        refine VL_loop (X := ((List (Int × Int)) × Int)) (fun x => [(1, .c (.h 0)), (3, .c (.h 16)), (4, .c (.val (.int .i64 i_4))), (5, .c (.h 10)), (7, .c (.val (.int .i64 x.2)))]) (fun x => [(0, .box [.val (.int .i64 d_1), .imm (.slice (.pair (.int .i64) (.pair (.int .i64) .str))) d_2]), (10, .box [.val (.int .i64 (List.getD d_2 (Int.toNat i_4) ((0 : Int), ((0 : Int), ByteArray.empty))).1), .val (.int .i64 (List.getD d_2 (Int.toNat i_4) ((0 : Int), ((0 : Int), ByteArray.empty))).2.1), .val (.string (List.getD d_2 (Int.toNat i_4) ((0 : Int), ((0 : Int), ByteArray.empty))).2.2)]), (16, .row (.pair (.int .i64) (.int .u8)) x.1)]) (fun k x => palinoderef11_Cells.l2 K d_2 i_4 k x.1 x.2 = some q_91) K (y_99, (List.getD d_2 (Int.toNat i_4) ((0 : Int), ((0 : Int), ByteArray.empty))).1) H_98 (fun _ h => no_none h) ?_
        intro k_73 x_73 H_106
        obtain ⟨out_72, k_65⟩ := x_73
        have H_107 : palinoderef11_Cells.l2 K d_2 i_4 (k_73 + 1) out_72 k_65 = some q_91 := H_106
        rw [palinoderef11_Cells.l2] at H_107
        refine V_run hN hn 3 17 [1, 3, 4, 5, 7, 40] [0, 10, 16] ⟨[(1, .c (.h 0)), (3, .c (.h 16)), (4, .c (.val (.int .i64 i_4))), (5, .c (.h 10)), (7, .c (.val (.int .i64 k_65))), (40, .c (.val (.bool (decide (k_65 < (List.getD d_2 (Int.toNat i_4) ((0 : Int), ((0 : Int), ByteArray.empty))).2.1)))))], [(0, .box [.val (.int .i64 d_1), .imm (.slice (.pair (.int .i64) (.pair (.int .i64) .str))) d_2]), (10, .box [.val (.int .i64 (List.getD d_2 (Int.toNat i_4) ((0 : Int), ((0 : Int), ByteArray.empty))).1), .val (.int .i64 (List.getD d_2 (Int.toNat i_4) ((0 : Int), ((0 : Int), ByteArray.empty))).2.1), .val (.string (List.getD d_2 (Int.toNat i_4) ((0 : Int), ((0 : Int), ByteArray.empty))).2.2)]), (16, .row (.pair (.int .i64) (.int .u8)) out_72)], 17⟩ [] (by kernel_rfl) rfl rfl ap0 ?_
        refine VL_cond ((decide (k_65 < (List.getD d_2 (Int.toNat i_4) ((0 : Int), ((0 : Int), ByteArray.empty))).2.1))) (by kernel_rfl) ?_ ?_
        · intro b_75; have H_108 := of_t H_107 b_75
          refine V_run hN hn 2 17 [1, 3, 4, 5, 7, 40] [0, 10, 16] ⟨[(1, .c (.h 0)), (3, .c (.h 16)), (4, .c (.val (.int .i64 i_4))), (5, .c (.h 10)), (7, .c (.val (.int .i64 k_65))), (40, .c (.val (.bool (decide (k_65 < (List.getD d_2 (Int.toNat i_4) ((0 : Int), ((0 : Int), ByteArray.empty))).2.1)))))], [(0, .box [.val (.int .i64 d_1), .imm (.slice (.pair (.int .i64) (.pair (.int .i64) .str))) d_2]), (10, .box [.val (.int .i64 (List.getD d_2 (Int.toNat i_4) ((0 : Int), ((0 : Int), ByteArray.empty))).1), .val (.int .i64 (List.getD d_2 (Int.toNat i_4) ((0 : Int), ((0 : Int), ByteArray.empty))).2.1), .val (.string (List.getD d_2 (Int.toNat i_4) ((0 : Int), ((0 : Int), ByteArray.empty))).2.2)]), (16, .row (.pair (.int .i64) (.int .u8)) out_72)], 17⟩ [] (by kernel_rfl) rfl rfl ap0 ?_
          refine VL_block ?_
          obtain ⟨c_77, H_110⟩ := of_if H_108
          refine V_run hN hn 1 17 [1, 3, 4, 5, 7] [0, 10, 18] ⟨[(1, .c (.h 0)), (3, .c (.h 18)), (4, .c (.val (.int .i64 i_4))), (5, .c (.h 10)), (7, .c (.val (.int .i64 k_65)))], [(0, .box [.val (.int .i64 d_1), .imm (.slice (.pair (.int .i64) (.pair (.int .i64) .str))) d_2]), (10, .box [.val (.int .i64 (List.getD d_2 (Int.toNat i_4) ((0 : Int), ((0 : Int), ByteArray.empty))).1), .val (.int .i64 (List.getD d_2 (Int.toNat i_4) ((0 : Int), ((0 : Int), ByteArray.empty))).2.1), .val (.string (List.getD d_2 (Int.toNat i_4) ((0 : Int), ((0 : Int), ByteArray.empty))).2.2)]), (18, .row (.pair (.int .i64) (.int .u8)) (out_72 ++ ([(k_65, (0 : Int))] : List (Int × Int))))], 19⟩ [(List.length out_72 + List.length ([(k_65, (0 : Int))] : List (Int × Int))) * 16 ≤ 140737488355328] (by kernel_rfl) rfl rfl (ap1 c_77) ?_
          refine VL_nil (QB_end ?_)
          refine V_run hN hn 1 19 [1, 3, 4, 5, 7] [0, 10, 18] ⟨[(1, .c (.h 0)), (3, .c (.h 18)), (4, .c (.val (.int .i64 i_4))), (5, .c (.h 10)), (7, .c (.val (.int .i64 (IntKind.wrap .i64 (k_65 + (1 : Int))))))], [(0, .box [.val (.int .i64 d_1), .imm (.slice (.pair (.int .i64) (.pair (.int .i64) .str))) d_2]), (10, .box [.val (.int .i64 (List.getD d_2 (Int.toNat i_4) ((0 : Int), ((0 : Int), ByteArray.empty))).1), .val (.int .i64 (List.getD d_2 (Int.toNat i_4) ((0 : Int), ((0 : Int), ByteArray.empty))).2.1), .val (.string (List.getD d_2 (Int.toNat i_4) ((0 : Int), ((0 : Int), ByteArray.empty))).2.2)]), (18, .row (.pair (.int .i64) (.int .u8)) (out_72 ++ ([(k_65, (0 : Int))] : List (Int × Int))))], 19⟩ [] (by kernel_rfl) rfl rfl ap0 ?_
          refine VL_nil ?_
          exact V_roundEnd ((out_72 ++ ([(k_65, (0 : Int))] : List (Int × Int))), (IntKind.wrap .i64 (k_65 + (1 : Int)))) H_110 [(0, 0), (10, 10), (16, 18)] hn (by kernel_rfl) (by kernel_rfl) rfl rfl rfl
        · intro b_75; have H_109 := of_f H_107 b_75
          refine VL_exit ?_
          refine QL_exit ?_
          refine QB_here ?_
          refine VL_nil (QB_end ?_)
          have H_111 := Option.some.inj (show some out_72 = some q_91 from H_109); subst H_111
          refine VL_nil ?_
          exact QP_end out_72 rfl [(0, 0), (16, 16)] hn (by kernel_rfl) (by kernel_rfl) rfl rfl rfl
    · intro y_94 hy; subst hy
      skip
      skip
      refine V_run hN hn 1 17 [1, 3, 4] [0, 16] ⟨[(1, .c (.h 0)), (3, .c (.h 16)), (4, .c (.val (.int .i64 (IntKind.wrap .i64 (i_4 + (1 : Int))))))], [(0, .box [.val (.int .i64 d_1), .imm (.slice (.pair (.int .i64) (.pair (.int .i64) .str))) d_2]), (16, .row (.pair (.int .i64) (.int .u8)) y_94)], 17⟩ [] (by kernel_rfl) rfl rfl ap0 ?_
      refine VL_nil ?_
      exact V_roundEnd (y_94, (IntKind.wrap .i64 (i_4 + (1 : Int)))) H_93 [(0, 0), (9, 16)] hn (by kernel_rfl) (by kernel_rfl) rfl rfl rfl
  · intro b_46; have H_90 := of_f H_88 b_46
    refine VL_exit ?_
    refine QL_exit ?_
    refine QB_here ?_
    refine V_run hN hn 2 10 [2] [9] ⟨[(2, .c (.h 9))], [(9, .row (.pair (.int .i64) (.int .u8)) out_43)], 10⟩ [] (by kernel_rfl) rfl rfl ap0 ?_
    have H_112 := Option.some.inj (show some out_43 = some r from H_90); subst H_112
    refine VL_ret ?_
    exact P_to [(2, .c (.h 9))] [(9, .row (.pair (.int .i64) (.int .u8)) out_43)] [(9, 9)] hn (by kernel_rfl) (by kernel_rfl) rfl rfl rfl (QF_retS (by kernel_rfl) (by kernel_rfl) rfl)

theorem palinoderef11_Apply_rg_spec (K : Nat) (l_1 : (List (Int × Int))) (s_2 : ByteArray) (r : ByteArray) (H : palinoderef11_Apply_rg K l_1 s_2 = some r) : Spec Try.prog 20 1 [.c (.h 0), .c (.val (.string s_2))] [(0, .row (.pair (.int .i64) (.int .u8)) l_1)] (.c (.val (.string r))) [(0, .row (.pair (.int .i64) (.int .u8)) l_1)] := by
  refine Spec_mk (fn := Try.f20) (c := (Try.f20.body).get!) Try.func20 (by kernel_rfl) rfl ?_
  intro C hN hn
  replace hN : C.N = 39 := hN
  unfold palinoderef11_Apply_rg at H
  refine V_run hN hn 7 1 [0, 1, 5, 6] [0] ⟨[(0, .c (.h 0)), (1, .c (.val (.string s_2))), (5, .c (.val (.slice none 0 0))), (6, .c (.val (.int .i64 (0 : Int))))], [(0, .row (.pair (.int .i64) (.int .u8)) l_1)], 1⟩ [] (by kernel_rfl) rfl rfl ap0 ?_
  refine VL_block ?_
  refine V_ghost [.nilSlot 5 (.int .u8)] 1 hn [0, 1, 5, 6] [0, 1] ⟨[(0, .c (.h 0)), (1, .c (.val (.string s_2))), (5, .c (.h 1)), (6, .c (.val (.int .i64 (0 : Int))))], [(0, .row (.pair (.int .i64) (.int .u8)) l_1), (1, .row (.int .u8) ([] : List Int))], 2⟩ (by kernel_rfl) rfl rfl ?_
  refine V_to [(0, .c (.h 0)), (1, .c (.val (.string s_2))), (5, .c (.h 4)), (6, .c (.val (.int .i64 (0 : Int))))] [(0, .row (.pair (.int .i64) (.int .u8)) l_1), (4, .row (.int .u8) ([] : List Int))] [(4, 1)] hn (by kernel_rfl) (by kernel_rfl) rfl rfl rfl ?_
  refine VL_loop (X := ((List Int) × Int)) (fun x => [(0, .c (.h 0)), (1, .c (.val (.string s_2))), (5, .c (.h 4)), (6, .c (.val (.int .i64 x.2)))]) (fun x => [(0, .row (.pair (.int .i64) (.int .u8)) l_1), (4, .row (.int .u8) x.1)]) (fun k x => palinoderef11_Apply_rg.l0 K l_1 s_2 k x.1 x.2 = some r) K (([] : List Int), (0 : Int)) H (fun _ h => no_none h) ?_
  intro k_17 x_17 H_29
  obtain ⟨b_16, i_4⟩ := x_17
  have H_30 : palinoderef11_Apply_rg.l0 K l_1 s_2 (k_17 + 1) b_16 i_4 = some r := H_29
  rw [palinoderef11_Apply_rg.l0] at H_30
  refine V_run hN hn 3 5 [0, 1, 5, 6, 10] [0, 4] ⟨[(0, .c (.h 0)), (1, .c (.val (.string s_2))), (5, .c (.h 4)), (6, .c (.val (.int .i64 i_4))), (10, .c (.val (.bool (decide (i_4 < (((List.length l_1) : Nat) : Int))))))], [(0, .row (.pair (.int .i64) (.int .u8)) l_1), (4, .row (.int .u8) b_16)], 5⟩ [] (by kernel_rfl) rfl rfl ap0 ?_
  refine VL_cond ((decide (i_4 < (((List.length l_1) : Nat) : Int)))) (by kernel_rfl) ?_ ?_
  · intro b_19; have H_31 := of_t H_30 b_19
    refine V_run hN hn 2 5 [0, 1, 5, 6, 10] [0, 4] ⟨[(0, .c (.h 0)), (1, .c (.val (.string s_2))), (5, .c (.h 4)), (6, .c (.val (.int .i64 i_4))), (10, .c (.val (.bool (decide (i_4 < (((List.length l_1) : Nat) : Int))))))], [(0, .row (.pair (.int .i64) (.int .u8)) l_1), (4, .row (.int .u8) b_16)], 5⟩ [] (by kernel_rfl) rfl rfl ap0 ?_
    refine VL_block ?_
    obtain ⟨c_21, H_33⟩ := of_if H_31
    refine V_run hN hn 2 5 [0, 1, 5, 6, 18] [0, 4] ⟨[(0, .c (.h 0)), (1, .c (.val (.string s_2))), (5, .c (.h 4)), (6, .c (.val (.int .i64 i_4))), (18, .c (.val (.bool (decide ((List.getD l_1 (Int.toNat i_4) ((0 : Int), (0 : Int))).1 < (0 : Int))))))], [(0, .row (.pair (.int .i64) (.int .u8)) l_1), (4, .row (.int .u8) b_16)], 5⟩ [0 ≤ i_4, i_4 < (((List.length l_1) : Nat) : Int)] (by kernel_rfl) rfl rfl (ap2 c_21.1 (ap1 c_21.2)) ?_
    refine VL_cond ((decide ((List.getD l_1 (Int.toNat i_4) ((0 : Int), (0 : Int))).1 < (0 : Int)))) (by kernel_rfl) ?_ ?_
    · intro b_22; have H_34 := of_t H_33 b_22
      obtain ⟨c_23, H_36⟩ := of_if H_34
      refine V_run hN hn 1 5 [0, 1, 5, 6] [0, 6] ⟨[(0, .c (.h 0)), (1, .c (.val (.string s_2))), (5, .c (.h 6)), (6, .c (.val (.int .i64 i_4)))], [(0, .row (.pair (.int .i64) (.int .u8)) l_1), (6, .row (.int .u8) (b_16 ++ ([(List.getD l_1 (Int.toNat i_4) ((0 : Int), (0 : Int))).2] : List Int)))], 7⟩ [0 ≤ i_4, i_4 < (((List.length l_1) : Nat) : Int), (List.length b_16 + List.length ([(List.getD l_1 (Int.toNat i_4) ((0 : Int), (0 : Int))).2] : List Int)) * 1 ≤ 140737488355328] (by kernel_rfl) rfl rfl (ap2 c_21.1 (ap2 c_21.2 (ap1 c_23))) ?_
      refine VL_nil (QB_end ?_)
      refine V_run hN hn 1 7 [0, 1, 5, 6] [0, 6] ⟨[(0, .c (.h 0)), (1, .c (.val (.string s_2))), (5, .c (.h 6)), (6, .c (.val (.int .i64 (IntKind.wrap .i64 (i_4 + (1 : Int))))))], [(0, .row (.pair (.int .i64) (.int .u8)) l_1), (6, .row (.int .u8) (b_16 ++ ([(List.getD l_1 (Int.toNat i_4) ((0 : Int), (0 : Int))).2] : List Int)))], 7⟩ [] (by kernel_rfl) rfl rfl ap0 ?_
      refine VL_nil ?_
      exact V_roundEnd ((b_16 ++ ([(List.getD l_1 (Int.toNat i_4) ((0 : Int), (0 : Int))).2] : List Int)), (IntKind.wrap .i64 (i_4 + (1 : Int)))) H_36 [(4, 6)] hn (by kernel_rfl) (by kernel_rfl) rfl rfl rfl
    · intro b_22; have H_35 := of_f H_33 b_22
      obtain ⟨c_25, H_37⟩ := of_if H_35
      refine V_run hN hn 1 5 [0, 1, 5, 6] [0, 6] ⟨[(0, .c (.h 0)), (1, .c (.val (.string s_2))), (5, .c (.h 6)), (6, .c (.val (.int .i64 i_4)))], [(0, .row (.pair (.int .i64) (.int .u8)) l_1), (6, .row (.int .u8) (b_16 ++ ([(bt s_2 (List.getD l_1 (Int.toNat i_4) ((0 : Int), (0 : Int))).1)] : List Int)))], 7⟩ [0 ≤ i_4, i_4 < (((List.length l_1) : Nat) : Int), 0 ≤ (List.getD l_1 (Int.toNat i_4) ((0 : Int), (0 : Int))).1, (List.getD l_1 (Int.toNat i_4) ((0 : Int), (0 : Int))).1 < (((ByteArray.size s_2) : Nat) : Int), (List.length b_16 + List.length ([(bt s_2 (List.getD l_1 (Int.toNat i_4) ((0 : Int), (0 : Int))).1)] : List Int)) * 1 ≤ 140737488355328] (by kernel_rfl) rfl rfl (ap2 c_21.1 (ap2 c_21.2 (ap2 c_25.1 (ap2 c_25.2.1 (ap1 c_25.2.2))))) ?_
      refine VL_nil (QB_end ?_)
      refine V_run hN hn 1 7 [0, 1, 5, 6] [0, 6] ⟨[(0, .c (.h 0)), (1, .c (.val (.string s_2))), (5, .c (.h 6)), (6, .c (.val (.int .i64 (IntKind.wrap .i64 (i_4 + (1 : Int))))))], [(0, .row (.pair (.int .i64) (.int .u8)) l_1), (6, .row (.int .u8) (b_16 ++ ([(bt s_2 (List.getD l_1 (Int.toNat i_4) ((0 : Int), (0 : Int))).1)] : List Int)))], 7⟩ [] (by kernel_rfl) rfl rfl ap0 ?_
      refine VL_nil ?_
      exact V_roundEnd ((b_16 ++ ([(bt s_2 (List.getD l_1 (Int.toNat i_4) ((0 : Int), (0 : Int))).1)] : List Int)), (IntKind.wrap .i64 (i_4 + (1 : Int)))) H_37 [(4, 6)] hn (by kernel_rfl) (by kernel_rfl) rfl rfl rfl
  · intro b_19; have H_32 := of_f H_30 b_19
    refine VL_exit ?_
    refine QL_exit ?_
    refine QB_here ?_
    refine V_run hN hn 2 5 [4] [0] ⟨[(4, .c (.val (.string (ofBytes b_16))))], [(0, .row (.pair (.int .i64) (.int .u8)) l_1)], 5⟩ [] (by kernel_rfl) rfl rfl ap0 ?_
    have H_38 := Option.some.inj (show some (ofBytes b_16) = some r from H_32); subst H_38
    refine VL_ret ?_
    exact P_to [(4, .c (.val (.string (ofBytes b_16))))] [(0, .row (.pair (.int .i64) (.int .u8)) l_1)] [] hn (by kernel_rfl) (by kernel_rfl) rfl rfl rfl (QF_retS (by kernel_rfl) (by kernel_rfl) rfl)

theorem palinodelaw11_DeltaTells_spec (K : Nat) (d_1 : Int) (d_2 : (List (Int × (Int × ByteArray)))) (o_3 : Int) (o_4 : (List (Int × (Int × ByteArray)))) (s_5 : ByteArray) (r : Bool) (H : palinodelaw11_DeltaTells K d_1 d_2 o_3 o_4 s_5 = some r) : Spec Try.prog 3 0 [.agg [.val (.int .i64 d_1), .imm (.slice (.pair (.int .i64) (.pair (.int .i64) .str))) d_2], .agg [.val (.int .i64 o_3), .imm (.slice (.pair (.int .i64) (.pair (.int .i64) .str))) o_4], .c (.val (.string s_5))] [] (.c (.val (.bool r))) [] := by
  refine Spec_mk (fn := Try.f3) (c := (Try.f3.body).get!) Try.func3 (by kernel_rfl) rfl ?_
  intro C hN hn
  replace hN : C.N = 137 := hN
  unfold palinodelaw11_DeltaTells at H
  refine V_run hN hn 4 0 [2, 3, 4] [0, 1] ⟨[(2, .c (.val (.string s_5))), (3, .c (.h 0)), (4, .c (.h 1))], [(0, .box [.val (.int .i64 d_1), .imm (.slice (.pair (.int .i64) (.pair (.int .i64) .str))) d_2]), (1, .box [.val (.int .i64 o_3), .imm (.slice (.pair (.int .i64) (.pair (.int .i64) .str))) o_4])], 2⟩ [] (by kernel_rfl) rfl rfl ap0 ?_
  obtain ⟨r_7, h_8, H_118⟩ := of_bind H
  refine V_reg hN hn [(0, ⟨9, 0, [], [], .c (.val (.bool r_7)), [], [], 2⟩)] [] (calls_cons (palinodelaw11_known_spec K  r_7 h_8) (by kernel_rfl) calls_nil) 2 [2, 3, 4, 14] [0, 1] ⟨[(2, .c (.val (.string s_5))), (3, .c (.h 0)), (4, .c (.h 1)), (14, .c (.val (.bool (!r_7))))], [(0, .box [.val (.int .i64 d_1), .imm (.slice (.pair (.int .i64) (.pair (.int .i64) .str))) d_2]), (1, .box [.val (.int .i64 o_3), .imm (.slice (.pair (.int .i64) (.pair (.int .i64) .str))) o_4])], 2⟩ [] (by kernel_rfl) rfl rfl ap0 (by kernel_rfl) (by kernel_rfl) ?_
  refine VL_cond ((!r_7)) (by kernel_rfl) ?_ ?_
  · intro b_10; have H_119 := of_t H_118 b_10
    refine V_run hN hn 2 2 [6] [] ⟨[(6, .c (.val (.bool false)))], [], 2⟩ [] (by kernel_rfl) rfl rfl ap0 ?_
    have H_121 := Option.some.inj (show some false = some r from H_119); subst H_121
    refine VL_ret ?_
    exact P_to [(6, .c (.val (.bool false)))] [] [] hn (by kernel_rfl) (by kernel_rfl) rfl rfl rfl (QF_retS (by kernel_rfl) (by kernel_rfl) rfl)
  · intro b_10; have H_120 := of_f H_118 b_10
    refine V_run hN hn 3 2 [2, 3, 4, 14] [0, 1] ⟨[(2, .c (.val (.string s_5))), (3, .c (.h 0)), (4, .c (.h 1)), (14, .c (.val (.bool (!r_7))))], [(0, .box [.val (.int .i64 d_1), .imm (.slice (.pair (.int .i64) (.pair (.int .i64) .str))) d_2]), (1, .box [.val (.int .i64 o_3), .imm (.slice (.pair (.int .i64) (.pair (.int .i64) .str))) o_4])], 2⟩ [] (by kernel_rfl) rfl rfl ap0 ?_
    obtain ⟨q_122, H_123, H_124⟩ := of_bind H_120
    refine V_cut (Y := Bool) (R := Bool) q_122 (fun y => y) (fun y => [(2, .c (.val (.string s_5))), (3, .c (.h 0)), (4, .c (.h 1)), (27, .c (.val (.bool y)))]) (fun y => [(0, .box [.val (.int .i64 d_1), .imm (.slice (.pair (.int .i64) (.pair (.int .i64) .str))) d_2]), (1, .box [.val (.int .i64 o_3), .imm (.slice (.pair (.int .i64) (.pair (.int .i64) .str))) o_4])]) ?_ ?_
    · skip
      obtain ⟨r_13, h_14, H_126⟩ := of_bind H_123
      rcases Bool.eq_false_or_eq_true ((!r_13)) with b_15 | b_15
      · have H_127 := of_t H_126 b_15
        refine V_reg hN hn [(1, ⟨10, 0, [.agg [.val (.int .i64 d_1), .imm (.slice (.pair (.int .i64) (.pair (.int .i64) .str))) d_2]], [], .c (.val (.bool r_13)), [], [], 2⟩)] [(18, true)] (calls_cons (palinodelaw11_few_spec K d_1 d_2 r_13 h_14) (by kernel_rfl) calls_nil) 2 [2, 3, 4, 27] [0, 1] ⟨[(2, .c (.val (.string s_5))), (3, .c (.h 0)), (4, .c (.h 1)), (27, .c (.val (.bool true)))], [(0, .box [.val (.int .i64 d_1), .imm (.slice (.pair (.int .i64) (.pair (.int .i64) .str))) d_2]), (1, .box [.val (.int .i64 o_3), .imm (.slice (.pair (.int .i64) (.pair (.int .i64) .str))) o_4])], 2⟩ [(!r_13) = true] (by kernel_rfl) rfl rfl (ap1 b_15) (by kernel_rfl) (by kernel_rfl) ?_
        have H_129 := Option.some.inj (show some true = some q_122 from H_127); subst H_129
        refine VL_nil ?_
        exact QP_end true rfl [(0, 0), (1, 1)] hn (by kernel_rfl) (by kernel_rfl) rfl rfl rfl
      · have H_128 := of_f H_126 b_15
        obtain ⟨r_17, h_18, H_130⟩ := of_bind H_128
        rcases Bool.eq_false_or_eq_true ((!r_17)) with b_19 | b_19
        · have H_131 := of_t H_130 b_19
          refine V_reg hN hn [(1, ⟨10, 0, [.agg [.val (.int .i64 d_1), .imm (.slice (.pair (.int .i64) (.pair (.int .i64) .str))) d_2]], [], .c (.val (.bool r_13)), [], [], 2⟩), (5, ⟨10, 0, [.agg [.val (.int .i64 o_3), .imm (.slice (.pair (.int .i64) (.pair (.int .i64) .str))) o_4]], [], .c (.val (.bool r_17)), [], [], 2⟩)] [(18, false), (23, true)] (calls_cons (palinodelaw11_few_spec K d_1 d_2 r_13 h_14) (by kernel_rfl) (calls_cons (palinodelaw11_few_spec K o_3 o_4 r_17 h_18) (by kernel_rfl) calls_nil)) 2 [2, 3, 4, 27] [0, 1] ⟨[(2, .c (.val (.string s_5))), (3, .c (.h 0)), (4, .c (.h 1)), (27, .c (.val (.bool true)))], [(0, .box [.val (.int .i64 d_1), .imm (.slice (.pair (.int .i64) (.pair (.int .i64) .str))) d_2]), (1, .box [.val (.int .i64 o_3), .imm (.slice (.pair (.int .i64) (.pair (.int .i64) .str))) o_4])], 2⟩ [(!r_13) = false, (!r_17) = true] (by kernel_rfl) rfl rfl (ap2 b_15 (ap1 b_19)) (by kernel_rfl) (by kernel_rfl) ?_
          have H_133 := Option.some.inj (show some true = some q_122 from H_131); subst H_133
          refine VL_nil ?_
          exact QP_end true rfl [(0, 0), (1, 1)] hn (by kernel_rfl) (by kernel_rfl) rfl rfl rfl
        · have H_132 := of_f H_130 b_19
          refine V_reg hN hn [(1, ⟨10, 0, [.agg [.val (.int .i64 d_1), .imm (.slice (.pair (.int .i64) (.pair (.int .i64) .str))) d_2]], [], .c (.val (.bool r_13)), [], [], 2⟩), (5, ⟨10, 0, [.agg [.val (.int .i64 o_3), .imm (.slice (.pair (.int .i64) (.pair (.int .i64) .str))) o_4]], [], .c (.val (.bool r_17)), [], [], 2⟩)] [(18, false), (23, false)] (calls_cons (palinodelaw11_few_spec K d_1 d_2 r_13 h_14) (by kernel_rfl) (calls_cons (palinodelaw11_few_spec K o_3 o_4 r_17 h_18) (by kernel_rfl) calls_nil)) 2 [2, 3, 4, 27] [0, 1] ⟨[(2, .c (.val (.string s_5))), (3, .c (.h 0)), (4, .c (.h 1)), (27, .c (.val (.bool (decide ((((ByteArray.size s_5) : Nat) : Int) > (500 : Int))))))], [(0, .box [.val (.int .i64 d_1), .imm (.slice (.pair (.int .i64) (.pair (.int .i64) .str))) d_2]), (1, .box [.val (.int .i64 o_3), .imm (.slice (.pair (.int .i64) (.pair (.int .i64) .str))) o_4])], 2⟩ [(!r_13) = false, (!r_17) = false] (by kernel_rfl) rfl rfl (ap2 b_15 (ap1 b_19)) (by kernel_rfl) (by kernel_rfl) ?_
          have H_134 := Option.some.inj (show some (decide ((((ByteArray.size s_5) : Nat) : Int) > (500 : Int))) = some q_122 from H_132); subst H_134
          refine VL_nil ?_
          exact QP_end (decide ((((ByteArray.size s_5) : Nat) : Int) > (500 : Int))) rfl [(0, 0), (1, 1)] hn (by kernel_rfl) (by kernel_rfl) rfl rfl rfl
    · intro y_125 hy; subst hy
      skip
      skip
      refine VL_cond (y_125) (by kernel_rfl) ?_ ?_
      · intro b_23; have H_135 := of_t H_124 b_23
        refine V_run hN hn 2 2 [6] [] ⟨[(6, .c (.val (.bool true)))], [], 2⟩ [] (by kernel_rfl) rfl rfl ap0 ?_
        have H_137 := Option.some.inj (show some true = some r from H_135); subst H_137
        refine VL_ret ?_
        exact P_to [(6, .c (.val (.bool true)))] [] [] hn (by kernel_rfl) (by kernel_rfl) rfl rfl rfl (QF_retS (by kernel_rfl) (by kernel_rfl) rfl)
      · intro b_23; have H_136 := of_f H_124 b_23
        refine V_run hN hn 2 2 [2, 3, 4, 27] [0, 1] ⟨[(2, .c (.val (.string s_5))), (3, .c (.h 0)), (4, .c (.h 1)), (27, .c (.val (.bool y_125)))], [(0, .box [.val (.int .i64 d_1), .imm (.slice (.pair (.int .i64) (.pair (.int .i64) .str))) d_2]), (1, .box [.val (.int .i64 o_3), .imm (.slice (.pair (.int .i64) (.pair (.int .i64) .str))) o_4])], 2⟩ [] (by kernel_rfl) rfl rfl ap0 ?_
        obtain ⟨r_26, h_27, H_138⟩ := of_bind H_136
        refine V_reg hN hn [(1, ⟨11, 0, [.agg [.val (.int .i64 d_1), .imm (.slice (.pair (.int .i64) (.pair (.int .i64) .str))) d_2]], [], .c (.val (.bool r_26)), [], [], 2⟩)] [] (calls_cons (palinoderef11_Is_spec K d_1 d_2 r_26 h_27) (by kernel_rfl) calls_nil) 2 [2, 3, 4, 7] [0, 1] ⟨[(2, .c (.val (.string s_5))), (3, .c (.h 0)), (4, .c (.h 1)), (7, .c (.val (.bool r_26)))], [(0, .box [.val (.int .i64 d_1), .imm (.slice (.pair (.int .i64) (.pair (.int .i64) .str))) d_2]), (1, .box [.val (.int .i64 o_3), .imm (.slice (.pair (.int .i64) (.pair (.int .i64) .str))) o_4])], 2⟩ [] (by kernel_rfl) rfl rfl ap0 (by kernel_rfl) (by kernel_rfl) ?_
        refine V_run hN hn 1 2 [2, 3, 4, 7] [0, 1] ⟨[(2, .c (.val (.string s_5))), (3, .c (.h 0)), (4, .c (.h 1)), (7, .c (.val (.bool r_26)))], [(0, .box [.val (.int .i64 d_1), .imm (.slice (.pair (.int .i64) (.pair (.int .i64) .str))) d_2]), (1, .box [.val (.int .i64 o_3), .imm (.slice (.pair (.int .i64) (.pair (.int .i64) .str))) o_4])], 2⟩ [] (by kernel_rfl) rfl rfl ap0 ?_
        obtain ⟨r_30, h_31, H_139⟩ := of_bind H_138
        refine V_reg hN hn [(2, ⟨12, 0, [.agg [.val (.int .i64 d_1), .imm (.slice (.pair (.int .i64) (.pair (.int .i64) .str))) d_2], .c (.val (.string s_5))], [], .tup [(false, [.val (.string r_30.1)]), (false, [.val (.int .i64 r_30.2)])], [], [], 2⟩)] [] (calls_cons (delta_Apply_spec K d_1 d_2 s_5 r_30 h_31) (by kernel_rfl) calls_nil) 2 [2, 3, 4, 7, 8, 9] [0, 1] ⟨[(2, .c (.val (.string s_5))), (3, .c (.h 0)), (4, .c (.h 1)), (7, .c (.val (.bool r_26))), (8, .c (.val (.string r_30.1))), (9, .c (.val (.int .i64 r_30.2)))], [(0, .box [.val (.int .i64 d_1), .imm (.slice (.pair (.int .i64) (.pair (.int .i64) .str))) d_2]), (1, .box [.val (.int .i64 o_3), .imm (.slice (.pair (.int .i64) (.pair (.int .i64) .str))) o_4])], 2⟩ [] (by kernel_rfl) rfl rfl ap0 (by kernel_rfl) (by kernel_rfl) ?_
        refine V_run hN hn 2 2 [2, 3, 4, 7, 8, 9] [0, 1] ⟨[(2, .c (.val (.string s_5))), (3, .c (.h 0)), (4, .c (.h 1)), (7, .c (.val (.bool r_26))), (8, .c (.val (.string r_30.1))), (9, .c (.val (.int .i64 r_30.2)))], [(0, .box [.val (.int .i64 d_1), .imm (.slice (.pair (.int .i64) (.pair (.int .i64) .str))) d_2]), (1, .box [.val (.int .i64 o_3), .imm (.slice (.pair (.int .i64) (.pair (.int .i64) .str))) o_4])], 2⟩ [] (by kernel_rfl) rfl rfl ap0 ?_
        obtain ⟨q_140, H_141, H_142⟩ := of_bind H_139
        refine V_cut (Y := Bool) (R := Bool) q_140 (fun y => y) (fun y => [(2, .c (.val (.string s_5))), (3, .c (.h 0)), (7, .c (.val (.bool r_26))), (8, .c (.val (.string r_30.1))), (9, .c (.val (.int .i64 r_30.2))), (54, .c (.val (.bool y)))]) (fun y => [(0, .box [.val (.int .i64 d_1), .imm (.slice (.pair (.int .i64) (.pair (.int .i64) .str))) d_2])]) ?_ ?_
        · skip
          obtain ⟨r_34, h_35, H_144⟩ := of_bind H_141
          rcases Bool.eq_false_or_eq_true ((!(r_34 == r_26))) with b_36 | b_36
          · have H_145 := of_t H_144 b_36
            refine V_draw hN hn (by kernel_rfl) [(1, ⟨13, 0, [.agg [.val (.int .i64 d_1), .imm (.slice (.pair (.int .i64) (.pair (.int .i64) .str))) d_2]], [], .c (.val (.bool r_34)), [], [], 2⟩)] [(40, true)] (calls_cons (delta_Is_spec K d_1 d_2 r_34 h_35) (by kernel_rfl) calls_nil) 2 [2, 3, 7, 8, 9, 54] [0] ⟨[(2, .c (.val (.string s_5))), (3, .c (.h 0)), (7, .c (.val (.bool r_26))), (8, .c (.val (.string r_30.1))), (9, .c (.val (.int .i64 r_30.2))), (54, .c (.val (.bool true)))], [(0, .box [.val (.int .i64 d_1), .imm (.slice (.pair (.int .i64) (.pair (.int .i64) .str))) d_2])], 2⟩ [(!(r_34 == r_26)) = true] (by kernel_rfl) rfl rfl (ap1 b_36) (by kernel_rfl) (by kernel_rfl) ?_
            have H_147 := Option.some.inj (show some true = some q_140 from H_145); subst H_147
            refine VL_nil ?_
            exact QP_end true rfl [(0, 0)] hn (by kernel_rfl) (by kernel_rfl) rfl rfl rfl
          · have H_146 := of_f H_144 b_36
            obtain ⟨r_38, h_39, H_148⟩ := of_bind H_146
            obtain ⟨r_40, h_41, H_149⟩ := of_bind H_148
            rcases Bool.eq_false_or_eq_true ((!(r_38 == r_40))) with b_42 | b_42
            · have H_150 := of_t H_149 b_42
              refine V_draw hN hn (by kernel_rfl) [(1, ⟨13, 0, [.agg [.val (.int .i64 d_1), .imm (.slice (.pair (.int .i64) (.pair (.int .i64) .str))) d_2]], [], .c (.val (.bool r_34)), [], [], 2⟩), (7, ⟨14, 0, [.agg [.val (.int .i64 d_1), .imm (.slice (.pair (.int .i64) (.pair (.int .i64) .str))) d_2], .agg [.val (.int .i64 o_3), .imm (.slice (.pair (.int .i64) (.pair (.int .i64) .str))) o_4]], [], .c (.val (.bool r_38)), [], [], 2⟩), (10, ⟨15, 0, [.agg [.val (.int .i64 d_1), .imm (.slice (.pair (.int .i64) (.pair (.int .i64) .str))) d_2], .agg [.val (.int .i64 o_3), .imm (.slice (.pair (.int .i64) (.pair (.int .i64) .str))) o_4]], [], .c (.val (.bool r_40)), [], [], 2⟩)] [(40, false), (49, true)] (calls_cons (delta_Is_spec K d_1 d_2 r_34 h_35) (by kernel_rfl) (calls_cons (delta_Same_spec K d_1 d_2 o_3 o_4 r_38 h_39) (by kernel_rfl) (calls_cons (palinoderef11_Same_spec K d_1 d_2 o_3 o_4 r_40 h_41) (by kernel_rfl) calls_nil))) 2 [2, 3, 7, 8, 9, 54] [0] ⟨[(2, .c (.val (.string s_5))), (3, .c (.h 0)), (7, .c (.val (.bool r_26))), (8, .c (.val (.string r_30.1))), (9, .c (.val (.int .i64 r_30.2))), (54, .c (.val (.bool true)))], [(0, .box [.val (.int .i64 d_1), .imm (.slice (.pair (.int .i64) (.pair (.int .i64) .str))) d_2])], 2⟩ [(!(r_34 == r_26)) = false, (!(r_38 == r_40)) = true] (by kernel_rfl) rfl rfl (ap2 b_36 (ap1 b_42)) (by kernel_rfl) (by kernel_rfl) ?_
              have H_152 := Option.some.inj (show some true = some q_140 from H_150); subst H_152
              refine VL_nil ?_
              exact QP_end true rfl [(0, 0)] hn (by kernel_rfl) (by kernel_rfl) rfl rfl rfl
            · have H_151 := of_f H_149 b_42
              obtain ⟨r_44, h_45, H_153⟩ := of_bind H_151
              refine V_draw hN hn (by kernel_rfl) [(1, ⟨13, 0, [.agg [.val (.int .i64 d_1), .imm (.slice (.pair (.int .i64) (.pair (.int .i64) .str))) d_2]], [], .c (.val (.bool r_34)), [], [], 2⟩), (7, ⟨14, 0, [.agg [.val (.int .i64 d_1), .imm (.slice (.pair (.int .i64) (.pair (.int .i64) .str))) d_2], .agg [.val (.int .i64 o_3), .imm (.slice (.pair (.int .i64) (.pair (.int .i64) .str))) o_4]], [], .c (.val (.bool r_38)), [], [], 2⟩), (10, ⟨15, 0, [.agg [.val (.int .i64 d_1), .imm (.slice (.pair (.int .i64) (.pair (.int .i64) .str))) d_2], .agg [.val (.int .i64 o_3), .imm (.slice (.pair (.int .i64) (.pair (.int .i64) .str))) o_4]], [], .c (.val (.bool r_40)), [], [], 2⟩), (16, ⟨14, 0, [.agg [.val (.int .i64 d_1), .imm (.slice (.pair (.int .i64) (.pair (.int .i64) .str))) d_2], .agg [.val (.int .i64 d_1), .imm (.slice (.pair (.int .i64) (.pair (.int .i64) .str))) d_2]], [], .c (.val (.bool r_44)), [], [], 2⟩)] [(40, false), (49, false)] (calls_cons (delta_Is_spec K d_1 d_2 r_34 h_35) (by kernel_rfl) (calls_cons (delta_Same_spec K d_1 d_2 o_3 o_4 r_38 h_39) (by kernel_rfl) (calls_cons (palinoderef11_Same_spec K d_1 d_2 o_3 o_4 r_40 h_41) (by kernel_rfl) (calls_cons (delta_Same_spec K d_1 d_2 d_1 d_2 r_44 h_45) (by kernel_rfl) calls_nil)))) 2 [2, 3, 7, 8, 9, 54] [0] ⟨[(2, .c (.val (.string s_5))), (3, .c (.h 0)), (7, .c (.val (.bool r_26))), (8, .c (.val (.string r_30.1))), (9, .c (.val (.int .i64 r_30.2))), (54, .c (.val (.bool (!r_44))))], [(0, .box [.val (.int .i64 d_1), .imm (.slice (.pair (.int .i64) (.pair (.int .i64) .str))) d_2])], 2⟩ [(!(r_34 == r_26)) = false, (!(r_38 == r_40)) = false] (by kernel_rfl) rfl rfl (ap2 b_36 (ap1 b_42)) (by kernel_rfl) (by kernel_rfl) ?_
              have H_154 := Option.some.inj (show some (!r_44) = some q_140 from H_153); subst H_154
              refine VL_nil ?_
              exact QP_end (!r_44) rfl [(0, 0)] hn (by kernel_rfl) (by kernel_rfl) rfl rfl rfl
        · intro y_143 hy; subst hy
          skip
          skip
          refine VL_cond (y_143) (by kernel_rfl) ?_ ?_
          · intro b_48; have H_155 := of_t H_142 b_48
            refine V_run hN hn 2 2 [6] [] ⟨[(6, .c (.val (.bool false)))], [], 2⟩ [] (by kernel_rfl) rfl rfl ap0 ?_
            have H_157 := Option.some.inj (show some false = some r from H_155); subst H_157
            refine VL_ret ?_
            exact P_to [(6, .c (.val (.bool false)))] [] [] hn (by kernel_rfl) (by kernel_rfl) rfl rfl rfl (QF_retS (by kernel_rfl) (by kernel_rfl) rfl)
          · intro b_48; have H_156 := of_f H_142 b_48
            refine V_run hN hn 4 2 [2, 3, 8, 9, 56] [0] ⟨[(2, .c (.val (.string s_5))), (3, .c (.h 0)), (8, .c (.val (.string r_30.1))), (9, .c (.val (.int .i64 r_30.2))), (56, .c (.val (.bool (!r_26))))], [(0, .box [.val (.int .i64 d_1), .imm (.slice (.pair (.int .i64) (.pair (.int .i64) .str))) d_2])], 2⟩ [] (by kernel_rfl) rfl rfl ap0 ?_
            refine VL_cond ((!r_26)) (by kernel_rfl) ?_ ?_
            · intro b_51; have H_158 := of_t H_156 b_51
              refine V_run hN hn 1 2 [2, 3, 8, 9, 56] [0] ⟨[(2, .c (.val (.string s_5))), (3, .c (.h 0)), (8, .c (.val (.string r_30.1))), (9, .c (.val (.int .i64 r_30.2))), (56, .c (.val (.bool (!r_26))))], [(0, .box [.val (.int .i64 d_1), .imm (.slice (.pair (.int .i64) (.pair (.int .i64) .str))) d_2])], 2⟩ [] (by kernel_rfl) rfl rfl ap0 ?_
              rcases Bool.eq_false_or_eq_true ((r_30.2 == (12 : Int))) with b_53 | b_53
              · have H_160 := of_t H_158 b_53
                rcases Bool.eq_false_or_eq_true ((ByteArray.toList r_30.1 == ByteArray.toList (ByteArray.mk #[]))) with b_54 | b_54
                · have H_162 := of_t H_160 b_54
                  obtain ⟨r_55, h_56, H_164⟩ := of_bind H_162
                  rcases Bool.eq_false_or_eq_true ((r_55 == (0 : Int))) with b_57 | b_57
                  · have H_165 := of_t H_164 b_57
                    obtain ⟨r_58, h_59, H_167⟩ := of_bind H_165
                    rcases Bool.eq_false_or_eq_true ((r_58 == (0 : Int))) with b_60 | b_60
                    · have H_168 := of_t H_167 b_60
                      obtain ⟨r_61, h_62, H_170⟩ := of_bind H_168
                      refine V_reg hN hn [(8, ⟨16, 0, [.agg [.val (.int .i64 d_1), .imm (.slice (.pair (.int .i64) (.pair (.int .i64) .str))) d_2]], [], .c (.val (.int .i64 r_55)), [], [], 2⟩), (13, ⟨17, 0, [.agg [.val (.int .i64 d_1), .imm (.slice (.pair (.int .i64) (.pair (.int .i64) .str))) d_2]], [], .c (.val (.int .i64 r_58)), [], [], 2⟩), (18, ⟨18, 0, [.agg [.val (.int .i64 d_1), .imm (.slice (.pair (.int .i64) (.pair (.int .i64) .str))) d_2]], [], .c (.val (.int .i64 r_61)), [], [], 2⟩)] [(59, true), (63, true), (68, true), (73, true)] (calls_cons (delta_Size_spec K d_1 d_2 r_55 h_56) (by kernel_rfl) (calls_cons (delta_Adds_spec K d_1 d_2 r_58 h_59) (by kernel_rfl) (calls_cons (delta_Drops_spec K d_1 d_2 r_61 h_62) (by kernel_rfl) calls_nil))) 2 [6] [] ⟨[(6, .c (.val (.bool (r_61 == (0 : Int)))))], [], 2⟩ [(r_30.2 == (12 : Int)) = true, (ByteArray.toList r_30.1 == ByteArray.toList (ByteArray.mk #[])) = true, (r_55 == (0 : Int)) = true, (r_58 == (0 : Int)) = true] (by kernel_rfl) rfl rfl (ap2 b_53 (ap2 b_54 (ap2 b_57 (ap1 b_60)))) (by kernel_rfl) (by kernel_rfl) ?_
                      have H_171 := Option.some.inj (show some (r_61 == (0 : Int)) = some r from H_170); subst H_171
                      refine VL_ret ?_
                      exact P_to [(6, .c (.val (.bool (r_61 == (0 : Int)))))] [] [] hn (by kernel_rfl) (by kernel_rfl) rfl rfl rfl (QF_retS (by kernel_rfl) (by kernel_rfl) rfl)
                    · have H_169 := of_f H_167 b_60
                      refine V_reg hN hn [(8, ⟨16, 0, [.agg [.val (.int .i64 d_1), .imm (.slice (.pair (.int .i64) (.pair (.int .i64) .str))) d_2]], [], .c (.val (.int .i64 r_55)), [], [], 2⟩), (13, ⟨17, 0, [.agg [.val (.int .i64 d_1), .imm (.slice (.pair (.int .i64) (.pair (.int .i64) .str))) d_2]], [], .c (.val (.int .i64 r_58)), [], [], 2⟩)] [(59, true), (63, true), (68, true), (73, false)] (calls_cons (delta_Size_spec K d_1 d_2 r_55 h_56) (by kernel_rfl) (calls_cons (delta_Adds_spec K d_1 d_2 r_58 h_59) (by kernel_rfl) calls_nil)) 2 [6] [] ⟨[(6, .c (.val (.bool false)))], [], 2⟩ [(r_30.2 == (12 : Int)) = true, (ByteArray.toList r_30.1 == ByteArray.toList (ByteArray.mk #[])) = true, (r_55 == (0 : Int)) = true, (r_58 == (0 : Int)) = false] (by kernel_rfl) rfl rfl (ap2 b_53 (ap2 b_54 (ap2 b_57 (ap1 b_60)))) (by kernel_rfl) (by kernel_rfl) ?_
                      have H_172 := Option.some.inj (show some false = some r from H_169); subst H_172
                      refine VL_ret ?_
                      exact P_to [(6, .c (.val (.bool false)))] [] [] hn (by kernel_rfl) (by kernel_rfl) rfl rfl rfl (QF_retS (by kernel_rfl) (by kernel_rfl) rfl)
                  · have H_166 := of_f H_164 b_57
                    refine V_reg hN hn [(8, ⟨16, 0, [.agg [.val (.int .i64 d_1), .imm (.slice (.pair (.int .i64) (.pair (.int .i64) .str))) d_2]], [], .c (.val (.int .i64 r_55)), [], [], 2⟩)] [(59, true), (63, true), (68, false)] (calls_cons (delta_Size_spec K d_1 d_2 r_55 h_56) (by kernel_rfl) calls_nil) 2 [6] [] ⟨[(6, .c (.val (.bool false)))], [], 2⟩ [(r_30.2 == (12 : Int)) = true, (ByteArray.toList r_30.1 == ByteArray.toList (ByteArray.mk #[])) = true, (r_55 == (0 : Int)) = false] (by kernel_rfl) rfl rfl (ap2 b_53 (ap2 b_54 (ap1 b_57))) (by kernel_rfl) (by kernel_rfl) ?_
                    have H_173 := Option.some.inj (show some false = some r from H_166); subst H_173
                    refine VL_ret ?_
                    exact P_to [(6, .c (.val (.bool false)))] [] [] hn (by kernel_rfl) (by kernel_rfl) rfl rfl rfl (QF_retS (by kernel_rfl) (by kernel_rfl) rfl)
                · have H_163 := of_f H_160 b_54
                  refine V_reg hN hn [] [(59, true), (63, false)] calls_nil 2 [6] [] ⟨[(6, .c (.val (.bool false)))], [], 2⟩ [(r_30.2 == (12 : Int)) = true, (ByteArray.toList r_30.1 == ByteArray.toList (ByteArray.mk #[])) = false] (by kernel_rfl) rfl rfl (ap2 b_53 (ap1 b_54)) (by kernel_rfl) (by kernel_rfl) ?_
                  have H_174 := Option.some.inj (show some false = some r from H_163); subst H_174
                  refine VL_ret ?_
                  exact P_to [(6, .c (.val (.bool false)))] [] [] hn (by kernel_rfl) (by kernel_rfl) rfl rfl rfl (QF_retS (by kernel_rfl) (by kernel_rfl) rfl)
              · have H_161 := of_f H_158 b_53
                refine V_reg hN hn [] [(59, false)] calls_nil 2 [6] [] ⟨[(6, .c (.val (.bool false)))], [], 2⟩ [(r_30.2 == (12 : Int)) = false] (by kernel_rfl) rfl rfl (ap1 b_53) (by kernel_rfl) (by kernel_rfl) ?_
                have H_175 := Option.some.inj (show some false = some r from H_161); subst H_175
                refine VL_ret ?_
                exact P_to [(6, .c (.val (.bool false)))] [] [] hn (by kernel_rfl) (by kernel_rfl) rfl rfl rfl (QF_retS (by kernel_rfl) (by kernel_rfl) rfl)
            · intro b_51; have H_159 := of_f H_156 b_51
              refine V_run hN hn 2 2 [2, 3, 8, 9, 56] [0] ⟨[(2, .c (.val (.string s_5))), (3, .c (.h 0)), (8, .c (.val (.string r_30.1))), (9, .c (.val (.int .i64 r_30.2))), (56, .c (.val (.bool (!r_26))))], [(0, .box [.val (.int .i64 d_1), .imm (.slice (.pair (.int .i64) (.pair (.int .i64) .str))) d_2])], 2⟩ [] (by kernel_rfl) rfl rfl ap0 ?_
              obtain ⟨r_69, h_70, H_176⟩ := of_bind H_159
              refine V_reg hN hn [(1, ⟨19, 0, [.agg [.val (.int .i64 d_1), .imm (.slice (.pair (.int .i64) (.pair (.int .i64) .str))) d_2]], [], .c (.h 9), [(9, .row (.pair (.int .i64) (.int .u8)) r_69)], [(9, 2)], 3⟩)] [] (calls_cons (palinoderef11_Cells_spec K d_1 d_2 r_69 h_70) (by kernel_rfl) calls_nil) 2 [2, 3, 8, 9, 10] [0, 2] ⟨[(2, .c (.val (.string s_5))), (3, .c (.h 0)), (8, .c (.val (.string r_30.1))), (9, .c (.val (.int .i64 r_30.2))), (10, .c (.h 2))], [(0, .box [.val (.int .i64 d_1), .imm (.slice (.pair (.int .i64) (.pair (.int .i64) .str))) d_2]), (2, .row (.pair (.int .i64) (.int .u8)) r_69)], 3⟩ [] (by kernel_rfl) rfl rfl ap0 (by kernel_rfl) (by kernel_rfl) ?_
              refine V_run hN hn 5 3 [2, 3, 8, 9, 10, 11, 12] [0, 2] ⟨[(2, .c (.val (.string s_5))), (3, .c (.h 0)), (8, .c (.val (.string r_30.1))), (9, .c (.val (.int .i64 r_30.2))), (10, .c (.h 2)), (11, .c (.val (.int .i64 (0 : Int)))), (12, .c (.val (.int .i64 (0 : Int))))], [(0, .box [.val (.int .i64 d_1), .imm (.slice (.pair (.int .i64) (.pair (.int .i64) .str))) d_2]), (2, .row (.pair (.int .i64) (.int .u8)) r_69)], 3⟩ [] (by kernel_rfl) rfl rfl ap0 ?_
              obtain ⟨q_177, H_178, H_179⟩ := of_bind H_176
              refine V_cut (Y := Int) (R := Int) q_177 (fun y => y) (fun y => [(2, .c (.val (.string s_5))), (3, .c (.h 0)), (8, .c (.val (.string r_30.1))), (9, .c (.val (.int .i64 r_30.2))), (10, .c (.h 2)), (11, .c (.val (.int .i64 y)))]) (fun y => [(0, .box [.val (.int .i64 d_1), .imm (.slice (.pair (.int .i64) (.pair (.int .i64) .str))) d_2]), (2, .row (.pair (.int .i64) (.int .u8)) r_69)]) ?_ ?_
              · skip
                refine VL_block ?_
                refine V_to [(2, .c (.val (.string s_5))), (3, .c (.h 0)), (8, .c (.val (.string r_30.1))), (9, .c (.val (.int .i64 r_30.2))), (10, .c (.h 2)), (11, .c (.val (.int .i64 (0 : Int)))), (12, .c (.val (.int .i64 (0 : Int))))] [(0, .box [.val (.int .i64 d_1), .imm (.slice (.pair (.int .i64) (.pair (.int .i64) .str))) d_2]), (2, .row (.pair (.int .i64) (.int .u8)) r_69)] [(0, 0), (2, 2)] hn (by kernel_rfl) (by kernel_rfl) rfl rfl rfl ?_
                refine VL_loop (X := (Int × Int)) (fun x => [(2, .c (.val (.string s_5))), (3, .c (.h 0)), (8, .c (.val (.string r_30.1))), (9, .c (.val (.int .i64 r_30.2))), (10, .c (.h 2)), (11, .c (.val (.int .i64 x.1))), (12, .c (.val (.int .i64 x.2)))]) (fun x => [(0, .box [.val (.int .i64 d_1), .imm (.slice (.pair (.int .i64) (.pair (.int .i64) .str))) d_2]), (2, .row (.pair (.int .i64) (.int .u8)) r_69)]) (fun k x => palinodelaw11_DeltaTells.l0 K r_69 k x.1 x.2 = some q_177) K ((0 : Int), (0 : Int)) H_178 (fun _ h => no_none h) ?_
                intro k_75 x_75 H_181
                obtain ⟨kept_73, i_74⟩ := x_75
                have H_182 : palinodelaw11_DeltaTells.l0 K r_69 (k_75 + 1) kept_73 i_74 = some q_177 := H_181
                rw [palinodelaw11_DeltaTells.l0] at H_182
                refine V_run hN hn 3 3 [2, 3, 8, 9, 10, 11, 12, 83] [0, 2] ⟨[(2, .c (.val (.string s_5))), (3, .c (.h 0)), (8, .c (.val (.string r_30.1))), (9, .c (.val (.int .i64 r_30.2))), (10, .c (.h 2)), (11, .c (.val (.int .i64 kept_73))), (12, .c (.val (.int .i64 i_74))), (83, .c (.val (.bool (decide (i_74 < (((List.length r_69) : Nat) : Int))))))], [(0, .box [.val (.int .i64 d_1), .imm (.slice (.pair (.int .i64) (.pair (.int .i64) .str))) d_2]), (2, .row (.pair (.int .i64) (.int .u8)) r_69)], 3⟩ [] (by kernel_rfl) rfl rfl ap0 ?_
                refine VL_cond ((decide (i_74 < (((List.length r_69) : Nat) : Int)))) (by kernel_rfl) ?_ ?_
                · intro b_77; have H_183 := of_t H_182 b_77
                  refine V_run hN hn 2 3 [2, 3, 8, 9, 10, 11, 12, 83] [0, 2] ⟨[(2, .c (.val (.string s_5))), (3, .c (.h 0)), (8, .c (.val (.string r_30.1))), (9, .c (.val (.int .i64 r_30.2))), (10, .c (.h 2)), (11, .c (.val (.int .i64 kept_73))), (12, .c (.val (.int .i64 i_74))), (83, .c (.val (.bool (decide (i_74 < (((List.length r_69) : Nat) : Int))))))], [(0, .box [.val (.int .i64 d_1), .imm (.slice (.pair (.int .i64) (.pair (.int .i64) .str))) d_2]), (2, .row (.pair (.int .i64) (.int .u8)) r_69)], 3⟩ [] (by kernel_rfl) rfl rfl ap0 ?_
                  refine VL_block ?_
                  obtain ⟨c_79, H_185⟩ := of_if H_183
                  refine V_run hN hn 2 3 [2, 3, 8, 9, 10, 11, 12, 91] [0, 2] ⟨[(2, .c (.val (.string s_5))), (3, .c (.h 0)), (8, .c (.val (.string r_30.1))), (9, .c (.val (.int .i64 r_30.2))), (10, .c (.h 2)), (11, .c (.val (.int .i64 kept_73))), (12, .c (.val (.int .i64 i_74))), (91, .c (.val (.bool (decide ((List.getD r_69 (Int.toNat i_74) ((0 : Int), (0 : Int))).1 ≥ (0 : Int))))))], [(0, .box [.val (.int .i64 d_1), .imm (.slice (.pair (.int .i64) (.pair (.int .i64) .str))) d_2]), (2, .row (.pair (.int .i64) (.int .u8)) r_69)], 3⟩ [0 ≤ i_74, i_74 < (((List.length r_69) : Nat) : Int)] (by kernel_rfl) rfl rfl (ap2 c_79.1 (ap1 c_79.2)) ?_
                  refine VL_cond ((decide ((List.getD r_69 (Int.toNat i_74) ((0 : Int), (0 : Int))).1 ≥ (0 : Int)))) (by kernel_rfl) ?_ ?_
                  · intro b_80; have H_186 := of_t H_185 b_80
                    refine V_run hN hn 1 3 [2, 3, 8, 9, 10, 11, 12] [0, 2] ⟨[(2, .c (.val (.string s_5))), (3, .c (.h 0)), (8, .c (.val (.string r_30.1))), (9, .c (.val (.int .i64 r_30.2))), (10, .c (.h 2)), (11, .c (.val (.int .i64 (IntKind.wrap .i64 (kept_73 + (1 : Int)))))), (12, .c (.val (.int .i64 i_74)))], [(0, .box [.val (.int .i64 d_1), .imm (.slice (.pair (.int .i64) (.pair (.int .i64) .str))) d_2]), (2, .row (.pair (.int .i64) (.int .u8)) r_69)], 3⟩ [] (by kernel_rfl) rfl rfl ap0 ?_
                    refine VL_nil (QB_end ?_)
                    refine V_run hN hn 1 3 [2, 3, 8, 9, 10, 11, 12] [0, 2] ⟨[(2, .c (.val (.string s_5))), (3, .c (.h 0)), (8, .c (.val (.string r_30.1))), (9, .c (.val (.int .i64 r_30.2))), (10, .c (.h 2)), (11, .c (.val (.int .i64 (IntKind.wrap .i64 (kept_73 + (1 : Int)))))), (12, .c (.val (.int .i64 (IntKind.wrap .i64 (i_74 + (1 : Int))))))], [(0, .box [.val (.int .i64 d_1), .imm (.slice (.pair (.int .i64) (.pair (.int .i64) .str))) d_2]), (2, .row (.pair (.int .i64) (.int .u8)) r_69)], 3⟩ [] (by kernel_rfl) rfl rfl ap0 ?_
                    refine VL_nil ?_
                    exact V_roundEnd ((IntKind.wrap .i64 (kept_73 + (1 : Int))), (IntKind.wrap .i64 (i_74 + (1 : Int)))) H_186 [(0, 0), (2, 2)] hn (by kernel_rfl) (by kernel_rfl) rfl rfl rfl
                  · intro b_80; have H_187 := of_f H_185 b_80
                    refine V_run hN hn 1 3 [2, 3, 8, 9, 10, 11, 12, 91] [0, 2] ⟨[(2, .c (.val (.string s_5))), (3, .c (.h 0)), (8, .c (.val (.string r_30.1))), (9, .c (.val (.int .i64 r_30.2))), (10, .c (.h 2)), (11, .c (.val (.int .i64 kept_73))), (12, .c (.val (.int .i64 i_74))), (91, .c (.val (.bool (decide ((List.getD r_69 (Int.toNat i_74) ((0 : Int), (0 : Int))).1 ≥ (0 : Int))))))], [(0, .box [.val (.int .i64 d_1), .imm (.slice (.pair (.int .i64) (.pair (.int .i64) .str))) d_2]), (2, .row (.pair (.int .i64) (.int .u8)) r_69)], 3⟩ [] (by kernel_rfl) rfl rfl ap0 ?_
                    refine VL_nil (QB_end ?_)
                    refine V_run hN hn 1 3 [2, 3, 8, 9, 10, 11, 12] [0, 2] ⟨[(2, .c (.val (.string s_5))), (3, .c (.h 0)), (8, .c (.val (.string r_30.1))), (9, .c (.val (.int .i64 r_30.2))), (10, .c (.h 2)), (11, .c (.val (.int .i64 kept_73))), (12, .c (.val (.int .i64 (IntKind.wrap .i64 (i_74 + (1 : Int))))))], [(0, .box [.val (.int .i64 d_1), .imm (.slice (.pair (.int .i64) (.pair (.int .i64) .str))) d_2]), (2, .row (.pair (.int .i64) (.int .u8)) r_69)], 3⟩ [] (by kernel_rfl) rfl rfl ap0 ?_
                    refine VL_nil ?_
                    exact V_roundEnd (kept_73, (IntKind.wrap .i64 (i_74 + (1 : Int)))) H_187 [(0, 0), (2, 2)] hn (by kernel_rfl) (by kernel_rfl) rfl rfl rfl
                · intro b_77; have H_184 := of_f H_182 b_77
                  refine VL_exit ?_
                  refine QL_exit ?_
                  refine QB_here ?_
                  have H_188 := Option.some.inj (show some kept_73 = some q_177 from H_184); subst H_188
                  refine VL_nil ?_
                  exact QP_end kept_73 rfl [(0, 0), (2, 2)] hn (by kernel_rfl) (by kernel_rfl) rfl rfl rfl
              · intro y_180 hy; subst hy
                skip
                skip
                refine V_run hN hn 2 3 [2, 3, 8, 9, 10, 11] [0, 2] ⟨[(2, .c (.val (.string s_5))), (3, .c (.h 0)), (8, .c (.val (.string r_30.1))), (9, .c (.val (.int .i64 r_30.2))), (10, .c (.h 2)), (11, .c (.val (.int .i64 y_180)))], [(0, .box [.val (.int .i64 d_1), .imm (.slice (.pair (.int .i64) (.pair (.int .i64) .str))) d_2]), (2, .row (.pair (.int .i64) (.int .u8)) r_69)], 3⟩ [] (by kernel_rfl) rfl rfl ap0 ?_
                obtain ⟨q_189, H_190, H_191⟩ := of_bind H_179
                refine V_cut (Y := Bool) (R := Bool) q_189 (fun y => y) (fun y => [(2, .c (.val (.string s_5))), (3, .c (.h 0)), (8, .c (.val (.string r_30.1))), (9, .c (.val (.int .i64 r_30.2))), (10, .c (.h 2)), (116, .c (.val (.bool y)))]) (fun y => [(0, .box [.val (.int .i64 d_1), .imm (.slice (.pair (.int .i64) (.pair (.int .i64) .str))) d_2]), (2, .row (.pair (.int .i64) (.int .u8)) r_69)]) ?_ ?_
                · skip
                  obtain ⟨r_87, h_88, H_193⟩ := of_bind H_190
                  rcases Bool.eq_false_or_eq_true ((r_87 != (((List.length r_69) : Nat) : Int))) with b_89 | b_89
                  · have H_194 := of_t H_193 b_89
                    refine V_draw hN hn (by kernel_rfl) [(1, ⟨16, 0, [.agg [.val (.int .i64 d_1), .imm (.slice (.pair (.int .i64) (.pair (.int .i64) .str))) d_2]], [], .c (.val (.int .i64 r_87)), [], [], 3⟩)] [(99, true)] (calls_cons (delta_Size_spec K d_1 d_2 r_87 h_88) (by kernel_rfl) calls_nil) 3 [2, 3, 8, 9, 10, 116] [0, 2] ⟨[(2, .c (.val (.string s_5))), (3, .c (.h 0)), (8, .c (.val (.string r_30.1))), (9, .c (.val (.int .i64 r_30.2))), (10, .c (.h 2)), (116, .c (.val (.bool true)))], [(0, .box [.val (.int .i64 d_1), .imm (.slice (.pair (.int .i64) (.pair (.int .i64) .str))) d_2]), (2, .row (.pair (.int .i64) (.int .u8)) r_69)], 3⟩ [(r_87 != (((List.length r_69) : Nat) : Int)) = true] (by kernel_rfl) rfl rfl (ap1 b_89) (by kernel_rfl) (by kernel_rfl) ?_
                    have H_196 := Option.some.inj (show some true = some q_189 from H_194); subst H_196
                    refine VL_nil ?_
                    exact QP_end true rfl [(0, 0), (2, 2)] hn (by kernel_rfl) (by kernel_rfl) rfl rfl rfl
                  · have H_195 := of_f H_193 b_89
                    obtain ⟨r_91, h_92, H_197⟩ := of_bind H_195
                    rcases Bool.eq_false_or_eq_true ((r_91 != (IntKind.wrap .i64 ((((List.length r_69) : Nat) : Int) - y_180)))) with b_93 | b_93
                    · have H_198 := of_t H_197 b_93
                      refine V_draw hN hn (by kernel_rfl) [(1, ⟨16, 0, [.agg [.val (.int .i64 d_1), .imm (.slice (.pair (.int .i64) (.pair (.int .i64) .str))) d_2]], [], .c (.val (.int .i64 r_87)), [], [], 3⟩), (7, ⟨17, 0, [.agg [.val (.int .i64 d_1), .imm (.slice (.pair (.int .i64) (.pair (.int .i64) .str))) d_2]], [], .c (.val (.int .i64 r_91)), [], [], 3⟩)] [(99, false), (108, true)] (calls_cons (delta_Size_spec K d_1 d_2 r_87 h_88) (by kernel_rfl) (calls_cons (delta_Adds_spec K d_1 d_2 r_91 h_92) (by kernel_rfl) calls_nil)) 3 [2, 3, 8, 9, 10, 116] [0, 2] ⟨[(2, .c (.val (.string s_5))), (3, .c (.h 0)), (8, .c (.val (.string r_30.1))), (9, .c (.val (.int .i64 r_30.2))), (10, .c (.h 2)), (116, .c (.val (.bool true)))], [(0, .box [.val (.int .i64 d_1), .imm (.slice (.pair (.int .i64) (.pair (.int .i64) .str))) d_2]), (2, .row (.pair (.int .i64) (.int .u8)) r_69)], 3⟩ [(r_87 != (((List.length r_69) : Nat) : Int)) = false, (r_91 != (IntKind.wrap .i64 ((((List.length r_69) : Nat) : Int) - y_180))) = true] (by kernel_rfl) rfl rfl (ap2 b_89 (ap1 b_93)) (by kernel_rfl) (by kernel_rfl) ?_
                      have H_200 := Option.some.inj (show some true = some q_189 from H_198); subst H_200
                      refine VL_nil ?_
                      exact QP_end true rfl [(0, 0), (2, 2)] hn (by kernel_rfl) (by kernel_rfl) rfl rfl rfl
                    · have H_199 := of_f H_197 b_93
                      obtain ⟨r_95, h_96, H_201⟩ := of_bind H_199
                      refine V_draw hN hn (by kernel_rfl) [(1, ⟨16, 0, [.agg [.val (.int .i64 d_1), .imm (.slice (.pair (.int .i64) (.pair (.int .i64) .str))) d_2]], [], .c (.val (.int .i64 r_87)), [], [], 3⟩), (7, ⟨17, 0, [.agg [.val (.int .i64 d_1), .imm (.slice (.pair (.int .i64) (.pair (.int .i64) .str))) d_2]], [], .c (.val (.int .i64 r_91)), [], [], 3⟩), (16, ⟨18, 0, [.agg [.val (.int .i64 d_1), .imm (.slice (.pair (.int .i64) (.pair (.int .i64) .str))) d_2]], [], .c (.val (.int .i64 r_95)), [], [], 3⟩)] [(99, false), (108, false)] (calls_cons (delta_Size_spec K d_1 d_2 r_87 h_88) (by kernel_rfl) (calls_cons (delta_Adds_spec K d_1 d_2 r_91 h_92) (by kernel_rfl) (calls_cons (delta_Drops_spec K d_1 d_2 r_95 h_96) (by kernel_rfl) calls_nil))) 3 [2, 3, 8, 9, 10, 116] [0, 2] ⟨[(2, .c (.val (.string s_5))), (3, .c (.h 0)), (8, .c (.val (.string r_30.1))), (9, .c (.val (.int .i64 r_30.2))), (10, .c (.h 2)), (116, .c (.val (.bool (r_95 != (IntKind.wrap .i64 (d_1 - y_180))))))], [(0, .box [.val (.int .i64 d_1), .imm (.slice (.pair (.int .i64) (.pair (.int .i64) .str))) d_2]), (2, .row (.pair (.int .i64) (.int .u8)) r_69)], 3⟩ [(r_87 != (((List.length r_69) : Nat) : Int)) = false, (r_91 != (IntKind.wrap .i64 ((((List.length r_69) : Nat) : Int) - y_180))) = false] (by kernel_rfl) rfl rfl (ap2 b_89 (ap1 b_93)) (by kernel_rfl) (by kernel_rfl) ?_
                      have H_202 := Option.some.inj (show some (r_95 != (IntKind.wrap .i64 (d_1 - y_180))) = some q_189 from H_201); subst H_202
                      refine VL_nil ?_
                      exact QP_end (r_95 != (IntKind.wrap .i64 (d_1 - y_180))) rfl [(0, 0), (2, 2)] hn (by kernel_rfl) (by kernel_rfl) rfl rfl rfl
                · intro y_192 hy; subst hy
                  skip
                  skip
                  refine VL_cond (y_192) (by kernel_rfl) ?_ ?_
                  · intro b_99; have H_203 := of_t H_191 b_99
                    refine V_run hN hn 2 3 [6] [] ⟨[(6, .c (.val (.bool false)))], [], 3⟩ [] (by kernel_rfl) rfl rfl ap0 ?_
                    have H_205 := Option.some.inj (show some false = some r from H_203); subst H_205
                    refine VL_ret ?_
                    exact P_to [(6, .c (.val (.bool false)))] [] [] hn (by kernel_rfl) (by kernel_rfl) rfl rfl rfl (QF_retS (by kernel_rfl) (by kernel_rfl) rfl)
                  · intro b_99; have H_204 := of_f H_191 b_99
                    refine V_run hN hn 4 3 [2, 8, 9, 10, 121] [2] ⟨[(2, .c (.val (.string s_5))), (8, .c (.val (.string r_30.1))), (9, .c (.val (.int .i64 r_30.2))), (10, .c (.h 2)), (121, .c (.val (.bool ((((ByteArray.size s_5) : Nat) : Int) != d_1))))], [(2, .row (.pair (.int .i64) (.int .u8)) r_69)], 3⟩ [] (by kernel_rfl) rfl rfl ap0 ?_
                    refine VL_cond (((((ByteArray.size s_5) : Nat) : Int) != d_1)) (by kernel_rfl) ?_ ?_
                    · intro b_102; have H_206 := of_t H_204 b_102
                      refine V_run hN hn 1 3 [2, 8, 9, 10, 121] [2] ⟨[(2, .c (.val (.string s_5))), (8, .c (.val (.string r_30.1))), (9, .c (.val (.int .i64 r_30.2))), (10, .c (.h 2)), (121, .c (.val (.bool ((((ByteArray.size s_5) : Nat) : Int) != d_1))))], [(2, .row (.pair (.int .i64) (.int .u8)) r_69)], 3⟩ [] (by kernel_rfl) rfl rfl ap0 ?_
                      rcases Bool.eq_false_or_eq_true ((r_30.2 == (80 : Int))) with b_104 | b_104
                      · have H_208 := of_t H_206 b_104
                        refine V_reg hN hn [] [(124, true)] calls_nil 3 [6] [] ⟨[(6, .c (.val (.bool (ByteArray.toList r_30.1 == ByteArray.toList (ByteArray.mk #[])))))], [], 3⟩ [(r_30.2 == (80 : Int)) = true] (by kernel_rfl) rfl rfl (ap1 b_104) (by kernel_rfl) (by kernel_rfl) ?_
                        have H_210 := Option.some.inj (show some (ByteArray.toList r_30.1 == ByteArray.toList (ByteArray.mk #[])) = some r from H_208); subst H_210
                        refine VL_ret ?_
                        exact P_to [(6, .c (.val (.bool (ByteArray.toList r_30.1 == ByteArray.toList (ByteArray.mk #[])))))] [] [] hn (by kernel_rfl) (by kernel_rfl) rfl rfl rfl (QF_retS (by kernel_rfl) (by kernel_rfl) rfl)
                      · have H_209 := of_f H_206 b_104
                        refine V_reg hN hn [] [(124, false)] calls_nil 3 [6] [] ⟨[(6, .c (.val (.bool false)))], [], 3⟩ [(r_30.2 == (80 : Int)) = false] (by kernel_rfl) rfl rfl (ap1 b_104) (by kernel_rfl) (by kernel_rfl) ?_
                        have H_211 := Option.some.inj (show some false = some r from H_209); subst H_211
                        refine VL_ret ?_
                        exact P_to [(6, .c (.val (.bool false)))] [] [] hn (by kernel_rfl) (by kernel_rfl) rfl rfl rfl (QF_retS (by kernel_rfl) (by kernel_rfl) rfl)
                    · intro b_102; have H_207 := of_f H_204 b_102
                      refine V_run hN hn 2 3 [2, 8, 9, 10, 121] [2] ⟨[(2, .c (.val (.string s_5))), (8, .c (.val (.string r_30.1))), (9, .c (.val (.int .i64 r_30.2))), (10, .c (.h 2)), (121, .c (.val (.bool ((((ByteArray.size s_5) : Nat) : Int) != d_1))))], [(2, .row (.pair (.int .i64) (.int .u8)) r_69)], 3⟩ [] (by kernel_rfl) rfl rfl ap0 ?_
                      rcases Bool.eq_false_or_eq_true ((r_30.2 == (0 : Int))) with b_108 | b_108
                      · have H_212 := of_t H_207 b_108
                        obtain ⟨r_109, h_110, H_214⟩ := of_bind H_212
                        refine V_reg hN hn [(6, ⟨20, 1, [.c (.h 0), .c (.val (.string s_5))], [(0, .row (.pair (.int .i64) (.int .u8)) r_69)], .c (.val (.string r_109)), [(0, .row (.pair (.int .i64) (.int .u8)) r_69)], [(0, 2)], 3⟩)] [(130, true)] (calls_cons (palinoderef11_Apply_rg_spec K r_69 s_5 r_109 h_110) (by kernel_rfl) calls_nil) 3 [6] [] ⟨[(6, .c (.val (.bool (ByteArray.toList r_30.1 == ByteArray.toList r_109))))], [], 3⟩ [(r_30.2 == (0 : Int)) = true] (by kernel_rfl) rfl rfl (ap1 b_108) (by kernel_rfl) (by kernel_rfl) ?_
                        have H_215 := Option.some.inj (show some (ByteArray.toList r_30.1 == ByteArray.toList r_109) = some r from H_214); subst H_215
                        refine VL_ret ?_
                        exact P_to [(6, .c (.val (.bool (ByteArray.toList r_30.1 == ByteArray.toList r_109))))] [] [] hn (by kernel_rfl) (by kernel_rfl) rfl rfl rfl (QF_retS (by kernel_rfl) (by kernel_rfl) rfl)
                      · have H_213 := of_f H_207 b_108
                        refine V_reg hN hn [] [(130, false)] calls_nil 3 [6] [] ⟨[(6, .c (.val (.bool false)))], [], 3⟩ [(r_30.2 == (0 : Int)) = false] (by kernel_rfl) rfl rfl (ap1 b_108) (by kernel_rfl) (by kernel_rfl) ?_
                        have H_216 := Option.some.inj (show some false = some r from H_213); subst H_216
                        refine VL_ret ?_
                        exact P_to [(6, .c (.val (.bool false)))] [] [] hn (by kernel_rfl) (by kernel_rfl) rfl rfl rfl (QF_retS (by kernel_rfl) (by kernel_rfl) rfl)

end Go.Pal
