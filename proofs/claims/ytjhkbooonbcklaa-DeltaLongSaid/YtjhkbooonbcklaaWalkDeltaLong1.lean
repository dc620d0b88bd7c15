/- The Go functions that DeltaLong reaches compute what the plain functions say: part 1, printed by a program of this workplace. -/
import Derived.Test.YtjhkbooonbcklaaChecked
import Derived.Test.YtjhkbooonbcklaaWalkDeltaLong0
namespace Go.Pal
open Go Go.Proofs
set_option maxRecDepth 100000
set_option linter.unusedVariables false

theorem palinoderef1_Size_spec (K : Nat) (s_1 : ByteArray) (at_2 : Int) (r : Int) (H : palinoderef1_Size K s_1 at_2 = some r) : Spec Try.prog 38 0 [.c (.val (.string s_1)), .c (.val (.int .i64 at_2))] [] (.c (.val (.int .i64 r))) [] := by
  refine Spec_mk (fn := Try.f38) (c := (Try.f38.body).get!) Try.func38 (by kernel_rfl) rfl ?_
  intro C hN hn
  replace hN : C.N = 94 := hN
  unfold palinoderef1_Size at H
  refine V_run hN hn 4 0 [0, 1] [] ⟨[(0, .c (.val (.string s_1))), (1, .c (.val (.int .i64 at_2)))], [], 0⟩ [] (by kernel_rfl) rfl rfl ap0 ?_
  obtain ⟨q_77, H_78, H_79⟩ := of_bind H
  refine V_cut (Y := Bool) (R := Bool) q_77 (fun y => y) (fun y => [(0, .c (.val (.string s_1))), (1, .c (.val (.int .i64 at_2))), (18, .c (.val (.bool y)))]) (fun y => []) ?_ ?_
  · skip
    rcases Bool.eq_false_or_eq_true ((decide (at_2 < (0 : Int)))) with b_4 | b_4
    · have H_81 := of_t H_78 b_4
      refine V_reg hN hn [] [(13, true)] calls_nil 0 [0, 1, 18] [] ⟨[(0, .c (.val (.string s_1))), (1, .c (.val (.int .i64 at_2))), (18, .c (.val (.bool true)))], [], 0⟩ [(decide (at_2 < (0 : Int))) = true] (by kernel_rfl) rfl rfl (ap1 b_4) (by kernel_rfl) (by kernel_rfl) ?_
      have H_83 := Option.some.inj (show some true = some q_77 from H_81); subst H_83
      refine VL_nil ?_
      exact QP_end true rfl [] hn (by kernel_rfl) (by kernel_rfl) rfl rfl rfl
    · have H_82 := of_f H_78 b_4
      refine V_reg hN hn [] [(13, false)] calls_nil 0 [0, 1, 18] [] ⟨[(0, .c (.val (.string s_1))), (1, .c (.val (.int .i64 at_2))), (18, .c (.val (.bool (decide (at_2 ≥ (((ByteArray.size s_1) : Nat) : Int))))))], [], 0⟩ [(decide (at_2 < (0 : Int))) = false] (by kernel_rfl) rfl rfl (ap1 b_4) (by kernel_rfl) (by kernel_rfl) ?_
      have H_84 := Option.some.inj (show some (decide (at_2 ≥ (((ByteArray.size s_1) : Nat) : Int))) = some q_77 from H_82); subst H_84
      refine VL_nil ?_
      exact QP_end (decide (at_2 ≥ (((ByteArray.size s_1) : Nat) : Int))) rfl [] hn (by kernel_rfl) (by kernel_rfl) rfl rfl rfl
  · intro y_80 hy; subst hy
    skip
    skip
    refine VL_cond (y_80) (by kernel_rfl) ?_ ?_
    · intro b_8; have H_85 := of_t H_79 b_8
      refine V_run hN hn 2 0 [4] [] ⟨[(4, .c (.val (.int .i64 (0 : Int))))], [], 0⟩ [] (by kernel_rfl) rfl rfl ap0 ?_
      have H_87 := Option.some.inj (show some (0 : Int) = some r from H_85); subst H_87
      refine VL_ret ?_
      exact P_to [(4, .c (.val (.int .i64 (0 : Int))))] [] [] hn (by kernel_rfl) (by kernel_rfl) rfl rfl rfl (QF_retS (by kernel_rfl) (by kernel_rfl) rfl)
    · intro b_8; have H_86 := of_f H_79 b_8
      obtain ⟨c_10, H_88⟩ := of_if H_86
      refine V_run hN hn 6 0 [0, 1, 5] [] ⟨[(0, .c (.val (.string s_1))), (1, .c (.val (.int .i64 at_2))), (5, .c (.val (.int .i64 (IntKind.wrap .i64 (bt s_1 at_2)))))], [], 0⟩ [0 ≤ at_2, at_2 < (((ByteArray.size s_1) : Nat) : Int)] (by kernel_rfl) rfl rfl (ap2 c_10.1 (ap1 c_10.2)) ?_
      refine VL_block ?_
      refine V_run hN hn 2 0 [0, 1, 5, 23] [] ⟨[(0, .c (.val (.string s_1))), (1, .c (.val (.int .i64 at_2))), (5, .c (.val (.int .i64 (IntKind.wrap .i64 (bt s_1 at_2))))), (23, .c (.val (.bool (decide ((IntKind.wrap .i64 (bt s_1 at_2)) < (128 : Int))))))], [], 0⟩ [] (by kernel_rfl) rfl rfl ap0 ?_
      refine VL_cond ((decide ((IntKind.wrap .i64 (bt s_1 at_2)) < (128 : Int)))) (by kernel_rfl) ?_ ?_
      · intro b_12; have H_89 := of_t H_88 b_12
        refine V_run hN hn 2 0 [4] [] ⟨[(4, .c (.val (.int .i64 (1 : Int))))], [], 0⟩ [] (by kernel_rfl) rfl rfl ap0 ?_
        have H_91 := Option.some.inj (show some (1 : Int) = some r from H_89); subst H_91
        refine VL_ret ?_
        refine QB_ret ?_
        exact P_to [(4, .c (.val (.int .i64 (1 : Int))))] [] [] hn (by kernel_rfl) (by kernel_rfl) rfl rfl rfl (QF_retS (by kernel_rfl) (by kernel_rfl) rfl)
      · intro b_12; have H_90 := of_f H_88 b_12
        refine V_run hN hn 1 0 [0, 1, 5, 23] [] ⟨[(0, .c (.val (.string s_1))), (1, .c (.val (.int .i64 at_2))), (5, .c (.val (.int .i64 (IntKind.wrap .i64 (bt s_1 at_2))))), (23, .c (.val (.bool (decide ((IntKind.wrap .i64 (bt s_1 at_2)) < (128 : Int))))))], [], 0⟩ [] (by kernel_rfl) rfl rfl ap0 ?_
        obtain ⟨q_92, H_93, H_94⟩ := of_bind H_90
        refine V_cut (Y := Bool) (R := Bool) q_92 (fun y => y) (fun y => [(0, .c (.val (.string s_1))), (1, .c (.val (.int .i64 at_2))), (5, .c (.val (.int .i64 (IntKind.wrap .i64 (bt s_1 at_2))))), (26, .c (.val (.bool y)))]) (fun y => []) ?_ ?_
        · skip
          rcases Bool.eq_false_or_eq_true ((decide ((IntKind.wrap .i64 (bt s_1 at_2)) ≥ (192 : Int)))) with b_15 | b_15
          · have H_96 := of_t H_93 b_15
            refine V_reg hN hn [] [(29, true)] calls_nil 0 [0, 1, 5, 26] [] ⟨[(0, .c (.val (.string s_1))), (1, .c (.val (.int .i64 at_2))), (5, .c (.val (.int .i64 (IntKind.wrap .i64 (bt s_1 at_2))))), (26, .c (.val (.bool (decide ((IntKind.wrap .i64 (bt s_1 at_2)) < (224 : Int))))))], [], 0⟩ [(decide ((IntKind.wrap .i64 (bt s_1 at_2)) ≥ (192 : Int))) = true] (by kernel_rfl) rfl rfl (ap1 b_15) (by kernel_rfl) (by kernel_rfl) ?_
            have H_98 := Option.some.inj (show some (decide ((IntKind.wrap .i64 (bt s_1 at_2)) < (224 : Int))) = some q_92 from H_96); subst H_98
            refine VL_nil ?_
            exact QP_end (decide ((IntKind.wrap .i64 (bt s_1 at_2)) < (224 : Int))) rfl [] hn (by kernel_rfl) (by kernel_rfl) rfl rfl rfl
          · have H_97 := of_f H_93 b_15
            refine V_reg hN hn [] [(29, false)] calls_nil 0 [0, 1, 5, 26] [] ⟨[(0, .c (.val (.string s_1))), (1, .c (.val (.int .i64 at_2))), (5, .c (.val (.int .i64 (IntKind.wrap .i64 (bt s_1 at_2))))), (26, .c (.val (.bool false)))], [], 0⟩ [(decide ((IntKind.wrap .i64 (bt s_1 at_2)) ≥ (192 : Int))) = false] (by kernel_rfl) rfl rfl (ap1 b_15) (by kernel_rfl) (by kernel_rfl) ?_
            have H_99 := Option.some.inj (show some false = some q_92 from H_97); subst H_99
            refine VL_nil ?_
            exact QP_end false rfl [] hn (by kernel_rfl) (by kernel_rfl) rfl rfl rfl
        · intro y_95 hy; subst hy
          skip
          skip
          obtain ⟨q_100, H_101, H_102⟩ := of_bind H_94
          refine V_cut (Y := (Int × Int × Int)) (R := (Int ⊕ (Int × Int × Int))) q_100 (fun y => (Sum.inr y)) (fun y => [(0, .c (.val (.string s_1))), (1, .c (.val (.int .i64 at_2))), (6, .c (.val (.int .i64 y.1))), (7, .c (.val (.int .i64 y.2.1))), (8, .c (.val (.int .i64 y.2.2)))]) (fun y => []) ?_ ?_
          · skip
            refine VL_cond (y_95) (by kernel_rfl) ?_ ?_
            · intro b_19; have H_104 := of_t H_101 b_19
              refine V_run hN hn 1 0 [0, 1, 6, 7, 8] [] ⟨[(0, .c (.val (.string s_1))), (1, .c (.val (.int .i64 at_2))), (6, .c (.val (.int .i64 (2 : Int)))), (7, .c (.val (.int .i64 (IntKind.wrap .i64 (BitVec.toNat (BitVec.ofInt (IntKind.bits .i64) (IntKind.wrap .i64 (bt s_1 at_2)) &&& BitVec.ofInt (IntKind.bits .i64) (31 : Int))))))), (8, .c (.val (.int .i64 (128 : Int))))], [], 0⟩ [] (by kernel_rfl) rfl rfl ap0 ?_
              have H_106 := Option.some.inj (show some (Sum.inr ((2 : Int), (IntKind.wrap .i64 (BitVec.toNat (BitVec.ofInt (IntKind.bits .i64) (IntKind.wrap .i64 (bt s_1 at_2)) &&& BitVec.ofInt (IntKind.bits .i64) (31 : Int)))), (128 : Int))) = some q_100 from H_104); subst H_106
              refine VL_nil ?_
              exact QP_end ((2 : Int), (IntKind.wrap .i64 (BitVec.toNat (BitVec.ofInt (IntKind.bits .i64) (IntKind.wrap .i64 (bt s_1 at_2)) &&& BitVec.ofInt (IntKind.bits .i64) (31 : Int)))), (128 : Int)) rfl [] hn (by kernel_rfl) (by kernel_rfl) rfl rfl rfl
            · intro b_19; have H_105 := of_f H_101 b_19
              refine V_run hN hn 1 0 [0, 1, 5, 26] [] ⟨[(0, .c (.val (.string s_1))), (1, .c (.val (.int .i64 at_2))), (5, .c (.val (.int .i64 (IntKind.wrap .i64 (bt s_1 at_2))))), (26, .c (.val (.bool y_95)))], [], 0⟩ [] (by kernel_rfl) rfl rfl ap0 ?_
              obtain ⟨q_107, H_108, H_109⟩ := of_bind H_105
              refine V_cut (Y := Bool) (R := Bool) q_107 (fun y => y) (fun y => [(0, .c (.val (.string s_1))), (1, .c (.val (.int .i64 at_2))), (5, .c (.val (.int .i64 (IntKind.wrap .i64 (bt s_1 at_2))))), (35, .c (.val (.bool y)))]) (fun y => []) ?_ ?_
              · skip
                rcases Bool.eq_false_or_eq_true ((decide ((IntKind.wrap .i64 (bt s_1 at_2)) ≥ (224 : Int)))) with b_22 | b_22
                · have H_111 := of_t H_108 b_22
                  refine V_reg hN hn [] [(38, true)] calls_nil 0 [0, 1, 5, 35] [] ⟨[(0, .c (.val (.string s_1))), (1, .c (.val (.int .i64 at_2))), (5, .c (.val (.int .i64 (IntKind.wrap .i64 (bt s_1 at_2))))), (35, .c (.val (.bool (decide ((IntKind.wrap .i64 (bt s_1 at_2)) < (240 : Int))))))], [], 0⟩ [(decide ((IntKind.wrap .i64 (bt s_1 at_2)) ≥ (224 : Int))) = true] (by kernel_rfl) rfl rfl (ap1 b_22) (by kernel_rfl) (by kernel_rfl) ?_
                  have H_113 := Option.some.inj (show some (decide ((IntKind.wrap .i64 (bt s_1 at_2)) < (240 : Int))) = some q_107 from H_111); subst H_113
                  refine VL_nil ?_
                  exact QP_end (decide ((IntKind.wrap .i64 (bt s_1 at_2)) < (240 : Int))) rfl [] hn (by kernel_rfl) (by kernel_rfl) rfl rfl rfl
                · have H_112 := of_f H_108 b_22
                  refine V_reg hN hn [] [(38, false)] calls_nil 0 [0, 1, 5, 35] [] ⟨[(0, .c (.val (.string s_1))), (1, .c (.val (.int .i64 at_2))), (5, .c (.val (.int .i64 (IntKind.wrap .i64 (bt s_1 at_2))))), (35, .c (.val (.bool false)))], [], 0⟩ [(decide ((IntKind.wrap .i64 (bt s_1 at_2)) ≥ (224 : Int))) = false] (by kernel_rfl) rfl rfl (ap1 b_22) (by kernel_rfl) (by kernel_rfl) ?_
                  have H_114 := Option.some.inj (show some false = some q_107 from H_112); subst H_114
                  refine VL_nil ?_
                  exact QP_end false rfl [] hn (by kernel_rfl) (by kernel_rfl) rfl rfl rfl
              · intro y_110 hy; subst hy
                skip
                skip
                refine VL_cond (y_110) (by kernel_rfl) ?_ ?_
                · intro b_26; have H_115 := of_t H_109 b_26
                  refine V_run hN hn 1 0 [0, 1, 6, 7, 8] [] ⟨[(0, .c (.val (.string s_1))), (1, .c (.val (.int .i64 at_2))), (6, .c (.val (.int .i64 (3 : Int)))), (7, .c (.val (.int .i64 (IntKind.wrap .i64 (BitVec.toNat (BitVec.ofInt (IntKind.bits .i64) (IntKind.wrap .i64 (bt s_1 at_2)) &&& BitVec.ofInt (IntKind.bits .i64) (15 : Int))))))), (8, .c (.val (.int .i64 (2048 : Int))))], [], 0⟩ [] (by kernel_rfl) rfl rfl ap0 ?_
                  have H_117 := Option.some.inj (show some (Sum.inr ((3 : Int), (IntKind.wrap .i64 (BitVec.toNat (BitVec.ofInt (IntKind.bits .i64) (IntKind.wrap .i64 (bt s_1 at_2)) &&& BitVec.ofInt (IntKind.bits .i64) (15 : Int)))), (2048 : Int))) = some q_100 from H_115); subst H_117
                  refine VL_nil ?_
                  exact QP_end ((3 : Int), (IntKind.wrap .i64 (BitVec.toNat (BitVec.ofInt (IntKind.bits .i64) (IntKind.wrap .i64 (bt s_1 at_2)) &&& BitVec.ofInt (IntKind.bits .i64) (15 : Int)))), (2048 : Int)) rfl [] hn (by kernel_rfl) (by kernel_rfl) rfl rfl rfl
                · intro b_26; have H_116 := of_f H_109 b_26
                  refine V_run hN hn 1 0 [0, 1, 5, 35] [] ⟨[(0, .c (.val (.string s_1))), (1, .c (.val (.int .i64 at_2))), (5, .c (.val (.int .i64 (IntKind.wrap .i64 (bt s_1 at_2))))), (35, .c (.val (.bool y_110)))], [], 0⟩ [] (by kernel_rfl) rfl rfl ap0 ?_
                  obtain ⟨q_118, H_119, H_120⟩ := of_bind H_116
                  refine V_cut (Y := Bool) (R := Bool) q_118 (fun y => y) (fun y => [(0, .c (.val (.string s_1))), (1, .c (.val (.int .i64 at_2))), (5, .c (.val (.int .i64 (IntKind.wrap .i64 (bt s_1 at_2))))), (44, .c (.val (.bool y)))]) (fun y => []) ?_ ?_
                  · skip
                    rcases Bool.eq_false_or_eq_true ((decide ((IntKind.wrap .i64 (bt s_1 at_2)) ≥ (240 : Int)))) with b_29 | b_29
                    · have H_122 := of_t H_119 b_29
                      refine V_reg hN hn [] [(47, true)] calls_nil 0 [0, 1, 5, 44] [] ⟨[(0, .c (.val (.string s_1))), (1, .c (.val (.int .i64 at_2))), (5, .c (.val (.int .i64 (IntKind.wrap .i64 (bt s_1 at_2))))), (44, .c (.val (.bool (decide ((IntKind.wrap .i64 (bt s_1 at_2)) < (248 : Int))))))], [], 0⟩ [(decide ((IntKind.wrap .i64 (bt s_1 at_2)) ≥ (240 : Int))) = true] (by kernel_rfl) rfl rfl (ap1 b_29) (by kernel_rfl) (by kernel_rfl) ?_
                      have H_124 := Option.some.inj (show some (decide ((IntKind.wrap .i64 (bt s_1 at_2)) < (248 : Int))) = some q_118 from H_122); subst H_124
                      refine VL_nil ?_
                      exact QP_end (decide ((IntKind.wrap .i64 (bt s_1 at_2)) < (248 : Int))) rfl [] hn (by kernel_rfl) (by kernel_rfl) rfl rfl rfl
                    · have H_123 := of_f H_119 b_29
                      refine V_reg hN hn [] [(47, false)] calls_nil 0 [0, 1, 5, 44] [] ⟨[(0, .c (.val (.string s_1))), (1, .c (.val (.int .i64 at_2))), (5, .c (.val (.int .i64 (IntKind.wrap .i64 (bt s_1 at_2))))), (44, .c (.val (.bool false)))], [], 0⟩ [(decide ((IntKind.wrap .i64 (bt s_1 at_2)) ≥ (240 : Int))) = false] (by kernel_rfl) rfl rfl (ap1 b_29) (by kernel_rfl) (by kernel_rfl) ?_
                      have H_125 := Option.some.inj (show some false = some q_118 from H_123); subst H_125
                      refine VL_nil ?_
                      exact QP_end false rfl [] hn (by kernel_rfl) (by kernel_rfl) rfl rfl rfl
                  · intro y_121 hy; subst hy
                    skip
                    skip
                    refine VL_cond (y_121) (by kernel_rfl) ?_ ?_
                    · intro b_33; have H_126 := of_t H_120 b_33
                      refine V_run hN hn 1 0 [0, 1, 6, 7, 8] [] ⟨[(0, .c (.val (.string s_1))), (1, .c (.val (.int .i64 at_2))), (6, .c (.val (.int .i64 (4 : Int)))), (7, .c (.val (.int .i64 (IntKind.wrap .i64 (BitVec.toNat (BitVec.ofInt (IntKind.bits .i64) (IntKind.wrap .i64 (bt s_1 at_2)) &&& BitVec.ofInt (IntKind.bits .i64) (7 : Int))))))), (8, .c (.val (.int .i64 (65536 : Int))))], [], 0⟩ [] (by kernel_rfl) rfl rfl ap0 ?_
                      have H_128 := Option.some.inj (show some (Sum.inr ((4 : Int), (IntKind.wrap .i64 (BitVec.toNat (BitVec.ofInt (IntKind.bits .i64) (IntKind.wrap .i64 (bt s_1 at_2)) &&& BitVec.ofInt (IntKind.bits .i64) (7 : Int)))), (65536 : Int))) = some q_100 from H_126); subst H_128
                      refine VL_nil ?_
                      exact QP_end ((4 : Int), (IntKind.wrap .i64 (BitVec.toNat (BitVec.ofInt (IntKind.bits .i64) (IntKind.wrap .i64 (bt s_1 at_2)) &&& BitVec.ofInt (IntKind.bits .i64) (7 : Int)))), (65536 : Int)) rfl [] hn (by kernel_rfl) (by kernel_rfl) rfl rfl rfl
                    · intro b_33; have H_127 := of_f H_120 b_33
                      refine V_run hN hn 2 0 [4] [] ⟨[(4, .c (.val (.int .i64 (0 : Int))))], [], 0⟩ [] (by kernel_rfl) rfl rfl ap0 ?_
                      have H_129 := Option.some.inj (show some (Sum.inl (0 : Int)) = some q_100 from H_127); subst H_129
                      have H_130 := Option.some.inj (show some (0 : Int) = some r from H_102); subst H_130
                      refine VL_ret ?_
                      refine QP_ret ?_
                      refine QB_ret ?_
                      exact P_to [(4, .c (.val (.int .i64 (0 : Int))))] [] [] hn (by kernel_rfl) (by kernel_rfl) rfl rfl rfl (QF_retS (by kernel_rfl) (by kernel_rfl) rfl)
          · intro y_103 hy; subst hy
            obtain ⟨n_36, v_37, least_38⟩ := y_103
            refine VL_nil (QB_end ?_)
            refine V_run hN hn 3 0 [0, 1, 6, 7, 8, 58] [] ⟨[(0, .c (.val (.string s_1))), (1, .c (.val (.int .i64 at_2))), (6, .c (.val (.int .i64 n_36))), (7, .c (.val (.int .i64 v_37))), (8, .c (.val (.int .i64 least_38))), (58, .c (.val (.bool (decide ((IntKind.wrap .i64 ((((ByteArray.size s_1) : Nat) : Int) - at_2)) < n_36)))))], [], 0⟩ [] (by kernel_rfl) rfl rfl ap0 ?_
            refine VL_cond ((decide ((IntKind.wrap .i64 ((((ByteArray.size s_1) : Nat) : Int) - at_2)) < n_36))) (by kernel_rfl) ?_ ?_
            · intro b_40; have H_131 := of_t H_102 b_40
              refine V_run hN hn 2 0 [4] [] ⟨[(4, .c (.val (.int .i64 (0 : Int))))], [], 0⟩ [] (by kernel_rfl) rfl rfl ap0 ?_
              have H_133 := Option.some.inj (show some (0 : Int) = some r from H_131); subst H_133
              refine VL_ret ?_
              exact P_to [(4, .c (.val (.int .i64 (0 : Int))))] [] [] hn (by kernel_rfl) (by kernel_rfl) rfl rfl rfl (QF_retS (by kernel_rfl) (by kernel_rfl) rfl)
            · intro b_40; have H_132 := of_f H_102 b_40
              refine V_run hN hn 4 0 [0, 1, 6, 7, 8, 9] [] ⟨[(0, .c (.val (.string s_1))), (1, .c (.val (.int .i64 at_2))), (6, .c (.val (.int .i64 n_36))), (7, .c (.val (.int .i64 v_37))), (8, .c (.val (.int .i64 least_38))), (9, .c (.val (.int .i64 (1 : Int))))], [], 0⟩ [] (by kernel_rfl) rfl rfl ap0 ?_
              obtain ⟨q_134, H_135, H_136⟩ := of_bind H_132
              refine V_cut (Y := Int) (R := (Int ⊕ Int)) q_134 (fun y => (Sum.inr y)) (fun y => [(6, .c (.val (.int .i64 n_36))), (7, .c (.val (.int .i64 y))), (8, .c (.val (.int .i64 least_38)))]) (fun y => []) ?_ ?_
              · skip
                refine VL_block ?_
                refine V_to [(0, .c (.val (.string s_1))), (1, .c (.val (.int .i64 at_2))), (6, .c (.val (.int .i64 n_36))), (7, .c (.val (.int .i64 v_37))), (8, .c (.val (.int .i64 least_38))), (9, .c (.val (.int .i64 (1 : Int))))] [] [] hn (by kernel_rfl) (by kernel_rfl) rfl rfl rfl ?_
                refine VL_loop (X := (Int × Int)) (fun x => [(0, .c (.val (.string s_1))), (1, .c (.val (.int .i64 at_2))), (6, .c (.val (.int .i64 n_36))), (7, .c (.val (.int .i64 x.1))), (8, .c (.val (.int .i64 least_38))), (9, .c (.val (.int .i64 x.2)))]) (fun x => []) (fun k x => palinoderef1_Size.l0 K n_36 at_2 s_1 k x.1 x.2 = some q_134) K (v_37, (1 : Int)) H_135 (fun _ h => no_none h) ?_
                intro k_45 x_45 H_138
                obtain ⟨v_43, i_44⟩ := x_45
                have H_139 : palinoderef1_Size.l0 K n_36 at_2 s_1 (k_45 + 1) v_43 i_44 = some q_134 := H_138
                rw [palinoderef1_Size.l0] at H_139
                refine V_run hN hn 3 0 [0, 1, 6, 7, 8, 9, 61] [] ⟨[(0, .c (.val (.string s_1))), (1, .c (.val (.int .i64 at_2))), (6, .c (.val (.int .i64 n_36))), (7, .c (.val (.int .i64 v_43))), (8, .c (.val (.int .i64 least_38))), (9, .c (.val (.int .i64 i_44))), (61, .c (.val (.bool (decide (i_44 < n_36)))))], [], 0⟩ [] (by kernel_rfl) rfl rfl ap0 ?_
                refine VL_cond ((decide (i_44 < n_36))) (by kernel_rfl) ?_ ?_
                · intro b_47; have H_140 := of_t H_139 b_47
                  refine V_run hN hn 2 0 [0, 1, 6, 7, 8, 9, 61] [] ⟨[(0, .c (.val (.string s_1))), (1, .c (.val (.int .i64 at_2))), (6, .c (.val (.int .i64 n_36))), (7, .c (.val (.int .i64 v_43))), (8, .c (.val (.int .i64 least_38))), (9, .c (.val (.int .i64 i_44))), (61, .c (.val (.bool (decide (i_44 < n_36)))))], [], 0⟩ [] (by kernel_rfl) rfl rfl ap0 ?_
                  refine VL_block ?_
                  obtain ⟨c_49, H_142⟩ := of_if H_140
                  refine V_run hN hn 5 0 [0, 1, 6, 7, 8, 9, 10, 72] [] ⟨[(0, .c (.val (.string s_1))), (1, .c (.val (.int .i64 at_2))), (6, .c (.val (.int .i64 n_36))), (7, .c (.val (.int .i64 v_43))), (8, .c (.val (.int .i64 least_38))), (9, .c (.val (.int .i64 i_44))), (10, .c (.val (.int .i64 (IntKind.wrap .i64 (bt s_1 (IntKind.wrap .i64 (at_2 + i_44))))))), (72, .c (.val (.bool ((Int.fdiv (IntKind.wrap .i64 (bt s_1 (IntKind.wrap .i64 (at_2 + i_44)))) (64 : Int)) != (2 : Int)))))], [], 0⟩ [0 ≤ (IntKind.wrap .i64 (at_2 + i_44)), (IntKind.wrap .i64 (at_2 + i_44)) < (((ByteArray.size s_1) : Nat) : Int), (0 : Int) ≤ (6 : Int)] (by kernel_rfl) rfl rfl (ap2 c_49.1 (ap2 c_49.2 (ap1 (by decide)))) ?_
                  refine VL_cond (((Int.fdiv (IntKind.wrap .i64 (bt s_1 (IntKind.wrap .i64 (at_2 + i_44)))) (64 : Int)) != (2 : Int))) (by kernel_rfl) ?_ ?_
                  · intro b_50; have H_143 := of_t H_142 b_50
                    refine V_run hN hn 2 0 [4] [] ⟨[(4, .c (.val (.int .i64 (0 : Int))))], [], 0⟩ [] (by kernel_rfl) rfl rfl ap0 ?_
                    have H_145 := Option.some.inj (show some (Sum.inl (0 : Int)) = some q_134 from H_143); subst H_145
                    have H_146 := Option.some.inj (show some (0 : Int) = some r from H_136); subst H_146
                    refine VL_ret ?_
                    refine QB_ret ?_
                    refine QL_ret ?_
                    refine QB_ret ?_
                    refine QP_ret ?_
                    exact P_to [(4, .c (.val (.int .i64 (0 : Int))))] [] [] hn (by kernel_rfl) (by kernel_rfl) rfl rfl rfl (QF_retS (by kernel_rfl) (by kernel_rfl) rfl)
                  · intro b_50; have H_144 := of_f H_142 b_50
                    refine V_run hN hn 2 0 [0, 1, 6, 7, 8, 9] [] ⟨[(0, .c (.val (.string s_1))), (1, .c (.val (.int .i64 at_2))), (6, .c (.val (.int .i64 n_36))), (7, .c (.val (.int .i64 (IntKind.wrap .i64 (BitVec.toNat (BitVec.ofInt (IntKind.bits .i64) (IntKind.wrap .i64 (v_43 * (64 : Int))) ||| BitVec.ofInt (IntKind.bits .i64) (IntKind.wrap .i64 (BitVec.toNat (BitVec.ofInt (IntKind.bits .i64) (IntKind.wrap .i64 (bt s_1 (IntKind.wrap .i64 (at_2 + i_44)))) &&& BitVec.ofInt (IntKind.bits .i64) (63 : Int)))))))))), (8, .c (.val (.int .i64 least_38))), (9, .c (.val (.int .i64 i_44)))], [], 0⟩ [(0 : Int) ≤ (6 : Int)] (by kernel_rfl) rfl rfl (ap1 (by decide)) ?_
                    refine VL_nil (QB_end ?_)
                    refine V_run hN hn 1 0 [0, 1, 6, 7, 8, 9] [] ⟨[(0, .c (.val (.string s_1))), (1, .c (.val (.int .i64 at_2))), (6, .c (.val (.int .i64 n_36))), (7, .c (.val (.int .i64 (IntKind.wrap .i64 (BitVec.toNat (BitVec.ofInt (IntKind.bits .i64) (IntKind.wrap .i64 (v_43 * (64 : Int))) ||| BitVec.ofInt (IntKind.bits .i64) (IntKind.wrap .i64 (BitVec.toNat (BitVec.ofInt (IntKind.bits .i64) (IntKind.wrap .i64 (bt s_1 (IntKind.wrap .i64 (at_2 + i_44)))) &&& BitVec.ofInt (IntKind.bits .i64) (63 : Int)))))))))), (8, .c (.val (.int .i64 least_38))), (9, .c (.val (.int .i64 (IntKind.wrap .i64 (i_44 + (1 : Int))))))], [], 0⟩ [] (by kernel_rfl) rfl rfl ap0 ?_
                    refine VL_nil ?_
                    exact V_roundEnd ((IntKind.wrap .i64 (BitVec.toNat (BitVec.ofInt (IntKind.bits .i64) (IntKind.wrap .i64 (v_43 * (64 : Int))) ||| BitVec.ofInt (IntKind.bits .i64) (IntKind.wrap .i64 (BitVec.toNat (BitVec.ofInt (IntKind.bits .i64) (IntKind.wrap .i64 (bt s_1 (IntKind.wrap .i64 (at_2 + i_44)))) &&& BitVec.ofInt (IntKind.bits .i64) (63 : Int))))))), (IntKind.wrap .i64 (i_44 + (1 : Int)))) H_144 [] hn (by kernel_rfl) (by kernel_rfl) rfl rfl rfl
                · intro b_47; have H_141 := of_f H_139 b_47
                  refine VL_exit ?_
                  refine QL_exit ?_
                  refine QB_here ?_
                  have H_147 := Option.some.inj (show some (Sum.inr v_43) = some q_134 from H_141); subst H_147
                  refine VL_nil ?_
                  exact QP_end v_43 rfl [] hn (by kernel_rfl) (by kernel_rfl) rfl rfl rfl
              · intro y_137 hy; subst hy
                skip
                skip
                refine V_run hN hn 2 0 [6, 7, 8] [] ⟨[(6, .c (.val (.int .i64 n_36))), (7, .c (.val (.int .i64 y_137))), (8, .c (.val (.int .i64 least_38)))], [], 0⟩ [] (by kernel_rfl) rfl rfl ap0 ?_
                obtain ⟨q_148, H_149, H_150⟩ := of_bind H_136
                refine V_cut (Y := Bool) (R := Bool) q_148 (fun y => y) (fun y => [(6, .c (.val (.int .i64 n_36))), (92, .c (.val (.bool y)))]) (fun y => []) ?_ ?_
                · skip
                  rcases Bool.eq_false_or_eq_true ((decide (y_137 < least_38))) with b_56 | b_56
                  · have H_152 := of_t H_149 b_56
                    refine V_reg hN hn [] [(81, true)] calls_nil 0 [6, 92] [] ⟨[(6, .c (.val (.int .i64 n_36))), (92, .c (.val (.bool true)))], [], 0⟩ [(decide (y_137 < least_38)) = true] (by kernel_rfl) rfl rfl (ap1 b_56) (by kernel_rfl) (by kernel_rfl) ?_
                    have H_154 := Option.some.inj (show some true = some q_148 from H_152); subst H_154
                    refine VL_nil ?_
                    exact QP_end true rfl [] hn (by kernel_rfl) (by kernel_rfl) rfl rfl rfl
                  · have H_153 := of_f H_149 b_56
                    rcases Bool.eq_false_or_eq_true ((decide (y_137 > (1114111 : Int)))) with b_58 | b_58
                    · have H_155 := of_t H_153 b_58
                      refine V_reg hN hn [] [(81, false), (85, true)] calls_nil 0 [6, 92] [] ⟨[(6, .c (.val (.int .i64 n_36))), (92, .c (.val (.bool true)))], [], 0⟩ [(decide (y_137 < least_38)) = false, (decide (y_137 > (1114111 : Int))) = true] (by kernel_rfl) rfl rfl (ap2 b_56 (ap1 b_58)) (by kernel_rfl) (by kernel_rfl) ?_
                      have H_157 := Option.some.inj (show some true = some q_148 from H_155); subst H_157
                      refine VL_nil ?_
                      exact QP_end true rfl [] hn (by kernel_rfl) (by kernel_rfl) rfl rfl rfl
                    · have H_156 := of_f H_153 b_58
                      rcases Bool.eq_false_or_eq_true ((decide (y_137 ≥ (55296 : Int)))) with b_60 | b_60
                      · have H_158 := of_t H_156 b_60
                        refine V_reg hN hn [] [(81, false), (85, false), (88, true)] calls_nil 0 [6, 92] [] ⟨[(6, .c (.val (.int .i64 n_36))), (92, .c (.val (.bool (decide (y_137 < (57344 : Int))))))], [], 0⟩ [(decide (y_137 < least_38)) = false, (decide (y_137 > (1114111 : Int))) = false, (decide (y_137 ≥ (55296 : Int))) = true] (by kernel_rfl) rfl rfl (ap2 b_56 (ap2 b_58 (ap1 b_60))) (by kernel_rfl) (by kernel_rfl) ?_
                        have H_160 := Option.some.inj (show some (decide (y_137 < (57344 : Int))) = some q_148 from H_158); subst H_160
                        refine VL_nil ?_
                        exact QP_end (decide (y_137 < (57344 : Int))) rfl [] hn (by kernel_rfl) (by kernel_rfl) rfl rfl rfl
                      · have H_159 := of_f H_156 b_60
                        refine V_reg hN hn [] [(81, false), (85, false), (88, false)] calls_nil 0 [6, 92] [] ⟨[(6, .c (.val (.int .i64 n_36))), (92, .c (.val (.bool false)))], [], 0⟩ [(decide (y_137 < least_38)) = false, (decide (y_137 > (1114111 : Int))) = false, (decide (y_137 ≥ (55296 : Int))) = false] (by kernel_rfl) rfl rfl (ap2 b_56 (ap2 b_58 (ap1 b_60))) (by kernel_rfl) (by kernel_rfl) ?_
                        have H_161 := Option.some.inj (show some false = some q_148 from H_159); subst H_161
                        refine VL_nil ?_
                        exact QP_end false rfl [] hn (by kernel_rfl) (by kernel_rfl) rfl rfl rfl
                · intro y_151 hy; subst hy
                  skip
                  skip
                  refine VL_cond (y_151) (by kernel_rfl) ?_ ?_
                  · intro b_64; have H_162 := of_t H_150 b_64
                    refine V_run hN hn 2 0 [4] [] ⟨[(4, .c (.val (.int .i64 (0 : Int))))], [], 0⟩ [] (by kernel_rfl) rfl rfl ap0 ?_
                    have H_164 := Option.some.inj (show some (0 : Int) = some r from H_162); subst H_164
                    refine VL_ret ?_
                    exact P_to [(4, .c (.val (.int .i64 (0 : Int))))] [] [] hn (by kernel_rfl) (by kernel_rfl) rfl rfl rfl (QF_retS (by kernel_rfl) (by kernel_rfl) rfl)
                  · intro b_64; have H_163 := of_f H_150 b_64
                    refine V_run hN hn 3 0 [4] [] ⟨[(4, .c (.val (.int .i64 n_36)))], [], 0⟩ [] (by kernel_rfl) rfl rfl ap0 ?_
                    have H_165 := Option.some.inj (show some n_36 = some r from H_163); subst H_165
                    refine VL_ret ?_
                    exact P_to [(4, .c (.val (.int .i64 n_36)))] [] [] hn (by kernel_rfl) (by kernel_rfl) rfl rfl rfl (QF_retS (by kernel_rfl) (by kernel_rfl) rfl)

theorem palinoderef1_Valid_spec (K : Nat) (s_1 : ByteArray) (r : Bool) (H : palinoderef1_Valid K s_1 = some r) : Spec Try.prog 25 0 [.c (.val (.string s_1))] [] (.c (.val (.bool r))) [] := by
  refine Spec_mk (fn := Try.f25) (c := (Try.f25.body).get!) Try.func25 (by kernel_rfl) rfl ?_
  intro C hN hn
  replace hN : C.N = 17 := hN
  unfold palinoderef1_Valid at H
  refine V_run hN hn 5 0 [0, 3] [] ⟨[(0, .c (.val (.string s_1))), (3, .c (.val (.int .i64 (0 : Int))))], [], 0⟩ [] (by kernel_rfl) rfl rfl ap0 ?_
  refine VL_block ?_
  refine V_to [(0, .c (.val (.string s_1))), (3, .c (.val (.int .i64 (0 : Int))))] [] [] hn (by kernel_rfl) (by kernel_rfl) rfl rfl rfl ?_
  refine VL_loop (X := Int) (fun x => [(0, .c (.val (.string s_1))), (3, .c (.val (.int .i64 x)))]) (fun x => []) (fun k x => palinoderef1_Valid.l0 K s_1 k x = some r) K (0 : Int) H (fun _ h => no_none h) ?_
  intro k_4 at_3 H_18
  have H_19 : palinoderef1_Valid.l0 K s_1 (k_4 + 1) at_3 = some r := H_18
  rw [palinoderef1_Valid.l0] at H_19
  refine V_run hN hn 3 0 [0, 3, 8] [] ⟨[(0, .c (.val (.string s_1))), (3, .c (.val (.int .i64 at_3))), (8, .c (.val (.bool (decide (at_3 < (((ByteArray.size s_1) : Nat) : Int))))))], [], 0⟩ [] (by kernel_rfl) rfl rfl ap0 ?_
  refine VL_cond ((decide (at_3 < (((ByteArray.size s_1) : Nat) : Int)))) (by kernel_rfl) ?_ ?_
  · intro b_6; have H_20 := of_t H_19 b_6
    refine V_run hN hn 1 0 [0, 3, 8] [] ⟨[(0, .c (.val (.string s_1))), (3, .c (.val (.int .i64 at_3))), (8, .c (.val (.bool (decide (at_3 < (((ByteArray.size s_1) : Nat) : Int))))))], [], 0⟩ [] (by kernel_rfl) rfl rfl ap0 ?_
    refine VL_block ?_
    refine V_run hN hn 1 0 [0, 3, 8] [] ⟨[(0, .c (.val (.string s_1))), (3, .c (.val (.int .i64 at_3))), (8, .c (.val (.bool (decide (at_3 < (((ByteArray.size s_1) : Nat) : Int))))))], [], 0⟩ [] (by kernel_rfl) rfl rfl ap0 ?_
    obtain ⟨r_9, h_10, H_22⟩ := of_bind H_20
    refine V_reg hN hn [(2, ⟨38, 0, [.c (.val (.string s_1)), .c (.val (.int .i64 at_3))], [], .c (.val (.int .i64 r_9)), [], [], 0⟩)] [] (calls_cons (palinoderef1_Size_spec K s_1 at_3 r_9 h_10) (by kernel_rfl) calls_nil) 0 [0, 3, 4] [] ⟨[(0, .c (.val (.string s_1))), (3, .c (.val (.int .i64 at_3))), (4, .c (.val (.int .i64 r_9)))], [], 0⟩ [] (by kernel_rfl) rfl rfl ap0 (by kernel_rfl) (by kernel_rfl) ?_
    refine V_run hN hn 3 0 [0, 3, 4, 13] [] ⟨[(0, .c (.val (.string s_1))), (3, .c (.val (.int .i64 at_3))), (4, .c (.val (.int .i64 r_9))), (13, .c (.val (.bool (r_9 == (0 : Int)))))], [], 0⟩ [] (by kernel_rfl) rfl rfl ap0 ?_
    refine VL_cond ((r_9 == (0 : Int))) (by kernel_rfl) ?_ ?_
    · intro b_13; have H_23 := of_t H_22 b_13
      refine V_run hN hn 2 0 [2] [] ⟨[(2, .c (.val (.bool false)))], [], 0⟩ [] (by kernel_rfl) rfl rfl ap0 ?_
      have H_25 := Option.some.inj (show some false = some r from H_23); subst H_25
      refine VL_ret ?_
      refine QB_ret ?_
      refine QL_ret ?_
      refine QB_ret ?_
      exact P_to [(2, .c (.val (.bool false)))] [] [] hn (by kernel_rfl) (by kernel_rfl) rfl rfl rfl (QF_retS (by kernel_rfl) (by kernel_rfl) rfl)
    · intro b_13; have H_24 := of_f H_22 b_13
      refine V_run hN hn 2 0 [0, 3] [] ⟨[(0, .c (.val (.string s_1))), (3, .c (.val (.int .i64 (IntKind.wrap .i64 (at_3 + r_9)))))], [], 0⟩ [] (by kernel_rfl) rfl rfl ap0 ?_
      refine VL_nil (QB_end ?_)
      refine VL_nil ?_
      exact V_roundEnd (IntKind.wrap .i64 (at_3 + r_9)) H_24 [] hn (by kernel_rfl) (by kernel_rfl) rfl rfl rfl
  · intro b_6; have H_21 := of_f H_19 b_6
    refine VL_exit ?_
    refine QL_exit ?_
    refine QB_here ?_
    refine V_run hN hn 2 0 [2] [] ⟨[(2, .c (.val (.bool true)))], [], 0⟩ [] (by kernel_rfl) rfl rfl ap0 ?_
    have H_26 := Option.some.inj (show some true = some r from H_21); subst H_26
    refine VL_ret ?_
    exact P_to [(2, .c (.val (.bool true)))] [] [] hn (by kernel_rfl) (by kernel_rfl) rfl rfl rfl (QF_retS (by kernel_rfl) (by kernel_rfl) rfl)

theorem palinodelaw11_DeltaLong_spec (K : Nat) (n_1 : Int) (more_2 : Int) (r : Bool) (H : palinodelaw11_DeltaLong K n_1 more_2 = some r) : Spec Try.prog 6 0 [.c (.val (.int .u8 n_1)), .c (.val (.int .u8 more_2))] [] (.c (.val (.bool r))) [] := by
  refine Spec_mk (fn := Try.f6) (c := (Try.f6.body).get!) Try.func6 (by kernel_rfl) rfl ?_
  intro C hN hn
  replace hN : C.N = 103 := hN
  unfold palinodelaw11_DeltaLong at H
  refine V_run hN hn 4 0 [0, 1] [] ⟨[(0, .c (.val (.int .u8 n_1))), (1, .c (.val (.int .u8 more_2)))], [], 0⟩ [] (by kernel_rfl) rfl rfl ap0 ?_
  obtain ⟨r_4, h_5, H_79⟩ := of_bind H
  refine V_reg hN hn [(0, ⟨9, 0, [], [], .c (.val (.bool r_4)), [], [], 0⟩)] [] (calls_cons (palinodelaw11_known_spec K  r_4 h_5) (by kernel_rfl) calls_nil) 0 [0, 1, 17] [] ⟨[(0, .c (.val (.int .u8 n_1))), (1, .c (.val (.int .u8 more_2))), (17, .c (.val (.bool (!r_4))))], [], 0⟩ [] (by kernel_rfl) rfl rfl ap0 (by kernel_rfl) (by kernel_rfl) ?_
  refine VL_cond ((!r_4)) (by kernel_rfl) ?_ ?_
  · intro b_7; have H_80 := of_t H_79 b_7
    refine V_run hN hn 2 0 [4] [] ⟨[(4, .c (.val (.bool false)))], [], 0⟩ [] (by kernel_rfl) rfl rfl ap0 ?_
    have H_82 := Option.some.inj (show some false = some r from H_80); subst H_82
    refine VL_ret ?_
    exact P_to [(4, .c (.val (.bool false)))] [] [] hn (by kernel_rfl) (by kernel_rfl) rfl rfl rfl (QF_retS (by kernel_rfl) (by kernel_rfl) rfl)
  · intro b_7; have H_81 := of_f H_79 b_7
    refine V_run hN hn 8 0 [1, 5, 6, 7] [] ⟨[(1, .c (.val (.int .u8 more_2))), (5, .c (.val (.slice none 0 0))), (6, .c (.val (.int .i64 (IntKind.wrap .i64 (Int.tmod n_1 (50 : Int)))))), (7, .c (.val (.int .i64 (0 : Int))))], [], 0⟩ [(50 : Int) ≠ (0 : Int)] (by kernel_rfl) rfl rfl (ap1 (by decide)) ?_
    obtain ⟨q_83, H_84, H_85⟩ := of_bind H_81
    refine V_cut (Y := (List (Int × (Int × ByteArray)))) (R := (List (Int × (Int × ByteArray)))) q_83 (fun y => y) (fun y => [(1, .c (.val (.int .u8 more_2))), (5, .c (.h 3)), (6, .c (.val (.int .i64 (IntKind.wrap .i64 (Int.tmod n_1 (50 : Int))))))]) (fun y => [(3, .row (.pair (.int .i64) (.pair (.int .i64) .str)) y)]) ?_ ?_
    · skip
      refine VL_block ?_
      refine V_ghost [.nilSlot 5 (.pair (.int .i64) (.pair (.int .i64) .str))] 0 hn [1, 5, 6, 7] [0] ⟨[(1, .c (.val (.int .u8 more_2))), (5, .c (.h 0)), (6, .c (.val (.int .i64 (IntKind.wrap .i64 (Int.tmod n_1 (50 : Int)))))), (7, .c (.val (.int .i64 (0 : Int))))], [(0, .row (.pair (.int .i64) (.pair (.int .i64) .str)) ([] : List (Int × (Int × ByteArray))))], 1⟩ (by kernel_rfl) rfl rfl ?_
      refine V_to [(1, .c (.val (.int .u8 more_2))), (5, .c (.h 3)), (6, .c (.val (.int .i64 (IntKind.wrap .i64 (Int.tmod n_1 (50 : Int)))))), (7, .c (.val (.int .i64 (0 : Int))))] [(3, .row (.pair (.int .i64) (.pair (.int .i64) .str)) ([] : List (Int × (Int × ByteArray))))] [(3, 0)] hn (by kernel_rfl) (by kernel_rfl) rfl rfl rfl ?_
      refine VL_loop (X := ((List (Int × (Int × ByteArray))) × Int)) (fun x => [(1, .c (.val (.int .u8 more_2))), (5, .c (.h 3)), (6, .c (.val (.int .i64 (IntKind.wrap .i64 (Int.tmod n_1 (50 : Int)))))), (7, .c (.val (.int .i64 x.2)))]) (fun x => [(3, .row (.pair (.int .i64) (.pair (.int .i64) .str)) x.1)]) (fun k x => palinodelaw11_DeltaLong.l0 K n_1 k x.1 x.2 = some q_83) K (([] : List (Int × (Int × ByteArray))), (0 : Int)) H_84 (fun _ h => no_none h) ?_
      intro k_18 x_18 H_87
      obtain ⟨l_17, i_10⟩ := x_18
      have H_88 : palinodelaw11_DeltaLong.l0 K n_1 (k_18 + 1) l_17 i_10 = some q_83 := H_87
      rw [palinodelaw11_DeltaLong.l0] at H_88
      refine V_run hN hn 3 4 [1, 5, 6, 7, 23] [3] ⟨[(1, .c (.val (.int .u8 more_2))), (5, .c (.h 3)), (6, .c (.val (.int .i64 (IntKind.wrap .i64 (Int.tmod n_1 (50 : Int)))))), (7, .c (.val (.int .i64 i_10))), (23, .c (.val (.bool (decide (i_10 < (IntKind.wrap .i64 (Int.tmod n_1 (50 : Int))))))))], [(3, .row (.pair (.int .i64) (.pair (.int .i64) .str)) l_17)], 4⟩ [] (by kernel_rfl) rfl rfl ap0 ?_
      refine VL_cond ((decide (i_10 < (IntKind.wrap .i64 (Int.tmod n_1 (50 : Int)))))) (by kernel_rfl) ?_ ?_
      · intro b_20; have H_89 := of_t H_88 b_20
        refine V_run hN hn 2 4 [1, 5, 6, 7, 23] [3] ⟨[(1, .c (.val (.int .u8 more_2))), (5, .c (.h 3)), (6, .c (.val (.int .i64 (IntKind.wrap .i64 (Int.tmod n_1 (50 : Int)))))), (7, .c (.val (.int .i64 i_10))), (23, .c (.val (.bool (decide (i_10 < (IntKind.wrap .i64 (Int.tmod n_1 (50 : Int))))))))], [(3, .row (.pair (.int .i64) (.pair (.int .i64) .str)) l_17)], 4⟩ [] (by kernel_rfl) rfl rfl ap0 ?_
        refine VL_block ?_
        obtain ⟨c_22, H_91⟩ := of_if H_89
        refine V_run hN hn 1 4 [1, 5, 6, 7] [5] ⟨[(1, .c (.val (.int .u8 more_2))), (5, .c (.h 5)), (6, .c (.val (.int .i64 (IntKind.wrap .i64 (Int.tmod n_1 (50 : Int)))))), (7, .c (.val (.int .i64 i_10)))], [(5, .row (.pair (.int .i64) (.pair (.int .i64) .str)) (l_17 ++ ([((IntKind.wrap .i64 ((IntKind.wrap .i64 ((2 : Int) * i_10)) + (1 : Int))), ((IntKind.wrap .i64 ((IntKind.wrap .i64 ((2 : Int) * i_10)) + (1 : Int))), (ByteArray.mk #[120])))] : List (Int × (Int × ByteArray)))))], 6⟩ [(List.length l_17 + List.length ([((IntKind.wrap .i64 ((IntKind.wrap .i64 ((2 : Int) * i_10)) + (1 : Int))), ((IntKind.wrap .i64 ((IntKind.wrap .i64 ((2 : Int) * i_10)) + (1 : Int))), (ByteArray.mk #[120])))] : List (Int × (Int × ByteArray)))) * 32 ≤ 140737488355328] (by kernel_rfl) rfl rfl (ap1 c_22) ?_
        refine VL_nil (QB_end ?_)
        refine V_run hN hn 1 6 [1, 5, 6, 7] [5] ⟨[(1, .c (.val (.int .u8 more_2))), (5, .c (.h 5)), (6, .c (.val (.int .i64 (IntKind.wrap .i64 (Int.tmod n_1 (50 : Int)))))), (7, .c (.val (.int .i64 (IntKind.wrap .i64 (i_10 + (1 : Int))))))], [(5, .row (.pair (.int .i64) (.pair (.int .i64) .str)) (l_17 ++ ([((IntKind.wrap .i64 ((IntKind.wrap .i64 ((2 : Int) * i_10)) + (1 : Int))), ((IntKind.wrap .i64 ((IntKind.wrap .i64 ((2 : Int) * i_10)) + (1 : Int))), (ByteArray.mk #[120])))] : List (Int × (Int × ByteArray)))))], 6⟩ [] (by kernel_rfl) rfl rfl ap0 ?_
        refine VL_nil ?_
        exact V_roundEnd ((l_17 ++ ([((IntKind.wrap .i64 ((IntKind.wrap .i64 ((2 : Int) * i_10)) + (1 : Int))), ((IntKind.wrap .i64 ((IntKind.wrap .i64 ((2 : Int) * i_10)) + (1 : Int))), (ByteArray.mk #[120])))] : List (Int × (Int × ByteArray)))), (IntKind.wrap .i64 (i_10 + (1 : Int)))) H_91 [(3, 5)] hn (by kernel_rfl) (by kernel_rfl) rfl rfl rfl
      · intro b_20; have H_90 := of_f H_88 b_20
        refine VL_exit ?_
        refine QL_exit ?_
        refine QB_here ?_
        have H_92 := Option.some.inj (show some l_17 = some q_83 from H_90); subst H_92
        refine VL_nil ?_
        exact QP_end l_17 rfl [(3, 3)] hn (by kernel_rfl) (by kernel_rfl) rfl rfl rfl
    · intro y_86 hy; subst hy
      skip
      skip
      refine V_run hN hn 1 4 [1, 5, 6] [3] ⟨[(1, .c (.val (.int .u8 more_2))), (5, .c (.h 3)), (6, .c (.val (.int .i64 (IntKind.wrap .i64 (Int.tmod n_1 (50 : Int))))))], [(3, .row (.pair (.int .i64) (.pair (.int .i64) .str)) y_86)], 4⟩ [] (by kernel_rfl) rfl rfl ap0 ?_
      obtain ⟨r_26, h_27, H_93⟩ := of_bind H_85
      refine V_reg hN hn [(1, ⟨22, 1, [.c (.val (.int .i64 (200 : Int))), .c (.h 0)], [(0, .row (.pair (.int .i64) (.pair (.int .i64) .str)) y_86)], .tup [(true, [.val (.int .i64 r_26.1), .imm (.slice (.pair (.int .i64) (.pair (.int .i64) .str))) r_26.2.1]), (false, [.val (.int .i64 r_26.2.2)])], [(0, .row (.pair (.int .i64) (.pair (.int .i64) .str)) y_86)], [(0, 3)], 4⟩)] [] (calls_cons (delta_Build_gr_spec K (200 : Int) y_86 r_26 h_27) (by kernel_rfl) calls_nil) 4 [1, 6, 8, 9] [4] ⟨[(1, .c (.val (.int .u8 more_2))), (6, .c (.val (.int .i64 (IntKind.wrap .i64 (Int.tmod n_1 (50 : Int)))))), (8, .c (.h 4)), (9, .c (.val (.int .i64 r_26.2.2)))], [(4, .box [.val (.int .i64 r_26.1), .imm (.slice (.pair (.int .i64) (.pair (.int .i64) .str))) r_26.2.1])], 5⟩ [] (by kernel_rfl) rfl rfl ap0 (by kernel_rfl) (by kernel_rfl) ?_
      obtain ⟨c_29, H_94⟩ := of_if H_93
      refine V_run hN hn 3 5 [6, 8, 9, 10] [4] ⟨[(6, .c (.val (.int .i64 (IntKind.wrap .i64 (Int.tmod n_1 (50 : Int)))))), (8, .c (.h 4)), (9, .c (.val (.int .i64 r_26.2.2))), (10, .c (.val (.string (ofBytes (List.replicate (Int.toNat (IntKind.wrap .i64 ((19900 : Int) - (IntKind.wrap .i64 (Int.tmod more_2 (2 : Int)))))) (0 : Int))))))], [(4, .box [.val (.int .i64 r_26.1), .imm (.slice (.pair (.int .i64) (.pair (.int .i64) .str))) r_26.2.1])], 6⟩ [(2 : Int) ≠ (0 : Int), (0 : Int) ≤ (IntKind.wrap .i64 ((19900 : Int) - (IntKind.wrap .i64 (Int.tmod more_2 (2 : Int))))), (IntKind.wrap .i64 ((19900 : Int) - (IntKind.wrap .i64 (Int.tmod more_2 (2 : Int))))) ≤ (IntKind.wrap .i64 ((19900 : Int) - (IntKind.wrap .i64 (Int.tmod more_2 (2 : Int))))), (IntKind.wrap .i64 ((19900 : Int) - (IntKind.wrap .i64 (Int.tmod more_2 (2 : Int))))) * 1 ≤ (140737488355328 : Int), (IntKind.wrap .i64 ((19900 : Int) - (IntKind.wrap .i64 (Int.tmod more_2 (2 : Int))))) ≤ (9223372036854775807 : Int)] (by kernel_rfl) rfl rfl (ap2 (by decide) (ap2 c_29.1 (ap2 c_29.2.1 (ap2 c_29.2.2.1 (ap1 c_29.2.2.2))))) ?_
      obtain ⟨r_30, h_31, H_95⟩ := of_bind H_94
      refine V_reg hN hn [(3, ⟨22, 1, [.c (.val (.int .i64 (100 : Int))), .c (.h 0)], [(0, .row (.pair (.int .i64) (.pair (.int .i64) .str)) ([((5 : Int), ((5 : Int), (ofBytes (List.replicate (Int.toNat (IntKind.wrap .i64 ((19900 : Int) - (IntKind.wrap .i64 (Int.tmod more_2 (2 : Int)))))) (0 : Int)))))] : List (Int × (Int × ByteArray))))], .tup [(true, [.val (.int .i64 r_30.1), .imm (.slice (.pair (.int .i64) (.pair (.int .i64) .str))) r_30.2.1]), (false, [.val (.int .i64 r_30.2.2)])], [(0, .row (.pair (.int .i64) (.pair (.int .i64) .str)) ([((5 : Int), ((5 : Int), (ofBytes (List.replicate (Int.toNat (IntKind.wrap .i64 ((19900 : Int) - (IntKind.wrap .i64 (Int.tmod more_2 (2 : Int)))))) (0 : Int)))))] : List (Int × (Int × ByteArray))))], [(0, 6)], 7⟩)] [] (calls_cons (delta_Build_gr_spec K (100 : Int) ([((5 : Int), ((5 : Int), (ofBytes (List.replicate (Int.toNat (IntKind.wrap .i64 ((19900 : Int) - (IntKind.wrap .i64 (Int.tmod more_2 (2 : Int)))))) (0 : Int)))))] : List (Int × (Int × ByteArray))) r_30 h_31) (by kernel_rfl) calls_nil) 6 [6, 8, 9, 10, 12] [4] ⟨[(6, .c (.val (.int .i64 (IntKind.wrap .i64 (Int.tmod n_1 (50 : Int)))))), (8, .c (.h 4)), (9, .c (.val (.int .i64 r_26.2.2))), (10, .c (.val (.string (ofBytes (List.replicate (Int.toNat (IntKind.wrap .i64 ((19900 : Int) - (IntKind.wrap .i64 (Int.tmod more_2 (2 : Int)))))) (0 : Int)))))), (12, .c (.val (.int .i64 r_30.2.2)))], [(4, .box [.val (.int .i64 r_26.1), .imm (.slice (.pair (.int .i64) (.pair (.int .i64) .str))) r_26.2.1])], 8⟩ [] (by kernel_rfl) rfl rfl ap0 (by kernel_rfl) (by kernel_rfl) ?_
      refine V_run hN hn 1 8 [6, 8, 9, 10, 12] [4] ⟨[(6, .c (.val (.int .i64 (IntKind.wrap .i64 (Int.tmod n_1 (50 : Int)))))), (8, .c (.h 4)), (9, .c (.val (.int .i64 r_26.2.2))), (10, .c (.val (.string (ofBytes (List.replicate (Int.toNat (IntKind.wrap .i64 ((19900 : Int) - (IntKind.wrap .i64 (Int.tmod more_2 (2 : Int)))))) (0 : Int)))))), (12, .c (.val (.int .i64 r_30.2.2)))], [(4, .box [.val (.int .i64 r_26.1), .imm (.slice (.pair (.int .i64) (.pair (.int .i64) .str))) r_26.2.1])], 8⟩ [] (by kernel_rfl) rfl rfl ap0 ?_
      obtain ⟨r_34, h_35, H_96⟩ := of_bind H_95
      obtain ⟨c_36, H_97⟩ := of_if H_96
      refine V_reg hN hn [(4, ⟨22, 1, [.c (.val (.int .i64 (100 : Int))), .c (.h 0)], [(0, .row (.pair (.int .i64) (.pair (.int .i64) .str)) ([((5 : Int), ((5 : Int), ((ofBytes (List.replicate (Int.toNat (IntKind.wrap .i64 ((19900 : Int) - (IntKind.wrap .i64 (Int.tmod more_2 (2 : Int)))))) (0 : Int))) ++ (ByteArray.mk #[120, 120]))))] : List (Int × (Int × ByteArray))))], .tup [(true, [.val (.int .i64 r_34.1), .imm (.slice (.pair (.int .i64) (.pair (.int .i64) .str))) r_34.2.1]), (false, [.val (.int .i64 r_34.2.2)])], [(0, .row (.pair (.int .i64) (.pair (.int .i64) .str)) ([((5 : Int), ((5 : Int), ((ofBytes (List.replicate (Int.toNat (IntKind.wrap .i64 ((19900 : Int) - (IntKind.wrap .i64 (Int.tmod more_2 (2 : Int)))))) (0 : Int))) ++ (ByteArray.mk #[120, 120]))))] : List (Int × (Int × ByteArray))))], [(0, 8)], 9⟩)] [] (calls_cons (delta_Build_gr_spec K (100 : Int) ([((5 : Int), ((5 : Int), ((ofBytes (List.replicate (Int.toNat (IntKind.wrap .i64 ((19900 : Int) - (IntKind.wrap .i64 (Int.tmod more_2 (2 : Int)))))) (0 : Int))) ++ (ByteArray.mk #[120, 120]))))] : List (Int × (Int × ByteArray))) r_34 h_35) (by kernel_rfl) calls_nil) 8 [6, 8, 9, 10, 12, 14] [4] ⟨[(6, .c (.val (.int .i64 (IntKind.wrap .i64 (Int.tmod n_1 (50 : Int)))))), (8, .c (.h 4)), (9, .c (.val (.int .i64 r_26.2.2))), (10, .c (.val (.string (ofBytes (List.replicate (Int.toNat (IntKind.wrap .i64 ((19900 : Int) - (IntKind.wrap .i64 (Int.tmod more_2 (2 : Int)))))) (0 : Int)))))), (12, .c (.val (.int .i64 r_30.2.2))), (14, .c (.val (.int .i64 r_34.2.2)))], [(4, .box [.val (.int .i64 r_26.1), .imm (.slice (.pair (.int .i64) (.pair (.int .i64) .str))) r_26.2.1])], 10⟩ [ByteArray.size (ofBytes (List.replicate (Int.toNat (IntKind.wrap .i64 ((19900 : Int) - (IntKind.wrap .i64 (Int.tmod more_2 (2 : Int)))))) (0 : Int))) + ByteArray.size (ByteArray.mk #[120, 120]) ≤ 9223372036854775807] (by kernel_rfl) rfl rfl (ap1 c_36) (by kernel_rfl) (by kernel_rfl) ?_
      refine V_run hN hn 3 10 [6, 8, 9, 10, 12, 14, 15] [4] ⟨[(6, .c (.val (.int .i64 (IntKind.wrap .i64 (Int.tmod n_1 (50 : Int)))))), (8, .c (.h 4)), (9, .c (.val (.int .i64 r_26.2.2))), (10, .c (.val (.string (ofBytes (List.replicate (Int.toNat (IntKind.wrap .i64 ((19900 : Int) - (IntKind.wrap .i64 (Int.tmod more_2 (2 : Int)))))) (0 : Int)))))), (12, .c (.val (.int .i64 r_30.2.2))), (14, .c (.val (.int .i64 r_34.2.2))), (15, .c (.val (.bool (decide ((IntKind.wrap .i64 ((IntKind.wrap .i64 ((2 : Int) * (IntKind.wrap .i64 (Int.tmod n_1 (50 : Int))))) + (1 : Int))) ≤ (60 : Int))))))], [(4, .box [.val (.int .i64 r_26.1), .imm (.slice (.pair (.int .i64) (.pair (.int .i64) .str))) r_26.2.1])], 10⟩ [] (by kernel_rfl) rfl rfl ap0 ?_
      rcases Bool.eq_false_or_eq_true (((r_26.2.2 == (0 : Int)) == (decide ((IntKind.wrap .i64 ((IntKind.wrap .i64 ((2 : Int) * (IntKind.wrap .i64 (Int.tmod n_1 (50 : Int))))) + (1 : Int))) ≤ (60 : Int))))) with b_38 | b_38
      · have H_98 := of_t H_97 b_38
        rcases Bool.eq_false_or_eq_true ((r_26.2.2 == (0 : Int))) with b_39 | b_39
        · have H_100 := of_t H_98 b_39
          rcases Bool.eq_false_or_eq_true ((!(decide ((IntKind.wrap .i64 ((IntKind.wrap .i64 ((2 : Int) * (IntKind.wrap .i64 (Int.tmod n_1 (50 : Int))))) + (1 : Int))) ≤ (60 : Int))))) with b_40 | b_40
          · have H_102 := of_t H_100 b_40
            rcases Bool.eq_false_or_eq_true ((r_30.2.2 == (0 : Int))) with b_41 | b_41
            · have H_104 := of_t H_102 b_41
              rcases Bool.eq_false_or_eq_true ((r_34.2.2 == (13 : Int))) with b_42 | b_42
              · have H_106 := of_t H_104 b_42
                obtain ⟨r_43, h_44, H_108⟩ := of_bind H_106
                refine V_reg hN hn [(35, ⟨25, 0, [.c (.val (.string (ofBytes (List.replicate (Int.toNat (IntKind.wrap .i64 ((19900 : Int) - (IntKind.wrap .i64 (Int.tmod more_2 (2 : Int)))))) (0 : Int)))))], [], .c (.val (.bool r_43)), [], [], 10⟩)] [(70, true), (73, true), (81, true), (95, true), (99, true)] (calls_cons (palinoderef1_Valid_spec K (ofBytes (List.replicate (Int.toNat (IntKind.wrap .i64 ((19900 : Int) - (IntKind.wrap .i64 (Int.tmod more_2 (2 : Int)))))) (0 : Int))) r_43 h_44) (by kernel_rfl) calls_nil) 10 [4] [] ⟨[(4, .c (.val (.bool r_43)))], [], 10⟩ [((r_26.2.2 == (0 : Int)) == (decide ((IntKind.wrap .i64 ((IntKind.wrap .i64 ((2 : Int) * (IntKind.wrap .i64 (Int.tmod n_1 (50 : Int))))) + (1 : Int))) ≤ (60 : Int)))) = true, (r_26.2.2 == (0 : Int)) = true, (!(decide ((IntKind.wrap .i64 ((IntKind.wrap .i64 ((2 : Int) * (IntKind.wrap .i64 (Int.tmod n_1 (50 : Int))))) + (1 : Int))) ≤ (60 : Int)))) = true, (r_30.2.2 == (0 : Int)) = true, (r_34.2.2 == (13 : Int)) = true] (by kernel_rfl) rfl rfl (ap2 b_38 (ap2 b_39 (ap2 b_40 (ap2 b_41 (ap1 b_42))))) (by kernel_rfl) (by kernel_rfl) ?_
                have H_109 := Option.some.inj (show some r_43 = some r from H_108); subst H_109
                refine VL_ret ?_
                exact P_to [(4, .c (.val (.bool r_43)))] [] [] hn (by kernel_rfl) (by kernel_rfl) rfl rfl rfl (QF_retS (by kernel_rfl) (by kernel_rfl) rfl)
              · have H_107 := of_f H_104 b_42
                refine V_reg hN hn [] [(70, true), (73, true), (81, true), (95, true), (99, false)] calls_nil 10 [4] [] ⟨[(4, .c (.val (.bool false)))], [], 10⟩ [((r_26.2.2 == (0 : Int)) == (decide ((IntKind.wrap .i64 ((IntKind.wrap .i64 ((2 : Int) * (IntKind.wrap .i64 (Int.tmod n_1 (50 : Int))))) + (1 : Int))) ≤ (60 : Int)))) = true, (r_26.2.2 == (0 : Int)) = true, (!(decide ((IntKind.wrap .i64 ((IntKind.wrap .i64 ((2 : Int) * (IntKind.wrap .i64 (Int.tmod n_1 (50 : Int))))) + (1 : Int))) ≤ (60 : Int)))) = true, (r_30.2.2 == (0 : Int)) = true, (r_34.2.2 == (13 : Int)) = false] (by kernel_rfl) rfl rfl (ap2 b_38 (ap2 b_39 (ap2 b_40 (ap2 b_41 (ap1 b_42))))) (by kernel_rfl) (by kernel_rfl) ?_
                have H_110 := Option.some.inj (show some false = some r from H_107); subst H_110
                refine VL_ret ?_
                exact P_to [(4, .c (.val (.bool false)))] [] [] hn (by kernel_rfl) (by kernel_rfl) rfl rfl rfl (QF_retS (by kernel_rfl) (by kernel_rfl) rfl)
            · have H_105 := of_f H_102 b_41
              refine V_reg hN hn [] [(70, true), (73, true), (81, true), (95, false)] calls_nil 10 [4] [] ⟨[(4, .c (.val (.bool false)))], [], 10⟩ [((r_26.2.2 == (0 : Int)) == (decide ((IntKind.wrap .i64 ((IntKind.wrap .i64 ((2 : Int) * (IntKind.wrap .i64 (Int.tmod n_1 (50 : Int))))) + (1 : Int))) ≤ (60 : Int)))) = true, (r_26.2.2 == (0 : Int)) = true, (!(decide ((IntKind.wrap .i64 ((IntKind.wrap .i64 ((2 : Int) * (IntKind.wrap .i64 (Int.tmod n_1 (50 : Int))))) + (1 : Int))) ≤ (60 : Int)))) = true, (r_30.2.2 == (0 : Int)) = false] (by kernel_rfl) rfl rfl (ap2 b_38 (ap2 b_39 (ap2 b_40 (ap1 b_41)))) (by kernel_rfl) (by kernel_rfl) ?_
              have H_111 := Option.some.inj (show some false = some r from H_105); subst H_111
              refine VL_ret ?_
              exact P_to [(4, .c (.val (.bool false)))] [] [] hn (by kernel_rfl) (by kernel_rfl) rfl rfl rfl (QF_retS (by kernel_rfl) (by kernel_rfl) rfl)
          · have H_103 := of_f H_100 b_40
            rcases Bool.eq_false_or_eq_true (((((List.length r_26.2.1) : Nat) : Int) == (IntKind.wrap .i64 ((IntKind.wrap .i64 ((2 : Int) * (IntKind.wrap .i64 (Int.tmod n_1 (50 : Int))))) + (1 : Int))))) with b_48 | b_48
            · have H_112 := of_t H_103 b_48
              rcases Bool.eq_false_or_eq_true ((r_30.2.2 == (0 : Int))) with b_49 | b_49
              · have H_114 := of_t H_112 b_49
                rcases Bool.eq_false_or_eq_true ((r_34.2.2 == (13 : Int))) with b_50 | b_50
                · have H_116 := of_t H_114 b_50
                  obtain ⟨r_51, h_52, H_118⟩ := of_bind H_116
                  refine V_reg hN hn [(35, ⟨25, 0, [.c (.val (.string (ofBytes (List.replicate (Int.toNat (IntKind.wrap .i64 ((19900 : Int) - (IntKind.wrap .i64 (Int.tmod more_2 (2 : Int)))))) (0 : Int)))))], [], .c (.val (.bool r_51)), [], [], 10⟩)] [(70, true), (73, true), (81, false), (91, true), (95, true), (99, true)] (calls_cons (palinoderef1_Valid_spec K (ofBytes (List.replicate (Int.toNat (IntKind.wrap .i64 ((19900 : Int) - (IntKind.wrap .i64 (Int.tmod more_2 (2 : Int)))))) (0 : Int))) r_51 h_52) (by kernel_rfl) calls_nil) 10 [4] [] ⟨[(4, .c (.val (.bool r_51)))], [], 10⟩ [((r_26.2.2 == (0 : Int)) == (decide ((IntKind.wrap .i64 ((IntKind.wrap .i64 ((2 : Int) * (IntKind.wrap .i64 (Int.tmod n_1 (50 : Int))))) + (1 : Int))) ≤ (60 : Int)))) = true, (r_26.2.2 == (0 : Int)) = true, (!(decide ((IntKind.wrap .i64 ((IntKind.wrap .i64 ((2 : Int) * (IntKind.wrap .i64 (Int.tmod n_1 (50 : Int))))) + (1 : Int))) ≤ (60 : Int)))) = false, ((((List.length r_26.2.1) : Nat) : Int) == (IntKind.wrap .i64 ((IntKind.wrap .i64 ((2 : Int) * (IntKind.wrap .i64 (Int.tmod n_1 (50 : Int))))) + (1 : Int)))) = true, (r_30.2.2 == (0 : Int)) = true, (r_34.2.2 == (13 : Int)) = true] (by kernel_rfl) rfl rfl (ap2 b_38 (ap2 b_39 (ap2 b_40 (ap2 b_48 (ap2 b_49 (ap1 b_50)))))) (by kernel_rfl) (by kernel_rfl) ?_
                  have H_119 := Option.some.inj (show some r_51 = some r from H_118); subst H_119
                  refine VL_ret ?_
                  exact P_to [(4, .c (.val (.bool r_51)))] [] [] hn (by kernel_rfl) (by kernel_rfl) rfl rfl rfl (QF_retS (by kernel_rfl) (by kernel_rfl) rfl)
                · have H_117 := of_f H_114 b_50
                  refine V_reg hN hn [] [(70, true), (73, true), (81, false), (91, true), (95, true), (99, false)] calls_nil 10 [4] [] ⟨[(4, .c (.val (.bool false)))], [], 10⟩ [((r_26.2.2 == (0 : Int)) == (decide ((IntKind.wrap .i64 ((IntKind.wrap .i64 ((2 : Int) * (IntKind.wrap .i64 (Int.tmod n_1 (50 : Int))))) + (1 : Int))) ≤ (60 : Int)))) = true, (r_26.2.2 == (0 : Int)) = true, (!(decide ((IntKind.wrap .i64 ((IntKind.wrap .i64 ((2 : Int) * (IntKind.wrap .i64 (Int.tmod n_1 (50 : Int))))) + (1 : Int))) ≤ (60 : Int)))) = false, ((((List.length r_26.2.1) : Nat) : Int) == (IntKind.wrap .i64 ((IntKind.wrap .i64 ((2 : Int) * (IntKind.wrap .i64 (Int.tmod n_1 (50 : Int))))) + (1 : Int)))) = true, (r_30.2.2 == (0 : Int)) = true, (r_34.2.2 == (13 : Int)) = false] (by kernel_rfl) rfl rfl (ap2 b_38 (ap2 b_39 (ap2 b_40 (ap2 b_48 (ap2 b_49 (ap1 b_50)))))) (by kernel_rfl) (by kernel_rfl) ?_
                  have H_120 := Option.some.inj (show some false = some r from H_117); subst H_120
                  refine VL_ret ?_
                  exact P_to [(4, .c (.val (.bool false)))] [] [] hn (by kernel_rfl) (by kernel_rfl) rfl rfl rfl (QF_retS (by kernel_rfl) (by kernel_rfl) rfl)
              · have H_115 := of_f H_112 b_49
                refine V_reg hN hn [] [(70, true), (73, true), (81, false), (91, true), (95, false)] calls_nil 10 [4] [] ⟨[(4, .c (.val (.bool false)))], [], 10⟩ [((r_26.2.2 == (0 : Int)) == (decide ((IntKind.wrap .i64 ((IntKind.wrap .i64 ((2 : Int) * (IntKind.wrap .i64 (Int.tmod n_1 (50 : Int))))) + (1 : Int))) ≤ (60 : Int)))) = true, (r_26.2.2 == (0 : Int)) = true, (!(decide ((IntKind.wrap .i64 ((IntKind.wrap .i64 ((2 : Int) * (IntKind.wrap .i64 (Int.tmod n_1 (50 : Int))))) + (1 : Int))) ≤ (60 : Int)))) = false, ((((List.length r_26.2.1) : Nat) : Int) == (IntKind.wrap .i64 ((IntKind.wrap .i64 ((2 : Int) * (IntKind.wrap .i64 (Int.tmod n_1 (50 : Int))))) + (1 : Int)))) = true, (r_30.2.2 == (0 : Int)) = false] (by kernel_rfl) rfl rfl (ap2 b_38 (ap2 b_39 (ap2 b_40 (ap2 b_48 (ap1 b_49))))) (by kernel_rfl) (by kernel_rfl) ?_
                have H_121 := Option.some.inj (show some false = some r from H_115); subst H_121
                refine VL_ret ?_
                exact P_to [(4, .c (.val (.bool false)))] [] [] hn (by kernel_rfl) (by kernel_rfl) rfl rfl rfl (QF_retS (by kernel_rfl) (by kernel_rfl) rfl)
            · have H_113 := of_f H_103 b_48
              refine V_reg hN hn [] [(70, true), (73, true), (81, false), (91, false)] calls_nil 10 [4] [] ⟨[(4, .c (.val (.bool false)))], [], 10⟩ [((r_26.2.2 == (0 : Int)) == (decide ((IntKind.wrap .i64 ((IntKind.wrap .i64 ((2 : Int) * (IntKind.wrap .i64 (Int.tmod n_1 (50 : Int))))) + (1 : Int))) ≤ (60 : Int)))) = true, (r_26.2.2 == (0 : Int)) = true, (!(decide ((IntKind.wrap .i64 ((IntKind.wrap .i64 ((2 : Int) * (IntKind.wrap .i64 (Int.tmod n_1 (50 : Int))))) + (1 : Int))) ≤ (60 : Int)))) = false, ((((List.length r_26.2.1) : Nat) : Int) == (IntKind.wrap .i64 ((IntKind.wrap .i64 ((2 : Int) * (IntKind.wrap .i64 (Int.tmod n_1 (50 : Int))))) + (1 : Int)))) = false] (by kernel_rfl) rfl rfl (ap2 b_38 (ap2 b_39 (ap2 b_40 (ap1 b_48)))) (by kernel_rfl) (by kernel_rfl) ?_
              have H_122 := Option.some.inj (show some false = some r from H_113); subst H_122
              refine VL_ret ?_
              exact P_to [(4, .c (.val (.bool false)))] [] [] hn (by kernel_rfl) (by kernel_rfl) rfl rfl rfl (QF_retS (by kernel_rfl) (by kernel_rfl) rfl)
        · have H_101 := of_f H_98 b_39
          rcases Bool.eq_false_or_eq_true ((r_26.2.2 == (70 : Int))) with b_57 | b_57
          · have H_123 := of_t H_101 b_57
            rcases Bool.eq_false_or_eq_true ((!(decide ((IntKind.wrap .i64 ((IntKind.wrap .i64 ((2 : Int) * (IntKind.wrap .i64 (Int.tmod n_1 (50 : Int))))) + (1 : Int))) ≤ (60 : Int))))) with b_58 | b_58
            · have H_125 := of_t H_123 b_58
              rcases Bool.eq_false_or_eq_true ((r_30.2.2 == (0 : Int))) with b_59 | b_59
              · have H_127 := of_t H_125 b_59
                rcases Bool.eq_false_or_eq_true ((r_34.2.2 == (13 : Int))) with b_60 | b_60
                · have H_129 := of_t H_127 b_60
                  obtain ⟨r_61, h_62, H_131⟩ := of_bind H_129
                  refine V_reg hN hn [(35, ⟨25, 0, [.c (.val (.string (ofBytes (List.replicate (Int.toNat (IntKind.wrap .i64 ((19900 : Int) - (IntKind.wrap .i64 (Int.tmod more_2 (2 : Int)))))) (0 : Int)))))], [], .c (.val (.bool r_61)), [], [], 10⟩)] [(70, true), (73, false), (78, true), (81, true), (95, true), (99, true)] (calls_cons (palinoderef1_Valid_spec K (ofBytes (List.replicate (Int.toNat (IntKind.wrap .i64 ((19900 : Int) - (IntKind.wrap .i64 (Int.tmod more_2 (2 : Int)))))) (0 : Int))) r_61 h_62) (by kernel_rfl) calls_nil) 10 [4] [] ⟨[(4, .c (.val (.bool r_61)))], [], 10⟩ [((r_26.2.2 == (0 : Int)) == (decide ((IntKind.wrap .i64 ((IntKind.wrap .i64 ((2 : Int) * (IntKind.wrap .i64 (Int.tmod n_1 (50 : Int))))) + (1 : Int))) ≤ (60 : Int)))) = true, (r_26.2.2 == (0 : Int)) = false, (r_26.2.2 == (70 : Int)) = true, (!(decide ((IntKind.wrap .i64 ((IntKind.wrap .i64 ((2 : Int) * (IntKind.wrap .i64 (Int.tmod n_1 (50 : Int))))) + (1 : Int))) ≤ (60 : Int)))) = true, (r_30.2.2 == (0 : Int)) = true, (r_34.2.2 == (13 : Int)) = true] (by kernel_rfl) rfl rfl (ap2 b_38 (ap2 b_39 (ap2 b_57 (ap2 b_58 (ap2 b_59 (ap1 b_60)))))) (by kernel_rfl) (by kernel_rfl) ?_
                  have H_132 := Option.some.inj (show some r_61 = some r from H_131); subst H_132
                  refine VL_ret ?_
                  exact P_to [(4, .c (.val (.bool r_61)))] [] [] hn (by kernel_rfl) (by kernel_rfl) rfl rfl rfl (QF_retS (by kernel_rfl) (by kernel_rfl) rfl)
                · have H_130 := of_f H_127 b_60
                  refine V_reg hN hn [] [(70, true), (73, false), (78, true), (81, true), (95, true), (99, false)] calls_nil 10 [4] [] ⟨[(4, .c (.val (.bool false)))], [], 10⟩ [((r_26.2.2 == (0 : Int)) == (decide ((IntKind.wrap .i64 ((IntKind.wrap .i64 ((2 : Int) * (IntKind.wrap .i64 (Int.tmod n_1 (50 : Int))))) + (1 : Int))) ≤ (60 : Int)))) = true, (r_26.2.2 == (0 : Int)) = false, (r_26.2.2 == (70 : Int)) = true, (!(decide ((IntKind.wrap .i64 ((IntKind.wrap .i64 ((2 : Int) * (IntKind.wrap .i64 (Int.tmod n_1 (50 : Int))))) + (1 : Int))) ≤ (60 : Int)))) = true, (r_30.2.2 == (0 : Int)) = true, (r_34.2.2 == (13 : Int)) = false] (by kernel_rfl) rfl rfl (ap2 b_38 (ap2 b_39 (ap2 b_57 (ap2 b_58 (ap2 b_59 (ap1 b_60)))))) (by kernel_rfl) (by kernel_rfl) ?_
                  have H_133 := Option.some.inj (show some false = some r from H_130); subst H_133
                  refine VL_ret ?_
                  exact P_to [(4, .c (.val (.bool false)))] [] [] hn (by kernel_rfl) (by kernel_rfl) rfl rfl rfl (QF_retS (by kernel_rfl) (by kernel_rfl) rfl)
              · have H_128 := of_f H_125 b_59
                refine V_reg hN hn [] [(70, true), (73, false), (78, true), (81, true), (95, false)] calls_nil 10 [4] [] ⟨[(4, .c (.val (.bool false)))], [], 10⟩ [((r_26.2.2 == (0 : Int)) == (decide ((IntKind.wrap .i64 ((IntKind.wrap .i64 ((2 : Int) * (IntKind.wrap .i64 (Int.tmod n_1 (50 : Int))))) + (1 : Int))) ≤ (60 : Int)))) = true, (r_26.2.2 == (0 : Int)) = false, (r_26.2.2 == (70 : Int)) = true, (!(decide ((IntKind.wrap .i64 ((IntKind.wrap .i64 ((2 : Int) * (IntKind.wrap .i64 (Int.tmod n_1 (50 : Int))))) + (1 : Int))) ≤ (60 : Int)))) = true, (r_30.2.2 == (0 : Int)) = false] (by kernel_rfl) rfl rfl (ap2 b_38 (ap2 b_39 (ap2 b_57 (ap2 b_58 (ap1 b_59))))) (by kernel_rfl) (by kernel_rfl) ?_
                have H_134 := Option.some.inj (show some false = some r from H_128); subst H_134
                refine VL_ret ?_
                exact P_to [(4, .c (.val (.bool false)))] [] [] hn (by kernel_rfl) (by kernel_rfl) rfl rfl rfl (QF_retS (by kernel_rfl) (by kernel_rfl) rfl)
            · have H_126 := of_f H_123 b_58
              rcases Bool.eq_false_or_eq_true (((((List.length r_26.2.1) : Nat) : Int) == (IntKind.wrap .i64 ((IntKind.wrap .i64 ((2 : Int) * (IntKind.wrap .i64 (Int.tmod n_1 (50 : Int))))) + (1 : Int))))) with b_66 | b_66
              · have H_135 := of_t H_126 b_66
                rcases Bool.eq_false_or_eq_true ((r_30.2.2 == (0 : Int))) with b_67 | b_67
                · have H_137 := of_t H_135 b_67
                  rcases Bool.eq_false_or_eq_true ((r_34.2.2 == (13 : Int))) with b_68 | b_68
                  · have H_139 := of_t H_137 b_68
                    obtain ⟨r_69, h_70, H_141⟩ := of_bind H_139
                    refine V_reg hN hn [(35, ⟨25, 0, [.c (.val (.string (ofBytes (List.replicate (Int.toNat (IntKind.wrap .i64 ((19900 : Int) - (IntKind.wrap .i64 (Int.tmod more_2 (2 : Int)))))) (0 : Int)))))], [], .c (.val (.bool r_69)), [], [], 10⟩)] [(70, true), (73, false), (78, true), (81, false), (91, true), (95, true), (99, true)] (calls_cons (palinoderef1_Valid_spec K (ofBytes (List.replicate (Int.toNat (IntKind.wrap .i64 ((19900 : Int) - (IntKind.wrap .i64 (Int.tmod more_2 (2 : Int)))))) (0 : Int))) r_69 h_70) (by kernel_rfl) calls_nil) 10 [4] [] ⟨[(4, .c (.val (.bool r_69)))], [], 10⟩ [((r_26.2.2 == (0 : Int)) == (decide ((IntKind.wrap .i64 ((IntKind.wrap .i64 ((2 : Int) * (IntKind.wrap .i64 (Int.tmod n_1 (50 : Int))))) + (1 : Int))) ≤ (60 : Int)))) = true, (r_26.2.2 == (0 : Int)) = false, (r_26.2.2 == (70 : Int)) = true, (!(decide ((IntKind.wrap .i64 ((IntKind.wrap .i64 ((2 : Int) * (IntKind.wrap .i64 (Int.tmod n_1 (50 : Int))))) + (1 : Int))) ≤ (60 : Int)))) = false, ((((List.length r_26.2.1) : Nat) : Int) == (IntKind.wrap .i64 ((IntKind.wrap .i64 ((2 : Int) * (IntKind.wrap .i64 (Int.tmod n_1 (50 : Int))))) + (1 : Int)))) = true, (r_30.2.2 == (0 : Int)) = true, (r_34.2.2 == (13 : Int)) = true] (by kernel_rfl) rfl rfl (ap2 b_38 (ap2 b_39 (ap2 b_57 (ap2 b_58 (ap2 b_66 (ap2 b_67 (ap1 b_68))))))) (by kernel_rfl) (by kernel_rfl) ?_
                    have H_142 := Option.some.inj (show some r_69 = some r from H_141); subst H_142
                    refine VL_ret ?_
                    exact P_to [(4, .c (.val (.bool r_69)))] [] [] hn (by kernel_rfl) (by kernel_rfl) rfl rfl rfl (QF_retS (by kernel_rfl) (by kernel_rfl) rfl)
                  · have H_140 := of_f H_137 b_68
                    refine V_reg hN hn [] [(70, true), (73, false), (78, true), (81, false), (91, true), (95, true), (99, false)] calls_nil 10 [4] [] ⟨[(4, .c (.val (.bool false)))], [], 10⟩ [((r_26.2.2 == (0 : Int)) == (decide ((IntKind.wrap .i64 ((IntKind.wrap .i64 ((2 : Int) * (IntKind.wrap .i64 (Int.tmod n_1 (50 : Int))))) + (1 : Int))) ≤ (60 : Int)))) = true, (r_26.2.2 == (0 : Int)) = false, (r_26.2.2 == (70 : Int)) = true, (!(decide ((IntKind.wrap .i64 ((IntKind.wrap .i64 ((2 : Int) * (IntKind.wrap .i64 (Int.tmod n_1 (50 : Int))))) + (1 : Int))) ≤ (60 : Int)))) = false, ((((List.length r_26.2.1) : Nat) : Int) == (IntKind.wrap .i64 ((IntKind.wrap .i64 ((2 : Int) * (IntKind.wrap .i64 (Int.tmod n_1 (50 : Int))))) + (1 : Int)))) = true, (r_30.2.2 == (0 : Int)) = true, (r_34.2.2 == (13 : Int)) = false] (by kernel_rfl) rfl rfl (ap2 b_38 (ap2 b_39 (ap2 b_57 (ap2 b_58 (ap2 b_66 (ap2 b_67 (ap1 b_68))))))) (by kernel_rfl) (by kernel_rfl) ?_
                    have H_143 := Option.some.inj (show some false = some r from H_140); subst H_143
                    refine VL_ret ?_
                    exact P_to [(4, .c (.val (.bool false)))] [] [] hn (by kernel_rfl) (by kernel_rfl) rfl rfl rfl (QF_retS (by kernel_rfl) (by kernel_rfl) rfl)
                · have H_138 := of_f H_135 b_67
                  refine V_reg hN hn [] [(70, true), (73, false), (78, true), (81, false), (91, true), (95, false)] calls_nil 10 [4] [] ⟨[(4, .c (.val (.bool false)))], [], 10⟩ [((r_26.2.2 == (0 : Int)) == (decide ((IntKind.wrap .i64 ((IntKind.wrap .i64 ((2 : Int) * (IntKind.wrap .i64 (Int.tmod n_1 (50 : Int))))) + (1 : Int))) ≤ (60 : Int)))) = true, (r_26.2.2 == (0 : Int)) = false, (r_26.2.2 == (70 : Int)) = true, (!(decide ((IntKind.wrap .i64 ((IntKind.wrap .i64 ((2 : Int) * (IntKind.wrap .i64 (Int.tmod n_1 (50 : Int))))) + (1 : Int))) ≤ (60 : Int)))) = false, ((((List.length r_26.2.1) : Nat) : Int) == (IntKind.wrap .i64 ((IntKind.wrap .i64 ((2 : Int) * (IntKind.wrap .i64 (Int.tmod n_1 (50 : Int))))) + (1 : Int)))) = true, (r_30.2.2 == (0 : Int)) = false] (by kernel_rfl) rfl rfl (ap2 b_38 (ap2 b_39 (ap2 b_57 (ap2 b_58 (ap2 b_66 (ap1 b_67)))))) (by kernel_rfl) (by kernel_rfl) ?_
                  have H_144 := Option.some.inj (show some false = some r from H_138); subst H_144
                  refine VL_ret ?_
                  exact P_to [(4, .c (.val (.bool false)))] [] [] hn (by kernel_rfl) (by kernel_rfl) rfl rfl rfl (QF_retS (by kernel_rfl) (by kernel_rfl) rfl)
              · have H_136 := of_f H_126 b_66
                refine V_reg hN hn [] [(70, true), (73, false), (78, true), (81, false), (91, false)] calls_nil 10 [4] [] ⟨[(4, .c (.val (.bool false)))], [], 10⟩ [((r_26.2.2 == (0 : Int)) == (decide ((IntKind.wrap .i64 ((IntKind.wrap .i64 ((2 : Int) * (IntKind.wrap .i64 (Int.tmod n_1 (50 : Int))))) + (1 : Int))) ≤ (60 : Int)))) = true, (r_26.2.2 == (0 : Int)) = false, (r_26.2.2 == (70 : Int)) = true, (!(decide ((IntKind.wrap .i64 ((IntKind.wrap .i64 ((2 : Int) * (IntKind.wrap .i64 (Int.tmod n_1 (50 : Int))))) + (1 : Int))) ≤ (60 : Int)))) = false, ((((List.length r_26.2.1) : Nat) : Int) == (IntKind.wrap .i64 ((IntKind.wrap .i64 ((2 : Int) * (IntKind.wrap .i64 (Int.tmod n_1 (50 : Int))))) + (1 : Int)))) = false] (by kernel_rfl) rfl rfl (ap2 b_38 (ap2 b_39 (ap2 b_57 (ap2 b_58 (ap1 b_66))))) (by kernel_rfl) (by kernel_rfl) ?_
                have H_145 := Option.some.inj (show some false = some r from H_136); subst H_145
                refine VL_ret ?_
                exact P_to [(4, .c (.val (.bool false)))] [] [] hn (by kernel_rfl) (by kernel_rfl) rfl rfl rfl (QF_retS (by kernel_rfl) (by kernel_rfl) rfl)
          · have H_124 := of_f H_101 b_57
            refine V_reg hN hn [] [(70, true), (73, false), (78, false)] calls_nil 10 [4] [] ⟨[(4, .c (.val (.bool false)))], [], 10⟩ [((r_26.2.2 == (0 : Int)) == (decide ((IntKind.wrap .i64 ((IntKind.wrap .i64 ((2 : Int) * (IntKind.wrap .i64 (Int.tmod n_1 (50 : Int))))) + (1 : Int))) ≤ (60 : Int)))) = true, (r_26.2.2 == (0 : Int)) = false, (r_26.2.2 == (70 : Int)) = false] (by kernel_rfl) rfl rfl (ap2 b_38 (ap2 b_39 (ap1 b_57))) (by kernel_rfl) (by kernel_rfl) ?_
            have H_146 := Option.some.inj (show some false = some r from H_124); subst H_146
            refine VL_ret ?_
            exact P_to [(4, .c (.val (.bool false)))] [] [] hn (by kernel_rfl) (by kernel_rfl) rfl rfl rfl (QF_retS (by kernel_rfl) (by kernel_rfl) rfl)
      · have H_99 := of_f H_97 b_38
        refine V_reg hN hn [] [(70, false)] calls_nil 10 [4] [] ⟨[(4, .c (.val (.bool false)))], [], 10⟩ [((r_26.2.2 == (0 : Int)) == (decide ((IntKind.wrap .i64 ((IntKind.wrap .i64 ((2 : Int) * (IntKind.wrap .i64 (Int.tmod n_1 (50 : Int))))) + (1 : Int))) ≤ (60 : Int)))) = false] (by kernel_rfl) rfl rfl (ap1 b_38) (by kernel_rfl) (by kernel_rfl) ?_
        have H_147 := Option.some.inj (show some false = some r from H_99); subst H_147
        refine VL_ret ?_
        exact P_to [(4, .c (.val (.bool false)))] [] [] hn (by kernel_rfl) (by kernel_rfl) rfl rfl rfl (QF_retS (by kernel_rfl) (by kernel_rfl) rfl)

end Go.Pal
