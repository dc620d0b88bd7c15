/- The Go functions that ComposeBoth reaches compute what the plain functions say: part 2, printed by a program of this workplace. -/
import Derived.Test.YtjnhbaphmhbaaaaChecked
import Derived.Test.YtjnhbaphmhbaaaaWalkComposeBoth1
namespace Go.Pal
open Go Go.Proofs
set_option maxRecDepth 100000
set_option linter.unusedVariables false

theorem palinodelaw13_ComposeBoth_spec (K : Nat) (s_1 : ByteArray) (l_2 : (List (Int × (Int × ByteArray)))) (r : Bool) (H : palinodelaw13_ComposeBoth K s_1 l_2 = some r) : Spec Try.prog 5 0 [.c (.val (.string s_1)), .c (.imm (.slice (.pair (.int .i64) (.pair (.int .i64) .str))) l_2)] [] (.c (.val (.bool r))) [] := by
  refine Spec_mk (fn := Try.f5) (c := (Try.f5.body).get!) Try.func5 (by kernel_rfl) rfl ?_
  intro C hN hn
  replace hN : C.N = 123 := hN
  unfold palinodelaw13_ComposeBoth at H
  refine V_run hN hn 4 0 [0, 1] [] ⟨[(0, .c (.val (.string s_1))), (1, .c (.imm (.slice (.pair (.int .i64) (.pair (.int .i64) .str))) l_2))], [], 0⟩ [] (by kernel_rfl) rfl rfl ap0 ?_
  obtain ⟨r_4, h_5, H_122⟩ := of_bind H
  refine V_reg hN hn [(0, ⟨9, 0, [], [], .c (.val (.bool r_4)), [], [], 0⟩)] [] (calls_cons (palinodelaw13_known_spec K  r_4 h_5) (by kernel_rfl) calls_nil) 0 [0, 1, 17] [] ⟨[(0, .c (.val (.string s_1))), (1, .c (.imm (.slice (.pair (.int .i64) (.pair (.int .i64) .str))) l_2)), (17, .c (.val (.bool (!r_4))))], [], 0⟩ [] (by kernel_rfl) rfl rfl ap0 (by kernel_rfl) (by kernel_rfl) ?_
  refine VL_cond ((!r_4)) (by kernel_rfl) ?_ ?_
  · intro b_7; have H_123 := of_t H_122 b_7
    refine V_run hN hn 2 0 [4] [] ⟨[(4, .c (.val (.bool false)))], [], 0⟩ [] (by kernel_rfl) rfl rfl ap0 ?_
    have H_125 := Option.some.inj (show some false = some r from H_123); subst H_125
    refine VL_ret ?_
    exact P_to [(4, .c (.val (.bool false)))] [] [] hn (by kernel_rfl) (by kernel_rfl) rfl rfl rfl (QF_retS (by kernel_rfl) (by kernel_rfl) rfl)
  · intro b_7; have H_124 := of_f H_122 b_7
    refine V_run hN hn 3 0 [0, 1, 17] [] ⟨[(0, .c (.val (.string s_1))), (1, .c (.imm (.slice (.pair (.int .i64) (.pair (.int .i64) .str))) l_2)), (17, .c (.val (.bool (!r_4))))], [], 0⟩ [] (by kernel_rfl) rfl rfl ap0 ?_
    obtain ⟨q_126, H_127, H_128⟩ := of_bind H_124
    refine V_cut (Y := Bool) (R := Bool) q_126 (fun y => y) (fun y => [(0, .c (.val (.string s_1))), (1, .c (.imm (.slice (.pair (.int .i64) (.pair (.int .i64) .str))) l_2)), (30, .c (.val (.bool y)))]) (fun y => []) ?_ ?_
    · skip
      rcases Bool.eq_false_or_eq_true ((decide ((((ByteArray.size s_1) : Nat) : Int) > (150 : Int)))) with b_10 | b_10
      · have H_130 := of_t H_127 b_10
        refine V_reg hN hn [] [(21, true)] calls_nil 0 [0, 1, 30] [] ⟨[(0, .c (.val (.string s_1))), (1, .c (.imm (.slice (.pair (.int .i64) (.pair (.int .i64) .str))) l_2)), (30, .c (.val (.bool true)))], [], 0⟩ [(decide ((((ByteArray.size s_1) : Nat) : Int) > (150 : Int))) = true] (by kernel_rfl) rfl rfl (ap1 b_10) (by kernel_rfl) (by kernel_rfl) ?_
        have H_132 := Option.some.inj (show some true = some q_126 from H_130); subst H_132
        refine VL_nil ?_
        exact QP_end true rfl [] hn (by kernel_rfl) (by kernel_rfl) rfl rfl rfl
      · have H_131 := of_f H_127 b_10
        rcases Bool.eq_false_or_eq_true ((decide ((((List.length l_2) : Nat) : Int) > (10 : Int)))) with b_12 | b_12
        · have H_133 := of_t H_131 b_12
          refine V_reg hN hn [] [(21, false), (26, true)] calls_nil 0 [0, 1, 30] [] ⟨[(0, .c (.val (.string s_1))), (1, .c (.imm (.slice (.pair (.int .i64) (.pair (.int .i64) .str))) l_2)), (30, .c (.val (.bool true)))], [], 0⟩ [(decide ((((ByteArray.size s_1) : Nat) : Int) > (150 : Int))) = false, (decide ((((List.length l_2) : Nat) : Int) > (10 : Int))) = true] (by kernel_rfl) rfl rfl (ap2 b_10 (ap1 b_12)) (by kernel_rfl) (by kernel_rfl) ?_
          have H_135 := Option.some.inj (show some true = some q_126 from H_133); subst H_135
          refine VL_nil ?_
          exact QP_end true rfl [] hn (by kernel_rfl) (by kernel_rfl) rfl rfl rfl
        · have H_134 := of_f H_131 b_12
          obtain ⟨r_14, h_15, H_136⟩ := of_bind H_134
          refine V_reg hN hn [(10, ⟨18, 0, [.c (.val (.string s_1))], [], .c (.val (.bool r_14)), [], [], 0⟩)] [(21, false), (26, false)] (calls_cons (palinoderef1_Valid_spec K s_1 r_14 h_15) (by kernel_rfl) calls_nil) 0 [0, 1, 30] [] ⟨[(0, .c (.val (.string s_1))), (1, .c (.imm (.slice (.pair (.int .i64) (.pair (.int .i64) .str))) l_2)), (30, .c (.val (.bool (!r_14))))], [], 0⟩ [(decide ((((ByteArray.size s_1) : Nat) : Int) > (150 : Int))) = false, (decide ((((List.length l_2) : Nat) : Int) > (10 : Int))) = false] (by kernel_rfl) rfl rfl (ap2 b_10 (ap1 b_12)) (by kernel_rfl) (by kernel_rfl) ?_
          have H_137 := Option.some.inj (show some (!r_14) = some q_126 from H_136); subst H_137
          refine VL_nil ?_
          exact QP_end (!r_14) rfl [] hn (by kernel_rfl) (by kernel_rfl) rfl rfl rfl
    · intro y_129 hy; subst hy
      skip
      skip
      refine VL_cond (y_129) (by kernel_rfl) ?_ ?_
      · intro b_18; have H_138 := of_t H_128 b_18
        refine V_run hN hn 2 0 [4] [] ⟨[(4, .c (.val (.bool true)))], [], 0⟩ [] (by kernel_rfl) rfl rfl ap0 ?_
        have H_140 := Option.some.inj (show some true = some r from H_138); subst H_140
        refine VL_ret ?_
        exact P_to [(4, .c (.val (.bool true)))] [] [] hn (by kernel_rfl) (by kernel_rfl) rfl rfl rfl (QF_retS (by kernel_rfl) (by kernel_rfl) rfl)
      · intro b_18; have H_139 := of_f H_128 b_18
        refine V_run hN hn 8 0 [0, 1, 5, 6, 7] [] ⟨[(0, .c (.val (.string s_1))), (1, .c (.imm (.slice (.pair (.int .i64) (.pair (.int .i64) .str))) l_2)), (5, .c (.val (.string s_1))), (6, .c (.val (.slice none 0 0))), (7, .c (.val (.int .i64 (0 : Int))))], [], 0⟩ [] (by kernel_rfl) rfl rfl ap0 ?_
        obtain ⟨q_141, H_142, H_143⟩ := of_bind H_139
        refine V_cut (Y := (ByteArray × (List (Int × (List (Int × (Int × ByteArray))))))) (R := (Bool ⊕ (ByteArray × (List (Int × (List (Int × (Int × ByteArray)))))))) q_141 (fun y => (Sum.inr y)) (fun y => [(0, .c (.val (.string s_1))), (5, .c (.val (.string y.1))), (6, .c (.h 4))]) (fun y => [(4, .row (.pair (.int .i64) (.slice (.pair (.int .i64) (.pair (.int .i64) .str)))) y.2)]) ?_ ?_
        · skip
          refine VL_block ?_
          refine V_ghost [.nilSlot 6 (.pair (.int .i64) (.slice (.pair (.int .i64) (.pair (.int .i64) .str))))] 0 hn [0, 1, 5, 6, 7] [0] ⟨[(0, .c (.val (.string s_1))), (1, .c (.imm (.slice (.pair (.int .i64) (.pair (.int .i64) .str))) l_2)), (5, .c (.val (.string s_1))), (6, .c (.h 0)), (7, .c (.val (.int .i64 (0 : Int))))], [(0, .row (.pair (.int .i64) (.slice (.pair (.int .i64) (.pair (.int .i64) .str)))) ([] : List (Int × (List (Int × (Int × ByteArray))))))], 1⟩ (by kernel_rfl) rfl rfl ?_
          refine V_to [(0, .c (.val (.string s_1))), (1, .c (.imm (.slice (.pair (.int .i64) (.pair (.int .i64) .str))) l_2)), (5, .c (.val (.string s_1))), (6, .c (.h 4)), (7, .c (.val (.int .i64 (0 : Int))))] [(4, .row (.pair (.int .i64) (.slice (.pair (.int .i64) (.pair (.int .i64) .str)))) ([] : List (Int × (List (Int × (Int × ByteArray))))))] [(4, 0)] hn (by kernel_rfl) (by kernel_rfl) rfl rfl rfl ?_
          refine VL_loop (X := (ByteArray × (List (Int × (List (Int × (Int × ByteArray))))) × Int)) (fun x => [(0, .c (.val (.string s_1))), (1, .c (.imm (.slice (.pair (.int .i64) (.pair (.int .i64) .str))) l_2)), (5, .c (.val (.string x.1))), (6, .c (.h 4)), (7, .c (.val (.int .i64 x.2.2)))]) (fun x => [(4, .row (.pair (.int .i64) (.slice (.pair (.int .i64) (.pair (.int .i64) .str)))) x.2.1)]) (fun k x => palinodelaw13_ComposeBoth.l0 K l_2 k x.1 x.2.1 x.2.2 = some q_141) K (s_1, ([] : List (Int × (List (Int × (Int × ByteArray))))), (0 : Int)) H_142 (fun _ h => no_none h) ?_
          intro k_57 x_57 H_145
          obtain ⟨t_21, all_56, i_22⟩ := x_57
          have H_146 : palinodelaw13_ComposeBoth.l0 K l_2 (k_57 + 1) t_21 all_56 i_22 = some q_141 := H_145
          rw [palinodelaw13_ComposeBoth.l0] at H_146
          refine V_run hN hn 3 5 [0, 1, 5, 6, 7, 35] [4] ⟨[(0, .c (.val (.string s_1))), (1, .c (.imm (.slice (.pair (.int .i64) (.pair (.int .i64) .str))) l_2)), (5, .c (.val (.string t_21))), (6, .c (.h 4)), (7, .c (.val (.int .i64 i_22))), (35, .c (.val (.bool (decide (i_22 < (((List.length l_2) : Nat) : Int))))))], [(4, .row (.pair (.int .i64) (.slice (.pair (.int .i64) (.pair (.int .i64) .str)))) all_56)], 5⟩ [] (by kernel_rfl) rfl rfl ap0 ?_
          refine VL_cond ((decide (i_22 < (((List.length l_2) : Nat) : Int)))) (by kernel_rfl) ?_ ?_
          · intro b_59; have H_147 := of_t H_146 b_59
            refine V_run hN hn 2 5 [0, 1, 5, 6, 7, 35] [4] ⟨[(0, .c (.val (.string s_1))), (1, .c (.imm (.slice (.pair (.int .i64) (.pair (.int .i64) .str))) l_2)), (5, .c (.val (.string t_21))), (6, .c (.h 4)), (7, .c (.val (.int .i64 i_22))), (35, .c (.val (.bool (decide (i_22 < (((List.length l_2) : Nat) : Int))))))], [(4, .row (.pair (.int .i64) (.slice (.pair (.int .i64) (.pair (.int .i64) .str)))) all_56)], 5⟩ [] (by kernel_rfl) rfl rfl ap0 ?_
            refine VL_block ?_
            refine V_run hN hn 2 5 [0, 1, 5, 6, 7, 35] [4] ⟨[(0, .c (.val (.string s_1))), (1, .c (.imm (.slice (.pair (.int .i64) (.pair (.int .i64) .str))) l_2)), (5, .c (.val (.string t_21))), (6, .c (.h 4)), (7, .c (.val (.int .i64 i_22))), (35, .c (.val (.bool (decide (i_22 < (((List.length l_2) : Nat) : Int))))))], [(4, .row (.pair (.int .i64) (.slice (.pair (.int .i64) (.pair (.int .i64) .str)))) all_56)], 5⟩ [] (by kernel_rfl) rfl rfl ap0 ?_
            obtain ⟨q_149, H_150, H_151⟩ := of_bind H_147
            refine V_cut (Y := Bool) (R := Bool) q_149 (fun y => y) (fun y => [(0, .c (.val (.string s_1))), (1, .c (.imm (.slice (.pair (.int .i64) (.pair (.int .i64) .str))) l_2)), (5, .c (.val (.string t_21))), (6, .c (.h 4)), (7, .c (.val (.int .i64 i_22))), (64, .c (.val (.bool y)))]) (fun y => [(4, .row (.pair (.int .i64) (.slice (.pair (.int .i64) (.pair (.int .i64) .str)))) all_56)]) ?_ ?_
            · skip
              rcases Bool.eq_false_or_eq_true ((decide ((((ByteArray.size (List.getD l_2 (Int.toNat i_22) ((0 : Int), ((0 : Int), ByteArray.empty))).2.2) : Nat) : Int) > (60 : Int)))) with b_62 | b_62
              · have H_153 := of_t H_150 b_62
                obtain ⟨c_63, H_155⟩ := of_if H_153
                refine V_reg hN hn [] [(45, true)] calls_nil 5 [0, 1, 5, 6, 7, 64] [4] ⟨[(0, .c (.val (.string s_1))), (1, .c (.imm (.slice (.pair (.int .i64) (.pair (.int .i64) .str))) l_2)), (5, .c (.val (.string t_21))), (6, .c (.h 4)), (7, .c (.val (.int .i64 i_22))), (64, .c (.val (.bool true)))], [(4, .row (.pair (.int .i64) (.slice (.pair (.int .i64) (.pair (.int .i64) .str)))) all_56)], 5⟩ [0 ≤ i_22, i_22 < (((List.length l_2) : Nat) : Int), (decide ((((ByteArray.size (List.getD l_2 (Int.toNat i_22) ((0 : Int), ((0 : Int), ByteArray.empty))).2.2) : Nat) : Int) > (60 : Int))) = true] (by kernel_rfl) rfl rfl (ap2 c_63.1 (ap2 c_63.2 (ap1 b_62))) (by kernel_rfl) (by kernel_rfl) ?_
                have H_156 := Option.some.inj (show some true = some q_149 from H_155); subst H_156
                refine VL_nil ?_
                exact QP_end true rfl [(4, 4)] hn (by kernel_rfl) (by kernel_rfl) rfl rfl rfl
              · have H_154 := of_f H_150 b_62
                obtain ⟨r_64, h_65, H_157⟩ := of_bind H_154
                rcases Bool.eq_false_or_eq_true ((!r_64)) with b_66 | b_66
                · have H_158 := of_t H_157 b_66
                  obtain ⟨c_67, H_160⟩ := of_if H_158
                  refine V_reg hN hn [(14, ⟨20, 0, [.c (.val (.string t_21)), .c (.val (.int .i64 (List.getD l_2 (Int.toNat i_22) ((0 : Int), ((0 : Int), ByteArray.empty))).1))], [], .c (.val (.bool r_64)), [], [], 5⟩)] [(45, false), (55, true)] (calls_cons (palinoderef1_IsEdge_spec K t_21 (List.getD l_2 (Int.toNat i_22) ((0 : Int), ((0 : Int), ByteArray.empty))).1 r_64 h_65) (by kernel_rfl) calls_nil) 5 [0, 1, 5, 6, 7, 64] [4] ⟨[(0, .c (.val (.string s_1))), (1, .c (.imm (.slice (.pair (.int .i64) (.pair (.int .i64) .str))) l_2)), (5, .c (.val (.string t_21))), (6, .c (.h 4)), (7, .c (.val (.int .i64 i_22))), (64, .c (.val (.bool true)))], [(4, .row (.pair (.int .i64) (.slice (.pair (.int .i64) (.pair (.int .i64) .str)))) all_56)], 5⟩ [0 ≤ i_22, i_22 < (((List.length l_2) : Nat) : Int), (decide ((((ByteArray.size (List.getD l_2 (Int.toNat i_22) ((0 : Int), ((0 : Int), ByteArray.empty))).2.2) : Nat) : Int) > (60 : Int))) = false, 0 ≤ i_22, i_22 < (((List.length l_2) : Nat) : Int), (!r_64) = true] (by kernel_rfl) rfl rfl (ap2 c_67.1 (ap2 c_67.2 (ap2 b_62 (ap2 c_67.1 (ap2 c_67.2 (ap1 b_66)))))) (by kernel_rfl) (by kernel_rfl) ?_
                  have H_161 := Option.some.inj (show some true = some q_149 from H_160); subst H_161
                  refine VL_nil ?_
                  exact QP_end true rfl [(4, 4)] hn (by kernel_rfl) (by kernel_rfl) rfl rfl rfl
                · have H_159 := of_f H_157 b_66
                  obtain ⟨r_68, h_69, H_162⟩ := of_bind H_159
                  obtain ⟨c_70, H_163⟩ := of_if H_162
                  refine V_reg hN hn [(14, ⟨20, 0, [.c (.val (.string t_21)), .c (.val (.int .i64 (List.getD l_2 (Int.toNat i_22) ((0 : Int), ((0 : Int), ByteArray.empty))).1))], [], .c (.val (.bool r_64)), [], [], 5⟩), (24, ⟨20, 0, [.c (.val (.string t_21)), .c (.val (.int .i64 (List.getD l_2 (Int.toNat i_22) ((0 : Int), ((0 : Int), ByteArray.empty))).2.1))], [], .c (.val (.bool r_68)), [], [], 5⟩)] [(45, false), (55, false)] (calls_cons (palinoderef1_IsEdge_spec K t_21 (List.getD l_2 (Int.toNat i_22) ((0 : Int), ((0 : Int), ByteArray.empty))).1 r_64 h_65) (by kernel_rfl) (calls_cons (palinoderef1_IsEdge_spec K t_21 (List.getD l_2 (Int.toNat i_22) ((0 : Int), ((0 : Int), ByteArray.empty))).2.1 r_68 h_69) (by kernel_rfl) calls_nil)) 5 [0, 1, 5, 6, 7, 64] [4] ⟨[(0, .c (.val (.string s_1))), (1, .c (.imm (.slice (.pair (.int .i64) (.pair (.int .i64) .str))) l_2)), (5, .c (.val (.string t_21))), (6, .c (.h 4)), (7, .c (.val (.int .i64 i_22))), (64, .c (.val (.bool (!r_68))))], [(4, .row (.pair (.int .i64) (.slice (.pair (.int .i64) (.pair (.int .i64) .str)))) all_56)], 5⟩ [0 ≤ i_22, i_22 < (((List.length l_2) : Nat) : Int), (decide ((((ByteArray.size (List.getD l_2 (Int.toNat i_22) ((0 : Int), ((0 : Int), ByteArray.empty))).2.2) : Nat) : Int) > (60 : Int))) = false, 0 ≤ i_22, i_22 < (((List.length l_2) : Nat) : Int), (!r_64) = false, 0 ≤ i_22, i_22 < (((List.length l_2) : Nat) : Int)] (by kernel_rfl) rfl rfl (ap2 c_70.1 (ap2 c_70.2 (ap2 b_62 (ap2 c_70.1 (ap2 c_70.2 (ap2 b_66 (ap2 c_70.1 (ap1 c_70.2)))))))) (by kernel_rfl) (by kernel_rfl) ?_
                  have H_164 := Option.some.inj (show some (!r_68) = some q_149 from H_163); subst H_164
                  refine VL_nil ?_
                  exact QP_end (!r_68) rfl [(4, 4)] hn (by kernel_rfl) (by kernel_rfl) rfl rfl rfl
            · intro y_152 hy; subst hy
              skip
              skip
              refine VL_cond (y_152) (by kernel_rfl) ?_ ?_
              · intro b_72; have H_165 := of_t H_151 b_72
                refine V_run hN hn 2 5 [4] [] ⟨[(4, .c (.val (.bool true)))], [], 5⟩ [] (by kernel_rfl) rfl rfl ap0 ?_
                have H_167 := Option.some.inj (show some (Sum.inl true) = some q_141 from H_165); subst H_167
                have H_168 := Option.some.inj (show some true = some r from H_143); subst H_168
                refine VL_ret ?_
                refine QB_ret ?_
                refine QL_ret ?_
                refine QB_ret ?_
                refine QP_ret ?_
                exact P_to [(4, .c (.val (.bool true)))] [] [] hn (by kernel_rfl) (by kernel_rfl) rfl rfl rfl (QF_retS (by kernel_rfl) (by kernel_rfl) rfl)
              · intro b_72; have H_166 := of_f H_151 b_72
                refine V_run hN hn 2 5 [0, 1, 5, 6, 7, 64] [4] ⟨[(0, .c (.val (.string s_1))), (1, .c (.imm (.slice (.pair (.int .i64) (.pair (.int .i64) .str))) l_2)), (5, .c (.val (.string t_21))), (6, .c (.h 4)), (7, .c (.val (.int .i64 i_22))), (64, .c (.val (.bool y_152)))], [(4, .row (.pair (.int .i64) (.slice (.pair (.int .i64) (.pair (.int .i64) .str)))) all_56)], 5⟩ [] (by kernel_rfl) rfl rfl ap0 ?_
                obtain ⟨r_75, h_76, H_169⟩ := of_bind H_166
                obtain ⟨c_77, H_170⟩ := of_if H_169
                refine V_reg hN hn [(7, ⟨21, 0, [.c (.val (.int .i64 (((ByteArray.size t_21) : Nat) : Int))), .c (.imm (.slice (.pair (.int .i64) (.pair (.int .i64) .str))) (List.drop (Int.toNat i_22) (List.take (Int.toNat (IntKind.wrap .i64 (i_22 + (1 : Int)))) l_2)))], [], .tup [(true, [.val (.int .i64 r_75.1), .imm (.slice (.pair (.int .i64) (.pair (.int .i64) .str))) r_75.2.1]), (false, [.val (.int .i64 r_75.2.2)])], [], [], 5⟩)] [] (calls_cons (delta_Build_spec K (((ByteArray.size t_21) : Nat) : Int) (List.drop (Int.toNat i_22) (List.take (Int.toNat (IntKind.wrap .i64 (i_22 + (1 : Int)))) l_2)) r_75 h_76) (by kernel_rfl) calls_nil) 5 [0, 1, 5, 6, 7, 8, 9] [4, 5] ⟨[(0, .c (.val (.string s_1))), (1, .c (.imm (.slice (.pair (.int .i64) (.pair (.int .i64) .str))) l_2)), (5, .c (.val (.string t_21))), (6, .c (.h 4)), (7, .c (.val (.int .i64 i_22))), (8, .c (.h 5)), (9, .c (.val (.int .i64 r_75.2.2)))], [(4, .row (.pair (.int .i64) (.slice (.pair (.int .i64) (.pair (.int .i64) .str)))) all_56), (5, .box [.val (.int .i64 r_75.1), .imm (.slice (.pair (.int .i64) (.pair (.int .i64) .str))) r_75.2.1])], 6⟩ [(0 : Int) ≤ i_22, i_22 ≤ (IntKind.wrap .i64 (i_22 + (1 : Int))), (IntKind.wrap .i64 (i_22 + (1 : Int))) ≤ (((List.length l_2) : Nat) : Int)] (by kernel_rfl) rfl rfl (ap2 c_77.1 (ap2 c_77.2.1 (ap1 c_77.2.2))) (by kernel_rfl) (by kernel_rfl) ?_
                refine V_run hN hn 3 6 [0, 1, 5, 6, 7, 8, 77] [4, 5] ⟨[(0, .c (.val (.string s_1))), (1, .c (.imm (.slice (.pair (.int .i64) (.pair (.int .i64) .str))) l_2)), (5, .c (.val (.string t_21))), (6, .c (.h 4)), (7, .c (.val (.int .i64 i_22))), (8, .c (.h 5)), (77, .c (.val (.bool (r_75.2.2 != (0 : Int)))))], [(4, .row (.pair (.int .i64) (.slice (.pair (.int .i64) (.pair (.int .i64) .str)))) all_56), (5, .box [.val (.int .i64 r_75.1), .imm (.slice (.pair (.int .i64) (.pair (.int .i64) .str))) r_75.2.1])], 6⟩ [] (by kernel_rfl) rfl rfl ap0 ?_
                refine VL_cond ((r_75.2.2 != (0 : Int))) (by kernel_rfl) ?_ ?_
                · intro b_79; have H_171 := of_t H_170 b_79
                  refine V_run hN hn 2 6 [4] [] ⟨[(4, .c (.val (.bool true)))], [], 6⟩ [] (by kernel_rfl) rfl rfl ap0 ?_
                  have H_173 := Option.some.inj (show some (Sum.inl true) = some q_141 from H_171); subst H_173
                  have H_174 := Option.some.inj (show some true = some r from H_143); subst H_174
                  refine VL_ret ?_
                  refine QB_ret ?_
                  refine QL_ret ?_
                  refine QB_ret ?_
                  refine QP_ret ?_
                  exact P_to [(4, .c (.val (.bool true)))] [] [] hn (by kernel_rfl) (by kernel_rfl) rfl rfl rfl (QF_retS (by kernel_rfl) (by kernel_rfl) rfl)
                · intro b_79; have H_172 := of_f H_170 b_79
                  refine V_run hN hn 2 6 [0, 1, 5, 6, 7, 8, 77] [4, 5] ⟨[(0, .c (.val (.string s_1))), (1, .c (.imm (.slice (.pair (.int .i64) (.pair (.int .i64) .str))) l_2)), (5, .c (.val (.string t_21))), (6, .c (.h 4)), (7, .c (.val (.int .i64 i_22))), (8, .c (.h 5)), (77, .c (.val (.bool (r_75.2.2 != (0 : Int)))))], [(4, .row (.pair (.int .i64) (.slice (.pair (.int .i64) (.pair (.int .i64) .str)))) all_56), (5, .box [.val (.int .i64 r_75.1), .imm (.slice (.pair (.int .i64) (.pair (.int .i64) .str))) r_75.2.1])], 6⟩ [] (by kernel_rfl) rfl rfl ap0 ?_
                  obtain ⟨r_82, h_83, H_175⟩ := of_bind H_172
                  refine V_reg hN hn [(2, ⟨22, 0, [.agg [.val (.int .i64 r_75.1), .imm (.slice (.pair (.int .i64) (.pair (.int .i64) .str))) r_75.2.1], .c (.val (.string t_21))], [], .tup [(false, [.val (.string r_82.1)]), (false, [.val (.int .i64 r_82.2)])], [], [], 6⟩)] [] (calls_cons (delta_Apply_spec K r_75.1 r_75.2.1 t_21 r_82 h_83) (by kernel_rfl) calls_nil) 6 [0, 1, 6, 7, 8, 10, 11] [4, 5] ⟨[(0, .c (.val (.string s_1))), (1, .c (.imm (.slice (.pair (.int .i64) (.pair (.int .i64) .str))) l_2)), (6, .c (.h 4)), (7, .c (.val (.int .i64 i_22))), (8, .c (.h 5)), (10, .c (.val (.string r_82.1))), (11, .c (.val (.int .i64 r_82.2)))], [(4, .row (.pair (.int .i64) (.slice (.pair (.int .i64) (.pair (.int .i64) .str)))) all_56), (5, .box [.val (.int .i64 r_75.1), .imm (.slice (.pair (.int .i64) (.pair (.int .i64) .str))) r_75.2.1])], 6⟩ [] (by kernel_rfl) rfl rfl ap0 (by kernel_rfl) (by kernel_rfl) ?_
                  refine V_run hN hn 3 6 [0, 1, 6, 7, 8, 10, 85] [4, 5] ⟨[(0, .c (.val (.string s_1))), (1, .c (.imm (.slice (.pair (.int .i64) (.pair (.int .i64) .str))) l_2)), (6, .c (.h 4)), (7, .c (.val (.int .i64 i_22))), (8, .c (.h 5)), (10, .c (.val (.string r_82.1))), (85, .c (.val (.bool (r_82.2 != (0 : Int)))))], [(4, .row (.pair (.int .i64) (.slice (.pair (.int .i64) (.pair (.int .i64) .str)))) all_56), (5, .box [.val (.int .i64 r_75.1), .imm (.slice (.pair (.int .i64) (.pair (.int .i64) .str))) r_75.2.1])], 6⟩ [] (by kernel_rfl) rfl rfl ap0 ?_
                  refine VL_cond ((r_82.2 != (0 : Int))) (by kernel_rfl) ?_ ?_
                  · intro b_86; have H_176 := of_t H_175 b_86
                    refine V_run hN hn 2 6 [4] [] ⟨[(4, .c (.val (.bool false)))], [], 6⟩ [] (by kernel_rfl) rfl rfl ap0 ?_
                    have H_178 := Option.some.inj (show some (Sum.inl false) = some q_141 from H_176); subst H_178
                    have H_179 := Option.some.inj (show some false = some r from H_143); subst H_179
                    refine VL_ret ?_
                    refine QB_ret ?_
                    refine QL_ret ?_
                    refine QB_ret ?_
                    refine QP_ret ?_
                    exact P_to [(4, .c (.val (.bool false)))] [] [] hn (by kernel_rfl) (by kernel_rfl) rfl rfl rfl (QF_retS (by kernel_rfl) (by kernel_rfl) rfl)
                  · intro b_86; have H_177 := of_f H_175 b_86
                    obtain ⟨c_88, H_180⟩ := of_if H_177
                    refine V_run hN hn 2 6 [0, 1, 5, 6, 7] [7] ⟨[(0, .c (.val (.string s_1))), (1, .c (.imm (.slice (.pair (.int .i64) (.pair (.int .i64) .str))) l_2)), (5, .c (.val (.string r_82.1))), (6, .c (.h 7)), (7, .c (.val (.int .i64 i_22)))], [(7, .row (.pair (.int .i64) (.slice (.pair (.int .i64) (.pair (.int .i64) .str)))) (all_56 ++ ([(r_75.1, r_75.2.1)] : List (Int × (List (Int × (Int × ByteArray)))))))], 8⟩ [(List.length all_56 + List.length ([(r_75.1, r_75.2.1)] : List (Int × (List (Int × (Int × ByteArray)))))) * 32 ≤ 140737488355328] (by kernel_rfl) rfl rfl (ap1 c_88) ?_
                    refine VL_nil (QB_end ?_)
                    refine V_run hN hn 1 8 [0, 1, 5, 6, 7] [7] ⟨[(0, .c (.val (.string s_1))), (1, .c (.imm (.slice (.pair (.int .i64) (.pair (.int .i64) .str))) l_2)), (5, .c (.val (.string r_82.1))), (6, .c (.h 7)), (7, .c (.val (.int .i64 (IntKind.wrap .i64 (i_22 + (1 : Int))))))], [(7, .row (.pair (.int .i64) (.slice (.pair (.int .i64) (.pair (.int .i64) .str)))) (all_56 ++ ([(r_75.1, r_75.2.1)] : List (Int × (List (Int × (Int × ByteArray)))))))], 8⟩ [] (by kernel_rfl) rfl rfl ap0 ?_
                    refine VL_nil ?_
                    exact V_roundEnd (r_82.1, (all_56 ++ ([(r_75.1, r_75.2.1)] : List (Int × (List (Int × (Int × ByteArray)))))), (IntKind.wrap .i64 (i_22 + (1 : Int)))) H_180 [(4, 7)] hn (by kernel_rfl) (by kernel_rfl) rfl rfl rfl
          · intro b_59; have H_148 := of_f H_146 b_59
            refine VL_exit ?_
            refine QL_exit ?_
            refine QB_here ?_
            have H_181 := Option.some.inj (show some (Sum.inr (t_21, all_56)) = some q_141 from H_148); subst H_181
            refine VL_nil ?_
            exact QP_end (t_21, all_56) rfl [(4, 4)] hn (by kernel_rfl) (by kernel_rfl) rfl rfl rfl
        · intro y_144 hy; subst hy
          obtain ⟨t_90, all_91⟩ := y_144
          refine V_run hN hn 1 5 [0, 5, 6] [4] ⟨[(0, .c (.val (.string s_1))), (5, .c (.val (.string t_90))), (6, .c (.h 4))], [(4, .row (.pair (.int .i64) (.slice (.pair (.int .i64) (.pair (.int .i64) .str)))) all_91)], 5⟩ [] (by kernel_rfl) rfl rfl ap0 ?_
          obtain ⟨r_93, h_94, H_182⟩ := of_bind H_143
          refine V_reg hN hn [(1, ⟨23, 1, [.c (.h 0)], [(0, .row (.pair (.int .i64) (.slice (.pair (.int .i64) (.pair (.int .i64) .str)))) all_91)], .tup [(true, [.val (.int .i64 r_93.1), .imm (.slice (.pair (.int .i64) (.pair (.int .i64) .str))) r_93.2.1]), (false, [.val (.int .i64 r_93.2.2)])], [(0, .row (.pair (.int .i64) (.slice (.pair (.int .i64) (.pair (.int .i64) .str)))) all_91)], [(0, 4)], 5⟩)] [] (calls_cons (compose_All_r_spec K all_91 r_93 h_94) (by kernel_rfl) calls_nil) 5 [0, 5, 6, 12, 13] [4, 5] ⟨[(0, .c (.val (.string s_1))), (5, .c (.val (.string t_90))), (6, .c (.h 4)), (12, .c (.h 5)), (13, .c (.val (.int .i64 r_93.2.2)))], [(4, .row (.pair (.int .i64) (.slice (.pair (.int .i64) (.pair (.int .i64) .str)))) all_91), (5, .box [.val (.int .i64 r_93.1), .imm (.slice (.pair (.int .i64) (.pair (.int .i64) .str))) r_93.2.1])], 6⟩ [] (by kernel_rfl) rfl rfl ap0 (by kernel_rfl) (by kernel_rfl) ?_
          refine V_run hN hn 3 6 [0, 5, 12, 13, 98] [5] ⟨[(0, .c (.val (.string s_1))), (5, .c (.val (.string t_90))), (12, .c (.h 5)), (13, .c (.val (.int .i64 r_93.2.2))), (98, .c (.val (.bool ((((List.length all_91) : Nat) : Int) == (0 : Int)))))], [(5, .box [.val (.int .i64 r_93.1), .imm (.slice (.pair (.int .i64) (.pair (.int .i64) .str))) r_93.2.1])], 6⟩ [] (by kernel_rfl) rfl rfl ap0 ?_
          refine VL_cond (((((List.length all_91) : Nat) : Int) == (0 : Int))) (by kernel_rfl) ?_ ?_
          · intro b_97; have H_183 := of_t H_182 b_97
            refine V_run hN hn 1 6 [0, 5, 12, 13, 98] [5] ⟨[(0, .c (.val (.string s_1))), (5, .c (.val (.string t_90))), (12, .c (.h 5)), (13, .c (.val (.int .i64 r_93.2.2))), (98, .c (.val (.bool ((((List.length all_91) : Nat) : Int) == (0 : Int)))))], [(5, .box [.val (.int .i64 r_93.1), .imm (.slice (.pair (.int .i64) (.pair (.int .i64) .str))) r_93.2.1])], 6⟩ [] (by kernel_rfl) rfl rfl ap0 ?_
            rcases Bool.eq_false_or_eq_true ((r_93.2.2 == (0 : Int))) with b_99 | b_99
            · have H_185 := of_t H_183 b_99
              obtain ⟨r_100, h_101, H_187⟩ := of_bind H_185
              obtain ⟨r_102, h_103, H_188⟩ := of_bind H_187
              refine V_draw hN hn (by kernel_rfl) [(4, ⟨25, 0, [.c (.val (.int .i64 (0 : Int)))], [], .agg [.val (.int .i64 r_100.1), .h 2], [(2, .row (.pair (.int .i64) (.pair (.int .i64) .str)) r_100.2)], [(2, 6)], 7⟩), (5, ⟨24, 1, [.agg [.val (.int .i64 r_93.1), .imm (.slice (.pair (.int .i64) (.pair (.int .i64) .str))) r_93.2.1], .agg [.val (.int .i64 r_100.1), .h 0]], [(0, .row (.pair (.int .i64) (.pair (.int .i64) .str)) r_100.2)], .c (.val (.bool r_102)), [(0, .row (.pair (.int .i64) (.pair (.int .i64) .str)) r_100.2)], [(0, 6)], 7⟩)] [(101, true)] (calls_cons (delta_Keep_spec K (0 : Int) r_100 h_101) (by kernel_rfl) (calls_cons (delta_Same_sggsgr_spec K r_93.1 r_93.2.1 r_100.1 r_100.2 r_102 h_103) (by kernel_rfl) calls_nil)) 6 [4] [] ⟨[(4, .c (.val (.bool r_102)))], [], 7⟩ [(r_93.2.2 == (0 : Int)) = true] (by kernel_rfl) rfl rfl (ap1 b_99) (by kernel_rfl) (by kernel_rfl) ?_
              have H_189 := Option.some.inj (show some r_102 = some r from H_188); subst H_189
              refine VL_ret ?_
              exact P_to [(4, .c (.val (.bool r_102)))] [] [] hn (by kernel_rfl) (by kernel_rfl) rfl rfl rfl (QF_retS (by kernel_rfl) (by kernel_rfl) rfl)
            · have H_186 := of_f H_183 b_99
              refine V_draw hN hn (by kernel_rfl) [] [(101, false)] calls_nil 6 [4] [] ⟨[(4, .c (.val (.bool false)))], [], 6⟩ [(r_93.2.2 == (0 : Int)) = false] (by kernel_rfl) rfl rfl (ap1 b_99) (by kernel_rfl) (by kernel_rfl) ?_
              have H_190 := Option.some.inj (show some false = some r from H_186); subst H_190
              refine VL_ret ?_
              exact P_to [(4, .c (.val (.bool false)))] [] [] hn (by kernel_rfl) (by kernel_rfl) rfl rfl rfl (QF_retS (by kernel_rfl) (by kernel_rfl) rfl)
          · intro b_97; have H_184 := of_f H_182 b_97
            refine V_run hN hn 2 6 [0, 5, 12, 13, 98] [5] ⟨[(0, .c (.val (.string s_1))), (5, .c (.val (.string t_90))), (12, .c (.h 5)), (13, .c (.val (.int .i64 r_93.2.2))), (98, .c (.val (.bool ((((List.length all_91) : Nat) : Int) == (0 : Int)))))], [(5, .box [.val (.int .i64 r_93.1), .imm (.slice (.pair (.int .i64) (.pair (.int .i64) .str))) r_93.2.1])], 6⟩ [] (by kernel_rfl) rfl rfl ap0 ?_
            obtain ⟨r_107, h_108, H_191⟩ := of_bind H_184
            refine V_reg hN hn [(2, ⟨22, 0, [.agg [.val (.int .i64 r_93.1), .imm (.slice (.pair (.int .i64) (.pair (.int .i64) .str))) r_93.2.1], .c (.val (.string s_1))], [], .tup [(false, [.val (.string r_107.1)]), (false, [.val (.int .i64 r_107.2)])], [], [], 6⟩)] [] (calls_cons (delta_Apply_spec K r_93.1 r_93.2.1 s_1 r_107 h_108) (by kernel_rfl) calls_nil) 6 [5, 13, 14, 15] [] ⟨[(5, .c (.val (.string t_90))), (13, .c (.val (.int .i64 r_93.2.2))), (14, .c (.val (.string r_107.1))), (15, .c (.val (.int .i64 r_107.2)))], [], 6⟩ [] (by kernel_rfl) rfl rfl ap0 (by kernel_rfl) (by kernel_rfl) ?_
            refine V_run hN hn 1 6 [5, 13, 14, 15] [] ⟨[(5, .c (.val (.string t_90))), (13, .c (.val (.int .i64 r_93.2.2))), (14, .c (.val (.string r_107.1))), (15, .c (.val (.int .i64 r_107.2)))], [], 6⟩ [] (by kernel_rfl) rfl rfl ap0 ?_
            rcases Bool.eq_false_or_eq_true ((r_93.2.2 == (0 : Int))) with b_111 | b_111
            · have H_192 := of_t H_191 b_111
              rcases Bool.eq_false_or_eq_true ((r_107.2 == (0 : Int))) with b_112 | b_112
              · have H_194 := of_t H_192 b_112
                refine V_reg hN hn [] [(114, true), (118, true)] calls_nil 6 [4] [] ⟨[(4, .c (.val (.bool (ByteArray.toList r_107.1 == ByteArray.toList t_90))))], [], 6⟩ [(r_93.2.2 == (0 : Int)) = true, (r_107.2 == (0 : Int)) = true] (by kernel_rfl) rfl rfl (ap2 b_111 (ap1 b_112)) (by kernel_rfl) (by kernel_rfl) ?_
                have H_196 := Option.some.inj (show some (ByteArray.toList r_107.1 == ByteArray.toList t_90) = some r from H_194); subst H_196
                refine VL_ret ?_
                exact P_to [(4, .c (.val (.bool (ByteArray.toList r_107.1 == ByteArray.toList t_90))))] [] [] hn (by kernel_rfl) (by kernel_rfl) rfl rfl rfl (QF_retS (by kernel_rfl) (by kernel_rfl) rfl)
              · have H_195 := of_f H_192 b_112
                refine V_reg hN hn [] [(114, true), (118, false)] calls_nil 6 [4] [] ⟨[(4, .c (.val (.bool false)))], [], 6⟩ [(r_93.2.2 == (0 : Int)) = true, (r_107.2 == (0 : Int)) = false] (by kernel_rfl) rfl rfl (ap2 b_111 (ap1 b_112)) (by kernel_rfl) (by kernel_rfl) ?_
                have H_197 := Option.some.inj (show some false = some r from H_195); subst H_197
                refine VL_ret ?_
                exact P_to [(4, .c (.val (.bool false)))] [] [] hn (by kernel_rfl) (by kernel_rfl) rfl rfl rfl (QF_retS (by kernel_rfl) (by kernel_rfl) rfl)
            · have H_193 := of_f H_191 b_111
              refine V_reg hN hn [] [(114, false)] calls_nil 6 [4] [] ⟨[(4, .c (.val (.bool false)))], [], 6⟩ [(r_93.2.2 == (0 : Int)) = false] (by kernel_rfl) rfl rfl (ap1 b_111) (by kernel_rfl) (by kernel_rfl) ?_
              have H_198 := Option.some.inj (show some false = some r from H_193); subst H_198
              refine VL_ret ?_
              exact P_to [(4, .c (.val (.bool false)))] [] [] hn (by kernel_rfl) (by kernel_rfl) rfl rfl rfl (QF_retS (by kernel_rfl) (by kernel_rfl) rfl)

end Go.Pal
