/- The Go functions that AlgebraBack reaches compute what the plain functions say: part 1, printed by a program of this workplace. -/
import Derived.Test.YtbjgcginkkcjcaaChecked
import Derived.Test.YtbjgcginkkcjcaaWalkAlgebraBack0
namespace Go.Pal
open Go Go.Proofs
set_option maxRecDepth 100000
set_option linter.unusedVariables false

theorem palinodelaw8_AlgebraBack_spec (K : Nat) (b_1 : (List Bool)) (a_2 : (List Int)) (r : Bool) (H : palinodelaw8_AlgebraBack K b_1 a_2 = some r) : Spec Try.prog 8 0 [.c (.imm (.slice .bool) b_1), .c (.imm (.slice (.int .u8)) a_2)] [] (.c (.val (.bool r))) [] := by
  refine Spec_mk (fn := Try.f8) (c := (Try.f8.body).get!) Try.func8 (by kernel_rfl) rfl ?_
  intro C hN hn
  replace hN : C.N = 127 := hN
  unfold palinodelaw8_AlgebraBack at H
  refine V_run hN hn 4 0 [0, 1] [] ⟨[(0, .c (.imm (.slice .bool) b_1)), (1, .c (.imm (.slice (.int .u8)) a_2))], [], 0⟩ [] (by kernel_rfl) rfl rfl ap0 ?_
  obtain ⟨r_4, h_5, H_104⟩ := of_bind H
  refine V_reg hN hn [(0, ⟨10, 0, [], [], .c (.val (.bool r_4)), [], [], 0⟩)] [] (calls_cons (palinodelaw8_known_spec K  r_4 h_5) (by kernel_rfl) calls_nil) 0 [0, 1, 19] [] ⟨[(0, .c (.imm (.slice .bool) b_1)), (1, .c (.imm (.slice (.int .u8)) a_2)), (19, .c (.val (.bool (!r_4))))], [], 0⟩ [] (by kernel_rfl) rfl rfl ap0 (by kernel_rfl) (by kernel_rfl) ?_
  refine VL_cond ((!r_4)) (by kernel_rfl) ?_ ?_
  · intro b_7; have H_105 := of_t H_104 b_7
    refine V_run hN hn 2 0 [4] [] ⟨[(4, .c (.val (.bool false)))], [], 0⟩ [] (by kernel_rfl) rfl rfl ap0 ?_
    have H_107 := Option.some.inj (show some false = some r from H_105); subst H_107
    refine VL_ret ?_
    exact P_to [(4, .c (.val (.bool false)))] [] [] hn (by kernel_rfl) (by kernel_rfl) rfl rfl rfl (QF_retS (by kernel_rfl) (by kernel_rfl) rfl)
  · intro b_7; have H_106 := of_f H_104 b_7
    refine V_run hN hn 3 0 [0, 1, 19] [] ⟨[(0, .c (.imm (.slice .bool) b_1)), (1, .c (.imm (.slice (.int .u8)) a_2)), (19, .c (.val (.bool (!r_4))))], [], 0⟩ [] (by kernel_rfl) rfl rfl ap0 ?_
    obtain ⟨q_108, H_109, H_110⟩ := of_bind H_106
    refine V_cut (Y := Bool) (R := Bool) q_108 (fun y => y) (fun y => [(0, .c (.imm (.slice .bool) b_1)), (1, .c (.imm (.slice (.int .u8)) a_2)), (29, .c (.val (.bool y)))]) (fun y => []) ?_ ?_
    · skip
      rcases Bool.eq_false_or_eq_true ((decide ((((List.length b_1) : Nat) : Int) > (150 : Int)))) with b_10 | b_10
      · have H_112 := of_t H_109 b_10
        refine V_reg hN hn [] [(23, true)] calls_nil 0 [0, 1, 29] [] ⟨[(0, .c (.imm (.slice .bool) b_1)), (1, .c (.imm (.slice (.int .u8)) a_2)), (29, .c (.val (.bool true)))], [], 0⟩ [(decide ((((List.length b_1) : Nat) : Int) > (150 : Int))) = true] (by kernel_rfl) rfl rfl (ap1 b_10) (by kernel_rfl) (by kernel_rfl) ?_
        have H_114 := Option.some.inj (show some true = some q_108 from H_112); subst H_114
        refine VL_nil ?_
        exact QP_end true rfl [] hn (by kernel_rfl) (by kernel_rfl) rfl rfl rfl
      · have H_113 := of_f H_109 b_10
        refine V_reg hN hn [] [(23, false)] calls_nil 0 [0, 1, 29] [] ⟨[(0, .c (.imm (.slice .bool) b_1)), (1, .c (.imm (.slice (.int .u8)) a_2)), (29, .c (.val (.bool (decide ((((List.length a_2) : Nat) : Int) < (((List.length b_1) : Nat) : Int))))))], [], 0⟩ [(decide ((((List.length b_1) : Nat) : Int) > (150 : Int))) = false] (by kernel_rfl) rfl rfl (ap1 b_10) (by kernel_rfl) (by kernel_rfl) ?_
        have H_115 := Option.some.inj (show some (decide ((((List.length a_2) : Nat) : Int) < (((List.length b_1) : Nat) : Int))) = some q_108 from H_113); subst H_115
        refine VL_nil ?_
        exact QP_end (decide ((((List.length a_2) : Nat) : Int) < (((List.length b_1) : Nat) : Int))) rfl [] hn (by kernel_rfl) (by kernel_rfl) rfl rfl rfl
    · intro y_111 hy; subst hy
      skip
      skip
      refine VL_cond (y_111) (by kernel_rfl) ?_ ?_
      · intro b_14; have H_116 := of_t H_110 b_14
        refine V_run hN hn 2 0 [4] [] ⟨[(4, .c (.val (.bool true)))], [], 0⟩ [] (by kernel_rfl) rfl rfl ap0 ?_
        have H_118 := Option.some.inj (show some true = some r from H_116); subst H_118
        refine VL_ret ?_
        exact P_to [(4, .c (.val (.bool true)))] [] [] hn (by kernel_rfl) (by kernel_rfl) rfl rfl rfl (QF_retS (by kernel_rfl) (by kernel_rfl) rfl)
      · intro b_14; have H_117 := of_f H_110 b_14
        refine V_run hN hn 6 0 [0, 1, 5, 6, 7] [] ⟨[(0, .c (.imm (.slice .bool) b_1)), (1, .c (.imm (.slice (.int .u8)) a_2)), (5, .c (.val (.slice none 0 0))), (6, .c (.val (.slice none 0 0))), (7, .c (.val (.int .i64 (0 : Int))))], [], 0⟩ [] (by kernel_rfl) rfl rfl ap0 ?_
        obtain ⟨q_119, H_120, H_121⟩ := of_bind H_117
        refine V_cut (Y := ((List Int) × (List Int))) (R := ((List Int) × (List Int))) q_119 (fun y => y) (fun y => [(0, .c (.imm (.slice .bool) b_1)), (5, .c (.h 6)), (6, .c (.h 7))]) (fun y => [(6, .row (.int .i64) y.1), (7, .row (.int .i64) y.2)]) ?_ ?_
        · skip
          refine VL_block ?_
          refine V_ghost [.nilSlot 5 (.int .i64), .nilSlot 6 (.int .i64)] 0 hn [0, 1, 5, 6, 7] [0, 1] ⟨[(0, .c (.imm (.slice .bool) b_1)), (1, .c (.imm (.slice (.int .u8)) a_2)), (5, .c (.h 0)), (6, .c (.h 1)), (7, .c (.val (.int .i64 (0 : Int))))], [(0, .row (.int .i64) ([] : List Int)), (1, .row (.int .i64) ([] : List Int))], 2⟩ (by kernel_rfl) rfl rfl ?_
          refine V_to [(0, .c (.imm (.slice .bool) b_1)), (1, .c (.imm (.slice (.int .u8)) a_2)), (5, .c (.h 6)), (6, .c (.h 7)), (7, .c (.val (.int .i64 (0 : Int))))] [(6, .row (.int .i64) ([] : List Int)), (7, .row (.int .i64) ([] : List Int))] [(6, 0), (7, 1)] hn (by kernel_rfl) (by kernel_rfl) rfl rfl rfl ?_
          refine VL_loop (X := ((List Int) × (List Int) × Int)) (fun x => [(0, .c (.imm (.slice .bool) b_1)), (1, .c (.imm (.slice (.int .u8)) a_2)), (5, .c (.h 6)), (6, .c (.h 7)), (7, .c (.val (.int .i64 x.2.2)))]) (fun x => [(6, .row (.int .i64) x.1), (7, .row (.int .i64) x.2.1)]) (fun k x => palinodelaw8_AlgebraBack.l0 K b_1 a_2 k x.1 x.2.1 x.2.2 = some q_119) K (([] : List Int), ([] : List Int), (0 : Int)) H_120 (fun _ h => no_none h) ?_
          intro k_30 x_30 H_123
          obtain ⟨q_28, p_29, i_17⟩ := x_30
          have H_124 : palinodelaw8_AlgebraBack.l0 K b_1 a_2 (k_30 + 1) q_28 p_29 i_17 = some q_119 := H_123
          rw [palinodelaw8_AlgebraBack.l0] at H_124
          refine V_run hN hn 3 8 [0, 1, 5, 6, 7, 33] [6, 7] ⟨[(0, .c (.imm (.slice .bool) b_1)), (1, .c (.imm (.slice (.int .u8)) a_2)), (5, .c (.h 6)), (6, .c (.h 7)), (7, .c (.val (.int .i64 i_17))), (33, .c (.val (.bool (decide (i_17 < (((List.length b_1) : Nat) : Int))))))], [(6, .row (.int .i64) q_28), (7, .row (.int .i64) p_29)], 8⟩ [] (by kernel_rfl) rfl rfl ap0 ?_
          refine VL_cond ((decide (i_17 < (((List.length b_1) : Nat) : Int)))) (by kernel_rfl) ?_ ?_
          · intro b_32; have H_125 := of_t H_124 b_32
            refine V_run hN hn 2 8 [0, 1, 5, 6, 7, 33] [6, 7] ⟨[(0, .c (.imm (.slice .bool) b_1)), (1, .c (.imm (.slice (.int .u8)) a_2)), (5, .c (.h 6)), (6, .c (.h 7)), (7, .c (.val (.int .i64 i_17))), (33, .c (.val (.bool (decide (i_17 < (((List.length b_1) : Nat) : Int))))))], [(6, .row (.int .i64) q_28), (7, .row (.int .i64) p_29)], 8⟩ [] (by kernel_rfl) rfl rfl ap0 ?_
            refine VL_block ?_
            obtain ⟨c_34, H_127⟩ := of_if H_125
            refine V_run hN hn 2 8 [0, 1, 5, 6, 7, 39] [6, 7] ⟨[(0, .c (.imm (.slice .bool) b_1)), (1, .c (.imm (.slice (.int .u8)) a_2)), (5, .c (.h 6)), (6, .c (.h 7)), (7, .c (.val (.int .i64 i_17))), (39, .c (.val (.bool (List.getD b_1 (Int.toNat i_17) false))))], [(6, .row (.int .i64) q_28), (7, .row (.int .i64) p_29)], 8⟩ [0 ≤ i_17, i_17 < (((List.length b_1) : Nat) : Int)] (by kernel_rfl) rfl rfl (ap2 c_34.1 (ap1 c_34.2)) ?_
            refine VL_cond ((List.getD b_1 (Int.toNat i_17) false)) (by kernel_rfl) ?_ ?_
            · intro b_35; have H_128 := of_t H_127 b_35
              obtain ⟨c_36, H_130⟩ := of_if H_128
              refine V_run hN hn 1 8 [0, 1, 5, 6, 7] [7, 9] ⟨[(0, .c (.imm (.slice .bool) b_1)), (1, .c (.imm (.slice (.int .u8)) a_2)), (5, .c (.h 9)), (6, .c (.h 7)), (7, .c (.val (.int .i64 i_17)))], [(7, .row (.int .i64) p_29), (9, .row (.int .i64) (q_28 ++ ([(1 : Int)] : List Int)))], 10⟩ [(List.length q_28 + List.length ([(1 : Int)] : List Int)) * 8 ≤ 140737488355328] (by kernel_rfl) rfl rfl (ap1 c_36) ?_
              refine VL_nil (QB_end ?_)
              refine V_run hN hn 1 10 [0, 1, 5, 6, 7] [7, 9] ⟨[(0, .c (.imm (.slice .bool) b_1)), (1, .c (.imm (.slice (.int .u8)) a_2)), (5, .c (.h 9)), (6, .c (.h 7)), (7, .c (.val (.int .i64 (IntKind.wrap .i64 (i_17 + (1 : Int))))))], [(7, .row (.int .i64) p_29), (9, .row (.int .i64) (q_28 ++ ([(1 : Int)] : List Int)))], 10⟩ [] (by kernel_rfl) rfl rfl ap0 ?_
              refine VL_nil ?_
              exact V_roundEnd ((q_28 ++ ([(1 : Int)] : List Int)), p_29, (IntKind.wrap .i64 (i_17 + (1 : Int)))) H_130 [(6, 9), (7, 7)] hn (by kernel_rfl) (by kernel_rfl) rfl rfl rfl
            · intro b_35; have H_129 := of_f H_127 b_35
              obtain ⟨c_38, H_131⟩ := of_if H_129
              refine V_run hN hn 3 8 [0, 1, 5, 6, 7] [9, 11] ⟨[(0, .c (.imm (.slice .bool) b_1)), (1, .c (.imm (.slice (.int .u8)) a_2)), (5, .c (.h 9)), (6, .c (.h 11)), (7, .c (.val (.int .i64 i_17)))], [(9, .row (.int .i64) (q_28 ++ ([(0 : Int)] : List Int))), (11, .row (.int .i64) (p_29 ++ ([(IntKind.wrap .i64 (Int.tmod (List.getD a_2 (Int.toNat i_17) (0 : Int)) (5 : Int)))] : List Int)))], 12⟩ [(List.length q_28 + List.length ([(0 : Int)] : List Int)) * 8 ≤ 140737488355328, 0 ≤ i_17, i_17 < (((List.length a_2) : Nat) : Int), (5 : Int) ≠ (0 : Int), (List.length p_29 + List.length ([(IntKind.wrap .i64 (Int.tmod (List.getD a_2 (Int.toNat i_17) (0 : Int)) (5 : Int)))] : List Int)) * 8 ≤ 140737488355328] (by kernel_rfl) rfl rfl (ap2 c_38.1 (ap2 c_34.1 (ap2 c_38.2.1 (ap2 (by decide) (ap1 c_38.2.2))))) ?_
              refine VL_nil (QB_end ?_)
              refine V_run hN hn 1 12 [0, 1, 5, 6, 7] [9, 11] ⟨[(0, .c (.imm (.slice .bool) b_1)), (1, .c (.imm (.slice (.int .u8)) a_2)), (5, .c (.h 9)), (6, .c (.h 11)), (7, .c (.val (.int .i64 (IntKind.wrap .i64 (i_17 + (1 : Int))))))], [(9, .row (.int .i64) (q_28 ++ ([(0 : Int)] : List Int))), (11, .row (.int .i64) (p_29 ++ ([(IntKind.wrap .i64 (Int.tmod (List.getD a_2 (Int.toNat i_17) (0 : Int)) (5 : Int)))] : List Int)))], 12⟩ [] (by kernel_rfl) rfl rfl ap0 ?_
              refine VL_nil ?_
              exact V_roundEnd ((q_28 ++ ([(0 : Int)] : List Int)), (p_29 ++ ([(IntKind.wrap .i64 (Int.tmod (List.getD a_2 (Int.toNat i_17) (0 : Int)) (5 : Int)))] : List Int)), (IntKind.wrap .i64 (i_17 + (1 : Int)))) H_131 [(6, 9), (7, 11)] hn (by kernel_rfl) (by kernel_rfl) rfl rfl rfl
          · intro b_32; have H_126 := of_f H_124 b_32
            refine VL_exit ?_
            refine QL_exit ?_
            refine QB_here ?_
            have H_132 := Option.some.inj (show some (q_28, p_29) = some q_119 from H_126); subst H_132
            refine VL_nil ?_
            exact QP_end (q_28, p_29) rfl [(6, 6), (7, 7)] hn (by kernel_rfl) (by kernel_rfl) rfl rfl rfl
        · intro y_122 hy; subst hy
          obtain ⟨q_40, p_41⟩ := y_122
          refine V_run hN hn 1 8 [0, 5, 6] [6, 7] ⟨[(0, .c (.imm (.slice .bool) b_1)), (5, .c (.h 6)), (6, .c (.h 7))], [(6, .row (.int .i64) q_40), (7, .row (.int .i64) p_41)], 8⟩ [] (by kernel_rfl) rfl rfl ap0 ?_
          obtain ⟨r_43, h_44, H_133⟩ := of_bind H_121
          obtain ⟨r_45, h_46, H_134⟩ := of_bind H_133
          refine V_reg hN hn [(1, ⟨11, 1, [.c (.h 0)], [(0, .row (.int .i64) p_41)], .c (.imm (.opt (.pair (.slice (.pair (.int .i64) (.int .i64))) (.int .i64))) r_43), [(0, .row (.int .i64) p_41)], [(0, 7)], 8⟩), (3, ⟨11, 1, [.c (.h 0)], [(0, .row (.int .i64) q_40)], .c (.imm (.opt (.pair (.slice (.pair (.int .i64) (.int .i64))) (.int .i64))) r_45), [(0, .row (.int .i64) q_40)], [(0, 6)], 8⟩)] [] (calls_cons (palinodelaw8_made_r_spec K p_41 r_43 h_44) (by kernel_rfl) (calls_cons (palinodelaw8_made_r_spec K q_40 r_45 h_46) (by kernel_rfl) calls_nil)) 8 [0, 8, 9] [] ⟨[(0, .c (.imm (.slice .bool) b_1)), (8, .c (.imm (.opt (.pair (.slice (.pair (.int .i64) (.int .i64))) (.int .i64))) r_43)), (9, .c (.imm (.opt (.pair (.slice (.pair (.int .i64) (.int .i64))) (.int .i64))) r_45))], [], 8⟩ [] (by kernel_rfl) rfl rfl ap0 (by kernel_rfl) (by kernel_rfl) ?_
          refine V_run hN hn 2 8 [0, 8, 9] [] ⟨[(0, .c (.imm (.slice .bool) b_1)), (8, .c (.imm (.opt (.pair (.slice (.pair (.int .i64) (.int .i64))) (.int .i64))) r_43)), (9, .c (.imm (.opt (.pair (.slice (.pair (.int .i64) (.int .i64))) (.int .i64))) r_45))], [], 8⟩ [] (by kernel_rfl) rfl rfl ap0 ?_
          obtain ⟨q_135, H_136, H_137⟩ := of_bind H_134
          refine V_cut (Y := Bool) (R := Bool) q_135 (fun y => y) (fun y => [(0, .c (.imm (.slice .bool) b_1)), (8, .c (.imm (.opt (.pair (.slice (.pair (.int .i64) (.int .i64))) (.int .i64))) r_43)), (9, .c (.imm (.opt (.pair (.slice (.pair (.int .i64) (.int .i64))) (.int .i64))) r_45)), (64, .c (.val (.bool y)))]) (fun y => []) ?_ ?_
          · skip
            rcases Bool.eq_false_or_eq_true ((Option.isNone r_43)) with b_49 | b_49
            · have H_139 := of_t H_136 b_49
              refine V_reg hN hn [] [(61, true)] calls_nil 8 [0, 8, 9, 64] [] ⟨[(0, .c (.imm (.slice .bool) b_1)), (8, .c (.imm (.opt (.pair (.slice (.pair (.int .i64) (.int .i64))) (.int .i64))) r_43)), (9, .c (.imm (.opt (.pair (.slice (.pair (.int .i64) (.int .i64))) (.int .i64))) r_45)), (64, .c (.val (.bool true)))], [], 8⟩ [(Option.isNone r_43) = true] (by kernel_rfl) rfl rfl (ap1 b_49) (by kernel_rfl) (by kernel_rfl) ?_
              have H_141 := Option.some.inj (show some true = some q_135 from H_139); subst H_141
              refine VL_nil ?_
              exact QP_end true rfl [] hn (by kernel_rfl) (by kernel_rfl) rfl rfl rfl
            · have H_140 := of_f H_136 b_49
              refine V_reg hN hn [] [(61, false)] calls_nil 8 [0, 8, 9, 64] [] ⟨[(0, .c (.imm (.slice .bool) b_1)), (8, .c (.imm (.opt (.pair (.slice (.pair (.int .i64) (.int .i64))) (.int .i64))) r_43)), (9, .c (.imm (.opt (.pair (.slice (.pair (.int .i64) (.int .i64))) (.int .i64))) r_45)), (64, .c (.val (.bool (Option.isNone r_45))))], [], 8⟩ [(Option.isNone r_43) = false] (by kernel_rfl) rfl rfl (ap1 b_49) (by kernel_rfl) (by kernel_rfl) ?_
              have H_142 := Option.some.inj (show some (Option.isNone r_45) = some q_135 from H_140); subst H_142
              refine VL_nil ?_
              exact QP_end (Option.isNone r_45) rfl [] hn (by kernel_rfl) (by kernel_rfl) rfl rfl rfl
          · intro y_138 hy; subst hy
            skip
            skip
            refine VL_cond (y_138) (by kernel_rfl) ?_ ?_
            · intro b_53; have H_143 := of_t H_137 b_53
              refine V_run hN hn 2 8 [4] [] ⟨[(4, .c (.val (.bool false)))], [], 8⟩ [] (by kernel_rfl) rfl rfl ap0 ?_
              have H_145 := Option.some.inj (show some false = some r from H_143); subst H_145
              refine VL_ret ?_
              exact P_to [(4, .c (.val (.bool false)))] [] [] hn (by kernel_rfl) (by kernel_rfl) rfl rfl rfl (QF_retS (by kernel_rfl) (by kernel_rfl) rfl)
            · intro b_53; have H_144 := of_f H_137 b_53
              refine V_run hN hn 2 8 [0, 8, 9, 64] [] ⟨[(0, .c (.imm (.slice .bool) b_1)), (8, .c (.imm (.opt (.pair (.slice (.pair (.int .i64) (.int .i64))) (.int .i64))) r_43)), (9, .c (.imm (.opt (.pair (.slice (.pair (.int .i64) (.int .i64))) (.int .i64))) r_45)), (64, .c (.val (.bool y_138)))], [], 8⟩ [] (by kernel_rfl) rfl rfl ap0 ?_
              obtain ⟨r_56, h_57, H_146⟩ := of_bind H_144
              refine V_reg hN hn [(2, ⟨21, 0, [.c (.imm (.opt (.pair (.slice (.pair (.int .i64) (.int .i64))) (.int .i64))) r_43), .c (.imm (.opt (.pair (.slice (.pair (.int .i64) (.int .i64))) (.int .i64))) r_45)], [], .tup [(false, [.imm (.opt (.pair (.slice (.pair (.int .i64) (.int .i64))) (.int .i64))) r_56.1]), (false, [.val (.int .i64 r_56.2)])], [], [], 8⟩)] [] (calls_cons (algebra_Expand_spec K r_43 r_45 r_56 h_57) (by kernel_rfl) calls_nil) 8 [0, 8, 9, 10, 11] [] ⟨[(0, .c (.imm (.slice .bool) b_1)), (8, .c (.imm (.opt (.pair (.slice (.pair (.int .i64) (.int .i64))) (.int .i64))) r_43)), (9, .c (.imm (.opt (.pair (.slice (.pair (.int .i64) (.int .i64))) (.int .i64))) r_45)), (10, .c (.imm (.opt (.pair (.slice (.pair (.int .i64) (.int .i64))) (.int .i64))) r_56.1)), (11, .c (.val (.int .i64 r_56.2)))], [], 8⟩ [] (by kernel_rfl) rfl rfl ap0 (by kernel_rfl) (by kernel_rfl) ?_
              refine V_run hN hn 3 8 [0, 8, 9, 10, 11, 72] [] ⟨[(0, .c (.imm (.slice .bool) b_1)), (8, .c (.imm (.opt (.pair (.slice (.pair (.int .i64) (.int .i64))) (.int .i64))) r_43)), (9, .c (.imm (.opt (.pair (.slice (.pair (.int .i64) (.int .i64))) (.int .i64))) r_45)), (10, .c (.imm (.opt (.pair (.slice (.pair (.int .i64) (.int .i64))) (.int .i64))) r_56.1)), (11, .c (.val (.int .i64 r_56.2))), (72, .c (.val (.bool (r_56.2 != (0 : Int)))))], [], 8⟩ [] (by kernel_rfl) rfl rfl ap0 ?_
              refine VL_cond ((r_56.2 != (0 : Int))) (by kernel_rfl) ?_ ?_
              · intro b_60; have H_147 := of_t H_146 b_60
                refine V_run hN hn 2 8 [4] [] ⟨[(4, .c (.val (.bool (r_56.2 == (70 : Int)))))], [], 8⟩ [] (by kernel_rfl) rfl rfl ap0 ?_
                have H_149 := Option.some.inj (show some (r_56.2 == (70 : Int)) = some r from H_147); subst H_149
                refine VL_ret ?_
                exact P_to [(4, .c (.val (.bool (r_56.2 == (70 : Int)))))] [] [] hn (by kernel_rfl) (by kernel_rfl) rfl rfl rfl (QF_retS (by kernel_rfl) (by kernel_rfl) rfl)
              · intro b_60; have H_148 := of_f H_146 b_60
                refine V_run hN hn 2 8 [0, 8, 9, 10, 11, 72] [] ⟨[(0, .c (.imm (.slice .bool) b_1)), (8, .c (.imm (.opt (.pair (.slice (.pair (.int .i64) (.int .i64))) (.int .i64))) r_43)), (9, .c (.imm (.opt (.pair (.slice (.pair (.int .i64) (.int .i64))) (.int .i64))) r_45)), (10, .c (.imm (.opt (.pair (.slice (.pair (.int .i64) (.int .i64))) (.int .i64))) r_56.1)), (11, .c (.val (.int .i64 r_56.2))), (72, .c (.val (.bool (r_56.2 != (0 : Int)))))], [], 8⟩ [] (by kernel_rfl) rfl rfl ap0 ?_
                obtain ⟨r_63, h_64, H_150⟩ := of_bind H_148
                refine V_reg hN hn [(2, ⟨23, 0, [.c (.imm (.opt (.pair (.slice (.pair (.int .i64) (.int .i64))) (.int .i64))) r_56.1), .c (.imm (.opt (.pair (.slice (.pair (.int .i64) (.int .i64))) (.int .i64))) r_45)], [], .tup [(false, [.imm (.opt (.pair (.slice (.pair (.int .i64) (.int .i64))) (.int .i64))) r_63.1]), (false, [.val (.int .i64 r_63.2)])], [], [], 8⟩)] [] (calls_cons (algebra_Shrink_spec K r_56.1 r_45 r_63 h_64) (by kernel_rfl) calls_nil) 8 [0, 8, 9, 10, 12, 13] [] ⟨[(0, .c (.imm (.slice .bool) b_1)), (8, .c (.imm (.opt (.pair (.slice (.pair (.int .i64) (.int .i64))) (.int .i64))) r_43)), (9, .c (.imm (.opt (.pair (.slice (.pair (.int .i64) (.int .i64))) (.int .i64))) r_45)), (10, .c (.imm (.opt (.pair (.slice (.pair (.int .i64) (.int .i64))) (.int .i64))) r_56.1)), (12, .c (.imm (.opt (.pair (.slice (.pair (.int .i64) (.int .i64))) (.int .i64))) r_63.1)), (13, .c (.val (.int .i64 r_63.2)))], [], 8⟩ [] (by kernel_rfl) rfl rfl ap0 (by kernel_rfl) (by kernel_rfl) ?_
                refine V_run hN hn 1 8 [0, 8, 9, 10, 12, 13] [] ⟨[(0, .c (.imm (.slice .bool) b_1)), (8, .c (.imm (.opt (.pair (.slice (.pair (.int .i64) (.int .i64))) (.int .i64))) r_43)), (9, .c (.imm (.opt (.pair (.slice (.pair (.int .i64) (.int .i64))) (.int .i64))) r_45)), (10, .c (.imm (.opt (.pair (.slice (.pair (.int .i64) (.int .i64))) (.int .i64))) r_56.1)), (12, .c (.imm (.opt (.pair (.slice (.pair (.int .i64) (.int .i64))) (.int .i64))) r_63.1)), (13, .c (.val (.int .i64 r_63.2)))], [], 8⟩ [] (by kernel_rfl) rfl rfl ap0 ?_
                obtain ⟨r_67, h_68, H_151⟩ := of_bind H_150
                obtain ⟨r_69, h_70, H_152⟩ := of_bind H_151
                refine V_reg hN hn [(2, ⟨13, 0, [.c (.imm (.opt (.pair (.slice (.pair (.int .i64) (.int .i64))) (.int .i64))) r_45)], [], .c (.imm (.opt (.pair (.slice (.pair (.int .i64) (.int .i64))) (.int .i64))) r_67), [], [], 8⟩), (3, ⟨16, 0, [.c (.imm (.opt (.pair (.slice (.pair (.int .i64) (.int .i64))) (.int .i64))) r_45), .c (.imm (.opt (.pair (.slice (.pair (.int .i64) (.int .i64))) (.int .i64))) r_67)], [], .tup [(false, [.imm (.opt (.pair (.slice (.pair (.int .i64) (.int .i64))) (.int .i64))) r_69.1]), (false, [.val (.int .i64 r_69.2)])], [], [], 8⟩)] [] (calls_cons (algebra_Not_spec K r_45 r_67 h_68) (by kernel_rfl) (calls_cons (algebra_Union_spec K r_45 r_67 r_69 h_70) (by kernel_rfl) calls_nil)) 8 [0, 8, 9, 10, 12, 13, 14, 15] [] ⟨[(0, .c (.imm (.slice .bool) b_1)), (8, .c (.imm (.opt (.pair (.slice (.pair (.int .i64) (.int .i64))) (.int .i64))) r_43)), (9, .c (.imm (.opt (.pair (.slice (.pair (.int .i64) (.int .i64))) (.int .i64))) r_45)), (10, .c (.imm (.opt (.pair (.slice (.pair (.int .i64) (.int .i64))) (.int .i64))) r_56.1)), (12, .c (.imm (.opt (.pair (.slice (.pair (.int .i64) (.int .i64))) (.int .i64))) r_63.1)), (13, .c (.val (.int .i64 r_63.2))), (14, .c (.imm (.opt (.pair (.slice (.pair (.int .i64) (.int .i64))) (.int .i64))) r_69.1)), (15, .c (.val (.int .i64 r_69.2)))], [], 8⟩ [] (by kernel_rfl) rfl rfl ap0 (by kernel_rfl) (by kernel_rfl) ?_
                refine V_run hN hn 1 8 [0, 8, 9, 10, 12, 13, 14, 15] [] ⟨[(0, .c (.imm (.slice .bool) b_1)), (8, .c (.imm (.opt (.pair (.slice (.pair (.int .i64) (.int .i64))) (.int .i64))) r_43)), (9, .c (.imm (.opt (.pair (.slice (.pair (.int .i64) (.int .i64))) (.int .i64))) r_45)), (10, .c (.imm (.opt (.pair (.slice (.pair (.int .i64) (.int .i64))) (.int .i64))) r_56.1)), (12, .c (.imm (.opt (.pair (.slice (.pair (.int .i64) (.int .i64))) (.int .i64))) r_63.1)), (13, .c (.val (.int .i64 r_63.2))), (14, .c (.imm (.opt (.pair (.slice (.pair (.int .i64) (.int .i64))) (.int .i64))) r_69.1)), (15, .c (.val (.int .i64 r_69.2)))], [], 8⟩ [] (by kernel_rfl) rfl rfl ap0 ?_
                obtain ⟨r_73, h_74, H_153⟩ := of_bind H_152
                refine V_reg hN hn [(2, ⟨20, 0, [.c (.imm (.opt (.pair (.slice (.pair (.int .i64) (.int .i64))) (.int .i64))) r_45), .c (.imm (.opt (.pair (.slice (.pair (.int .i64) (.int .i64))) (.int .i64))) r_45)], [], .tup [(false, [.imm (.opt (.pair (.slice (.pair (.int .i64) (.int .i64))) (.int .i64))) r_73.1]), (false, [.val (.int .i64 r_73.2)])], [], [], 8⟩)] [] (calls_cons (algebra_Xor_spec K r_45 r_45 r_73 h_74) (by kernel_rfl) calls_nil) 8 [0, 8, 10, 12, 13, 14, 15, 16, 17] [] ⟨[(0, .c (.imm (.slice .bool) b_1)), (8, .c (.imm (.opt (.pair (.slice (.pair (.int .i64) (.int .i64))) (.int .i64))) r_43)), (10, .c (.imm (.opt (.pair (.slice (.pair (.int .i64) (.int .i64))) (.int .i64))) r_56.1)), (12, .c (.imm (.opt (.pair (.slice (.pair (.int .i64) (.int .i64))) (.int .i64))) r_63.1)), (13, .c (.val (.int .i64 r_63.2))), (14, .c (.imm (.opt (.pair (.slice (.pair (.int .i64) (.int .i64))) (.int .i64))) r_69.1)), (15, .c (.val (.int .i64 r_69.2))), (16, .c (.imm (.opt (.pair (.slice (.pair (.int .i64) (.int .i64))) (.int .i64))) r_73.1)), (17, .c (.val (.int .i64 r_73.2)))], [], 8⟩ [] (by kernel_rfl) rfl rfl ap0 (by kernel_rfl) (by kernel_rfl) ?_
                refine V_run hN hn 1 8 [0, 8, 10, 12, 13, 14, 15, 16, 17] [] ⟨[(0, .c (.imm (.slice .bool) b_1)), (8, .c (.imm (.opt (.pair (.slice (.pair (.int .i64) (.int .i64))) (.int .i64))) r_43)), (10, .c (.imm (.opt (.pair (.slice (.pair (.int .i64) (.int .i64))) (.int .i64))) r_56.1)), (12, .c (.imm (.opt (.pair (.slice (.pair (.int .i64) (.int .i64))) (.int .i64))) r_63.1)), (13, .c (.val (.int .i64 r_63.2))), (14, .c (.imm (.opt (.pair (.slice (.pair (.int .i64) (.int .i64))) (.int .i64))) r_69.1)), (15, .c (.val (.int .i64 r_69.2))), (16, .c (.imm (.opt (.pair (.slice (.pair (.int .i64) (.int .i64))) (.int .i64))) r_73.1)), (17, .c (.val (.int .i64 r_73.2)))], [], 8⟩ [] (by kernel_rfl) rfl rfl ap0 ?_
                rcases Bool.eq_false_or_eq_true ((r_63.2 == (0 : Int))) with b_77 | b_77
                · have H_154 := of_t H_153 b_77
                  obtain ⟨r_78, h_79, H_156⟩ := of_bind H_154
                  rcases Bool.eq_false_or_eq_true (r_78) with b_80 | b_80
                  · have H_157 := of_t H_156 b_80
                    rcases Bool.eq_false_or_eq_true ((r_69.2 == (0 : Int))) with b_81 | b_81
                    · have H_159 := of_t H_157 b_81
                      obtain ⟨r_82, h_83, H_161⟩ := of_bind H_159
                      rcases Bool.eq_false_or_eq_true ((r_82 == (((List.length b_1) : Nat) : Int))) with b_84 | b_84
                      · have H_162 := of_t H_161 b_84
                        rcases Bool.eq_false_or_eq_true ((r_73.2 == (0 : Int))) with b_85 | b_85
                        · have H_164 := of_t H_162 b_85
                          obtain ⟨r_86, h_87, H_166⟩ := of_bind H_164
                          rcases Bool.eq_false_or_eq_true (r_86) with b_88 | b_88
                          · have H_167 := of_t H_166 b_88
                            obtain ⟨r_89, h_90, H_169⟩ := of_bind H_167
                            obtain ⟨r_91, h_92, H_170⟩ := of_bind H_169
                            refine V_reg hN hn [(5, ⟨29, 0, [.c (.imm (.opt (.pair (.slice (.pair (.int .i64) (.int .i64))) (.int .i64))) r_63.1), .c (.imm (.opt (.pair (.slice (.pair (.int .i64) (.int .i64))) (.int .i64))) r_43)], [], .c (.val (.bool r_78)), [], [], 8⟩), (13, ⟨31, 0, [.c (.imm (.opt (.pair (.slice (.pair (.int .i64) (.int .i64))) (.int .i64))) r_69.1)], [], .c (.val (.int .i64 r_82)), [], [], 8⟩), (24, ⟨30, 0, [.c (.imm (.opt (.pair (.slice (.pair (.int .i64) (.int .i64))) (.int .i64))) r_73.1)], [], .c (.val (.bool r_86)), [], [], 8⟩), (28, ⟨31, 0, [.c (.imm (.opt (.pair (.slice (.pair (.int .i64) (.int .i64))) (.int .i64))) r_56.1)], [], .c (.val (.int .i64 r_89)), [], [], 8⟩), (30, ⟨31, 0, [.c (.imm (.opt (.pair (.slice (.pair (.int .i64) (.int .i64))) (.int .i64))) r_43)], [], .c (.val (.int .i64 r_91)), [], [], 8⟩)] [(96, true), (101, true), (105, true), (112, true), (116, true), (120, true)] (calls_cons (subset_Subset_Same_spec K r_63.1 r_43 r_78 h_79) (by kernel_rfl) (calls_cons (subset_Subset_Size_spec K r_69.1 r_82 h_83) (by kernel_rfl) (calls_cons (subset_Subset_Empty_spec K r_73.1 r_86 h_87) (by kernel_rfl) (calls_cons (subset_Subset_Size_spec K r_56.1 r_89 h_90) (by kernel_rfl) (calls_cons (subset_Subset_Size_spec K r_43 r_91 h_92) (by kernel_rfl) calls_nil))))) 8 [4] [] ⟨[(4, .c (.val (.bool (r_89 == r_91))))], [], 8⟩ [(r_63.2 == (0 : Int)) = true, r_78 = true, (r_69.2 == (0 : Int)) = true, (r_82 == (((List.length b_1) : Nat) : Int)) = true, (r_73.2 == (0 : Int)) = true, r_86 = true] (by kernel_rfl) rfl rfl (ap2 b_77 (ap2 b_80 (ap2 b_81 (ap2 b_84 (ap2 b_85 (ap1 b_88)))))) (by kernel_rfl) (by kernel_rfl) ?_
                            have H_171 := Option.some.inj (show some (r_89 == r_91) = some r from H_170); subst H_171
                            refine VL_ret ?_
                            exact P_to [(4, .c (.val (.bool (r_89 == r_91))))] [] [] hn (by kernel_rfl) (by kernel_rfl) rfl rfl rfl (QF_retS (by kernel_rfl) (by kernel_rfl) rfl)
                          · have H_168 := of_f H_166 b_88
                            refine V_reg hN hn [(5, ⟨29, 0, [.c (.imm (.opt (.pair (.slice (.pair (.int .i64) (.int .i64))) (.int .i64))) r_63.1), .c (.imm (.opt (.pair (.slice (.pair (.int .i64) (.int .i64))) (.int .i64))) r_43)], [], .c (.val (.bool r_78)), [], [], 8⟩), (13, ⟨31, 0, [.c (.imm (.opt (.pair (.slice (.pair (.int .i64) (.int .i64))) (.int .i64))) r_69.1)], [], .c (.val (.int .i64 r_82)), [], [], 8⟩), (24, ⟨30, 0, [.c (.imm (.opt (.pair (.slice (.pair (.int .i64) (.int .i64))) (.int .i64))) r_73.1)], [], .c (.val (.bool r_86)), [], [], 8⟩)] [(96, true), (101, true), (105, true), (112, true), (116, true), (120, false)] (calls_cons (subset_Subset_Same_spec K r_63.1 r_43 r_78 h_79) (by kernel_rfl) (calls_cons (subset_Subset_Size_spec K r_69.1 r_82 h_83) (by kernel_rfl) (calls_cons (subset_Subset_Empty_spec K r_73.1 r_86 h_87) (by kernel_rfl) calls_nil))) 8 [4] [] ⟨[(4, .c (.val (.bool false)))], [], 8⟩ [(r_63.2 == (0 : Int)) = true, r_78 = true, (r_69.2 == (0 : Int)) = true, (r_82 == (((List.length b_1) : Nat) : Int)) = true, (r_73.2 == (0 : Int)) = true, r_86 = false] (by kernel_rfl) rfl rfl (ap2 b_77 (ap2 b_80 (ap2 b_81 (ap2 b_84 (ap2 b_85 (ap1 b_88)))))) (by kernel_rfl) (by kernel_rfl) ?_
                            have H_172 := Option.some.inj (show some false = some r from H_168); subst H_172
                            refine VL_ret ?_
                            exact P_to [(4, .c (.val (.bool false)))] [] [] hn (by kernel_rfl) (by kernel_rfl) rfl rfl rfl (QF_retS (by kernel_rfl) (by kernel_rfl) rfl)
                        · have H_165 := of_f H_162 b_85
                          refine V_reg hN hn [(5, ⟨29, 0, [.c (.imm (.opt (.pair (.slice (.pair (.int .i64) (.int .i64))) (.int .i64))) r_63.1), .c (.imm (.opt (.pair (.slice (.pair (.int .i64) (.int .i64))) (.int .i64))) r_43)], [], .c (.val (.bool r_78)), [], [], 8⟩), (13, ⟨31, 0, [.c (.imm (.opt (.pair (.slice (.pair (.int .i64) (.int .i64))) (.int .i64))) r_69.1)], [], .c (.val (.int .i64 r_82)), [], [], 8⟩)] [(96, true), (101, true), (105, true), (112, true), (116, false)] (calls_cons (subset_Subset_Same_spec K r_63.1 r_43 r_78 h_79) (by kernel_rfl) (calls_cons (subset_Subset_Size_spec K r_69.1 r_82 h_83) (by kernel_rfl) calls_nil)) 8 [4] [] ⟨[(4, .c (.val (.bool false)))], [], 8⟩ [(r_63.2 == (0 : Int)) = true, r_78 = true, (r_69.2 == (0 : Int)) = true, (r_82 == (((List.length b_1) : Nat) : Int)) = true, (r_73.2 == (0 : Int)) = false] (by kernel_rfl) rfl rfl (ap2 b_77 (ap2 b_80 (ap2 b_81 (ap2 b_84 (ap1 b_85))))) (by kernel_rfl) (by kernel_rfl) ?_
                          have H_173 := Option.some.inj (show some false = some r from H_165); subst H_173
                          refine VL_ret ?_
                          exact P_to [(4, .c (.val (.bool false)))] [] [] hn (by kernel_rfl) (by kernel_rfl) rfl rfl rfl (QF_retS (by kernel_rfl) (by kernel_rfl) rfl)
                      · have H_163 := of_f H_161 b_84
                        refine V_reg hN hn [(5, ⟨29, 0, [.c (.imm (.opt (.pair (.slice (.pair (.int .i64) (.int .i64))) (.int .i64))) r_63.1), .c (.imm (.opt (.pair (.slice (.pair (.int .i64) (.int .i64))) (.int .i64))) r_43)], [], .c (.val (.bool r_78)), [], [], 8⟩), (13, ⟨31, 0, [.c (.imm (.opt (.pair (.slice (.pair (.int .i64) (.int .i64))) (.int .i64))) r_69.1)], [], .c (.val (.int .i64 r_82)), [], [], 8⟩)] [(96, true), (101, true), (105, true), (112, false)] (calls_cons (subset_Subset_Same_spec K r_63.1 r_43 r_78 h_79) (by kernel_rfl) (calls_cons (subset_Subset_Size_spec K r_69.1 r_82 h_83) (by kernel_rfl) calls_nil)) 8 [4] [] ⟨[(4, .c (.val (.bool false)))], [], 8⟩ [(r_63.2 == (0 : Int)) = true, r_78 = true, (r_69.2 == (0 : Int)) = true, (r_82 == (((List.length b_1) : Nat) : Int)) = false] (by kernel_rfl) rfl rfl (ap2 b_77 (ap2 b_80 (ap2 b_81 (ap1 b_84)))) (by kernel_rfl) (by kernel_rfl) ?_
                        have H_174 := Option.some.inj (show some false = some r from H_163); subst H_174
                        refine VL_ret ?_
                        exact P_to [(4, .c (.val (.bool false)))] [] [] hn (by kernel_rfl) (by kernel_rfl) rfl rfl rfl (QF_retS (by kernel_rfl) (by kernel_rfl) rfl)
                    · have H_160 := of_f H_157 b_81
                      refine V_reg hN hn [(5, ⟨29, 0, [.c (.imm (.opt (.pair (.slice (.pair (.int .i64) (.int .i64))) (.int .i64))) r_63.1), .c (.imm (.opt (.pair (.slice (.pair (.int .i64) (.int .i64))) (.int .i64))) r_43)], [], .c (.val (.bool r_78)), [], [], 8⟩)] [(96, true), (101, true), (105, false)] (calls_cons (subset_Subset_Same_spec K r_63.1 r_43 r_78 h_79) (by kernel_rfl) calls_nil) 8 [4] [] ⟨[(4, .c (.val (.bool false)))], [], 8⟩ [(r_63.2 == (0 : Int)) = true, r_78 = true, (r_69.2 == (0 : Int)) = false] (by kernel_rfl) rfl rfl (ap2 b_77 (ap2 b_80 (ap1 b_81))) (by kernel_rfl) (by kernel_rfl) ?_
                      have H_175 := Option.some.inj (show some false = some r from H_160); subst H_175
                      refine VL_ret ?_
                      exact P_to [(4, .c (.val (.bool false)))] [] [] hn (by kernel_rfl) (by kernel_rfl) rfl rfl rfl (QF_retS (by kernel_rfl) (by kernel_rfl) rfl)
                  · have H_158 := of_f H_156 b_80
                    refine V_reg hN hn [(5, ⟨29, 0, [.c (.imm (.opt (.pair (.slice (.pair (.int .i64) (.int .i64))) (.int .i64))) r_63.1), .c (.imm (.opt (.pair (.slice (.pair (.int .i64) (.int .i64))) (.int .i64))) r_43)], [], .c (.val (.bool r_78)), [], [], 8⟩)] [(96, true), (101, false)] (calls_cons (subset_Subset_Same_spec K r_63.1 r_43 r_78 h_79) (by kernel_rfl) calls_nil) 8 [4] [] ⟨[(4, .c (.val (.bool false)))], [], 8⟩ [(r_63.2 == (0 : Int)) = true, r_78 = false] (by kernel_rfl) rfl rfl (ap2 b_77 (ap1 b_80)) (by kernel_rfl) (by kernel_rfl) ?_
                    have H_176 := Option.some.inj (show some false = some r from H_158); subst H_176
                    refine VL_ret ?_
                    exact P_to [(4, .c (.val (.bool false)))] [] [] hn (by kernel_rfl) (by kernel_rfl) rfl rfl rfl (QF_retS (by kernel_rfl) (by kernel_rfl) rfl)
                · have H_155 := of_f H_153 b_77
                  refine V_reg hN hn [] [(96, false)] calls_nil 8 [4] [] ⟨[(4, .c (.val (.bool false)))], [], 8⟩ [(r_63.2 == (0 : Int)) = false] (by kernel_rfl) rfl rfl (ap1 b_77) (by kernel_rfl) (by kernel_rfl) ?_
                  have H_177 := Option.some.inj (show some false = some r from H_155); subst H_177
                  refine VL_ret ?_
                  exact P_to [(4, .c (.val (.bool false)))] [] [] hn (by kernel_rfl) (by kernel_rfl) rfl rfl rfl (QF_retS (by kernel_rfl) (by kernel_rfl) rfl)

end Go.Pal
